/- The plain laws of edits. -/
import Derived.Test.YtdifekkamjoepaaFnsEdit2
import Derived.Test.YtdifekkamjoepaaLawPlace
namespace Go.Proofs.Ytdifekkamjoepaa.Vm.Rp
open Go Go.Proofs.Ytdifekkamjoepaa.Vm
set_option linter.unusedVariables false
section
variable {z : Nat}


def sgn (n : Int) : Bool := decide (0 ≤ n) && (decide (n < 1114112) && (decide (n < 55296) || decide (57343 < n)))
def enc (n : Nat) : List UInt8 :=
  if n < 128 then [UInt8.ofNat n]
  else if n < 2048 then [UInt8.ofNat (192 + n / 64), UInt8.ofNat (128 + n % 64)]
  else if n < 65536 then [UInt8.ofNat (224 + n / 4096), UInt8.ofNat (128 + n / 64 % 64), UInt8.ofNat (128 + n % 64)]
  else [UInt8.ofNat (240 + n / 262144), UInt8.ofNat (128 + n / 4096 % 64), UInt8.ofNat (128 + n / 64 % 64), UInt8.ofNat (128 + n % 64)]
def n2 (a d : UInt8) : Nat := 64 * (a.toNat - 192) + d.toNat % 64
def n3 (a d e : UInt8) : Nat := 64 * (64 * (a.toNat - 224) + d.toNat % 64) + e.toNat % 64
def n4 (a d e f : UInt8) : Nat := 64 * (64 * (64 * (a.toNat - 240) + d.toNat % 64) + e.toNat % 64) + f.toNat % 64
def no : Int × Int := (-1, 0)
def dec2 (a : UInt8) : List UInt8 → Int × Int
  | d :: _ => if (isF d && decide (128 ≤ n2 a d)) = true then ((n2 a d : Int), 2) else no
  | _ => no
def dec3 (a : UInt8) : List UInt8 → Int × Int
  | d :: e :: _ => if (isF d && isF e && decide (2048 ≤ n3 a d e) && sgn (n3 a d e)) = true then ((n3 a d e : Int), 3) else no
  | _ => no
def dec4 (a : UInt8) : List UInt8 → Int × Int
  | d :: e :: f :: _ => if (isF d && isF e && isF f && decide (65536 ≤ n4 a d e f) && sgn (n4 a d e f)) = true then ((n4 a d e f : Int), 4) else no
  | _ => no
def dec : List UInt8 → Int × Int
  | [] => no
  | a :: r => if a.toNat < 128 then ((a.toNat : Int), 1) else if a.toNat < 192 then no else if a.toNat < 224 then dec2 a r else if a.toNat < 240 then dec3 a r else if a.toNat < 248 then dec4 a r else no

theorem rsign_eq (n : Int) : s_ref01_Sign (n, ()) = some (sgn n, ()) := by
  simp only [s_ref01_Sign, ref01_Sign.p0, ref01_Sign.t0, iteB_dec, sgn, notB_eq]
  by_cases h0 : 0 ≤ n <;> by_cases h1 : n < 1114112 <;> rcases Int.lt_or_le n 55296 with h2 | h2 <;> rcases Int.lt_or_le 57343 n with h3 | h3 <;> simp [h0, h1, h2, h3, Int.not_le.2, Int.not_lt.2] <;> omega
theorem fuel10 : ∃ z, fuel = z + 10 := ⟨4611686018427387894, rfl⟩
theorem sgn_nat {n : Int} (h : sgn n = true) : ∃ m : Nat, n = m ∧ m < 1114112 ∧ (m < 55296 ∨ 57343 < m) := by
  simp only [sgn, Bool.and_eq_true, Bool.or_eq_true, decide_eq_true_eq] at h
  exact ⟨n.toNat, by omega, by omega, by omega⟩
theorem w8_nat {n : Nat} (h : n < 256) : w8 (n : Int) = n := w8_id (by omega) (by omega)

theorem rbytes_eq (n : Int) : s_ref01_Bytes (n, ()) = some (if sgn n = true then enc n.toNat else [], ()) := by
  show ref01_Bytes.t0 n = _
  simp only [ref01_Bytes.t0, rsign_eq, bindR_val]
  cases hs : sgn n with
  | false => rfl
  | true =>
    obtain ⟨m, rfl, h1, h2⟩ := sgn_nat hs
    simp only [notB_true, iteB_false, iteB_dec, if_true, Int.toNat_natCast, enc]
    have a1 : w64 (Int.tdiv (m : Int) 64) = ((m / 64 : Nat) : Int) := w64_nat (n := m / 64) (by omega)
    have a2 : w64 (Int.tdiv (m : Int) 4096) = ((m / 4096 : Nat) : Int) := w64_nat (n := m / 4096) (by omega)
    have a3 : w64 (Int.tdiv (m : Int) 262144) = ((m / 262144 : Nat) : Int) := w64_nat (n := m / 262144) (by omega)
    have b1 : ∀ x : Nat, Int.tmod (x : Int) 64 = ((x % 64 : Nat) : Int) := fun x => rfl
    have c : ∀ (x y : Nat), x + y < 256 → w8 (w64 ((x : Int) + (y : Int))) = ((x + y : Nat) : Int) := fun x y h => by
      rw [w64_id (by omega) (by omega), w8_id (by omega) (by omega)]; omega
    have c192 := fun y => c 192 y
    have c128 := fun y => c 128 y
    have c224 := fun y => c 224 y
    have c240 := fun y => c 240 y
    simp only [Int.cast_ofNat_Int] at c192 c128 c224 c240
    by_cases d1 : m < 128
    · rw [if_pos (by omega), if_pos d1, w8_nat (by omega)]; rfl
    rw [if_neg (by omega), if_neg d1]
    by_cases d2 : m < 2048
    · rw [if_pos (by omega), if_pos d2, a1, b1, c192 _ (by omega), c128 _ (by omega)]; rfl
    rw [if_neg (by omega), if_neg d2]
    by_cases d3 : m < 65536
    · rw [if_pos (by omega), if_pos d3, a1, a2, b1, b1, c224 _ (by omega), c128 _ (by omega), c128 _ (by omega)]; rfl
    rw [if_neg (by omega), if_neg d3, a1, a2, a3, b1, b1, b1, c240 _ (by omega), c128 _ (by omega), c128 _ (by omega), c128 _ (by omega)]
    rfl

theorem toNat_ofNat (n : Nat) (h : n < 256) : (UInt8.ofNat n).toNat = n := by
  rw [UInt8.toNat_ofNat']; omega
theorem isF_ofNat (n : Nat) (h : n < 64) : isF (UInt8.ofNat (128 + n)) = true := by
  unfold isF; rw [toNat_ofNat _ (by omega)]; simp; omega
theorem sgn_of (m : Nat) (h1 : m < 1114112) (h2 : m < 55296 ∨ 57343 < m) : sgn m = true := by
  simp only [sgn, Bool.and_eq_true, Bool.or_eq_true, decide_eq_true_eq]; omega
theorem dec_enc (m : Nat) (h1 : m < 1114112) (h2 : m < 55296 ∨ 57343 < m) (s : List UInt8) : dec (enc m ++ s) = ((m : Int), ((enc m).length : Int)) := by
  unfold enc
  by_cases d1 : m < 128
  · rw [if_pos d1]
    simp only [List.cons_append, List.nil_append, dec, toNat_ofNat m (by omega)]
    rw [if_pos d1]; rfl
  rw [if_neg d1]
  by_cases d2 : m < 2048
  · rw [if_pos d2]
    simp only [List.cons_append, List.nil_append, dec, toNat_ofNat (192 + m / 64) (by omega), dec2, isF_ofNat _ (Nat.mod_lt m (by omega : 0 < 64))]
    have e : n2 (UInt8.ofNat (192 + m / 64)) (UInt8.ofNat (128 + m % 64)) = m := by
      unfold n2; rw [toNat_ofNat _ (by omega), toNat_ofNat _ (by omega)]; omega
    rw [if_neg (by omega), if_neg (by omega), if_pos (by omega), e, if_pos (by simp; omega)]; rfl
  rw [if_neg d2]
  by_cases d3 : m < 65536
  · rw [if_pos d3]
    simp only [List.cons_append, List.nil_append, dec, toNat_ofNat (224 + m / 4096) (by omega), dec3, isF_ofNat _ (Nat.mod_lt m (by omega : 0 < 64)), isF_ofNat _ (Nat.mod_lt (m / 64) (by omega : 0 < 64))]
    have e : n3 (UInt8.ofNat (224 + m / 4096)) (UInt8.ofNat (128 + m / 64 % 64)) (UInt8.ofNat (128 + m % 64)) = m := by
      unfold n3; rw [toNat_ofNat _ (by omega), toNat_ofNat _ (by omega), toNat_ofNat _ (by omega)]; omega
    rw [if_neg (by omega), if_neg (by omega), if_neg (by omega), if_pos (by omega), e, if_pos (by simp [sgn_of m h1 h2]; omega)]; rfl
  rw [if_neg d3]
  simp only [List.cons_append, List.nil_append, dec, toNat_ofNat (240 + m / 262144) (by omega), dec4, isF_ofNat _ (Nat.mod_lt m (by omega : 0 < 64)), isF_ofNat _ (Nat.mod_lt (m / 64) (by omega : 0 < 64)), isF_ofNat _ (Nat.mod_lt (m / 4096) (by omega : 0 < 64))]
  have e : n4 (UInt8.ofNat (240 + m / 262144)) (UInt8.ofNat (128 + m / 4096 % 64)) (UInt8.ofNat (128 + m / 64 % 64)) (UInt8.ofNat (128 + m % 64)) = m := by
    unfold n4; rw [toNat_ofNat _ (by omega), toNat_ofNat _ (by omega), toNat_ofNat _ (by omega), toNat_ofNat _ (by omega)]; omega
  rw [if_neg (by omega), if_neg (by omega), if_neg (by omega), if_neg (by omega), if_pos (by omega), e, if_pos (by simp [sgn_of m h1 h2]; omega)]; rfl

/-- What is read is a sign, and its bytes stand there. -/
theorem ext8 {a b : UInt8} (h : a.toNat = b.toNat) : a = b := UInt8.toNat_inj.1 h
theorem isF_iff {d : UInt8} : isF d = true ↔ 128 ≤ d.toNat ∧ d.toNat ≤ 191 := by unfold isF; simp
theorem dec_spec (s : List UInt8) : (dec s = no) ∨ ∃ (m : Nat) (r : List UInt8), dec s = ((m : Int), ((enc m).length : Int)) ∧ s = enc m ++ r ∧ m < 1114112 ∧ (m < 55296 ∨ 57343 < m) := by
  cases s with
  | nil => exact .inl rfl
  | cons a r =>
    have ha := a.toNat_lt
    simp only [dec]
    by_cases h1 : a.toNat < 128
    · rw [if_pos h1]
      refine .inr ⟨a.toNat, r, ?_, ?_, by omega, by omega⟩
      · simp [enc, h1]
      · simp [enc, h1]
    rw [if_neg h1]
    by_cases h2 : a.toNat < 192
    · rw [if_pos h2]; exact .inl rfl
    rw [if_neg h2]
    by_cases h3 : a.toNat < 224
    · rw [if_pos h3]
      cases r with
      | nil => exact .inl rfl
      | cons d r =>
        simp only [dec2]
        by_cases hc : (isF d && decide (128 ≤ n2 a d)) = true
        · rw [if_pos hc]
          simp only [Bool.and_eq_true, decide_eq_true_eq, isF_iff] at hc
          obtain ⟨hd, hl⟩ := hc
          have hn : n2 a d < 2048 := by unfold n2; omega
          have e : enc (n2 a d) = [a, d] := by
            unfold enc
            rw [if_neg (by omega), if_pos hn]
            have k1 : UInt8.ofNat (192 + n2 a d / 64) = a := ext8 (by rw [toNat_ofNat _ (by omega)]; unfold n2; omega)
            have k2 : UInt8.ofNat (128 + n2 a d % 64) = d := ext8 (by rw [toNat_ofNat _ (by omega)]; unfold n2; omega)
            rw [k1, k2]
          exact .inr ⟨n2 a d, r, by rw [e]; rfl, by rw [e]; rfl, by omega, by omega⟩
        · rw [if_neg hc]; exact .inl rfl
    rw [if_neg h3]
    by_cases h4 : a.toNat < 240
    · rw [if_pos h4]
      match r with
      | [] => exact .inl rfl
      | [d] => exact .inl rfl
      | d :: e :: r =>
        simp only [dec3]
        by_cases hc : (isF d && isF e && decide (2048 ≤ n3 a d e) && sgn (n3 a d e)) = true
        · rw [if_pos hc]
          simp only [Bool.and_eq_true, decide_eq_true_eq, isF_iff] at hc
          obtain ⟨⟨⟨hd, he⟩, hl⟩, hs⟩ := hc
          obtain ⟨m, hm, g1, g2⟩ := sgn_nat hs
          obtain rfl : n3 a d e = m := by omega
          have hn : n3 a d e < 65536 := by unfold n3; omega
          have en : enc (n3 a d e) = [a, d, e] := by
            unfold enc
            rw [if_neg (by omega), if_neg (by omega), if_pos hn]
            have k1 : UInt8.ofNat (224 + n3 a d e / 4096) = a := ext8 (by rw [toNat_ofNat _ (by omega)]; unfold n3; omega)
            have k2 : UInt8.ofNat (128 + n3 a d e / 64 % 64) = d := ext8 (by rw [toNat_ofNat _ (by omega)]; unfold n3; omega)
            have k3 : UInt8.ofNat (128 + n3 a d e % 64) = e := ext8 (by rw [toNat_ofNat _ (by omega)]; unfold n3; omega)
            rw [k1, k2, k3]
          exact .inr ⟨n3 a d e, r, by rw [en]; rfl, by rw [en]; rfl, g1, g2⟩
        · rw [if_neg hc]; exact .inl rfl
    rw [if_neg h4]
    by_cases h5 : a.toNat < 248
    · rw [if_pos h5]
      match r with
      | [] => exact .inl rfl
      | [d] => exact .inl rfl
      | [d, e] => exact .inl rfl
      | d :: e :: f :: r =>
        simp only [dec4]
        by_cases hc : (isF d && isF e && isF f && decide (65536 ≤ n4 a d e f) && sgn (n4 a d e f)) = true
        · rw [if_pos hc]
          simp only [Bool.and_eq_true, decide_eq_true_eq, isF_iff] at hc
          obtain ⟨⟨⟨⟨hd, he⟩, hf⟩, hl⟩, hs⟩ := hc
          obtain ⟨m, hm, g1, g2⟩ := sgn_nat hs
          obtain rfl : n4 a d e f = m := by omega
          have en : enc (n4 a d e f) = [a, d, e, f] := by
            unfold enc
            rw [if_neg (by omega), if_neg (by omega), if_neg (by omega)]
            have k1 : UInt8.ofNat (240 + n4 a d e f / 262144) = a := ext8 (by rw [toNat_ofNat _ (by omega)]; unfold n4; omega)
            have k2 : UInt8.ofNat (128 + n4 a d e f / 4096 % 64) = d := ext8 (by rw [toNat_ofNat _ (by omega)]; unfold n4; omega)
            have k3 : UInt8.ofNat (128 + n4 a d e f / 64 % 64) = e := ext8 (by rw [toNat_ofNat _ (by omega)]; unfold n4; omega)
            have k4 : UInt8.ofNat (128 + n4 a d e f % 64) = f := ext8 (by rw [toNat_ofNat _ (by omega)]; unfold n4; omega)
            rw [k1, k2, k3, k4]
          exact .inr ⟨n4 a d e f, r, by rw [en]; rfl, by rw [en]; rfl, g1, g2⟩
        · rw [if_neg hc]; exact .inl rfl
    rw [if_neg h5]; exact .inl rfl
theorem enc_len (m : Nat) : 1 ≤ (enc m).length ∧ (enc m).length ≤ 4 := by
  unfold enc; split <;> (try split) <;> (try split) <;> simp


def b0 (s : List UInt8) (i : Nat) : Int := ((s.getD i 0).toNat : Int)
theorem b0_range (s : List UInt8) (i : Nat) : 0 ≤ b0 s i ∧ b0 s i < 256 := by
  have := (s.getD i 0).toNat_lt; unfold b0; omega
def cond (s : List UInt8) (k : Nat) (n f : Int) : Prop := 0 ≤ f ∧ sgn n = true ∧ enc n.toNat = s.take k
instance (s : List UInt8) (k : Nat) (n f : Int) : Decidable (cond s k n f) := inferInstanceAs (Decidable (_ ∧ _ ∧ _))

theorem rp6 (k : Nat) (a1 : ref01_First.T1) (s : List UInt8) (x4 : Nat) (x5 x8 : Int) (h : x4 ≤ s.length) (h4 : x4 < 10) :
    ref01_First.p6 k a1 s x4 x5 x8 = if cond s x4 x5 x8 then some ((x5, (x4 : Int)), ()) else a1 s (x4 + 1 : Nat) := by
  have e9 : ref01_First.p9 k a1 s x4 = a1 s (x4 + 1 : Nat) := by
    show a1 s (w64 ((x4 : Int) + 1)) = _
    rw [w64_id (by omega) (by omega)]; rfl
  show ref01_First.t6 (ref01_First.p8 k a1) s x4 x5 x8 = _
  have e8 : ∀ b, ref01_First.p8 k a1 s x4 x5 b = if b = true then some ((x5, (x4 : Int)), ()) else a1 s (x4 + 1 : Nat) := fun b => by
    show iteB b (some ((x5, (x4 : Int)), ())) (ref01_First.p9 k a1 s x4) = _
    rw [e9, iteB_eq]
  simp only [ref01_First.t6, rsign_eq, bindR_val, iteB_dec, rbytes_eq, e8, cond]
  by_cases h0 : 0 ≤ x8
  · rw [if_pos h0]
    by_cases hs : sgn x5 = true
    · rw [iteB_pos hs, mustR_dec (by omega), mustR_dec (by omega)]
      simp only [hs, if_true, Int.toNat_natCast, List.drop_zero, decide_eq_true_eq, true_and, h0]
    · rw [iteB_neg (by simpa using hs)]; simp [hs]
  · rw [if_neg h0]; simp [h0]
theorem rp7_step (k m : Nat) (a1 : ref01_First.T1) (s : List UInt8) (x4 : Nat) (x5 x8 : Int) (i : Nat) (hi : i < x4) (h4 : x4 < 10) (hs : x4 ≤ s.length) (h0 : -1000000000 ≤ x5) (h1 : x5 ≤ 1000000000) :
    ref01_First.p7 k a1 (m + 1) s x4 x5 x8 i = ref01_First.p7 k a1 m s x4 (64 * x5 + b0 s i % 64) x8 (i + 1 : Nat) := by
  have hb := b0_range s i
  show ref01_First.t7 (ref01_First.p7 k a1 m) (ref01_First.p6 k a1) s x4 x5 x8 i = _
  simp only [ref01_First.t7, iteB_dec]
  rw [if_pos (by omega), withinR_nat (by omega)]
  have e : Int.tmod (byteAt s i) 64 = b0 s i % 64 := rfl
  rw [e, w64_id (n := b0 s i % 64) (by omega) (by omega), w64_id (n := 64 * x5) (by omega) (by omega), w64_id (by omega) (by omega), w64_id (by omega) (by omega)]; rfl
theorem rp7_end (k m : Nat) (a1 : ref01_First.T1) (s : List UInt8) (x4 : Nat) (x5 x8 : Int) : ref01_First.p7 k a1 (m + 1) s x4 x5 x8 x4 = ref01_First.p6 k a1 s x4 x5 x8 := by
  show ref01_First.t7 (ref01_First.p7 k a1 m) (ref01_First.p6 k a1) s x4 x5 x8 x4 = _
  simp only [ref01_First.t7, iteB_dec]
  rw [if_neg (by omega)]
theorem rp4 (k : Nat) (a1 : ref01_First.T1) (s : List UInt8) (x4 : Nat) (h4 : x4 < 10) (hs : x4 ≤ s.length) : ∀ (m i : Nat) (x5 : Int), x4 < m + i → i ≤ x4 → ref01_First.p4 k a1 m s x4 x5 i = ref01_First.p5 k a1 s x4
  | 0, i, x5, h, hi => by omega
  | m + 1, i, x5, h, hi => by
    show ref01_First.t4 (ref01_First.p4 k a1 m) (ref01_First.p5 k a1) s x4 x5 i = _
    simp only [ref01_First.t4, iteB_dec]
    by_cases hlt : i < x4
    · rw [if_pos (by omega), withinR_nat (by omega), w64_id (n := (i : Int) + 1) (by omega) (by omega)]
      exact rp4 k a1 s x4 h4 hs m (i + 1) _ (by omega) (by omega)
    · rw [if_neg (by omega)]
def v1 (s : List UInt8) : Int := b0 s 0
def v2 (s : List UInt8) : Int := 64 * (b0 s 0 - 192) + b0 s 1 % 64
def v3 (s : List UInt8) : Int := 64 * (64 * (b0 s 0 - 224) + b0 s 1 % 64) + b0 s 2 % 64
def v4 (s : List UInt8) : Int := 64 * (64 * (64 * (b0 s 0 - 240) + b0 s 1 % 64) + b0 s 2 % 64) + b0 s 3 % 64
theorem rp5_pre (s : List UInt8) : w64 (byteAt s 0) = b0 s 0 := w64_byte s 0
theorem rp5_1 (a1 : ref01_First.T1) (s : List UInt8) (h : 1 ≤ s.length) : ref01_First.p5 (z + 10) a1 s 1 = if cond s 1 (v1 s) (b0 s 0) then some ((v1 s, 1), ()) else a1 s 2 := by
  have hb := b0_range s 0
  show ref01_First.t5 (ref01_First.p6 (z + 10) a1) (ref01_First.p7 (z + 10) a1 (z + 10)) s 1 = _
  simp only [ref01_First.t5, iteB_dec]
  rw [withinR_pos (by omega) (by decide), withinR_zero (by omega), if_pos trivial, withinR_zero (by omega), rp5_pre]
  show ref01_First.p6 (z + 10) a1 s (1 : Nat) (b0 s 0) (w64 (b0 s 0 - 0)) = _
  rw [w64_id (by omega) (by omega)]
  exact (rp6 (z + 10) a1 s 1 (v1 s) (b0 s 0 - 0) h (by omega)).trans (by simp)
theorem rp5_2 (a1 : ref01_First.T1) (s : List UInt8) (h : 2 ≤ s.length) : ref01_First.p5 (z + 10) a1 s 2 = if cond s 2 (v2 s) (b0 s 0 - 192) then some ((v2 s, 2), ()) else a1 s 3 := by
  have hb := b0_range s 0
  have hb1 := b0_range s 1
  show ref01_First.t5 (ref01_First.p6 (z + 10) a1) (ref01_First.p7 (z + 10) a1 (z + 10)) s 2 = _
  simp only [ref01_First.t5, iteB_dec]
  rw [withinR_pos (by omega) (by decide), withinR_zero (by omega), if_neg (by omega), rp5_pre]
  show ref01_First.p7 (z + 10) a1 (z + 10) s (2 : Nat) (w64 (b0 s 0 - 192)) (w64 (b0 s 0 - 192)) (1 : Nat) = _
  rw [w64_id (by omega) (by omega), rp7_step (z + 10) (z + 9) a1 s 2 _ _ 1 (by omega) (by omega) h (by omega) (by omega), rp7_end (z + 10) (z + 8)]
  exact rp6 (z + 10) a1 s 2 (v2 s) (b0 s 0 - 192) h (by omega)
theorem rp5_3 (a1 : ref01_First.T1) (s : List UInt8) (h : 3 ≤ s.length) : ref01_First.p5 (z + 10) a1 s 3 = if cond s 3 (v3 s) (b0 s 0 - 224) then some ((v3 s, 3), ()) else a1 s 4 := by
  have hb := b0_range s 0
  have hb1 := b0_range s 1
  have hb2 := b0_range s 2
  show ref01_First.t5 (ref01_First.p6 (z + 10) a1) (ref01_First.p7 (z + 10) a1 (z + 10)) s 3 = _
  simp only [ref01_First.t5, iteB_dec]
  rw [withinR_pos (by omega) (by decide), withinR_zero (by omega), if_neg (by omega), rp5_pre]
  show ref01_First.p7 (z + 10) a1 (z + 10) s (3 : Nat) (w64 (b0 s 0 - 224)) (w64 (b0 s 0 - 224)) (1 : Nat) = _
  rw [w64_id (by omega) (by omega), rp7_step (z + 10) (z + 9) a1 s 3 _ _ 1 (by omega) (by omega) h (by omega) (by omega), rp7_step (z + 10) (z + 8) a1 s 3 _ _ 2 (by omega) (by omega) h (by omega) (by omega), rp7_end (z + 10) (z + 7)]
  exact rp6 (z + 10) a1 s 3 (v3 s) (b0 s 0 - 224) h (by omega)
theorem rp5_4 (a1 : ref01_First.T1) (s : List UInt8) (h : 4 ≤ s.length) : ref01_First.p5 (z + 10) a1 s 4 = if cond s 4 (v4 s) (b0 s 0 - 240) then some ((v4 s, 4), ()) else a1 s 5 := by
  have hb := b0_range s 0
  have hb1 := b0_range s 1
  have hb2 := b0_range s 2
  have hb3 := b0_range s 3
  show ref01_First.t5 (ref01_First.p6 (z + 10) a1) (ref01_First.p7 (z + 10) a1 (z + 10)) s 4 = _
  simp only [ref01_First.t5, iteB_dec]
  rw [withinR_pos (by omega) (by decide), withinR_zero (by omega), if_neg (by omega), rp5_pre]
  show ref01_First.p7 (z + 10) a1 (z + 10) s (4 : Nat) (w64 (b0 s 0 - 240)) (w64 (b0 s 0 - 240)) (1 : Nat) = _
  rw [w64_id (by omega) (by omega), rp7_step (z + 10) (z + 9) a1 s 4 _ _ 1 (by omega) (by omega) h (by omega) (by omega), rp7_step (z + 10) (z + 8) a1 s 4 _ _ 2 (by omega) (by omega) h (by omega) (by omega), rp7_step (z + 10) (z + 7) a1 s 4 _ _ 3 (by omega) (by omega) h (by omega) (by omega), rp7_end (z + 10) (z + 6)]
  exact rp6 (z + 10) a1 s 4 (v4 s) (b0 s 0 - 240) h (by omega)

theorem rp1 (m : Nat) (s : List UInt8) (x4 : Nat) (h : 1 ≤ x4) : ref01_First.p1 (z + 10) (m + 1) s x4 = if x4 ≤ 4 ∧ x4 ≤ s.length then ref01_First.p5 (z + 10) (ref01_First.p1 (z + 10) m) s x4 else some (no, ()) := by
  show ref01_First.t1 (ref01_First.p2 (z + 10) (ref01_First.p1 (z + 10) m)) (ref01_First.p3 (z + 10)) s x4 = _
  simp only [ref01_First.t1, iteB_dec]
  by_cases h4 : x4 ≤ 4
  · rw [if_pos (by omega)]
    by_cases hs : x4 ≤ s.length
    · rw [if_pos (by omega), if_pos ⟨h4, hs⟩]
      exact rp4 (z + 10) (ref01_First.p1 (z + 10) m) s x4 (by omega) hs (z + 10) 0 0 (by omega) (by omega)
    · rw [if_neg (by omega), if_neg (by omega)]; rfl
  · rw [if_neg (by omega), if_neg (by omega)]; rfl

theorem cond_dec {s : List UInt8} {k : Nat} {n f : Int} (hk : k ≤ s.length) (h : cond s k n f) : dec s = (n, (k : Int)) := by
  obtain ⟨_, hs, he⟩ := h
  obtain ⟨m, rfl, h1, h2⟩ := sgn_nat hs
  rw [Int.toNat_natCast] at he
  have hl : (enc m).length = k := by rw [he, List.length_take]; omega
  have hsplit : s = enc m ++ s.drop k := by rw [he]; exact (List.take_append_drop k s).symm
  rw [hsplit, dec_enc m h1 h2, hl]
theorem b00 (a : UInt8) (l : List UInt8) : b0 (a :: l) 0 = (a.toNat : Int) := rfl
theorem b01 (a b : UInt8) (l : List UInt8) : b0 (a :: b :: l) 1 = (b.toNat : Int) := rfl
theorem b02 (a b c : UInt8) (l : List UInt8) : b0 (a :: b :: c :: l) 2 = (c.toNat : Int) := rfl
theorem b03 (a b c d : UInt8) (l : List UInt8) : b0 (a :: b :: c :: d :: l) 3 = (d.toNat : Int) := rfl

/-- The reference's first sign. -/
theorem rfirst_gen (s : List UInt8) : ref01_First.p1 (z + 10) (z + 10) s (1 : Nat) = some (dec s, ()) := by
  have hnot : ∀ {k : Nat} {n f : Int}, k ≤ s.length → 1 ≤ k → dec s = no → ¬ cond s k n f := fun hk h1 hd hc => by
    rw [cond_dec hk hc] at hd
    have := congrArg Prod.snd hd
    simp only [no] at this; omega
  rcases dec_spec s with hd | ⟨m, r, hd, hs, h1, h2⟩
  · rw [hd, rp1 (z + 9) s 1 (by omega)]
    by_cases c1 : 1 ≤ s.length
    · rw [if_pos ⟨by omega, c1⟩]
      rw [show ((1 : Nat) : Int) = 1 from rfl, rp5_1 _ s c1, if_neg (hnot c1 (by omega) hd)]
      rw [show (2 : Int) = ((2 : Nat) : Int) from rfl, rp1 (z + 8) s 2 (by omega)]
      by_cases c2 : 2 ≤ s.length
      · rw [if_pos ⟨by omega, c2⟩, show ((2 : Nat) : Int) = 2 from rfl, rp5_2 _ s c2, if_neg (hnot c2 (by omega) hd)]
        rw [show (3 : Int) = ((3 : Nat) : Int) from rfl, rp1 (z + 7) s 3 (by omega)]
        by_cases c3 : 3 ≤ s.length
        · rw [if_pos ⟨by omega, c3⟩, show ((3 : Nat) : Int) = 3 from rfl, rp5_3 _ s c3, if_neg (hnot c3 (by omega) hd)]
          rw [show (4 : Int) = ((4 : Nat) : Int) from rfl, rp1 (z + 6) s 4 (by omega)]
          by_cases c4 : 4 ≤ s.length
          · rw [if_pos ⟨by omega, c4⟩, show ((4 : Nat) : Int) = 4 from rfl, rp5_4 _ s c4, if_neg (hnot c4 (by omega) hd)]
            rw [show (5 : Int) = ((5 : Nat) : Int) from rfl, rp1 (z + 5) s 5 (by omega), if_neg (by omega)]
          · rw [if_neg (by omega)]
        · rw [if_neg (by omega)]
      · rw [if_neg (by omega)]
    · rw [if_neg (by omega)]
  · have hk := enc_len m
    have hlen : (enc m).length ≤ s.length := by rw [hs, List.length_append]; omega
    have hother : ∀ {k : Nat} {n f : Int}, k ≤ s.length → k ≠ (enc m).length → ¬ cond s k n f := fun hk hne hc => by
      rw [cond_dec hk hc] at hd
      have := congrArg Prod.snd hd
      simp only at this; omega
    have htake : s.take (enc m).length = enc m := by rw [hs]; simp
    have hsg := sgn_of m h1 h2
    rw [hd, rp1 (z + 9) s 1 (by omega), if_pos ⟨by omega, by omega⟩, show ((1 : Nat) : Int) = 1 from rfl, rp5_1 _ s (by omega)]
    by_cases d1 : m < 128
    · have e : enc m = [UInt8.ofNat m] := by simp [enc, d1]
      have ev : v1 s = m := by rw [hs, e]; show b0 (UInt8.ofNat m :: r) 0 = _; rw [b00, toNat_ofNat _ (by omega)]
      rw [e] at htake ⊢
      rw [ev, if_pos ⟨(b0_range s 0).1, hsg, by rw [Int.toNat_natCast, e]; exact htake.symm⟩]; rfl
    have el1 : (enc m).length ≠ 1 := by unfold enc; rw [if_neg d1]; split <;> (try split) <;> simp
    rw [if_neg (hother (by omega) (by omega)), show (2 : Int) = ((2 : Nat) : Int) from rfl, rp1 (z + 8) s 2 (by omega), if_pos ⟨by omega, by omega⟩, show ((2 : Nat) : Int) = 2 from rfl, rp5_2 _ s (by omega)]
    by_cases d2 : m < 2048
    · have e : enc m = [UInt8.ofNat (192 + m / 64), UInt8.ofNat (128 + m % 64)] := by simp [enc, d1, d2]
      have e0 : b0 s 0 = (192 + m / 64 : Nat) := by rw [hs, e]; show b0 (_ :: _) 0 = _; rw [b00, toNat_ofNat _ (by omega)]
      have e1 : b0 s 1 = (128 + m % 64 : Nat) := by rw [hs, e]; show b0 (_ :: _ :: r) 1 = _; rw [b01, toNat_ofNat _ (by omega)]
      have ev : v2 s = m := by unfold v2; rw [e0, e1]; omega
      rw [e] at htake ⊢
      rw [ev, if_pos ⟨by rw [e0]; omega, hsg, by rw [Int.toNat_natCast, e]; exact htake.symm⟩]; rfl
    have el2 : (enc m).length ≠ 2 := by unfold enc; rw [if_neg d1, if_neg d2]; split <;> simp
    rw [if_neg (hother (by omega) (by omega)), show (3 : Int) = ((3 : Nat) : Int) from rfl, rp1 (z + 7) s 3 (by omega), if_pos ⟨by omega, by omega⟩, show ((3 : Nat) : Int) = 3 from rfl, rp5_3 _ s (by omega)]
    by_cases d3 : m < 65536
    · have e : enc m = [UInt8.ofNat (224 + m / 4096), UInt8.ofNat (128 + m / 64 % 64), UInt8.ofNat (128 + m % 64)] := by simp [enc, d1, d2, d3]
      have e0 : b0 s 0 = (224 + m / 4096 : Nat) := by rw [hs, e]; show b0 (_ :: _) 0 = _; rw [b00, toNat_ofNat _ (by omega)]
      have e1 : b0 s 1 = (128 + m / 64 % 64 : Nat) := by rw [hs, e]; show b0 (_ :: _ :: _) 1 = _; rw [b01, toNat_ofNat _ (by omega)]
      have e2 : b0 s 2 = (128 + m % 64 : Nat) := by rw [hs, e]; show b0 (_ :: _ :: _ :: r) 2 = _; rw [b02, toNat_ofNat _ (by omega)]
      have ev : v3 s = m := by unfold v3; rw [e0, e1, e2]; omega
      rw [e] at htake ⊢
      rw [ev, if_pos ⟨by rw [e0]; omega, hsg, by rw [Int.toNat_natCast, e]; exact htake.symm⟩]; rfl
    have el3 : (enc m).length ≠ 3 := by unfold enc; rw [if_neg d1, if_neg d2, if_neg d3]; simp
    rw [if_neg (hother (by omega) (by omega)), show (4 : Int) = ((4 : Nat) : Int) from rfl, rp1 (z + 6) s 4 (by omega), if_pos ⟨by omega, by omega⟩, show ((4 : Nat) : Int) = 4 from rfl, rp5_4 _ s (by omega)]
    have e : enc m = [UInt8.ofNat (240 + m / 262144), UInt8.ofNat (128 + m / 4096 % 64), UInt8.ofNat (128 + m / 64 % 64), UInt8.ofNat (128 + m % 64)] := by simp [enc, d1, d2, d3]
    have e0 : b0 s 0 = (240 + m / 262144 : Nat) := by rw [hs, e]; show b0 (_ :: _) 0 = _; rw [b00, toNat_ofNat _ (by omega)]
    have e1 : b0 s 1 = (128 + m / 4096 % 64 : Nat) := by rw [hs, e]; show b0 (_ :: _ :: _) 1 = _; rw [b01, toNat_ofNat _ (by omega)]
    have e2 : b0 s 2 = (128 + m / 64 % 64 : Nat) := by rw [hs, e]; show b0 (_ :: _ :: _ :: _) 2 = _; rw [b02, toNat_ofNat _ (by omega)]
    have e3 : b0 s 3 = (128 + m % 64 : Nat) := by rw [hs, e]; show b0 (_ :: _ :: _ :: _ :: r) 3 = _; rw [b03, toNat_ofNat _ (by omega)]
    have ev : v4 s = m := by unfold v4; rw [e0, e1, e2, e3]; omega
    rw [e] at htake ⊢
    rw [ev, if_pos ⟨by rw [e0]; omega, hsg, by rw [Int.toNat_natCast, e]; exact htake.symm⟩]; rfl
theorem rfirst_eq (s : List UInt8) : s_ref01_First (s, ()) = some (dec s, ()) := by
  obtain ⟨z, hz⟩ := fuel10
  have e : s_ref01_First (s, ()) = ref01_First.p1 fuel fuel s (1 : Nat) := rfl
  rw [e, hz]; exact rfirst_gen s
def wh : Nat → List UInt8 → Bool
  | 0, _ => false
  | _ + 1, [] => true
  | n + 1, s => if (dec s).2 = 0 then false else wh n (s.drop (dec s).2.toNat)
theorem dec_len (s : List UInt8) : (dec s).2 = 0 ∨ ∃ k : Nat, (dec s).2 = k ∧ 1 ≤ k ∧ k ≤ s.length := by
  rcases dec_spec s with h | ⟨m, r, h, hs, _, _⟩
  · left; rw [h]; rfl
  · right
    have := enc_len m
    refine ⟨(enc m).length, by rw [h], this.1, by rw [hs, List.length_append]; omega⟩
theorem rwhole_p1 (k : Nat) : ∀ (m : Nat) (s : List UInt8), s.length < m → ref01_Whole.p1 k m s = some (wh m s, ())
  | 0, s, h => by omega
  | m + 1, s, h => by
    show ref01_Whole.t1 (ref01_Whole.p1 k m) (ref01_Whole.p2 k) s = _
    simp only [ref01_Whole.t1, iteB_dec, rfirst_eq, bindR_val]
    cases s with
    | nil => rfl
    | cons a r =>
      rw [if_pos (by simp only [List.length_cons]; omega)]
      simp only [wh]
      rcases dec_len (a :: r) with hd | ⟨j, hd, h1, h2⟩
      · rw [hd]; rfl
      · rw [hd, if_neg (by omega), if_neg (by omega), mustR_dec (by omega), mustR_dec (by omega), List.take_length]
        refine rwhole_p1 k m _ ?_
        rw [List.length_drop]; simp only [List.length_cons, Int.toNat_natCast] at h h2 ⊢; omega
theorem rwhole_eq (s : List UInt8) (h : s.length < 100000000000) : s_ref01_Whole (s, ()) = some (wh fuel s, ()) := rwhole_p1 fuel fuel s (fuel_gt _ (by omega))
def edg (s : List UInt8) (i : Int) : Bool := decide (i = (s.length : Int)) || (decide (0 ≤ i) && (decide (i < (s.length : Int)) && !isF (s.getD i.toNat 0)))
def W (ms : List Nat) : List UInt8 := (ms.map enc).flatten
end
end Go.Proofs.Ytdifekkamjoepaa.Vm.Rp
namespace Go.Proofs.Ytdifekkamjoepaa.Vm.Rp
open Go Go.Proofs.Ytdifekkamjoepaa.Vm
set_option linter.unusedVariables false

abbrev EdI := Int × (Int × List UInt8)
abbrev Ed := Nat × (Nat × List UInt8)
def cE (o : Ed) : EdI := ((o.1 : Int), ((o.2.1 : Int), o.2.2))
def e0 : EdI := ((0 : Int), ((0 : Int), ([] : List UInt8)))

theorem redge_edg (s : List UInt8) (i : Int) : s_ref01_Edge (s, (i, ())) = some (edg s i, ()) := by
  by_cases h : i < 0 ∨ s.length < i
  · rw [rEdge_bad s i h]
    have : edg s i = false := by
      unfold edg
      rw [decide_eq_false (by omega)]
      by_cases h0 : 0 ≤ i
      · rw [decide_eq_false (p := i < (s.length : Int)) (by omega)]; simp
      · rw [decide_eq_false h0]; simp
    rw [this]
  · obtain ⟨j, rfl⟩ : ∃ j : Nat, i = j := ⟨i.toNat, by omega⟩
    rw [rEdge_eq s j (by omega)]
    congr 2
    unfold edg
    by_cases c : j = s.length
    · rw [decide_eq_true (.inl c), decide_eq_true (by omega)]; rfl
    · rw [decide_eq_false (p := (j : Int) = (s.length : Int)) (by omega), decide_eq_true (p := (0 : Int) ≤ j) (by omega), decide_eq_true (p := (j : Int) < (s.length : Int)) (by omega), Int.toNat_natCast]
      cases hF : isF (s.getD j 0) with
      | true => rw [decide_eq_false (by simp [c])]; rfl
      | false => rw [decide_eq_true (.inr rfl)]; rfl
def chk (s : List UInt8) : Int → Int → List EdI → Int
  | e, n, [] => if 4000 < n then 4 else 0
  | e, n, o :: l =>
    if o.1 < e ∨ (s.length : Int) < o.1 ∨ o.2.1 < 0 ∨ (s.length : Int) - o.1 < o.2.1 then 3
    else if edg s o.1 = true ∧ edg s (o.1 + o.2.1) = true ∧ wh fuel o.2.2 = true then chk s (o.1 + o.2.1) (n + o.2.2.length - o.2.1) l
    else 2
theorem edrop (l : List EdI) (i : Nat) (h : i < l.length) : l.drop i = l.getD i e0 :: l.drop (i + 1) := by
  rw [List.drop_eq_getElem_cons h]; congr 1; simp [h]
def Small (l : List EdI) : Prop := l.length ≤ 100 ∧ ∀ o ∈ l, o.2.2.length ≤ 10000
theorem Small.get {l : List EdI} (H : Small l) {i : Nat} (h : i < l.length) : (l.getD i e0).2.2.length ≤ 10000 := by
  apply H.2
  rw [List.getD_eq_getElem?_getD, List.getElem?_eq_getElem h]; exact List.getElem_mem h
theorem rcheck_p1 (k : Nat) (s : List UInt8) (hs : s.length ≤ 10000) (l : List EdI) (H : Small l) : ∀ (m i : Nat) (e n : Int), l.length < m + i → i ≤ l.length → 0 ≤ e → -20000 * (i : Int) ≤ n → n ≤ 10000 + 10000 * (i : Int) →
    ref04_Check.p1 k m s l e n (i : Int) = some (chk s e n (l.drop i), ())
  | 0, i, e, n, h, hi, _, _, _ => by omega
  | m + 1, i, e, n, h, hi, he, h1, h2 => by
    have step : ref04_Check.p1 k (m + 1) s l e n (i : Int) = ref04_Check.t1 (ref04_Check.p2 k (ref04_Check.p1 k m)) (ref04_Check.p3 k) s l e n (i : Int) := rfl
    rw [step]
    have hl := H.1
    simp only [ref04_Check.t1, iteB_dec]
    by_cases c : i < l.length
    · rw [if_pos (by omega), withinR_nat c, edrop l i c]
      have hS := H.get c
      change (if (l.getD i e0).1 < e then _ else _) = _
      show (if (l.getD i e0).1 < e then ref04_Check.p2 k (ref04_Check.p1 k m) s l n (i : Int) true (l.getD i e0) else if (s.length : Int) < (l.getD i e0).1 then ref04_Check.p2 k (ref04_Check.p1 k m) s l n (i : Int) true (l.getD i e0) else if (l.getD i e0).2.1 < 0 then ref04_Check.p2 k (ref04_Check.p1 k m) s l n (i : Int) true (l.getD i e0) else ref04_Check.p2 k (ref04_Check.p1 k m) s l n (i : Int) (decide ((w64 ((s.length : Int) - (l.getD i e0).1)) < (l.getD i e0).2.1)) (l.getD i e0)) = _
      generalize l.getD i e0 = o at *
      simp only [chk]
      have bad : ref04_Check.p2 k (ref04_Check.p1 k m) s l n (i : Int) true o = some (3, ()) := rfl
      by_cases c3 : o.1 < e ∨ (s.length : Int) < o.1 ∨ o.2.1 < 0 ∨ (s.length : Int) - o.1 < o.2.1
      · rw [if_pos c3]
        by_cases d1 : o.1 < e
        · rw [if_pos d1, bad]
        rw [if_neg d1]
        by_cases d2 : (s.length : Int) < o.1
        · rw [if_pos d2, bad]
        rw [if_neg d2]
        by_cases d3 : o.2.1 < 0
        · rw [if_pos d3, bad]
        rw [if_neg d3, w64_id (by omega) (by omega), decide_eq_true (by omega), bad]
      · rw [if_neg c3, if_neg (by omega), if_neg (by omega), if_neg (by omega), w64_id (by omega) (by omega), decide_eq_false (by omega)]
        have ok : ref04_Check.p2 k (ref04_Check.p1 k m) s l n (i : Int) false o = ref04_Check.t4 (ref04_Check.p5 k (ref04_Check.p1 k m)) s l n (i : Int) o := rfl
        rw [ok]
        simp only [ref04_Check.t4, redge_edg, bindR_val, rwhole_eq o.2.2 (by omega)]
        rw [w64_id (n := o.1 + o.2.1) (by omega) (by omega)]
        have bad2 : ref04_Check.p5 k (ref04_Check.p1 k m) s l n (i : Int) true o = some (2, ()) := rfl
        by_cases c2 : edg s o.1 = true ∧ edg s (o.1 + o.2.1) = true ∧ wh fuel o.2.2 = true
        · rw [if_pos c2, c2.1, c2.2.1, c2.2.2]
          simp only [notB_true, iteB_false]
          show ref04_Check.p1 k m s l (w64 (o.1 + o.2.1)) (w64 ((w64 (n + (o.2.2.length : Int))) - o.2.1)) (w64 ((i : Int) + 1)) = _
          rw [w64_id (n := o.1 + o.2.1) (by omega) (by omega), w64_id (n := n + (o.2.2.length : Int)) (by omega) (by omega), w64_id (n := n + (o.2.2.length : Int) - o.2.1) (by omega) (by omega), w64_id (n := (i : Int) + 1) (by omega) (by omega)]
          exact rcheck_p1 k s hs l H m (i + 1) _ _ (by omega) (by omega) (by omega) (by omega) (by omega)
        · rw [if_neg c2]
          cases h1 : edg s o.1 with
          | false => simp only [notB_false, iteB_true]; exact bad2
          | true =>
            simp only [notB_true, iteB_false]
            cases h2 : edg s (o.1 + o.2.1) with
            | false => simp only [notB_false, iteB_true]; exact bad2
            | true =>
              simp only [notB_true, iteB_false]
              cases h3 : wh fuel o.2.2 with
              | false => exact bad2
              | true => exact absurd ⟨h1, h2, h3⟩ c2
    · rw [if_neg (by omega), List.drop_of_length_le (by omega)]
      show ref04_Check.t3 n = _
      simp only [ref04_Check.t3, iteB_dec, chk]
      split <;> rfl
theorem rcheck_eq (s : List UInt8) (hs : s.length ≤ 10000) (l : List EdI) (H : Small l) : s_ref04_Check (s, (l, ())) = some (chk s 0 s.length l, ()) :=
  rcheck_p1 fuel s hs l H fuel 0 0 s.length (by have := fuel_gt l.length (by have := H.1; omega); omega) (by omega) (by omega) (by omega) (by omega)
theorem put_eq (g e : Int) (acc : List EdI) (o : EdI) (ha : acc.length ≤ 100) (h1 : -100000000 ≤ g) (h2 : g ≤ 100000000) (h3 : o.2.2.length ≤ 10000) (h4 : -100000000 ≤ o.2.1) (h5 : o.2.1 ≤ 100000000) (h6 : -100000000 ≤ o.1) (h7 : o.1 ≤ 100000000) :
    s_edit_edits_put (((g, e), acc), (o, ())) = some ((), ((((g + ((o.2.2.length : Int) - o.2.1), o.1 + o.2.1), acc ++ [o])), ())) := by
  have st : s_edit_edits_put (((g, e), acc), (o, ())) = edit_edits_put.t0 ((g, e), acc) o := rfl
  rw [st]
  simp only [edit_edits_put.t0, room]
  rw [mustR_dec (by simp; omega), w64_id (n := (o.2.2.length : Int) - o.2.1) (by omega) (by omega), w64_id (by omega) (by omega), w64_id (by omega) (by omega)]
def grow : List Ed → Int
  | [] => 0
  | o :: l => (o.2.2.length : Int) - o.2.1 + grow l
def Num (n : Nat) : Nat → List Ed → Prop
  | e, [] => True
  | e, o :: l => e ≤ o.1 ∧ o.1 + o.2.1 ≤ n ∧ Num n (o.1 + o.2.1) l
def Edgs (s : List UInt8) (l : List Ed) : Prop := ∀ o ∈ l, edg s o.1 = true ∧ edg s ((o.1 + o.2.1 : Nat) : Int) = true ∧ wh fuel o.2.2 = true
theorem chk_zero (s : List UInt8) : ∀ (l : List EdI) (e : Nat) (n : Int), chk s e n l = 0 → ∃ lN : List Ed, l = lN.map cE ∧ Num s.length e lN ∧ Edgs s lN ∧ n + grow lN ≤ 4000
  | [], e, n, h => by
    simp only [chk] at h
    split at h
    · cases h
    · exact ⟨[], rfl, trivial, (fun o ho => by cases ho), by simp only [grow]; omega⟩
  | o :: l, e, n, h => by
    simp only [chk] at h
    split at h
    · cases h
    rename_i c3
    split at h
    · rename_i c2
      obtain ⟨a, ha⟩ : ∃ a : Nat, o.1 = a := ⟨o.1.toNat, by omega⟩
      obtain ⟨d, hd⟩ : ∃ d : Nat, o.2.1 = d := ⟨o.2.1.toNat, by omega⟩
      rw [ha, hd, show (a : Int) + (d : Int) = ((a + d : Nat) : Int) by omega] at h
      obtain ⟨lN, h1, h2, h3, h4⟩ := chk_zero s l (a + d) _ h
      refine ⟨(a, (d, o.2.2)) :: lN, ?_, ⟨by show e ≤ a; omega, by show a + d ≤ s.length; omega, h2⟩, ?_, ?_⟩
      · rw [List.map_cons, ← h1]
        congr 1
        show o = ((a : Int), ((d : Int), o.2.2))
        rw [← ha, ← hd]
      · intro x hx
        rcases List.mem_cons.1 hx with rfl | hx
        · refine ⟨?_, ?_, c2.2.2⟩
          · show edg s (a : Int) = true; rw [← ha]; exact c2.1
          · show edg s ((a + d : Nat) : Int) = true
            rw [show ((a + d : Nat) : Int) = o.1 + o.2.1 by omega]; exact c2.2.1
        · exact h3 x hx
      · simp only [grow]; omega
    · cases h
def app (s : List UInt8) : List Ed → List UInt8
  | [] => s
  | o :: l => (app s l).take o.1 ++ o.2.2 ++ (app s l).drop (o.1 + o.2.1)
def xA (n : Nat) : List Ed → Nat
  | [] => n
  | o :: _ => o.1
def pf (s : List UInt8) : List Ed → List UInt8
  | [] => []
  | o :: l => o.2.2 ++ ((s.take (xA s.length l)).drop (o.1 + o.2.1) ++ pf s l)
theorem Num.xA {n e : Nat} {l : List Ed} (H : Num n e l) (he : e ≤ n) : e ≤ Rp.xA n l ∧ Rp.xA n l ≤ n := by
  cases l with
  | nil => exact ⟨he, Nat.le_refl _⟩
  | cons o l => exact ⟨H.1, by have := H.2.1; show o.1 ≤ n; omega⟩
theorem app_pf (s : List UInt8) : ∀ (l : List Ed) (e : Nat), Num s.length e l → app s l = s.take (xA s.length l) ++ pf s l
  | [], e, _ => by simp [app, xA, pf]
  | o :: l, e, H => by
    obtain ⟨h1, h2, h3⟩ := H
    obtain ⟨x1, x2⟩ := h3.xA h2
    have ih := app_pf s l _ h3
    have l1 : (s.take (xA s.length l)).length = xA s.length l := by rw [List.length_take]; omega
    show (app s l).take o.1 ++ o.2.2 ++ (app s l).drop (o.1 + o.2.1) = s.take o.1 ++ (o.2.2 ++ ((s.take (xA s.length l)).drop (o.1 + o.2.1) ++ pf s l))
    rw [ih, List.take_append_of_le_length (by omega), List.take_take, Nat.min_eq_left (by omega), List.drop_append_of_le_length (by omega), List.append_assoc]
theorem pf_len (s : List UInt8) : ∀ (l : List Ed) (e : Nat), Num s.length e l → ((pf s l).length : Int) + (xA s.length l : Int) = s.length + grow l
  | [], e, _ => by simp [pf, xA, grow]
  | o :: l, e, H => by
    obtain ⟨h1, h2, h3⟩ := H
    obtain ⟨x1, x2⟩ := h3.xA h2
    have ih := pf_len s l _ h3
    have ep : pf s (o :: l) = o.2.2 ++ ((s.take (xA s.length l)).drop (o.1 + o.2.1) ++ pf s l) := rfl
    have ex : xA s.length (o :: l) = o.1 := rfl
    have eg : grow (o :: l) = (o.2.2.length : Int) - o.2.1 + grow l := rfl
    rw [ep, ex, eg, List.length_append, List.length_append, List.length_drop, List.length_take]
    omega
theorem applen (s : List UInt8) (l : List Ed) (e : Nat) (H : Num s.length e l) (he : e ≤ s.length) : ((app s l).length : Int) = s.length + grow l := by
  have := pf_len s l e H
  obtain ⟨x1, x2⟩ := H.xA he
  rw [app_pf s l e H, List.length_append, List.length_take]; omega
theorem Num.drop {n : Nat} : ∀ {l : List Ed} {e : Nat} (i : Nat), Num n e l → e ≤ n → ∃ e', e' ≤ n ∧ Num n e' (l.drop i)
  | l, e, 0, H, he => ⟨e, he, H⟩
  | [], e, i + 1, H, he => ⟨e, he, H⟩
  | o :: l, e, i + 1, H, he => Num.drop i H.2.2 H.2.1
end Go.Proofs.Ytdifekkamjoepaa.Vm.Rp
namespace Go.Proofs.Ytdifekkamjoepaa.Vm.Rp
open Go Go.Proofs.Ytdifekkamjoepaa.Vm
set_option linter.unusedVariables false

def SmallN (l : List Ed) : Prop := l.length ≤ 100 ∧ ∀ o ∈ l, o.2.2.length ≤ 10000
theorem SmallN.map {l : List Ed} (H : SmallN l) : Small (l.map cE) := ⟨by simpa using H.1, fun o ho => by
  obtain ⟨x, hx, rfl⟩ := List.mem_map.1 ho
  exact H.2 x hx⟩
theorem Small.nat {l : List Ed} (H : Small (l.map cE)) : SmallN l := ⟨by simpa using H.1, fun o ho => H.2 (cE o) (List.mem_map.2 ⟨o, ho, rfl⟩)⟩
theorem SmallN.cons {o : Ed} {l : List Ed} (H : SmallN (o :: l)) : o.2.2.length ≤ 10000 ∧ SmallN l := ⟨H.2 o (List.mem_cons_self ..), by have := H.1; simp at this; omega, fun x hx => H.2 x (List.mem_cons_of_mem _ hx)⟩
theorem SmallN.drop {l : List Ed} (H : SmallN l) (i : Nat) : SmallN (l.drop i) := ⟨by rw [List.length_drop]; have := H.1; omega, fun o ho => H.2 o (List.mem_of_mem_drop ho)⟩
theorem SmallN.take {l : List Ed} (H : SmallN l) (i : Nat) : SmallN (l.take i) := ⟨by rw [List.length_take]; have := H.1; omega, fun o ho => H.2 o (List.mem_of_mem_take ho)⟩
theorem grow_le : ∀ (l : List Ed), SmallN l → grow l ≤ 10000 * (l.length : Int)
  | [], _ => by simp [grow]
  | o :: l, H => by
    have := grow_le l H.cons.2
    have := H.cons.1
    simp only [grow, List.length_cons]; omega
theorem getE (l : List Ed) (i : Nat) (h : i < l.length) : ∃ o, l.drop i = o :: l.drop (i + 1) ∧ List.getD (l.map cE) i ((0 : Int), ((0 : Int), ([] : List UInt8))) = cE o := by
  refine ⟨l[i], List.drop_eq_getElem_cons h, ?_⟩
  rw [List.getD_eq_getElem?_getD, List.getElem?_map, List.getElem?_eq_getElem h]; rfl

def Pt (x7 : List (Option N0)) (ts : List (List UInt8)) : Prop := x7.length = ts.length ∧ ∀ i, i < x7.length → Ro (ts.getD i []) (x7.getD i none) ∧ (ts.getD i []).length < 100000000
theorem Pt.cons {x7 : List (Option N0)} {ts : List (List UInt8)} (H : Pt x7 ts) {x : Option N0} {t : List UInt8} (R : Ro t x) (ht : t.length < 100000000) : Pt (x :: x7) (t :: ts) := ⟨by simp [H.1], fun i hi => by
  cases i with
  | zero => exact ⟨R, ht⟩
  | succ i =>
    simp only [List.getD_cons_succ]
    exact H.2 i (by simp at hi; omega)⟩
theorem rApply_p1 (k : Nat) (s : List UInt8) (hs : s.length ≤ 10000) (l : List Ed) (H : SmallN l) (e : Nat) (he : e ≤ s.length) (hN : Num s.length e l) :
    ∀ (m j : Nat), j < m → j ≤ l.length → ref04_Apply.p1 k m (app s (l.drop j)) (l.map cE) ((j : Int) - 1) = some (app s l, ())
  | 0, j, h, _ => by omega
  | m + 1, j, h, hj => by
    have hL := H.1
    have step : ref04_Apply.p1 k (m + 1) (app s (l.drop j)) (l.map cE) ((j : Int) - 1) = ref04_Apply.t1 (ref04_Apply.p1 k m) (ref04_Apply.p2 k) (app s (l.drop j)) (l.map cE) ((j : Int) - 1) := rfl
    rw [step]
    simp only [ref04_Apply.t1, iteB_dec]
    cases j with
    | zero => rw [if_neg (by omega)]; rfl
    | succ j =>
      obtain ⟨o, ho, hget⟩ := getE l j (by omega)
      rw [if_pos (by omega), show (((j + 1 : Nat) : Int) - 1) = (j : Int) by omega]
      obtain ⟨e2, he2, hN2⟩ := hN.drop j he
      rw [ho] at hN2
      obtain ⟨a1, a2, a3⟩ := hN2
      obtain ⟨y1, y2⟩ := a3.xA a2
      have hwl : j < (l.map cE).length := by simp; omega
      have hins := ((H.drop j)).2 o (by rw [ho]; exact List.mem_cons_self ..)
      have hal := applen s (l.drop (j + 1)) _ a3 a2
      have hgl := grow_le _ (H.drop (j + 1))
      have hll : (l.drop (j + 1)).length ≤ 100 := (H.drop (j + 1)).1
      have hpl := pf_len s (l.drop (j + 1)) _ a3
      have wad : w64 ((o.1 : Int) + (o.2.1 : Int)) = ((o.1 + o.2.1 : Nat) : Int) := w64_id (by omega) (by omega)
      have wj : w64 ((j : Int) - 1) = (j : Int) - 1 := w64_id (by omega) (by omega)
      simp only [withinR_nat hwl, hget, cE, wad, wj, Int.toNat_natCast, List.drop_zero, List.take_length]
      have hb : o.1 + o.2.1 ≤ (app s (l.drop (j + 1))).length := by omega
      have tl : ((app s (l.drop (j + 1))).take o.1).length = o.1 := by rw [List.length_take]; omega
      rw [mustR_dec (by omega), mustR_dec (by omega), mustR_dec (by omega), mustR_dec (by omega), mustR_dec (by omega), mustR_dec (by rw [List.length_append, tl, List.length_drop]; omega)]
      have ea : app s (l.drop j) = (app s (l.drop (j + 1))).take o.1 ++ o.2.2 ++ (app s (l.drop (j + 1))).drop (o.1 + o.2.1) := by rw [ho]; rfl
      rw [← ea]
      exact rApply_p1 k s hs l H e he hN m j (by omega) (by omega)
theorem rApply_eq (s : List UInt8) (hs : s.length ≤ 10000) (l : List Ed) (H : SmallN l) (hN : Num s.length 0 l) : s_ref04_Apply (s, (l.map cE, ())) = some (app s l, ()) := by
  have hL := H.1
  have st : s_ref04_Apply (s, (l.map cE, ())) = ref04_Apply.t0 (ref04_Apply.p1 fuel fuel) s (l.map cE) := rfl
  rw [st]
  simp only [ref04_Apply.t0, List.length_map]
  rw [w64_id (by omega) (by omega)]
  have := rApply_p1 fuel s hs l H 0 (by omega) hN fuel l.length (fuel_gt _ (by omega)) (Nat.le_refl _)
  rw [List.drop_length] at this
  exact this
theorem grow_take_step (l : List Ed) (i : Nat) (o : Ed) (h : i < l.length) (ho : l.drop i = o :: l.drop (i + 1)) : grow (l.take (i + 1)) = grow (l.take i) + ((o.2.2.length : Int) - o.2.1) := by
  have e : ∀ (a b : List Ed), grow (a ++ b) = grow a + grow b := by
    intro a b
    induction a with
    | nil => simp [grow]
    | cons x a ih => simp only [List.cons_append, grow, ih]; omega
  have h2 : l.take (i + 1) = l.take i ++ [o] := by
    rw [List.take_succ_eq_append_getElem h]
    congr 2
    rw [List.drop_eq_getElem_cons h] at ho
    exact (List.cons.inj ho).1
  rw [h2, e]; simp [grow]
theorem grow_bound (n : Nat) (hn : n ≤ 10000) : ∀ (l : List Ed) (e : Nat), SmallN l → Num n e l → -10000 * (l.length : Int) ≤ grow l
  | [], _, _, _ => by simp [grow]
  | o :: l, e, H, hN => by
    have := grow_bound n hn l _ H.cons.2 hN.2.2
    have := hN.2.1
    simp only [grow, List.length_cons]; omega
theorem Num.take {n : Nat} : ∀ {l : List Ed} {e : Nat} (i : Nat), Num n e l → Num n e (l.take i)
  | l, e, 0, H => by simp only [List.take_zero]; trivial
  | [], e, i + 1, H => trivial
  | o :: l, e, i + 1, H => ⟨H.1, H.2.1, H.2.2.take i⟩
def bk (s : List UInt8) : Int → List Ed → List EdI
  | _, [] => []
  | g, o :: l => ((o.1 : Int) + g, ((o.2.2.length : Int), (s.take (o.1 + o.2.1)).drop o.1)) :: bk s (g + ((o.2.2.length : Int) - o.2.1)) l
def bkN (s : List UInt8) : Nat → Nat → List Ed → List Ed
  | _, _, [] => []
  | e, f, o :: l => (f + (o.1 - e), (o.2.2.length, (s.take (o.1 + o.2.1)).drop o.1)) :: bkN s (o.1 + o.2.1) (f + (o.1 - e) + o.2.2.length) l
theorem bk_bkN (s : List UInt8) (n : Nat) : ∀ (l : List Ed) (e f : Nat), Num n e l → bk s ((f : Int) - e) l = (bkN s e f l).map cE
  | [], e, f, _ => rfl
  | o :: l, e, f, H => by
    have h1 := H.1
    have ih := bk_bkN s n l (o.1 + o.2.1) (f + (o.1 - e) + o.2.2.length) H.2.2
    simp only [bk, bkN, List.map_cons]
    rw [← ih]
    congr 1
    · simp only [cE]; congr 1; omega
    · congr 1; omega
theorem bkN_len (s : List UInt8) : ∀ (l : List Ed) (e f : Nat), (bkN s e f l).length = l.length
  | [], _, _ => rfl
  | o :: l, e, f => by simp only [bkN, List.length_cons, bkN_len s l]
theorem bkN_small (s : List UInt8) (hs : s.length ≤ 10000) : ∀ (l : List Ed) (e f : Nat), ∀ o ∈ bkN s e f l, o.2.2.length ≤ 10000
  | [], _, _, o, h => by cases h
  | o :: l, e, f, x, h => by
    simp only [bkN] at h
    rcases List.mem_cons.1 h with rfl | h
    · simp only [List.length_drop, List.length_take]; omega
    · exact bkN_small s hs l _ _ x h
theorem Num.upto {n : Nat} : ∀ {l : List Ed} {e : Nat} (i : Nat) (o : Ed), Num n e l → l.drop i = o :: l.drop (i + 1) → Num o.1 e (l.take i) ∧ e ≤ o.1
  | [], e, i, o, _, h => by simp at h
  | x :: l, e, 0, o, H, h => by
    simp at h; subst h
    exact ⟨trivial, H.1⟩
  | x :: l, e, i + 1, o, H, h => by
    have ih := Num.upto i o H.2.2 (by simpa using h)
    have := H.1
    exact ⟨⟨H.1, ih.2, ih.1⟩, by omega⟩
theorem rBack_p1 (k : Nat) {s : List UInt8} (hs : s.length ≤ 10000) (l : List Ed) (H : SmallN l) (hN : Num s.length 0 l) : ∀ (m i : Nat) (out : List EdI), l.length < m + i → i ≤ l.length → out.length = i →
    ref04_Back.p1 k m s (l.map cE) out (i : Int) = some (out ++ bk s (grow (l.take i)) (l.drop i), ())
  | 0, i, out, h, hi, _ => by omega
  | m + 1, i, out, h, hi, hout => by
    have hL := H.1
    have step : ref04_Back.p1 k (m + 1) s (l.map cE) out (i : Int) = ref04_Back.t1 (ref04_Back.p1 k m) (ref04_Back.p2 k) s (l.map cE) out (i : Int) := rfl
    rw [step]
    simp only [ref04_Back.t1, iteB_dec, List.length_map]
    by_cases c : i < l.length
    · obtain ⟨o, ho, hget⟩ := getE l i c
      have hwl : i < l.length := c
      have hins := ((H.drop i)).2 o (by rw [ho]; exact List.mem_cons_self ..)
      obtain ⟨e2, he2, hN2⟩ := hN.drop i (Nat.zero_le _)
      rw [ho] at hN2
      have b1 := hN2.1
      have b2 := hN2.2.1
      have wad : w64 ((o.1 : Int) + (o.2.1 : Int)) = ((o.1 + o.2.1 : Nat) : Int) := w64_id (by omega) (by omega)
      have wi : w64 ((i : Int) + 1) = ((i + 1 : Nat) : Int) := w64_id (by omega) (by omega)
      have lt : (s.take o.1).length = o.1 := by rw [List.length_take]; omega
      have nu := (hN.upto i o ho).1
      have A := rApply_eq (s.take o.1) (by omega) (l.take i) (H.take i) (by rw [lt]; exact nu)
      have al := applen (s.take o.1) (l.take i) 0 (by rw [lt]; exact nu) (by omega)
      rw [lt] at al
      rw [List.map_take] at A
      rw [if_pos (by omega)]
      simp only [withinR_nat hwl, hget, cE, wad, Int.toNat_natCast, List.drop_zero, A, bindR_val, room, wi]
      rw [mustR_dec (by omega), mustR_dec (by omega), mustR_dec (by omega), mustR_dec (by omega), mustR_dec (by omega), mustR_dec (by omega), mustR_dec (by omega), mustR_dec (by omega), mustR_dec (by simp; omega), al]
      have := rBack_p1 k hs l H hN m (i + 1) (out ++ [((o.1 : Int) + grow (l.take i), ((o.2.2.length : Int), (s.take (o.1 + o.2.1)).drop o.1))]) (by omega) (by omega) (by simp [hout])
      rw [grow_take_step l i o c ho] at this
      refine Eq.trans this ?_
      rw [ho, bk, List.append_assoc]; rfl
    · rw [if_neg (by omega), List.drop_of_length_le (by omega)]
      show some (out, ()) = _
      rw [bk, List.append_nil]
theorem rBack_eq {s : List UInt8} (hs : s.length ≤ 10000) (l : List Ed) (H : SmallN l) (hN : Num s.length 0 l) : s_ref04_Back (s, (l.map cE, ())) = some ((bkN s 0 0 l).map cE, ()) := by
  have e := bk_bkN s s.length l 0 0 hN
  rw [← e]
  exact rBack_p1 fuel hs l H hN fuel 0 [] (by have := fuel_gt l.length (by have := H.1; omega); omega) (by omega) rfl
def hE : List UInt8 → Bool
  | [] => true
  | c :: _ => !isF c
end Go.Proofs.Ytdifekkamjoepaa.Vm.Rp
namespace Go.Proofs.Ytdifekkamjoepaa.Vm.Rp
open Go Go.Proofs.Ytdifekkamjoepaa.Vm
set_option linter.unusedVariables false
theorem great_p1 (k : Nat) (l : List EdI) (hl : l.length ≤ 1000) : ∀ (m i : Nat), l.length < m + i → i ≤ l.length → ∃ b, law04_Great.p1 k m l (i : Int) = some (b, ()) ∧ (b = false → ∀ o ∈ l.drop i, o.2.2.length ≤ 4500)
  | 0, i, h, hi => by omega
  | m + 1, i, h, hi => by
    have step : law04_Great.p1 k (m + 1) l (i : Int) = law04_Great.t1 (law04_Great.p1 k m) (law04_Great.p2 k) l (i : Int) := rfl
    rw [step]
    simp only [law04_Great.t1, iteB_dec]
    by_cases c : i < l.length
    · have wi : w64 ((i : Int) + 1) = ((i + 1 : Nat) : Int) := w64_id (by omega) (by omega)
      rw [if_pos (by omega), withinR_nat c, wi, edrop l i c]
      show ∃ b, (if (4500 : Int) < ((l.getD i e0).2.2.length : Int) then _ else _) = some (b, ()) ∧ _
      by_cases c2 : (4500 : Int) < ((l.getD i e0).2.2.length : Int)
      · rw [if_pos c2]; exact ⟨true, rfl, fun h => by cases h⟩
      · rw [if_neg c2]
        obtain ⟨b, h1, h2⟩ := great_p1 k l hl m (i + 1) (by omega) (by omega)
        refine ⟨b, h1, fun hb o ho => ?_⟩
        rcases List.mem_cons.1 ho with rfl | ho
        · omega
        · exact h2 hb o ho
    · rw [if_neg (by omega), List.drop_of_length_le (by omega)]
      exact ⟨false, rfl, fun _ o ho => by cases ho⟩
theorem Great_eq (l : List EdI) : ∃ b, s_law04_Great (l, ()) = some (b, ()) ∧ (b = false → Small l) := by
  have st : s_law04_Great (l, ()) = law04_Great.t0 (law04_Great.p1 fuel fuel) l := rfl
  rw [st]
  simp only [law04_Great.t0, iteB_dec]
  by_cases c : (30 : Int) < (l.length : Int)
  · rw [if_pos c]; exact ⟨true, rfl, fun h => by cases h⟩
  · rw [if_neg c]
    obtain ⟨b, h1, h2⟩ := great_p1 fuel l (by omega) fuel 0 (by have := fuel_gt l.length (by omega); omega) (by omega)
    refine ⟨b, h1, fun hb => ⟨by omega, fun o ho => ?_⟩⟩
    have := h2 hb o (by rw [List.drop_zero]; exact ho)
    omega
end Go.Proofs.Ytdifekkamjoepaa.Vm.Rp
namespace Go.Proofs.Ytdifekkamjoepaa.Vm.Rp
open Go Go.Proofs.Ytdifekkamjoepaa.Vm
set_option linter.unusedVariables false

/-- By one edit that begins at it or ahead of it. -/
def mvi (a d n : Int) (at_ : Int) (after : Bool) : Int :=
  if a + d < at_ ∨ at_ = a + d ∧ 0 < d then at_ + n - d
  else if at_ = a ∧ (0 < d ∨ after = false) ∨ a < at_ ∧ after = false then a
  else a + n
theorem moved_eq (a d : Int) (S : List UInt8) (at_ : Int) (after : Bool) (h1 : -1000000 ≤ at_) (h2 : at_ ≤ 1000000) (h3 : -1000000 ≤ a ∧ a ≤ 1000000) (h4 : 0 ≤ d ∧ d ≤ 1000000) (h5 : S.length ≤ 1000000) : s_edit_moved ((a, (d, S)), (at_, (after, ()))) = some (mvi a d S.length at_ after, ()) := by
  have st : s_edit_moved ((a, (d, S)), (at_, (after, ()))) = edit_moved.t0 (edit_moved.p1 fuel) (a, (d, S)) at_ after := rfl
  rw [st]
  have w1 : w64 (a + d) = a + d := w64_id (by omega) (by omega)
  have w2 : w64 (w64 (at_ + (S.length : Int)) - d) = at_ + S.length - d := by
    rw [w64_id (n := at_ + (S.length : Int)) (by omega) (by omega), w64_id (by omega) (by omega)]
  have w3 : w64 (a + (S.length : Int)) = a + S.length := w64_id (by omega) (by omega)
  have p1t : edit_moved.p1 fuel at_ after true (a, (d, S)) = some (at_ + S.length - d, ()) := by
    show some (w64 (w64 (at_ + (S.length : Int)) - d), ()) = _
    rw [w2]
  have p2t : edit_moved.p2 fuel true (a, (d, S)) = some (a, ()) := rfl
  have p2f : edit_moved.p2 fuel false (a, (d, S)) = some (a + S.length, ()) := by
    show some (w64 (a + (S.length : Int)), ()) = _
    rw [w3]
  have p1f : edit_moved.p1 fuel at_ after false (a, (d, S)) = some ((if at_ = a ∧ (0 < d ∨ after = false) ∨ a < at_ ∧ after = false then a else a + S.length), ()) := by
    show edit_moved.t1 (edit_moved.p2 fuel) at_ after false (a, (d, S)) = _
    have yes : at_ = a ∧ (0 < d ∨ after = false) ∨ a < at_ ∧ after = false → edit_moved.p2 fuel true (a, (d, S)) = some ((if at_ = a ∧ (0 < d ∨ after = false) ∨ a < at_ ∧ after = false then a else a + S.length), ()) := fun h => by rw [if_pos h]; exact p2t
    have nay : ¬ (at_ = a ∧ (0 < d ∨ after = false) ∨ a < at_ ∧ after = false) → edit_moved.p2 fuel false (a, (d, S)) = some ((if at_ = a ∧ (0 < d ∨ after = false) ∨ a < at_ ∧ after = false then a else a + S.length), ()) := fun h => by rw [if_neg h]; exact p2f
    generalize (if at_ = a ∧ (0 < d ∨ after = false) ∨ a < at_ ∧ after = false then a else a + (S.length : Int)) = v at yes nay ⊢
    simp only [edit_moved.t1, iteB_false, iteB_dec]
    by_cases c1 : at_ = a
    · rw [if_pos c1]
      by_cases c2 : (0 : Int) < d
      · rw [if_pos c2]; exact yes (.inl ⟨c1, .inl c2⟩)
      · rw [if_neg c2]
        have c3 : ¬ a < at_ := by omega
        cases after with
        | false => simp only [notB_false, iteB_true]; exact yes (.inl ⟨c1, .inr rfl⟩)
        | true =>
          simp only [notB_true, iteB_false, if_neg c3]
          exact nay (fun h => by
            rcases h with ⟨_, h | h⟩ | ⟨_, h⟩
            · exact c2 h
            · cases h
            · cases h)
    · rw [if_neg c1]
      by_cases c2 : a < at_
      · rw [if_pos c2]
        cases after with
        | false => exact yes (.inr ⟨c2, rfl⟩)
        | true => exact nay (fun h => by
            rcases h with ⟨h, _⟩ | ⟨_, h⟩
            · exact c1 h
            · cases h)
      · rw [if_neg c2]; exact nay (fun h => by
          rcases h with ⟨h, _⟩ | ⟨h, _⟩
          · exact c1 h
          · exact c2 h)
  simp only [edit_moved.t0, iteB_dec, w1]
  unfold mvi
  by_cases c1 : a + d < at_
  · rw [if_pos c1, if_pos (.inl c1), decide_eq_true c1]; exact p1t
  · rw [if_neg c1]
    by_cases c2 : at_ = a + d
    · rw [if_pos c2]
      by_cases c3 : (0 : Int) < d
      · rw [decide_eq_true c3, if_pos (.inr ⟨c2, c3⟩)]; exact p1t
      · rw [decide_eq_false c3, if_neg (by omega)]; exact p1f
    · rw [if_neg c2, if_neg (by omega)]; exact p1f
/-- Where a place goes by edits, one behind the other; g is what has grown so far. -/
def mv (g at_ : Int) (after : Bool) (to : Int) : List Ed → Int
  | [] => to
  | o :: l => if at_ < (o.1 : Int) then to else mv (g + ((o.2.2.length : Int) - o.2.1)) at_ after (g + mvi o.1 o.2.1 o.2.2.length at_ after) l
theorem Move_p1 (k : Nat) (n : Nat) (hn : n ≤ 10000) (l : List Ed) (H : SmallN l) (hN : Num n 0 l) (at_ : Int) (after : Bool) (h1 : -1000000 ≤ at_) (h2 : at_ ≤ 1000000) : ∀ (m i : Nat) (to e : Int) (acc : List EdI), l.length < m + i → i ≤ l.length → acc.length = i →
    edit_Move.p1 k m at_ after to (l.map cE) (l.length : Int) (i : Int) ((grow (l.take i), e), acc) = some (mv (grow (l.take i)) at_ after to (l.drop i), ())
  | 0, i, to, e, acc, h, hi, _ => by omega
  | m + 1, i, to, e, acc, h, hi, ha => by
    have hL := H.1
    have step : edit_Move.p1 k (m + 1) at_ after to (l.map cE) (l.length : Int) (i : Int) ((grow (l.take i), e), acc) = edit_Move.t1 (edit_Move.p2 k) (edit_Move.p1 k m) at_ after to (l.map cE) (l.length : Int) (i : Int) ((grow (l.take i), e), acc) := rfl
    rw [step]
    simp only [edit_Move.t1, iteB_dec]
    by_cases c : i < l.length
    · obtain ⟨o, ho, hget⟩ := getE l i c
      have hwl : i < (l.map cE).length := by simp; omega
      have hins := ((H.drop i)).2 o (by rw [ho]; exact List.mem_cons_self ..)
      obtain ⟨e2, he2, hN2⟩ := hN.drop i (Nat.zero_le _)
      rw [ho] at hN2
      have b1 := hN2.1
      have b2 := hN2.2.1
      have g1 := grow_le _ (H.take i)
      have g2 := grow_bound n hn _ 0 (H.take i) (hN.take i)
      have g3 : (l.take i).length = i := by rw [List.length_take]; omega
      have wi : w64 ((i : Int) + 1) = ((i + 1 : Nat) : Int) := w64_id (by omega) (by omega)
      obtain ⟨a, d, S⟩ := o
      have hS : (S.length : Int) ≤ 10000 := by have : S.length ≤ 10000 := hins; omega
      have hal : (a : Int) ≤ n := by have : a + d ≤ n := b2; omega
      have hd : (d : Int) ≤ n := by have : a + d ≤ n := b2; omega
      have P := put_eq (grow (l.take i)) e acc ((a : Int), ((d : Int), S)) (by omega) (by omega) (by omega) hins (by show (_ : Int) ≤ (d : Int); omega) (by show (d : Int) ≤ _; omega) (by show (_ : Int) ≤ (a : Int); omega) (by show (a : Int) ≤ _; omega)
      have M := moved_eq (a : Int) (d : Int) S at_ after h1 h2 (by omega) (by omega) (by omega)
      have wm : w64 (grow (l.take i) + mvi a d S.length at_ after) = grow (l.take i) + mvi a d S.length at_ after := by
        have : -10000000 ≤ mvi a d S.length at_ after ∧ mvi a d S.length at_ after ≤ 10000000 := by
          unfold mvi; repeat' split
          all_goals omega
        exact w64_id (by omega) (by omega)
      rw [if_pos (by omega), withinR_nat hwl, hget, ho, mv]
      show (if at_ < (a : Int) then _ else bindR (s_edit_moved (((a : Int), ((d : Int), S)), _)) _) = some ((if at_ < (a : Int) then _ else _), ())
      by_cases c2 : at_ < (a : Int)
      · rw [if_pos c2, if_pos c2]; rfl
      · rw [if_neg c2, if_neg c2, M, bindR_val]
        show bindR (s_edit_edits_put (_, (((a : Int), ((d : Int), S)), ()))) _ = _
        rw [P, bindR_val]
        have wi' : w64 ((i : Int) + 1) = ((i + 1 : Nat) : Int) := wi
        show edit_Move.p1 k m at_ after (w64 (grow (l.take i) + mvi a d S.length at_ after)) (l.map cE) (l.length : Int) (w64 ((i : Int) + 1)) _ = _
        rw [wm, wi]
        have := Move_p1 k n hn l H hN at_ after h1 h2 m (i + 1) (grow (l.take i) + mvi a d S.length at_ after) ((a : Int) + d) (acc ++ [((a : Int), ((d : Int), S))]) (by omega) (by omega) (by simp [ha])
        rw [grow_take_step l i (a, (d, S)) c ho] at this
        exact this
    · rw [if_neg (by omega), List.drop_of_length_le (by omega)]; rfl
theorem Move_eq (n : Nat) (hn : n ≤ 10000) (l : List Ed) (H : SmallN l) (hN : Num n 0 l) (at_ : Int) (after : Bool) (h1 : -1000000 ≤ at_) (h2 : at_ ≤ 1000000) : s_edit_Move (l.map cE, (at_, (after, ()))) = some (mv 0 at_ after at_ l, ()) := by
  have st : s_edit_Move (l.map cE, (at_, (after, ()))) = edit_Move.p1 fuel fuel at_ after at_ (l.map cE) ((l.map cE).length : Int) 0 (((0 : Int), (0 : Int)), []) := rfl
  rw [st, List.length_map]
  exact Move_p1 fuel n hn l H hN at_ after h1 h2 fuel 0 at_ 0 [] (by have := fuel_gt l.length (by have := H.1; omega); omega) (by omega) rfl

theorem mv_gt (g at_ : Int) (after : Bool) (to : Int) : ∀ (l : List Ed), (∀ o ∈ l, at_ < (o.1 : Int)) → mv g at_ after to l = to
  | [], _ => rfl
  | o :: l, h => by rw [mv, if_pos (h o (List.mem_cons_self ..))]
theorem mv_split (at_ : Int) (after : Bool) (o : Ed) (l2 : List Ed) (ho : (o.1 : Int) ≤ at_) (h2 : ∀ x ∈ l2, at_ < (x.1 : Int)) : ∀ (l1 : List Ed) (g to : Int), (∀ x ∈ l1, (x.1 : Int) ≤ at_) →
    mv g at_ after to (l1 ++ o :: l2) = g + grow l1 + mvi o.1 o.2.1 o.2.2.length at_ after
  | [], g, to, _ => by
    rw [List.nil_append, mv, if_neg (by omega), mv_gt _ _ _ _ _ h2]; simp [grow]
  | x :: l1, g, to, h => by
    have := h x (List.mem_cons_self ..)
    rw [List.cons_append, mv, if_neg (by omega), mv_split at_ after o l2 ho h2 l1 _ _ (fun y hy => h y (List.mem_cons_of_mem _ hy))]
    simp only [grow]; omega
theorem Num.up {n : Nat} : ∀ {l : List Ed} {e : Nat}, Num n e l → ∀ o ∈ l, e ≤ o.1
  | x :: l, e, H, o, ho => by
    rcases List.mem_cons.1 ho with rfl | ho
    · exact H.1
    · have := Num.up H.2.2 o ho
      have := H.1
      omega
theorem Num.low {n : Nat} : ∀ {l : List Ed} {e : Nat} (i : Nat) (o : Ed), Num n e l → l.drop i = o :: l.drop (i + 1) → ∀ x ∈ l.take i, x.1 ≤ o.1
  | [], e, i, o, _, h => by simp at h
  | y :: l, e, 0, o, H, h => by intro x hx; simp at hx
  | y :: l, e, i + 1, o, H, h => by
    intro x hx
    rw [List.take_succ_cons] at hx
    have h' : l.drop i = o :: l.drop (i + 1) := by simpa using h
    rcases List.mem_cons.1 hx with rfl | hx
    · have := Num.up H.2.2 o (List.mem_of_mem_drop (by rw [h']; exact List.mem_cons_self ..))
      omega
    · exact Num.low i o H.2.2 h' x hx
theorem rMove_p4 (k : Nat) (n : Nat) (hn : n ≤ 10000) (l : List Ed) (H : SmallN l) (hN : Num n 0 l) (at_ : Int) (after : Bool) (K : Nat) (hK : K < l.length) : ∀ (m i : Nat), K < m + i → i ≤ K →
    ref04_Move.p4 k m (l.map cE) at_ after (K : Int) (grow (l.take i)) (i : Int) = ref04_Move.p5 k (l.map cE) at_ after (K : Int) (grow (l.take K))
  | 0, i, h, hi => by omega
  | m + 1, i, h, hi => by
    have hL := H.1
    have step : ref04_Move.p4 k (m + 1) (l.map cE) at_ after (K : Int) (grow (l.take i)) (i : Int) = ref04_Move.t4 (ref04_Move.p4 k m) (ref04_Move.p5 k) (l.map cE) at_ after (K : Int) (grow (l.take i)) (i : Int) := rfl
    rw [step]
    simp only [ref04_Move.t4, iteB_dec]
    by_cases c : i < K
    · obtain ⟨o, ho, hget⟩ := getE l i (by omega)
      have hwl : i < (l.map cE).length := by simp; omega
      have hins := ((H.drop i)).2 o (by rw [ho]; exact List.mem_cons_self ..)
      obtain ⟨e2, he2, hN2⟩ := hN.drop i (Nat.zero_le _)
      rw [ho] at hN2
      have b1 := hN2.1
      have b2 := hN2.2.1
      have g1 := grow_le _ (H.take i)
      have g2 := grow_bound n hn _ 0 (H.take i) (hN.take i)
      have g3 : (l.take i).length = i := by rw [List.length_take]; omega
      rw [if_pos (by omega)]
      simp only [withinR_nat hwl, hget, cE]
      rw [w64_id (n := grow (l.take i) + (o.2.2.length : Int)) (by omega) (by omega), w64_id (n := (i : Int) + 1) (by omega) (by omega), w64_id (by omega) (by omega)]
      have := rMove_p4 k n hn l H hN at_ after K hK m (i + 1) (by omega) (by omega)
      rw [grow_take_step l i o (by omega) ho] at this
      refine Eq.trans ?_ this
      congr 1
      omega
    · have : i = K := by omega
      subst this
      rw [if_neg (by omega)]
theorem rMove_p5 (k : Nat) (n : Nat) (hn : n ≤ 10000) (l : List Ed) (H : SmallN l) (hN : Num n 0 l) (at_ : Int) (after : Bool) (h1 : -1000000 ≤ at_) (h2 : at_ ≤ 1000000) (K : Nat) (hK : K < l.length) (o : Ed) (ho : l.drop K = o :: l.drop (K + 1)) (hle : (o.1 : Int) ≤ at_) :
    ref04_Move.p5 k (l.map cE) at_ after (K : Int) (grow (l.take K)) = some (grow (l.take K) + mvi o.1 o.2.1 o.2.2.length at_ after, ()) := by
  obtain ⟨o', ho', hget⟩ := getE l K hK
  rw [ho] at ho'
  have eo := (List.cons.inj ho').1
  subst eo
  have hwl : K < (l.map cE).length := by simp; omega
  have hins := ((H.drop K)).2 o (by rw [ho]; exact List.mem_cons_self ..)
  obtain ⟨e2, he2, hN2⟩ := hN.drop K (Nat.zero_le _)
  rw [ho] at hN2
  have b1 := hN2.1
  have b2 := hN2.2.1
  have hL := H.1
  have g1 := grow_le _ (H.take K)
  have g2 := grow_bound n hn _ 0 (H.take K) (hN.take K)
  have g3 : (l.take K).length = K := by rw [List.length_take]; omega
  obtain ⟨a, d, S⟩ := o
  have hS : (S.length : Int) ≤ 10000 := by have : S.length ≤ 10000 := hins; omega
  have ha : (a : Int) ≤ at_ := hle
  have hd : (a : Int) + d ≤ n := by have : a + d ≤ n := b2; omega
  have hcE : cE (a, (d, S)) = ((a : Int), ((d : Int), S)) := rfl
  rw [hcE] at hget
  generalize hG : grow (l.take K) = G at g1 g2 ⊢
  show ref04_Move.t5 (ref04_Move.p6 k) (l.map cE) at_ after (K : Int) G = some (G + mvi (a : Int) (d : Int) (S.length : Int) at_ after, ())
  simp only [ref04_Move.t5, withinR_nat hwl, hget, iteB_dec]
  have wad : w64 ((a : Int) + (d : Int)) = (a : Int) + d := w64_id (by omega) (by omega)
  have w1 : w64 (w64 (w64 (G + at_) + (S.length : Int)) - (d : Int)) = G + (at_ + S.length - d) := by
    rw [w64_id (n := G + at_) (by omega) (by omega), w64_id (n := G + at_ + (S.length : Int)) (by omega) (by omega), w64_id (by omega) (by omega)]
    omega
  have w2 : w64 (w64 (G + (a : Int)) + (S.length : Int)) = G + (a + S.length) := by
    rw [w64_id (n := G + (a : Int)) (by omega) (by omega), w64_id (by omega) (by omega)]
    omega
  have w3 : w64 (G + (a : Int)) = G + a := w64_id (by omega) (by omega)
  rw [wad, w1, w2, w3]
  unfold mvi
  by_cases c1 : (a : Int) + d < at_
  · rw [if_pos c1, if_pos (.inl c1)]
  · rw [if_neg c1]
    by_cases c2 : (d : Int) = 0
    · rw [if_pos c2, if_neg (show ¬ ((a : Int) + d < at_ ∨ at_ = (a : Int) + d ∧ 0 < (d : Int)) by omega)]
      have ea : at_ = (a : Int) := by omega
      cases after with
      | true =>
        rw [iteB_true, if_neg (fun h => by
          rcases h with ⟨_, h | h⟩ | ⟨_, h⟩
          · omega
          · cases h
          · cases h)]
      | false => rw [iteB_false, if_pos (.inl ⟨ea, .inr rfl⟩)]
    · rw [if_neg c2]
      by_cases c3 : at_ = (a : Int)
      · rw [if_pos c3, if_neg (show ¬ ((a : Int) + d < at_ ∨ at_ = (a : Int) + d ∧ 0 < (d : Int)) by omega), if_pos (.inl ⟨c3, .inl (by omega)⟩)]
      · rw [if_neg c3]
        by_cases c4 : at_ = (a : Int) + d
        · rw [if_pos c4, if_pos (.inr ⟨c4, by omega⟩)]
          show some (w64 (w64 (G + (a : Int)) + (S.length : Int)), ()) = _
          rw [w2]
          congr 2; omega
        · rw [if_neg c4, if_neg (show ¬ ((a : Int) + d < at_ ∨ at_ = (a : Int) + d ∧ 0 < (d : Int)) by omega)]
          cases after with
          | true =>
            rw [if_neg (fun h => by
              rcases h with ⟨h, _⟩ | ⟨_, h⟩
              · exact c3 h
              · cases h)]
            show some (w64 (w64 (G + (a : Int)) + (S.length : Int)), ()) = _
            rw [w2]
          | false =>
            rw [if_pos (.inr ⟨by omega, rfl⟩)]
            show some (w64 (G + (a : Int)), ()) = _
            rw [w3]
theorem rMove_p1 (k : Nat) (n : Nat) (hn : n ≤ 10000) (l : List Ed) (hk : l.length < k) (H : SmallN l) (hN : Num n 0 l) (at_ : Int) (after : Bool) (h1 : -1000000 ≤ at_) (h2 : at_ ≤ 1000000) : ∀ (m i : Nat) (x7 : Int), l.length < m + i → i ≤ l.length →
    (x7 = -1 ∧ (∀ x ∈ l.take i, at_ < (x.1 : Int)) ∨ ∃ K o, x7 = ((K : Nat) : Int) ∧ K < i ∧ l.drop K = o :: l.drop (K + 1) ∧ (o.1 : Int) ≤ at_ ∧ ∀ x ∈ (l.take i).drop (K + 1), at_ < (x.1 : Int)) →
    ref04_Move.p1 k m (l.map cE) at_ after x7 0 (i : Int) = some (mv 0 at_ after at_ l, ())
  | 0, i, x7, h, hi, _ => by omega
  | m + 1, i, x7, h, hi, hx => by
    have hL := H.1
    have step : ref04_Move.p1 k (m + 1) (l.map cE) at_ after x7 0 (i : Int) = ref04_Move.t1 (ref04_Move.p2 k (ref04_Move.p1 k m)) (ref04_Move.p3 k) (l.map cE) at_ after x7 0 (i : Int) := rfl
    rw [step]
    simp only [ref04_Move.t1, iteB_dec, List.length_map]
    by_cases c : i < l.length
    · obtain ⟨o, ho, hget⟩ := getE l i c
      have hwl : i < l.length := c
      have wi : w64 ((i : Int) + 1) = ((i + 1 : Nat) : Int) := w64_id (by omega) (by omega)
      have tk : l.take (i + 1) = l.take i ++ [o] := by
        rw [List.take_succ_eq_append_getElem c]
        congr 2
        rw [List.drop_eq_getElem_cons c] at ho
        exact (List.cons.inj ho).1
      have lt : (l.take i).length = i := by rw [List.length_take]; omega
      rw [if_pos (by omega), withinR_nat hwl, hget]
      show (if (o.1 : Int) ≤ at_ then ref04_Move.p1 k m (l.map cE) at_ after (i : Int) 0 (w64 ((i : Int) + 1)) else ref04_Move.p1 k m (l.map cE) at_ after x7 0 (w64 ((i : Int) + 1))) = _
      rw [wi]
      by_cases c2 : (o.1 : Int) ≤ at_
      · rw [if_pos c2]
        refine rMove_p1 k n hn l hk H hN at_ after h1 h2 m (i + 1) (i : Int) (by omega) (by omega) (.inr ⟨i, o, rfl, by omega, ho, c2, fun x hx => ?_⟩)
        rw [List.drop_of_length_le (by rw [List.length_take]; omega)] at hx
        cases hx
      · rw [if_neg c2]
        refine rMove_p1 k n hn l hk H hN at_ after h1 h2 m (i + 1) x7 (by omega) (by omega) ?_
        rcases hx with ⟨e, hx⟩ | ⟨K, o2, e, hK, hd, hle, hx⟩
        · refine .inl ⟨e, fun x hm => ?_⟩
          rw [tk] at hm
          rcases List.mem_append.1 hm with hm | hm
          · exact hx x hm
          · rw [List.mem_singleton.1 hm]; omega
        · refine .inr ⟨K, o2, e, by omega, hd, hle, fun x hm => ?_⟩
          rw [tk, List.drop_append_of_le_length (by omega)] at hm
          rcases List.mem_append.1 hm with hm | hm
          · exact hx x hm
          · rw [List.mem_singleton.1 hm]; omega
    · rw [if_neg (by omega)]
      have tl : l.take i = l := List.take_of_length_le (by omega)
      rw [tl] at hx
      show ref04_Move.t3 (ref04_Move.p4 k k) (l.map cE) at_ after x7 0 = _
      simp only [ref04_Move.t3, iteB_dec]
      rcases hx with ⟨e, hx⟩ | ⟨K, o2, e, hK, hd, hle, hx⟩
      · rw [if_pos (by omega), mv_gt _ _ _ _ _ hx]
      · rw [if_neg (by omega), e]
        have hKl : K < l.length := by omega
        have P4 := rMove_p4 k n hn l H hN at_ after K hKl k 0 (by omega) (by omega)
        have e0 : grow (l.take 0) = 0 := rfl
        rw [e0] at P4
        show ref04_Move.p4 k k (l.map cE) at_ after (K : Int) 0 ((0 : Nat) : Int) = _
        rw [P4, rMove_p5 k n hn l H hN at_ after h1 h2 K hKl o2 hd hle]
        have sp := mv_split at_ after o2 (l.drop (K + 1)) hle hx (l.take K) 0 at_ (fun x hm => by have := Num.low K o2 hN hd x hm; omega)
        rw [← hd, List.take_append_drop] at sp
        rw [sp, Int.zero_add]
theorem rMove_eq (n : Nat) (hn : n ≤ 10000) (l : List Ed) (H : SmallN l) (hN : Num n 0 l) (at_ : Int) (after : Bool) (h1 : -1000000 ≤ at_) (h2 : at_ ≤ 1000000) : s_ref04_Move (l.map cE, (at_, (after, ()))) = some (mv 0 at_ after at_ l, ()) := by
  have hL := H.1
  exact rMove_p1 fuel n hn l (fuel_gt l.length (by omega)) H hN at_ after h1 h2 fuel 0 (-1) (by have := fuel_gt l.length (by omega); omega) (by omega) (.inl ⟨rfl, fun x hx => by cases hx⟩)

theorem grow_low {n : Nat} : ∀ {l : List Ed} {e : Nat}, Num n e l → e ≤ n → (e : Int) ≤ n + grow l
  | [], e, _, h => by simp only [grow]; omega
  | o :: l, e, H, h => by
    have := grow_low H.2.2 H.2.1
    have := H.1
    simp only [grow]; omega
theorem mvi_ge (a d n : Nat) (at_ : Int) (after : Bool) (h : (a : Int) ≤ at_) : (a : Int) ≤ mvi a d n at_ after := by
  unfold mvi; repeat' split
  all_goals omega
theorem mvi_le (a d n : Nat) (at_ : Int) (after : Bool) (h : (a : Int) ≤ at_) : mvi a d n at_ after ≤ a + n ∨ (a : Int) + d ≤ at_ ∧ mvi a d n at_ after = at_ + n - d := by
  unfold mvi; repeat' split
  all_goals omega
theorem mvi_mono (a d n : Nat) (x y : Int) (after : Bool) (h : (a : Int) ≤ x) (h2 : x ≤ y) : mvi a d n x after ≤ mvi a d n y after := by
  unfold mvi
  cases after
  · simp only [or_true, and_true]
    repeat' split
    all_goals omega
  · simp only [or_false, and_false, Bool.true_eq_false]
    repeat' split
    all_goals omega
theorem mv_low (after : Bool) (n : Nat) (c : Int) : ∀ (l : List Ed) (e : Nat) (g at_ to : Int), Num n e l → c ≤ to → c ≤ g + e → c ≤ mv g at_ after to l
  | [], e, g, at_, to, _, h, _ => h
  | o :: l, e, g, at_, to, H, h, h2 => by
    rw [mv]
    by_cases k : at_ < (o.1 : Int)
    · rw [if_pos k]; exact h
    · rw [if_neg k]
      have := mvi_ge o.1 o.2.1 o.2.2.length at_ after (by omega)
      have := H.1
      exact mv_low after n c l (o.1 + o.2.1) _ at_ _ H.2.2 (by omega) (by omega)
theorem mv_up (after : Bool) (n : Nat) (at_ : Int) (ha : at_ ≤ n) : ∀ (l : List Ed) (e : Nat) (g to : Int), Num n e l → e ≤ n → (to ≤ g + e ∨ to ≤ g + at_) → mv g at_ after to l ≤ n + g + grow l
  | [], e, g, to, _, he, h => by simp only [mv, grow]; omega
  | o :: l, e, g, to, H, he, h => by
    rw [mv]
    have gl := grow_low (l := o :: l) (e := e) H he
    have gl2 := grow_low H.2.2 H.2.1
    have := H.1
    have eg : grow (o :: l) = (o.2.2.length : Int) - o.2.1 + grow l := rfl
    by_cases k : at_ < (o.1 : Int)
    · rw [if_pos k]; omega
    · rw [if_neg k]
      have m1 := mvi_le o.1 o.2.1 o.2.2.length at_ after (by omega)
      have := mv_up after n at_ ha l (o.1 + o.2.1) (g + ((o.2.2.length : Int) - o.2.1)) (g + mvi o.1 o.2.1 o.2.2.length at_ after) H.2.2 H.2.1 (by omega)
      omega
theorem mv_mono (after : Bool) (n : Nat) (x y : Int) (hxy : x ≤ y) : ∀ (l : List Ed) (e : Nat) (g to to2 : Int), Num n e l → (to ≤ g + e ∨ to ≤ g + x) → to ≤ to2 → mv g x after to l ≤ mv g y after to2 l
  | [], e, g, to, to2, _, _, h => h
  | o :: l, e, g, to, to2, H, h1, h => by
    rw [mv, mv]
    have := H.1
    by_cases k : x < (o.1 : Int)
    · rw [if_pos k]
      by_cases k2 : y < (o.1 : Int)
      · rw [if_pos k2]; exact h
      · rw [if_neg k2]
        have := mvi_ge o.1 o.2.1 o.2.2.length y after (by omega)
        exact mv_low after n to l (o.1 + o.2.1) _ y _ H.2.2 (by omega) (by omega)
    · rw [if_neg k, if_neg (by omega)]
      have m0 := mvi_mono o.1 o.2.1 o.2.2.length x y after (by omega) hxy
      have m1 := mvi_le o.1 o.2.1 o.2.2.length x after (by omega)
      exact mv_mono after n x y hxy l (o.1 + o.2.1) _ _ _ H.2.2 (by omega) (by omega)
/-- The place lies in none that is taken out. -/
def Out (at_ : Int) (l : List Ed) : Prop := ∀ o ∈ l, ¬ ((o.1 : Int) ≤ at_ ∧ at_ ≤ (o.1 : Int) + o.2.1)
theorem mv_out (after : Bool) (n : Nat) (at_ : Int) : ∀ (l : List Ed) (e : Nat) (g : Int), Num n e l → Out at_ l → (e : Int) < at_ → g + e < mv g at_ after (g + at_) l
  | [], e, g, _, _, h => by rw [mv]; omega
  | o :: l, e, g, H, ho, h => by
    rw [mv]
    by_cases k : at_ < (o.1 : Int)
    · rw [if_pos k]; omega
    · rw [if_neg k]
      have h1 := ho o (List.mem_cons_self ..)
      have := H.1
      have em : mvi o.1 o.2.1 o.2.2.length at_ after = at_ + o.2.2.length - o.2.1 := by
        unfold mvi; rw [if_pos (.inl (by omega))]
      have := mv_out after n at_ l (o.1 + o.2.1) (g + ((o.2.2.length : Int) - o.2.1)) H.2.2 (fun x hx => ho x (List.mem_cons_of_mem _ hx)) (by omega)
      rw [em, show g + (at_ + (o.2.2.length : Int) - (o.2.1 : Int)) = g + ((o.2.2.length : Int) - o.2.1) + at_ by omega]
      omega
theorem mv_back (after : Bool) (s : List UInt8) (at_ : Int) : ∀ (l : List Ed) (e f : Nat) (g X : Int), Num s.length e l → Out at_ l → e ≤ s.length → (f : Int) = e + g → X = mv g at_ after (g + at_) l → mv (-g) X after (X - g) (bkN s e f l) = at_
  | [], e, f, g, X, _, _, _, _, h => by rw [mv] at h; rw [bkN, mv]; omega
  | o :: l, e, f, g, X, H, ho, he, hf, h => by
    rw [mv] at h
    rw [bkN, mv]
    have h1 := ho o (List.mem_cons_self ..)
    have h2 := H.1
    have h3 := H.2.1
    have ef : ((f + (o.1 - e) : Nat) : Int) = o.1 + g := by omega
    show (if X < ((f + (o.1 - e) : Nat) : Int) then _ else mv (-g + ((((s.take (o.1 + o.2.1)).drop o.1).length : Int) - ((o.2.2.length : Nat) : Int))) X after (-g + mvi ((f + (o.1 - e) : Nat) : Int) ((o.2.2.length : Nat) : Int) (((s.take (o.1 + o.2.1)).drop o.1).length : Int) X after) _) = _
    have el : (((s.take (o.1 + o.2.1)).drop o.1).length : Int) = o.2.1 := by rw [List.length_drop, List.length_take]; omega
    rw [ef, el]
    by_cases k : at_ < (o.1 : Int)
    · rw [if_pos k] at h
      rw [if_pos (by omega)]; omega
    · rw [if_neg k] at h
      have em : mvi o.1 o.2.1 o.2.2.length at_ after = at_ + o.2.2.length - o.2.1 := by
        unfold mvi; rw [if_pos (.inl (by omega))]
      rw [em, show g + (at_ + (o.2.2.length : Int) - (o.2.1 : Int)) = g + ((o.2.2.length : Int) - o.2.1) + at_ by omega] at h
      have hlow := mv_out after s.length at_ l (o.1 + o.2.1) (g + ((o.2.2.length : Int) - o.2.1)) H.2.2 (fun x hx => ho x (List.mem_cons_of_mem _ hx)) (by omega)
      rw [← h] at hlow
      have em2 : mvi ((o.1 : Int) + g) ((o.2.2.length : Nat) : Int) (o.2.1 : Int) X after = X + o.2.1 - o.2.2.length := by
        unfold mvi; rw [if_pos (.inl (by omega))]
      rw [if_neg (by omega), em2]
      have ih := mv_back after s at_ l (o.1 + o.2.1) (f + (o.1 - e) + o.2.2.length) (g + ((o.2.2.length : Int) - o.2.1)) X H.2.2 (fun x hx => ho x (List.mem_cons_of_mem _ hx)) h3 (by omega) h
      rw [show -g + ((o.2.1 : Int) - ((o.2.2.length : Nat) : Int)) = -(g + ((o.2.2.length : Int) - o.2.1)) by omega, show -g + (X + (o.2.1 : Int) - (o.2.2.length : Int)) = X - (g + ((o.2.2.length : Int) - o.2.1)) by omega]
      exact ih
theorem num_bk (s : List UInt8) (m : Nat) : ∀ (l : List Ed) (e f : Nat), Num s.length e l → e ≤ s.length → (m : Int) = f + ((s.length : Int) - e) + grow l → Num m f (bkN s e f l)
  | [], e, f, _, _, _ => trivial
  | o :: l, e, f, H, he, hm => by
    have h1 := H.1
    have h2 := H.2.1
    have gl := grow_low H.2.2 h2
    have eg : grow (o :: l) = (o.2.2.length : Int) - o.2.1 + grow l := rfl
    rw [eg] at hm
    refine ⟨?_, ?_, ?_⟩
    · show f ≤ f + (o.1 - e); omega
    · show f + (o.1 - e) + o.2.2.length ≤ m; omega
    · exact num_bk s m l (o.1 + o.2.1) (f + (o.1 - e) + o.2.2.length) H.2.2 h2 (by omega)
end Go.Proofs.Ytdifekkamjoepaa.Vm.Rp
namespace Go.Proofs.Ytdifekkamjoepaa.Vm.Rp
open Go Go.Proofs.Ytdifekkamjoepaa.Vm
set_option linter.unusedVariables false

/-- What Diff gives: n bytes ahead, q bytes behind. -/
structure Df (s t : List UInt8) (n q : Nat) : Prop where
  a1 : n + q ≤ s.length
  a2 : n + q ≤ t.length
  pre : s.take n = t.take n
  e1 : edg s (n : Int) = true
  e2 : edg t (n : Int) = true
  mx : ∀ j : Nat, j ≤ s.length → j ≤ t.length → s.take j = t.take j → edg s (j : Int) = true → edg t (j : Int) = true → j ≤ n
  suf : s.drop (s.length - q) = t.drop (t.length - q)
  e3 : edg s ((s.length - q : Nat) : Int) = true
  e4 : edg t ((t.length - q : Nat) : Int) = true
  my : ∀ j : Nat, n + j ≤ s.length → n + j ≤ t.length → s.drop (s.length - j) = t.drop (t.length - j) → edg s ((s.length - j : Nat) : Int) = true → edg t ((t.length - j : Nat) : Int) = true → j ≤ q
end Go.Proofs.Ytdifekkamjoepaa.Vm.Rp
