/- The plain laws of sets of bytes. -/
import Derived.Test.YtpmlimdilajidaaVm2
import Derived.Test.YtpmlimdilajidaaFns
namespace Go.Proofs.Ytpmlimdilajidaa.Vm
open Go

section
variable {α β : Type}
@[simp] theorem iteB_true (a b : Option α) : iteB true a b = a := rfl
@[simp] theorem iteB_false (a b : Option α) : iteB false a b = b := rfl
@[simp] theorem mustR_true (κ : Option α) : mustR true κ = κ := rfl
@[simp] theorem bindR_val (y : β) (κ : β → Option α) : bindR (some y) κ = κ y := rfl
theorem iteB_eq (c : Bool) (a b : Option α) : iteB c a b = if c = true then a else b := by cases c <;> rfl
theorem iteB_pos {c : Bool} (h : c = true) (a b : Option α) : iteB c a b = a := by subst h; rfl
theorem iteB_neg {c : Bool} (h : c = false) (a b : Option α) : iteB c a b = b := by subst h; rfl
theorem iteB_dec {p : Prop} [Decidable p] (a b : Option α) : iteB (decide p) a b = if p then a else b := by
  by_cases h : p
  · rw [if_pos h]; exact iteB_pos (decide_eq_true h) a b
  · rw [if_neg h]; exact iteB_neg (decide_eq_false h) a b
theorem mustR_pos {c : Bool} (h : c = true) (κ : Option α) : mustR c κ = κ := by subst h; rfl
theorem mustR_dec {p : Prop} [Decidable p] (h : p) (κ : Option α) : mustR (decide p) κ = κ := mustR_pos (decide_eq_true h) κ
theorem withinR_nat {i n : Nat} (h : i < n) (κ : Nat → Option α) : withinR (i : Int) n κ = κ i := by
  unfold withinR
  rw [mustR_dec (by omega), mustR_dec (by omega)]; rfl
theorem withinR_pos {i : Int} {n : Nat} (h0 : 0 ≤ i) (h : i < n) (κ : Nat → Option α) : withinR i n κ = κ i.toNat := by
  unfold withinR
  rw [mustR_dec h0, mustR_dec h]
theorem withinR_zero {n : Nat} (h : 0 < n) (κ : Nat → Option α) : withinR 0 n κ = κ 0 := withinR_nat (i := 0) h κ
theorem notB_eq (b : Bool) : notB b = !b := rfl
@[simp] theorem notB_true : notB true = false := rfl
@[simp] theorem notB_false : notB false = true := rfl
theorem w64_id {n : Int} (h0 : -9223372036854775808 ≤ n) (h1 : n < 9223372036854775808) : w64 n = n := by
  simp [w64, IntKind.wrap, IntKind.bits, IntKind.signed]; omega
theorem w8_id {n : Int} (h0 : 0 ≤ n) (h1 : n < 256) : w8 n = n := by
  simp [w8, IntKind.wrap, IntKind.bits, IntKind.signed]; omega
theorem byteAt_range (l : List UInt8) (i : Nat) : 0 ≤ byteAt l i ∧ byteAt l i < 256 := by
  have := (List.getD l i 0).toNat_lt
  unfold byteAt; omega
theorem w64_byte (l : List UInt8) (i : Nat) : w64 (byteAt l i) = byteAt l i := by
  have := byteAt_range l i
  exact w64_id (by omega) (by omega)

/-! ### Bits -/
theorem bits_nat (x : Nat) (h : x < 18446744073709551616) : (BitVec.ofInt 64 (x : Int)).toNat = x := by
  rw [BitVec.toNat_ofInt]
  omega
theorem w64_nat {n : Nat} (h : n < 9223372036854775808) : w64 (n : Int) = n := w64_id (by omega) (by omega)
theorem bitI_or (x y : Nat) (hx : x < 9223372036854775808) (hy : y < 9223372036854775808) : bitI .or .i64 (x : Int) (y : Int) = ((x ||| y : Nat) : Int) := by
  have h : x ||| y < 2 ^ 63 := Nat.or_lt_two_pow (by omega) (by omega)
  have e : bitI .or .i64 (x : Int) (y : Int) = w64 (((BitVec.ofInt 64 (x : Int) ||| BitVec.ofInt 64 (y : Int)).toNat : Nat) : Int) := rfl
  rw [e, BitVec.toNat_or, bits_nat x (by omega), bits_nat y (by omega)]
  exact w64_nat (by omega)
theorem bitI_and (x y : Nat) (hx : x < 9223372036854775808) (hy : y < 9223372036854775808) : bitI .and .i64 (x : Int) (y : Int) = ((x &&& y : Nat) : Int) := by
  have h : x &&& y ≤ x := Nat.and_le_left
  have e : bitI .and .i64 (x : Int) (y : Int) = w64 (((BitVec.ofInt 64 (x : Int) &&& BitVec.ofInt 64 (y : Int)).toNat : Nat) : Int) := rfl
  rw [e, BitVec.toNat_and, bits_nat x (by omega), bits_nat y (by omega)]
  exact w64_nat (by omega)
theorem or_add (a b k : Nat) (h : b < 2 ^ k) : (a * 2 ^ k) ||| b = a * 2 ^ k + b := by
  rw [← Nat.shiftLeft_eq, Nat.shiftLeft_add_eq_or_of_lt h]
theorem bitI_shl_or (n m : Nat) (hn : n < 70368744177664) (hm : m < 64) : bitI .or .i64 (shlI .i64 (n : Int) 6) (m : Int) = ((64 * n + m : Nat) : Int) := by
  have e : shlI .i64 (n : Int) 6 = ((n * 2 ^ 6 : Nat) : Int) := by
    show w64 ((n : Int) * 2 ^ 6) = _
    rw [w64_id (by omega) (by omega)]; omega
  rw [e, bitI_or _ _ (by omega) (by omega), or_add n m 6 (by omega)]
  omega
theorem shrI_nat (n k : Nat) (hk : k < 64) : shrI .i64 (n : Int) (k : Int) = ((n / 2 ^ k : Nat) : Int) := by
  show (n : Int).fdiv (2 ^ min ((k : Int).toNat) 64) = _
  have : min ((k : Int).toNat) 64 = k := by omega
  rw [this, Int.fdiv_eq_ediv_of_nonneg _ (by exact Int.pow_nonneg (by omega))]
  norm_cast
theorem and_mod (n k : Nat) : n &&& (2 ^ k - 1) = n % 2 ^ k := Nat.and_two_pow_sub_one_eq_mod n k
theorem bitI_and_u8 : ∀ c : Nat, c < 256 → bitI .and .u8 (c : Int) 63 = ((c % 64 : Nat) : Int) ∧ (decide (bitI .and .u8 (c : Int) 192 = 128) = decide (128 ≤ c ∧ c ≤ 191)) := by
  decide +kernel
theorem bytesOf_nil : bytesOf [] = [] := rfl
end
end Go.Proofs.Ytpmlimdilajidaa.Vm
namespace Go.Proofs.Ytpmlimdilajidaa.Vm.Bs
open Go Go.Proofs.Ytpmlimdilajidaa.Vm
set_option linter.unusedVariables false
set_option maxRecDepth 100000

theorem alive5 : s_law05_alive () = some (true, ()) := by kernel_rfl
theorem fuel_gt (n : Nat) (h : n < 1000000000000000) : n < fuel := by unfold fuel; omega
def V (s : List Int) : Prop := ∃ a b c d : Nat, s = [(a : Int), (b : Int), (c : Int), (d : Int)] ∧ a < 18446744073709551616 ∧ b < 18446744073709551616 ∧ c < 18446744073709551616 ∧ d < 18446744073709551616
def hs (s : List Int) (c : Nat) : Bool := (s.getD (c / 64) 0).toNat.testBit (c % 64)
theorem wrapU (n : Nat) (h : n < 18446744073709551616) : IntKind.wrap .u64 (n : Int) = (n : Int) := by
  simp [IntKind.wrap, IntKind.bits, IntKind.signed]; omega
theorem V.at {s : List Int} (h : V s) (i : Nat) (hi : i < 4) : ∃ x : Nat, s.getD i 0 = (x : Int) ∧ x < 18446744073709551616 := by
  obtain ⟨a, b, c, d, rfl, h1, h2, h3, h4⟩ := h
  match i, hi with
  | 0, _ => exact ⟨a, rfl, h1⟩
  | 1, _ => exact ⟨b, rfl, h2⟩
  | 2, _ => exact ⟨c, rfl, h3⟩
  | 3, _ => exact ⟨d, rfl, h4⟩
theorem has_p1 (k : Nat) (c : Nat) (hc : c < 256) : ∀ (m i x : Nat), 64 < m + i → i ≤ c % 64 → x < 18446744073709551616 →
    ref05_Has.p1 k m (c : Int) (x : Int) (i : Int) = some (decide (x / 2 ^ (c % 64 - i) % 2 = 1), ())
  | 0, i, x, h, hi, _ => by omega
  | m + 1, i, x, h, hi, hx => by
    have step : ref05_Has.p1 k (m + 1) (c : Int) (x : Int) (i : Int) = ref05_Has.t1 (ref05_Has.p1 k m) (ref05_Has.p2 k) (c : Int) (x : Int) (i : Int) := rfl
    rw [step]
    have e1 : Int.tmod (w64 (c : Int)) 64 = ((c % 64 : Nat) : Int) := by rw [w64_id (by omega) (by omega)]; rfl
    simp only [ref05_Has.t1, iteB_dec, e1]
    by_cases h1 : i < c % 64
    · rw [if_pos (by omega)]
      have e2 : Int.tdiv (x : Int) 2 = ((x / 2 : Nat) : Int) := rfl
      have wi : w64 ((i : Int) + 1) = ((i + 1 : Nat) : Int) := w64_id (by omega) (by omega)
      rw [e2, wrapU _ (by omega), wi, has_p1 k c hc m (i + 1) (x / 2) (by omega) (by omega) (by omega)]
      congr 2
      have : c % 64 - i = (c % 64 - (i + 1)) + 1 := by omega
      rw [this, Nat.pow_succ, Nat.mul_comm, Nat.div_div_eq_div_mul]
    · rw [if_neg (by omega)]
      have : c % 64 - i = 0 := by omega
      rw [this]
      show some (decide (Int.tmod (x : Int) 2 = 1), ()) = _
      have e3 : Int.tmod (x : Int) 2 = ((x % 2 : Nat) : Int) := rfl
      rw [e3, Nat.pow_zero, Nat.div_one]
      congr 2
      by_cases h2 : x % 2 = 1
      · rw [decide_eq_true (by omega), decide_eq_true h2]
      · rw [decide_eq_false (by omega), decide_eq_false h2]
theorem has_eq {s : List Int} (h : V s) (c : Nat) (hc : c < 256) : s_ref05_Has (s, ((c : Int), ())) = some (hs s c, ()) := by
  have st : s_ref05_Has (s, ((c : Int), ())) = ref05_Has.t0 (ref05_Has.p1 fuel fuel) s (c : Int) := rfl
  rw [st]
  have e1 : w64 (Int.tdiv (w64 (c : Int)) 64) = ((c / 64 : Nat) : Int) := by
    rw [w64_id (n := (c : Int)) (by omega) (by omega)]
    exact w64_id (n := ((c / 64 : Nat) : Int)) (by omega) (by omega)
  obtain ⟨x, hx, hxl⟩ := h.at (c / 64) (by omega)
  simp only [ref05_Has.t0, e1, withinR_nat (show c / 64 < 4 by omega), hx]
  have := has_p1 fuel c hc fuel 0 x (by have := fuel_gt 64 (by omega); omega) (by omega) hxl
  rw [Nat.sub_zero] at this
  refine this.trans ?_
  unfold hs
  rw [hx, Int.toNat_natCast, Nat.testBit_eq_decide_div_mod_eq]
/-! ### What is made of sets -/
theorem not_raw (a b c d : Int) : s_bytesets_Not ([a, b, c, d], ()) = some ([notI .u64 a, notI .u64 b, notI .u64 c, notI .u64 d], ()) := by kernel_rfl
theorem bit_max (j : Nat) (h : j < 64) : (18446744073709551615 : Nat).testBit j = true := by
  have := Nat.testBit_two_pow_sub_one 64 j
  rw [show (2 : Nat) ^ 64 - 1 = 18446744073709551615 from rfl] at this
  rw [this]; exact decide_eq_true h
theorem notI_nat (x : Nat) (h : x < 18446744073709551616) : notI .u64 (x : Int) = ((18446744073709551615 ^^^ x : Nat) : Int) ∧ 18446744073709551615 ^^^ x < 18446744073709551616 := by
  have hl : 18446744073709551615 ^^^ x < 2 ^ 64 := Nat.xor_lt_two_pow (by omega) (by omega)
  refine ⟨?_, by omega⟩
  have e : notI .u64 (x : Int) = IntKind.wrap .u64 (((BitVec.ofInt 64 ((18446744073709551615 : Nat) : Int) ^^^ BitVec.ofInt 64 (x : Int)).toNat : Nat) : Int) := rfl
  rw [e, BitVec.toNat_xor, bits_nat _ (by omega), bits_nat x h]
  exact wrapU _ (by omega)
theorem orI_nat (x y : Nat) (hx : x < 18446744073709551616) (hy : y < 18446744073709551616) : bitI .or .u64 (x : Int) (y : Int) = ((x ||| y : Nat) : Int) ∧ x ||| y < 18446744073709551616 := by
  have hl : x ||| y < 2 ^ 64 := Nat.or_lt_two_pow (by omega) (by omega)
  refine ⟨?_, by omega⟩
  have e : bitI .or .u64 (x : Int) (y : Int) = IntKind.wrap .u64 (((BitVec.ofInt 64 (x : Int) ||| BitVec.ofInt 64 (y : Int)).toNat : Nat) : Int) := rfl
  rw [e, BitVec.toNat_or, bits_nat x hx, bits_nat y hy]
  exact wrapU _ (by omega)
theorem hs4 (a b c d : Nat) (n : Nat) : hs [(a : Int), (b : Int), (c : Int), (d : Int)] n = (match n / 64 with | 0 => a | 1 => b | 2 => c | 3 => d | _ => 0).testBit (n % 64) := by
  unfold hs
  match n / 64 with
  | 0 => rfl
  | 1 => rfl
  | 2 => rfl
  | 3 => rfl
  | _ + 4 => rfl
theorem Not_eq {s : List Int} (h : V s) : ∃ s', s_bytesets_Not (s, ()) = some (s', ()) ∧ V s' ∧ ∀ n, n < 256 → hs s' n = !hs s n := by
  obtain ⟨a, b, c, d, rfl, h1, h2, h3, h4⟩ := h
  obtain ⟨a1, a2⟩ := notI_nat a h1
  obtain ⟨b1, b2⟩ := notI_nat b h2
  obtain ⟨c1, c2⟩ := notI_nat c h3
  obtain ⟨d1, d2⟩ := notI_nat d h4
  refine ⟨_, not_raw _ _ _ _, ⟨_, _, _, _, by rw [a1, b1, c1, d1], a2, b2, c2, d2⟩, fun n hn => ?_⟩
  rw [a1, b1, c1, d1, hs4, hs4]
  have hm : n % 64 < 64 := Nat.mod_lt _ (by omega)
  have hq : n / 64 < 4 := by omega
  have key : ∀ x : Nat, (18446744073709551615 ^^^ x).testBit (n % 64) = !x.testBit (n % 64) := fun x => by rw [Nat.testBit_xor, bit_max _ hm, Bool.true_xor]
  match n / 64, hq with
  | 0, _ => exact key a
  | 1, _ => exact key b
  | 2, _ => exact key c
  | 3, _ => exact key d
theorem or_step (A : bytesets_Or.T1) (x8 : List (List Int)) (x9 x10 : Int) (x14 m2 : List Int) (a b c d : Int) :
    bytesets_Or.p2 fuel A fuel x8 x9 x10 x14 0 m2 [a, b, c, d] = A x8 x9 (w64 (x10 + 1)) m2 [bitI .or .u64 a (List.getD x14 0 0), bitI .or .u64 b (List.getD x14 1 0), bitI .or .u64 c (List.getD x14 2 0), bitI .or .u64 d (List.getD x14 3 0)] := by kernel_rfl
theorem or_two {s t : List Int} (h : V s) (g : V t) : V [bitI .or .u64 (s.getD 0 0) (t.getD 0 0), bitI .or .u64 (s.getD 1 0) (t.getD 1 0), bitI .or .u64 (s.getD 2 0) (t.getD 2 0), bitI .or .u64 (s.getD 3 0) (t.getD 3 0)] ∧
    ∀ n, n < 256 → hs [bitI .or .u64 (s.getD 0 0) (t.getD 0 0), bitI .or .u64 (s.getD 1 0) (t.getD 1 0), bitI .or .u64 (s.getD 2 0) (t.getD 2 0), bitI .or .u64 (s.getD 3 0) (t.getD 3 0)] n = (hs s n || hs t n) := by
  obtain ⟨a, b, c, d, rfl, h1, h2, h3, h4⟩ := h
  obtain ⟨p, q, r, u, rfl, g1, g2, g3, g4⟩ := g
  obtain ⟨a1, a2⟩ := orI_nat a p h1 g1
  obtain ⟨b1, b2⟩ := orI_nat b q h2 g2
  obtain ⟨c1, c2⟩ := orI_nat c r h3 g3
  obtain ⟨d1, d2⟩ := orI_nat d u h4 g4
  have e : [bitI .or .u64 ([(a : Int), (b : Int), (c : Int), (d : Int)].getD 0 0) ([(p : Int), (q : Int), (r : Int), (u : Int)].getD 0 0), bitI .or .u64 ([(a : Int), (b : Int), (c : Int), (d : Int)].getD 1 0) ([(p : Int), (q : Int), (r : Int), (u : Int)].getD 1 0), bitI .or .u64 ([(a : Int), (b : Int), (c : Int), (d : Int)].getD 2 0) ([(p : Int), (q : Int), (r : Int), (u : Int)].getD 2 0), bitI .or .u64 ([(a : Int), (b : Int), (c : Int), (d : Int)].getD 3 0) ([(p : Int), (q : Int), (r : Int), (u : Int)].getD 3 0)] = [((a ||| p : Nat) : Int), ((b ||| q : Nat) : Int), ((c ||| r : Nat) : Int), ((d ||| u : Nat) : Int)] := by
    show [bitI .or .u64 (a : Int) (p : Int), bitI .or .u64 (b : Int) (q : Int), bitI .or .u64 (c : Int) (r : Int), bitI .or .u64 (d : Int) (u : Int)] = _
    rw [a1, b1, c1, d1]
  rw [e]
  refine ⟨⟨_, _, _, _, rfl, a2, b2, c2, d2⟩, fun n hn => ?_⟩
  rw [hs4, hs4, hs4]
  have hq : n / 64 < 4 := by omega
  match n / 64, hq with
  | 0, _ => exact Nat.testBit_or ..
  | 1, _ => exact Nat.testBit_or ..
  | 2, _ => exact Nat.testBit_or ..
  | 3, _ => exact Nat.testBit_or ..
theorem or_p1 (l : List (List Int)) (hl : l.length < 100000) (hV : ∀ s ∈ l, V s) (m2 : List Int) : ∀ (m i : Nat) (acc : List Int), l.length < m + i → i ≤ l.length → V acc →
    ∃ r, bytesets_Or.p1 fuel m l (l.length : Int) (i : Int) m2 acc = some (r, ()) ∧ V r ∧ ∀ n, n < 256 → hs r n = (hs acc n || (l.drop i).any (fun s => hs s n))
  | 0, i, acc, h, hi, _ => by omega
  | m + 1, i, acc, h, hi, ha => by
    have step : bytesets_Or.p1 fuel (m + 1) l (l.length : Int) (i : Int) m2 acc = bytesets_Or.t1 (bytesets_Or.p2 fuel (bytesets_Or.p1 fuel m) fuel) (bytesets_Or.p3 fuel) l (l.length : Int) (i : Int) m2 acc := rfl
    rw [step]
    simp only [bytesets_Or.t1, iteB_dec]
    by_cases c : i < l.length
    · rw [if_pos (by omega), withinR_nat c]
      have hg : l.getD i (List.replicate 4 (0 : Int)) = l[i] := by simp [c]
      have hVi : V l[i] := hV _ (List.getElem_mem c)
      have wi : w64 ((i : Int) + 1) = ((i + 1 : Nat) : Int) := w64_id (by omega) (by omega)
      obtain ⟨o1, o2⟩ := or_two ha hVi
      obtain ⟨a, b, cc, d, rfl, _⟩ := ha
      rw [hg, or_step, wi]
      obtain ⟨r, r1, r2, r3⟩ := or_p1 l hl hV m2 m (i + 1) _ (by omega) (by omega) o1
      refine ⟨r, r1, r2, fun n hn => ?_⟩
      rw [r3 n hn, o2 n hn, List.drop_eq_getElem_cons c, List.any_cons, Bool.or_assoc]
    · rw [if_neg (by omega), List.drop_of_length_le (by omega)]
      exact ⟨acc, rfl, ha, fun n hn => by simp⟩
theorem V0 : V (List.replicate 4 (0 : Int)) := ⟨0, 0, 0, 0, rfl, by omega, by omega, by omega, by omega⟩
theorem hs0 (n : Nat) : hs (List.replicate 4 (0 : Int)) n = false := by
  rw [show List.replicate 4 (0 : Int) = [((0 : Nat) : Int), ((0 : Nat) : Int), ((0 : Nat) : Int), ((0 : Nat) : Int)] from rfl, hs4]
  have : (match n / 64 with | 0 => 0 | 1 => 0 | 2 => 0 | 3 => 0 | _ => 0 : Nat) = 0 := by split <;> rfl
  rw [this, Nat.zero_testBit]
theorem Or_eq (l : List (List Int)) (hl : l.length < 100000) (hV : ∀ s ∈ l, V s) : ∃ r, s_bytesets_Or (l, ()) = some (r, ()) ∧ V r ∧ ∀ n, n < 256 → hs r n = l.any (fun s => hs s n) := by
  have st : s_bytesets_Or (l, ()) = bytesets_Or.p1 fuel fuel l (l.length : Int) ((0 : Nat) : Int) (List.replicate 4 (0 : Int)) (List.replicate 4 (0 : Int)) := rfl
  obtain ⟨r, r1, r2, r3⟩ := or_p1 l hl hV (List.replicate 4 (0 : Int)) fuel 0 _ (by have := fuel_gt l.length (by omega); omega) (by omega) V0
  exact ⟨r, st.trans r1, r2, fun n hn => by rw [r3 n hn, hs0, Bool.false_or, List.drop_zero]⟩
theorem And_eq {s t : List Int} (h : V s) (g : V t) : ∃ r, s_bytesets_And (s, (t, ())) = some (r, ()) ∧ V r ∧ ∀ n, n < 256 → hs r n = (hs s n && hs t n) := by
  have st : s_bytesets_And (s, (t, ())) = bytesets_And.t0 s t := rfl
  obtain ⟨s1, a1, a2, a3⟩ := Not_eq h
  obtain ⟨t1, b1, b2, b3⟩ := Not_eq g
  obtain ⟨o, c1, c2, c3⟩ := Or_eq [s1, t1] (by simp) (fun x hx => by
    rcases List.mem_cons.1 hx with rfl | hx
    · exact a2
    · rw [List.mem_singleton.1 hx]; exact b2)
  obtain ⟨r, d1, d2, d3⟩ := Not_eq c2
  refine ⟨r, ?_, d2, fun n hn => ?_⟩
  · rw [st]
    simp only [bytesets_And.t0, a1, b1, c1, d1, bindR]
  · rw [d3 n hn, c3 n hn]
    simp [a3 n hn, b3 n hn]
theorem Less_eq {s t : List Int} (h : V s) (g : V t) : ∃ r, s_bytesets_Less (s, (t, ())) = some (r, ()) ∧ V r ∧ ∀ n, n < 256 → hs r n = (hs s n && !hs t n) := by
  have st : s_bytesets_Less (s, (t, ())) = bytesets_Less.t0 s t := rfl
  obtain ⟨t1, b1, b2, b3⟩ := Not_eq g
  obtain ⟨r, c1, c2, c3⟩ := And_eq h b2
  refine ⟨r, ?_, c2, fun n hn => ?_⟩
  · rw [st]
    simp only [bytesets_Less.t0, b1, c1, bindR]
  · rw [c3 n hn, b3 n hn]
theorem join_p1 (l : List (List Int)) (hl : l.length ≤ 1000) (hV : ∀ s ∈ l, V s) (c : Nat) (hc : c < 256) (a b : List Int) : ∀ (m i : Nat) (acc : Bool), l.length < m + i → i ≤ l.length →
    law05_BytesetsJoin.p1 fuel m l (c : Int) acc (i : Int) a b = law05_BytesetsJoin.p3 fuel l (c : Int) (acc || (l.drop i).any (fun s => hs s c)) a b
  | 0, i, acc, h, hi => by omega
  | m + 1, i, acc, h, hi => by
    have step : law05_BytesetsJoin.p1 fuel (m + 1) l (c : Int) acc (i : Int) a b = law05_BytesetsJoin.t1 (law05_BytesetsJoin.p2 fuel (law05_BytesetsJoin.p1 fuel m)) (law05_BytesetsJoin.p3 fuel) l (c : Int) acc (i : Int) a b := rfl
    rw [step]
    simp only [law05_BytesetsJoin.t1, iteB_dec]
    by_cases h1 : i < l.length
    · have wi : w64 ((i : Int) + 1) = ((i + 1 : Nat) : Int) := w64_id (by omega) (by omega)
      have nxt : ∀ z, law05_BytesetsJoin.p2 fuel (law05_BytesetsJoin.p1 fuel m) l (c : Int) z (i : Int) a b = law05_BytesetsJoin.p1 fuel m l (c : Int) z ((i + 1 : Nat) : Int) a b := fun z => by
        show law05_BytesetsJoin.p1 fuel m l (c : Int) z (w64 ((i : Int) + 1)) a b = _
        rw [wi]
      have hg : l.getD i (List.replicate 4 (0 : Int)) = l[i] := by simp [h1]
      have hVi : V l[i] := hV _ (List.getElem_mem h1)
      rw [if_pos (by omega), List.drop_eq_getElem_cons h1, List.any_cons, ← Bool.or_assoc]
      have ih := fun z => join_p1 l hl hV c hc a b m (i + 1) z (by omega) (by omega)
      cases acc with
      | true => rw [iteB_pos rfl, nxt, ih]; simp
      | false => rw [iteB_neg rfl, withinR_nat h1, hg, has_eq hVi c hc]; show law05_BytesetsJoin.p2 fuel (law05_BytesetsJoin.p1 fuel m) l (c : Int) (hs l[i] c) (i : Int) a b = _; rw [nxt, ih]; simp
    · rw [if_neg (by omega), List.drop_of_length_le (by omega)]; simp
theorem joinLaw (l : List (List Int)) (a b : List Int) (c : Int) (hV : ∀ s ∈ l, V s) (ha : V a) (hb : V b) (h0 : 0 ≤ c) (h1 : c < 256) : s_law05_BytesetsJoin (l, (a, (b, (c, ())))) = some (true, ()) := by
  obtain ⟨n, rfl⟩ : ∃ n : Nat, c = n := ⟨c.toNat, by omega⟩
  have hn : n < 256 := by omega
  have st : s_law05_BytesetsJoin (l, (a, (b, ((n : Int), ())))) = law05_BytesetsJoin.t0 (law05_BytesetsJoin.p1 fuel fuel) l a b (n : Int) := rfl
  rw [st]
  simp only [law05_BytesetsJoin.t0, alive5, bindR, notB_true, iteB_neg, iteB_dec]
  by_cases hl : (30 : Int) < (l.length : Int)
  · rw [if_pos hl]
  · rw [if_neg hl]
    have hl' : l.length ≤ 1000 := by omega
    refine Eq.trans (join_p1 l hl' hV n hn a b fuel 0 false (by have := fuel_gt l.length (by omega); omega) (by omega)) ?_
    obtain ⟨o, o1, o2, o3⟩ := Or_eq l (by omega) hV
    obtain ⟨d, d1, d2, d3⟩ := And_eq ha hb
    obtain ⟨e, e1, e2, e3⟩ := Not_eq ha
    obtain ⟨f, f1, f2, f3⟩ := Less_eq ha hb
    rw [Bool.false_or, List.drop_zero, ← o3 n hn]
    show law05_BytesetsJoin.t3 l (n : Int) (hs o n) a b = _
    simp only [law05_BytesetsJoin.t3, has_eq ha n hn, has_eq hb n hn, o1, d1, e1, f1, has_eq o2 n hn, has_eq d2 n hn, has_eq e2 n hn, has_eq f2 n hn, bindR, d3 n hn, e3 n hn, f3 n hn]
    cases hs o n <;> cases hs a n <;> cases hs b n <;> rfl
end Go.Proofs.Ytpmlimdilajidaa.Vm.Bs
namespace Go.Proofs.Ytpmlimdilajidaa.Vm.Bs
open Go Go.Proofs.Ytpmlimdilajidaa.Vm
theorem u64_nat {n : Int} (h : wfInt .u64 n) : ∃ m : Nat, n = (m : Int) ∧ m < 18446744073709551616 := by
  simp only [wfInt, IntKind.min, IntKind.max, IntKind.signed, IntKind.bits] at h
  simp at h
  exact ⟨n.toNat, by omega, by omega⟩
theorem vS {s : List Int} (h : Wf cx (.agg (.arr 4 (.int .u64))) s) : V s := by
  obtain ⟨h1, h2⟩ : s.length = 4 ∧ ∀ y : Int, List.Mem y s → wfInt .u64 y := h
  match s, h1 with
  | [a, b, c, d], _ =>
    obtain ⟨a', rfl, ha⟩ := u64_nat (h2 a (.head _))
    obtain ⟨b', rfl, hb⟩ := u64_nat (h2 b (.tail _ (.head _)))
    obtain ⟨c', rfl, hc⟩ := u64_nat (h2 c (.tail _ (.tail _ (.head _))))
    obtain ⟨d', rfl, hd⟩ := u64_nat (h2 d (.tail _ (.tail _ (.tail _ (.head _)))))
    exact ⟨a', b', c', d', rfl, ha, hb, hc, hd⟩
theorem vL {l : List (List Int)} (h : Wf cx (.slice 25 (.agg (.arr 4 (.int .u64)))) l) : ∀ s ∈ l, V s := fun s hs => vS (h.2 s hs)
theorem f_join : F_law05_BytesetsJoin.f = s_law05_BytesetsJoin := by kernel_rfl
end Go.Proofs.Ytpmlimdilajidaa.Vm.Bs
