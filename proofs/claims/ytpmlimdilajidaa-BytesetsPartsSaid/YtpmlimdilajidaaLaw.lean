/- The plain laws of sets of bytes. -/
import Derived.Test.YtpmlimdilajidaaVm2
import Derived.Test.YtpmlimdilajidaaFns
namespace Go.Proofs.Ytpmlimdilajidaa.Vm
open Go

section
variable {α β : Type}
@[simp] theorem iteB_true (a b : Option α) : iteB true a b = a := rfl
@[simp] theorem iteB_false (a b : Option α) : iteB false a b = b := rfl
@[simp] theorem mustR_true (κ : Option α) : mustR true κ = κ := rfl
@[simp] theorem bindR_val (y : β) (κ : β → Option α) : bindR (some y) κ = κ y := rfl
theorem iteB_eq (c : Bool) (a b : Option α) : iteB c a b = if c = true then a else b := by cases c <;> rfl
theorem iteB_pos {c : Bool} (h : c = true) (a b : Option α) : iteB c a b = a := by subst h; rfl
theorem iteB_neg {c : Bool} (h : c = false) (a b : Option α) : iteB c a b = b := by subst h; rfl
theorem iteB_dec {p : Prop} [Decidable p] (a b : Option α) : iteB (decide p) a b = if p then a else b := by
  by_cases h : p
  · rw [if_pos h]; exact iteB_pos (decide_eq_true h) a b
  · rw [if_neg h]; exact iteB_neg (decide_eq_false h) a b
theorem mustR_pos {c : Bool} (h : c = true) (κ : Option α) : mustR c κ = κ := by subst h; rfl
theorem mustR_dec {p : Prop} [Decidable p] (h : p) (κ : Option α) : mustR (decide p) κ = κ := mustR_pos (decide_eq_true h) κ
theorem withinR_nat {i n : Nat} (h : i < n) (κ : Nat → Option α) : withinR (i : Int) n κ = κ i := by
  unfold withinR
  rw [mustR_dec (by omega), mustR_dec (by omega)]; rfl
theorem withinR_pos {i : Int} {n : Nat} (h0 : 0 ≤ i) (h : i < n) (κ : Nat → Option α) : withinR i n κ = κ i.toNat := by
  unfold withinR
  rw [mustR_dec h0, mustR_dec h]
theorem withinR_zero {n : Nat} (h : 0 < n) (κ : Nat → Option α) : withinR 0 n κ = κ 0 := withinR_nat (i := 0) h κ
theorem notB_eq (b : Bool) : notB b = !b := rfl
@[simp] theorem notB_true : notB true = false := rfl
@[simp] theorem notB_false : notB false = true := rfl
theorem w64_id {n : Int} (h0 : -9223372036854775808 ≤ n) (h1 : n < 9223372036854775808) : w64 n = n := by
  simp [w64, IntKind.wrap, IntKind.bits, IntKind.signed]; omega
theorem w8_id {n : Int} (h0 : 0 ≤ n) (h1 : n < 256) : w8 n = n := by
  simp [w8, IntKind.wrap, IntKind.bits, IntKind.signed]; omega
theorem byteAt_range (l : List UInt8) (i : Nat) : 0 ≤ byteAt l i ∧ byteAt l i < 256 := by
  have := (List.getD l i 0).toNat_lt
  unfold byteAt; omega
theorem w64_byte (l : List UInt8) (i : Nat) : w64 (byteAt l i) = byteAt l i := by
  have := byteAt_range l i
  exact w64_id (by omega) (by omega)

/-! ### Bits -/
theorem bits_nat (x : Nat) (h : x < 18446744073709551616) : (BitVec.ofInt 64 (x : Int)).toNat = x := by
  rw [BitVec.toNat_ofInt]
  omega
theorem w64_nat {n : Nat} (h : n < 9223372036854775808) : w64 (n : Int) = n := w64_id (by omega) (by omega)
theorem bitI_or (x y : Nat) (hx : x < 9223372036854775808) (hy : y < 9223372036854775808) : bitI .or .i64 (x : Int) (y : Int) = ((x ||| y : Nat) : Int) := by
  have h : x ||| y < 2 ^ 63 := Nat.or_lt_two_pow (by omega) (by omega)
  have e : bitI .or .i64 (x : Int) (y : Int) = w64 (((BitVec.ofInt 64 (x : Int) ||| BitVec.ofInt 64 (y : Int)).toNat : Nat) : Int) := rfl
  rw [e, BitVec.toNat_or, bits_nat x (by omega), bits_nat y (by omega)]
  exact w64_nat (by omega)
theorem bitI_and (x y : Nat) (hx : x < 9223372036854775808) (hy : y < 9223372036854775808) : bitI .and .i64 (x : Int) (y : Int) = ((x &&& y : Nat) : Int) := by
  have h : x &&& y ≤ x := Nat.and_le_left
  have e : bitI .and .i64 (x : Int) (y : Int) = w64 (((BitVec.ofInt 64 (x : Int) &&& BitVec.ofInt 64 (y : Int)).toNat : Nat) : Int) := rfl
  rw [e, BitVec.toNat_and, bits_nat x (by omega), bits_nat y (by omega)]
  exact w64_nat (by omega)
theorem or_add (a b k : Nat) (h : b < 2 ^ k) : (a * 2 ^ k) ||| b = a * 2 ^ k + b := by
  rw [← Nat.shiftLeft_eq, Nat.shiftLeft_add_eq_or_of_lt h]
theorem bitI_shl_or (n m : Nat) (hn : n < 70368744177664) (hm : m < 64) : bitI .or .i64 (shlI .i64 (n : Int) 6) (m : Int) = ((64 * n + m : Nat) : Int) := by
  have e : shlI .i64 (n : Int) 6 = ((n * 2 ^ 6 : Nat) : Int) := by
    show w64 ((n : Int) * 2 ^ 6) = _
    rw [w64_id (by omega) (by omega)]; omega
  rw [e, bitI_or _ _ (by omega) (by omega), or_add n m 6 (by omega)]
  omega
theorem shrI_nat (n k : Nat) (hk : k < 64) : shrI .i64 (n : Int) (k : Int) = ((n / 2 ^ k : Nat) : Int) := by
  show (n : Int).fdiv (2 ^ min ((k : Int).toNat) 64) = _
  have : min ((k : Int).toNat) 64 = k := by omega
  rw [this, Int.fdiv_eq_ediv_of_nonneg _ (by exact Int.pow_nonneg (by omega))]
  norm_cast
theorem and_mod (n k : Nat) : n &&& (2 ^ k - 1) = n % 2 ^ k := Nat.and_two_pow_sub_one_eq_mod n k
theorem bitI_and_u8 : ∀ c : Nat, c < 256 → bitI .and .u8 (c : Int) 63 = ((c % 64 : Nat) : Int) ∧ (decide (bitI .and .u8 (c : Int) 192 = 128) = decide (128 ≤ c ∧ c ≤ 191)) := by
  decide +kernel
theorem bytesOf_nil : bytesOf [] = [] := rfl
end
end Go.Proofs.Ytpmlimdilajidaa.Vm
namespace Go.Proofs.Ytpmlimdilajidaa.Vm.Bs
open Go Go.Proofs.Ytpmlimdilajidaa.Vm
set_option linter.unusedVariables false
set_option maxRecDepth 100000

theorem alive5 : s_law05_alive () = some (true, ()) := by kernel_rfl
theorem fuel_gt (n : Nat) (h : n < 1000000000000000) : n < fuel := by unfold fuel; omega
def V (s : List Int) : Prop := ∃ a b c d : Nat, s = [(a : Int), (b : Int), (c : Int), (d : Int)] ∧ a < 18446744073709551616 ∧ b < 18446744073709551616 ∧ c < 18446744073709551616 ∧ d < 18446744073709551616
def hs (s : List Int) (c : Nat) : Bool := (s.getD (c / 64) 0).toNat.testBit (c % 64)
theorem wrapU (n : Nat) (h : n < 18446744073709551616) : IntKind.wrap .u64 (n : Int) = (n : Int) := by
  simp [IntKind.wrap, IntKind.bits, IntKind.signed]; omega
theorem V.at {s : List Int} (h : V s) (i : Nat) (hi : i < 4) : ∃ x : Nat, s.getD i 0 = (x : Int) ∧ x < 18446744073709551616 := by
  obtain ⟨a, b, c, d, rfl, h1, h2, h3, h4⟩ := h
  match i, hi with
  | 0, _ => exact ⟨a, rfl, h1⟩
  | 1, _ => exact ⟨b, rfl, h2⟩
  | 2, _ => exact ⟨c, rfl, h3⟩
  | 3, _ => exact ⟨d, rfl, h4⟩
theorem has_p1 (k : Nat) (c : Nat) (hc : c < 256) : ∀ (m i x : Nat), 64 < m + i → i ≤ c % 64 → x < 18446744073709551616 →
    ref05_Has.p1 k m (c : Int) (x : Int) (i : Int) = some (decide (x / 2 ^ (c % 64 - i) % 2 = 1), ())
  | 0, i, x, h, hi, _ => by omega
  | m + 1, i, x, h, hi, hx => by
    have step : ref05_Has.p1 k (m + 1) (c : Int) (x : Int) (i : Int) = ref05_Has.t1 (ref05_Has.p1 k m) (ref05_Has.p2 k) (c : Int) (x : Int) (i : Int) := rfl
    rw [step]
    have e1 : Int.tmod (w64 (c : Int)) 64 = ((c % 64 : Nat) : Int) := by rw [w64_id (by omega) (by omega)]; rfl
    simp only [ref05_Has.t1, iteB_dec, e1]
    by_cases h1 : i < c % 64
    · rw [if_pos (by omega)]
      have e2 : Int.tdiv (x : Int) 2 = ((x / 2 : Nat) : Int) := rfl
      have wi : w64 ((i : Int) + 1) = ((i + 1 : Nat) : Int) := w64_id (by omega) (by omega)
      rw [e2, wrapU _ (by omega), wi, has_p1 k c hc m (i + 1) (x / 2) (by omega) (by omega) (by omega)]
      congr 2
      have : c % 64 - i = (c % 64 - (i + 1)) + 1 := by omega
      rw [this, Nat.pow_succ, Nat.mul_comm, Nat.div_div_eq_div_mul]
    · rw [if_neg (by omega)]
      have : c % 64 - i = 0 := by omega
      rw [this]
      show some (decide (Int.tmod (x : Int) 2 = 1), ()) = _
      have e3 : Int.tmod (x : Int) 2 = ((x % 2 : Nat) : Int) := rfl
      rw [e3, Nat.pow_zero, Nat.div_one]
      congr 2
      by_cases h2 : x % 2 = 1
      · rw [decide_eq_true (by omega), decide_eq_true h2]
      · rw [decide_eq_false (by omega), decide_eq_false h2]
theorem has_eq {s : List Int} (h : V s) (c : Nat) (hc : c < 256) : s_ref05_Has (s, ((c : Int), ())) = some (hs s c, ()) := by
  have st : s_ref05_Has (s, ((c : Int), ())) = ref05_Has.t0 (ref05_Has.p1 fuel fuel) s (c : Int) := rfl
  rw [st]
  have e1 : w64 (Int.tdiv (w64 (c : Int)) 64) = ((c / 64 : Nat) : Int) := by
    rw [w64_id (n := (c : Int)) (by omega) (by omega)]
    exact w64_id (n := ((c / 64 : Nat) : Int)) (by omega) (by omega)
  obtain ⟨x, hx, hxl⟩ := h.at (c / 64) (by omega)
  simp only [ref05_Has.t0, e1, withinR_nat (show c / 64 < 4 by omega), hx]
  have := has_p1 fuel c hc fuel 0 x (by have := fuel_gt 64 (by omega); omega) (by omega) hxl
  rw [Nat.sub_zero] at this
  refine this.trans ?_
  unfold hs
  rw [hx, Int.toNat_natCast, Nat.testBit_eq_decide_div_mod_eq]
/-! ### What is made of sets -/
theorem not_raw (a b c d : Int) : s_bytesets_Not ([a, b, c, d], ()) = some ([notI .u64 a, notI .u64 b, notI .u64 c, notI .u64 d], ()) := by kernel_rfl
theorem bit_max (j : Nat) (h : j < 64) : (18446744073709551615 : Nat).testBit j = true := by
  have := Nat.testBit_two_pow_sub_one 64 j
  rw [show (2 : Nat) ^ 64 - 1 = 18446744073709551615 from rfl] at this
  rw [this]; exact decide_eq_true h
theorem notI_nat (x : Nat) (h : x < 18446744073709551616) : notI .u64 (x : Int) = ((18446744073709551615 ^^^ x : Nat) : Int) ∧ 18446744073709551615 ^^^ x < 18446744073709551616 := by
  have hl : 18446744073709551615 ^^^ x < 2 ^ 64 := Nat.xor_lt_two_pow (by omega) (by omega)
  refine ⟨?_, by omega⟩
  have e : notI .u64 (x : Int) = IntKind.wrap .u64 (((BitVec.ofInt 64 ((18446744073709551615 : Nat) : Int) ^^^ BitVec.ofInt 64 (x : Int)).toNat : Nat) : Int) := rfl
  rw [e, BitVec.toNat_xor, bits_nat _ (by omega), bits_nat x h]
  exact wrapU _ (by omega)
theorem orI_nat (x y : Nat) (hx : x < 18446744073709551616) (hy : y < 18446744073709551616) : bitI .or .u64 (x : Int) (y : Int) = ((x ||| y : Nat) : Int) ∧ x ||| y < 18446744073709551616 := by
  have hl : x ||| y < 2 ^ 64 := Nat.or_lt_two_pow (by omega) (by omega)
  refine ⟨?_, by omega⟩
  have e : bitI .or .u64 (x : Int) (y : Int) = IntKind.wrap .u64 (((BitVec.ofInt 64 (x : Int) ||| BitVec.ofInt 64 (y : Int)).toNat : Nat) : Int) := rfl
  rw [e, BitVec.toNat_or, bits_nat x hx, bits_nat y hy]
  exact wrapU _ (by omega)
theorem hs4 (a b c d : Nat) (n : Nat) : hs [(a : Int), (b : Int), (c : Int), (d : Int)] n = (match n / 64 with | 0 => a | 1 => b | 2 => c | 3 => d | _ => 0).testBit (n % 64) := by
  unfold hs
  match n / 64 with
  | 0 => rfl
  | 1 => rfl
  | 2 => rfl
  | 3 => rfl
  | _ + 4 => rfl
theorem Not_eq {s : List Int} (h : V s) : ∃ s', s_bytesets_Not (s, ()) = some (s', ()) ∧ V s' ∧ ∀ n, n < 256 → hs s' n = !hs s n := by
  obtain ⟨a, b, c, d, rfl, h1, h2, h3, h4⟩ := h
  obtain ⟨a1, a2⟩ := notI_nat a h1
  obtain ⟨b1, b2⟩ := notI_nat b h2
  obtain ⟨c1, c2⟩ := notI_nat c h3
  obtain ⟨d1, d2⟩ := notI_nat d h4
  refine ⟨_, not_raw _ _ _ _, ⟨_, _, _, _, by rw [a1, b1, c1, d1], a2, b2, c2, d2⟩, fun n hn => ?_⟩
  rw [a1, b1, c1, d1, hs4, hs4]
  have hm : n % 64 < 64 := Nat.mod_lt _ (by omega)
  have hq : n / 64 < 4 := by omega
  have key : ∀ x : Nat, (18446744073709551615 ^^^ x).testBit (n % 64) = !x.testBit (n % 64) := fun x => by rw [Nat.testBit_xor, bit_max _ hm, Bool.true_xor]
  match n / 64, hq with
  | 0, _ => exact key a
  | 1, _ => exact key b
  | 2, _ => exact key c
  | 3, _ => exact key d
theorem or_step (A : bytesets_Or.T1) (x8 : List (List Int)) (x9 x10 : Int) (x14 m2 : List Int) (a b c d : Int) :
    bytesets_Or.p2 fuel A fuel x8 x9 x10 x14 0 m2 [a, b, c, d] = A x8 x9 (w64 (x10 + 1)) m2 [bitI .or .u64 a (List.getD x14 0 0), bitI .or .u64 b (List.getD x14 1 0), bitI .or .u64 c (List.getD x14 2 0), bitI .or .u64 d (List.getD x14 3 0)] := by kernel_rfl
theorem or_two {s t : List Int} (h : V s) (g : V t) : V [bitI .or .u64 (s.getD 0 0) (t.getD 0 0), bitI .or .u64 (s.getD 1 0) (t.getD 1 0), bitI .or .u64 (s.getD 2 0) (t.getD 2 0), bitI .or .u64 (s.getD 3 0) (t.getD 3 0)] ∧
    ∀ n, n < 256 → hs [bitI .or .u64 (s.getD 0 0) (t.getD 0 0), bitI .or .u64 (s.getD 1 0) (t.getD 1 0), bitI .or .u64 (s.getD 2 0) (t.getD 2 0), bitI .or .u64 (s.getD 3 0) (t.getD 3 0)] n = (hs s n || hs t n) := by
  obtain ⟨a, b, c, d, rfl, h1, h2, h3, h4⟩ := h
  obtain ⟨p, q, r, u, rfl, g1, g2, g3, g4⟩ := g
  obtain ⟨a1, a2⟩ := orI_nat a p h1 g1
  obtain ⟨b1, b2⟩ := orI_nat b q h2 g2
  obtain ⟨c1, c2⟩ := orI_nat c r h3 g3
  obtain ⟨d1, d2⟩ := orI_nat d u h4 g4
  have e : [bitI .or .u64 ([(a : Int), (b : Int), (c : Int), (d : Int)].getD 0 0) ([(p : Int), (q : Int), (r : Int), (u : Int)].getD 0 0), bitI .or .u64 ([(a : Int), (b : Int), (c : Int), (d : Int)].getD 1 0) ([(p : Int), (q : Int), (r : Int), (u : Int)].getD 1 0), bitI .or .u64 ([(a : Int), (b : Int), (c : Int), (d : Int)].getD 2 0) ([(p : Int), (q : Int), (r : Int), (u : Int)].getD 2 0), bitI .or .u64 ([(a : Int), (b : Int), (c : Int), (d : Int)].getD 3 0) ([(p : Int), (q : Int), (r : Int), (u : Int)].getD 3 0)] = [((a ||| p : Nat) : Int), ((b ||| q : Nat) : Int), ((c ||| r : Nat) : Int), ((d ||| u : Nat) : Int)] := by
    show [bitI .or .u64 (a : Int) (p : Int), bitI .or .u64 (b : Int) (q : Int), bitI .or .u64 (c : Int) (r : Int), bitI .or .u64 (d : Int) (u : Int)] = _
    rw [a1, b1, c1, d1]
  rw [e]
  refine ⟨⟨_, _, _, _, rfl, a2, b2, c2, d2⟩, fun n hn => ?_⟩
  rw [hs4, hs4, hs4]
  have hq : n / 64 < 4 := by omega
  match n / 64, hq with
  | 0, _ => exact Nat.testBit_or ..
  | 1, _ => exact Nat.testBit_or ..
  | 2, _ => exact Nat.testBit_or ..
  | 3, _ => exact Nat.testBit_or ..
theorem or_p1 (l : List (List Int)) (hl : l.length < 100000) (hV : ∀ s ∈ l, V s) (m2 : List Int) : ∀ (m i : Nat) (acc : List Int), l.length < m + i → i ≤ l.length → V acc →
    ∃ r, bytesets_Or.p1 fuel m l (l.length : Int) (i : Int) m2 acc = some (r, ()) ∧ V r ∧ ∀ n, n < 256 → hs r n = (hs acc n || (l.drop i).any (fun s => hs s n))
  | 0, i, acc, h, hi, _ => by omega
  | m + 1, i, acc, h, hi, ha => by
    have step : bytesets_Or.p1 fuel (m + 1) l (l.length : Int) (i : Int) m2 acc = bytesets_Or.t1 (bytesets_Or.p2 fuel (bytesets_Or.p1 fuel m) fuel) (bytesets_Or.p3 fuel) l (l.length : Int) (i : Int) m2 acc := rfl
    rw [step]
    simp only [bytesets_Or.t1, iteB_dec]
    by_cases c : i < l.length
    · rw [if_pos (by omega), withinR_nat c]
      have hg : l.getD i (List.replicate 4 (0 : Int)) = l[i] := by simp [c]
      have hVi : V l[i] := hV _ (List.getElem_mem c)
      have wi : w64 ((i : Int) + 1) = ((i + 1 : Nat) : Int) := w64_id (by omega) (by omega)
      obtain ⟨o1, o2⟩ := or_two ha hVi
      obtain ⟨a, b, cc, d, rfl, _⟩ := ha
      rw [hg, or_step, wi]
      obtain ⟨r, r1, r2, r3⟩ := or_p1 l hl hV m2 m (i + 1) _ (by omega) (by omega) o1
      refine ⟨r, r1, r2, fun n hn => ?_⟩
      rw [r3 n hn, o2 n hn, List.drop_eq_getElem_cons c, List.any_cons, Bool.or_assoc]
    · rw [if_neg (by omega), List.drop_of_length_le (by omega)]
      exact ⟨acc, rfl, ha, fun n hn => by simp⟩
theorem V0 : V (List.replicate 4 (0 : Int)) := ⟨0, 0, 0, 0, rfl, by omega, by omega, by omega, by omega⟩
theorem hs0 (n : Nat) : hs (List.replicate 4 (0 : Int)) n = false := by
  rw [show List.replicate 4 (0 : Int) = [((0 : Nat) : Int), ((0 : Nat) : Int), ((0 : Nat) : Int), ((0 : Nat) : Int)] from rfl, hs4]
  have : (match n / 64 with | 0 => 0 | 1 => 0 | 2 => 0 | 3 => 0 | _ => 0 : Nat) = 0 := by split <;> rfl
  rw [this, Nat.zero_testBit]
theorem Or_eq (l : List (List Int)) (hl : l.length < 100000) (hV : ∀ s ∈ l, V s) : ∃ r, s_bytesets_Or (l, ()) = some (r, ()) ∧ V r ∧ ∀ n, n < 256 → hs r n = l.any (fun s => hs s n) := by
  have st : s_bytesets_Or (l, ()) = bytesets_Or.p1 fuel fuel l (l.length : Int) ((0 : Nat) : Int) (List.replicate 4 (0 : Int)) (List.replicate 4 (0 : Int)) := rfl
  obtain ⟨r, r1, r2, r3⟩ := or_p1 l hl hV (List.replicate 4 (0 : Int)) fuel 0 _ (by have := fuel_gt l.length (by omega); omega) (by omega) V0
  exact ⟨r, st.trans r1, r2, fun n hn => by rw [r3 n hn, hs0, Bool.false_or, List.drop_zero]⟩
theorem And_eq {s t : List Int} (h : V s) (g : V t) : ∃ r, s_bytesets_And (s, (t, ())) = some (r, ()) ∧ V r ∧ ∀ n, n < 256 → hs r n = (hs s n && hs t n) := by
  have st : s_bytesets_And (s, (t, ())) = bytesets_And.t0 s t := rfl
  obtain ⟨s1, a1, a2, a3⟩ := Not_eq h
  obtain ⟨t1, b1, b2, b3⟩ := Not_eq g
  obtain ⟨o, c1, c2, c3⟩ := Or_eq [s1, t1] (by simp) (fun x hx => by
    rcases List.mem_cons.1 hx with rfl | hx
    · exact a2
    · rw [List.mem_singleton.1 hx]; exact b2)
  obtain ⟨r, d1, d2, d3⟩ := Not_eq c2
  refine ⟨r, ?_, d2, fun n hn => ?_⟩
  · rw [st]
    simp only [bytesets_And.t0, a1, b1, c1, d1, bindR]
  · rw [d3 n hn, c3 n hn]
    simp [a3 n hn, b3 n hn]
theorem Less_eq {s t : List Int} (h : V s) (g : V t) : ∃ r, s_bytesets_Less (s, (t, ())) = some (r, ()) ∧ V r ∧ ∀ n, n < 256 → hs r n = (hs s n && !hs t n) := by
  have st : s_bytesets_Less (s, (t, ())) = bytesets_Less.t0 s t := rfl
  obtain ⟨t1, b1, b2, b3⟩ := Not_eq g
  obtain ⟨r, c1, c2, c3⟩ := And_eq h b2
  refine ⟨r, ?_, c2, fun n hn => ?_⟩
  · rw [st]
    simp only [bytesets_Less.t0, b1, c1, bindR]
  · rw [c3 n hn, b3 n hn]
theorem join_p1 (l : List (List Int)) (hl : l.length ≤ 1000) (hV : ∀ s ∈ l, V s) (c : Nat) (hc : c < 256) (a b : List Int) : ∀ (m i : Nat) (acc : Bool), l.length < m + i → i ≤ l.length →
    law05_BytesetsJoin.p1 fuel m l (c : Int) acc (i : Int) a b = law05_BytesetsJoin.p3 fuel l (c : Int) (acc || (l.drop i).any (fun s => hs s c)) a b
  | 0, i, acc, h, hi => by omega
  | m + 1, i, acc, h, hi => by
    have step : law05_BytesetsJoin.p1 fuel (m + 1) l (c : Int) acc (i : Int) a b = law05_BytesetsJoin.t1 (law05_BytesetsJoin.p2 fuel (law05_BytesetsJoin.p1 fuel m)) (law05_BytesetsJoin.p3 fuel) l (c : Int) acc (i : Int) a b := rfl
    rw [step]
    simp only [law05_BytesetsJoin.t1, iteB_dec]
    by_cases h1 : i < l.length
    · have wi : w64 ((i : Int) + 1) = ((i + 1 : Nat) : Int) := w64_id (by omega) (by omega)
      have nxt : ∀ z, law05_BytesetsJoin.p2 fuel (law05_BytesetsJoin.p1 fuel m) l (c : Int) z (i : Int) a b = law05_BytesetsJoin.p1 fuel m l (c : Int) z ((i + 1 : Nat) : Int) a b := fun z => by
        show law05_BytesetsJoin.p1 fuel m l (c : Int) z (w64 ((i : Int) + 1)) a b = _
        rw [wi]
      have hg : l.getD i (List.replicate 4 (0 : Int)) = l[i] := by simp [h1]
      have hVi : V l[i] := hV _ (List.getElem_mem h1)
      rw [if_pos (by omega), List.drop_eq_getElem_cons h1, List.any_cons, ← Bool.or_assoc]
      have ih := fun z => join_p1 l hl hV c hc a b m (i + 1) z (by omega) (by omega)
      cases acc with
      | true => rw [iteB_pos rfl, nxt, ih]; simp
      | false => rw [iteB_neg rfl, withinR_nat h1, hg, has_eq hVi c hc]; show law05_BytesetsJoin.p2 fuel (law05_BytesetsJoin.p1 fuel m) l (c : Int) (hs l[i] c) (i : Int) a b = _; rw [nxt, ih]; simp
    · rw [if_neg (by omega), List.drop_of_length_le (by omega)]; simp
theorem joinLaw (l : List (List Int)) (a b : List Int) (c : Int) (hV : ∀ s ∈ l, V s) (ha : V a) (hb : V b) (h0 : 0 ≤ c) (h1 : c < 256) : s_law05_BytesetsJoin (l, (a, (b, (c, ())))) = some (true, ()) := by
  obtain ⟨n, rfl⟩ : ∃ n : Nat, c = n := ⟨c.toNat, by omega⟩
  have hn : n < 256 := by omega
  have st : s_law05_BytesetsJoin (l, (a, (b, ((n : Int), ())))) = law05_BytesetsJoin.t0 (law05_BytesetsJoin.p1 fuel fuel) l a b (n : Int) := rfl
  rw [st]
  simp only [law05_BytesetsJoin.t0, alive5, bindR, notB_true, iteB_neg, iteB_dec]
  by_cases hl : (30 : Int) < (l.length : Int)
  · rw [if_pos hl]
  · rw [if_neg hl]
    have hl' : l.length ≤ 1000 := by omega
    refine Eq.trans (join_p1 l hl' hV n hn a b fuel 0 false (by have := fuel_gt l.length (by omega); omega) (by omega)) ?_
    obtain ⟨o, o1, o2, o3⟩ := Or_eq l (by omega) hV
    obtain ⟨d, d1, d2, d3⟩ := And_eq ha hb
    obtain ⟨e, e1, e2, e3⟩ := Not_eq ha
    obtain ⟨f, f1, f2, f3⟩ := Less_eq ha hb
    rw [Bool.false_or, List.drop_zero, ← o3 n hn]
    show law05_BytesetsJoin.t3 l (n : Int) (hs o n) a b = _
    simp only [law05_BytesetsJoin.t3, has_eq ha n hn, has_eq hb n hn, o1, d1, e1, f1, has_eq o2 n hn, has_eq d2 n hn, has_eq e2 n hn, has_eq f2 n hn, bindR, d3 n hn, e3 n hn, f3 n hn]
    cases hs o n <;> cases hs a n <;> cases hs b n <;> rfl
end Go.Proofs.Ytpmlimdilajidaa.Vm.Bs
namespace Go.Proofs.Ytpmlimdilajidaa.Vm.Bs
open Go Go.Proofs.Ytpmlimdilajidaa.Vm
theorem u64_nat {n : Int} (h : wfInt .u64 n) : ∃ m : Nat, n = (m : Int) ∧ m < 18446744073709551616 := by
  simp only [wfInt, IntKind.min, IntKind.max, IntKind.signed, IntKind.bits] at h
  simp at h
  exact ⟨n.toNat, by omega, by omega⟩
theorem vS {s : List Int} (h : Wf cx (.agg (.arr 4 (.int .u64))) s) : V s := by
  obtain ⟨h1, h2⟩ : s.length = 4 ∧ ∀ y : Int, List.Mem y s → wfInt .u64 y := h
  match s, h1 with
  | [a, b, c, d], _ =>
    obtain ⟨a', rfl, ha⟩ := u64_nat (h2 a (.head _))
    obtain ⟨b', rfl, hb⟩ := u64_nat (h2 b (.tail _ (.head _)))
    obtain ⟨c', rfl, hc⟩ := u64_nat (h2 c (.tail _ (.tail _ (.head _))))
    obtain ⟨d', rfl, hd⟩ := u64_nat (h2 d (.tail _ (.tail _ (.tail _ (.head _)))))
    exact ⟨a', b', c', d', rfl, ha, hb, hc, hd⟩
theorem vL {l : List (List Int)} (h : Wf cx (.slice 25 (.agg (.arr 4 (.int .u64)))) l) : ∀ s ∈ l, V s := fun s hs => vS (h.2 s hs)
theorem f_join : F_law05_BytesetsJoin.f = s_law05_BytesetsJoin := by kernel_rfl
end Go.Proofs.Ytpmlimdilajidaa.Vm.Bs
namespace Go.Proofs.Ytpmlimdilajidaa.Vm.Bs
open Go Go.Proofs.Ytpmlimdilajidaa.Vm
set_option linter.unusedVariables false
set_option maxRecDepth 100000
abbrev Z : List Int := List.replicate 4 (0 : Int)
theorem high {x i : Nat} (h : x < 18446744073709551616) (hi : 64 ≤ i) : x.testBit i = false := by
  apply Nat.testBit_lt_two_pow
  exact Nat.lt_of_lt_of_le (show x < 2 ^ 64 by omega) (Nat.pow_le_pow_right (by omega) hi)
theorem bits_ext {x y : Nat} (hx : x < 18446744073709551616) (hy : y < 18446744073709551616) (h : ∀ i, i < 64 → x.testBit i = y.testBit i) : x = y := by
  apply Nat.eq_of_testBit_eq
  intro i
  by_cases c : i < 64
  · exact h i c
  · rw [high hx (by omega), high hy (by omega)]
theorem V_ext {s t : List Int} (h : V s) (g : V t) (e : ∀ c, c < 256 → hs s c = hs t c) : s = t := by
  obtain ⟨a, b, c, d, rfl, h1, h2, h3, h4⟩ := h
  obtain ⟨p, q, r, u, rfl, g1, g2, g3, g4⟩ := g
  have k1 : a = p := bits_ext h1 g1 fun i hi => by
    have := e (0 * 64 + i) (by omega)
    rwa [hs4, hs4, show (0 * 64 + i) / 64 = 0 by omega, show (0 * 64 + i) % 64 = i by omega] at this
  have k2 : b = q := bits_ext h2 g2 fun i hi => by
    have := e (1 * 64 + i) (by omega)
    rwa [hs4, hs4, show (1 * 64 + i) / 64 = 1 by omega, show (1 * 64 + i) % 64 = i by omega] at this
  have k3 : c = r := bits_ext h3 g3 fun i hi => by
    have := e (2 * 64 + i) (by omega)
    rwa [hs4, hs4, show (2 * 64 + i) / 64 = 2 by omega, show (2 * 64 + i) % 64 = i by omega] at this
  have k4 : d = u := bits_ext h4 g4 fun i hi => by
    have := e (3 * 64 + i) (by omega)
    rwa [hs4, hs4, show (3 * 64 + i) / 64 = 3 by omega, show (3 * 64 + i) % 64 = i by omega] at this
  rw [k1, k2, k3, k4]
def anyC (s : List Int) : Prop := ∃ c, c < 256 ∧ hs s c = true
theorem ne_any {s : List Int} (h : V s) (hn : s ≠ Z) : anyC s := by
  apply Classical.byContradiction
  intro hc
  apply hn
  apply V_ext h V0
  intro c hlt
  rw [hs0]
  cases e : hs s c with
  | false => rfl
  | true => exact absurd ⟨c, hlt, e⟩ hc
theorem any_ne {s : List Int} (h : anyC s) : s ≠ Z := by
  rintro rfl
  obtain ⟨c, _, e⟩ := h
  rw [hs0] at e; cases e
/-! ### What 'Has' and 'put' say -/
theorem tdiv64 (c : Nat) (hc : c < 256) : w8 (Int.tdiv (c : Int) 64) = ((c / 64 : Nat) : Int) := w8_id (n := ((c / 64 : Nat) : Int)) (by omega) (by omega)
theorem tmod64 (c : Nat) : Int.tmod (c : Int) 64 = ((c % 64 : Nat) : Int) := rfl
theorem shr_nat (x k : Nat) (hk : k < 64) : shrI .u64 (x : Int) (k : Int) = ((x / 2 ^ k : Nat) : Int) := by
  show (x : Int).fdiv (2 ^ min ((k : Int).toNat) 64) = _
  have : min ((k : Int).toNat) 64 = k := by omega
  rw [this, Int.fdiv_eq_ediv_of_nonneg _ (by exact Int.pow_nonneg (by omega))]
  norm_cast
theorem andI_nat (x y : Nat) (hx : x < 18446744073709551616) (hy : y < 18446744073709551616) : bitI .and .u64 (x : Int) (y : Int) = ((x &&& y : Nat) : Int) := by
  have hl : x &&& y ≤ x := Nat.and_le_left
  have e : bitI .and .u64 (x : Int) (y : Int) = IntKind.wrap .u64 (((BitVec.ofInt 64 (x : Int) &&& BitVec.ofInt 64 (y : Int)).toNat : Nat) : Int) := rfl
  rw [e, BitVec.toNat_and, bits_nat x hx, bits_nat y hy]
  exact wrapU _ (by omega)
theorem Has_eq {s : List Int} (h : V s) (c : Nat) (hc : c < 256) : s_bytesets_Has (s, ((c : Int), ())) = some (hs s c, ()) := by
  have st : s_bytesets_Has (s, ((c : Int), ())) = bytesets_Has.t0 s (c : Int) := rfl
  obtain ⟨x, hx, hxl⟩ := h.at (c / 64) (by omega)
  rw [st]
  simp only [bytesets_Has.t0, tdiv64 c hc, tmod64, withinR_nat (show c / 64 < 4 by omega), hx]
  rw [mustR_dec (by omega), shr_nat _ _ (by omega)]
  have hl : x / 2 ^ (c % 64) ≤ x := Nat.div_le_self ..
  rw [show (1 : Int) = ((1 : Nat) : Int) from rfl, andI_nat _ 1 (by omega) (by omega), Nat.and_one_is_mod]
  unfold hs
  rw [hx, Int.toNat_natCast, Nat.testBit_eq_decide_div_mod_eq]
  congr 2
  by_cases h2 : x / 2 ^ (c % 64) % 2 = 1
  · rw [decide_eq_true (by omega), decide_eq_true h2]
  · rw [decide_eq_false (by omega), decide_eq_false h2]
theorem shl_nat (k : Nat) (hk : k < 64) : shlI .u64 1 (k : Int) = ((2 ^ k : Nat) : Int) := by
  show IntKind.wrap .u64 (1 * 2 ^ min ((k : Int).toNat) 64) = _
  have : min ((k : Int).toNat) 64 = k := by omega
  rw [this, Int.one_mul, show (2 : Int) ^ k = ((2 ^ k : Nat) : Int) by norm_cast]
  exact wrapU _ (Nat.lt_of_lt_of_le (Nat.pow_lt_pow_right (by omega) hk) (by omega))
theorem V_set {s : List Int} (h : V s) (i : Nat) (hi : i < 4) (y : Nat) (hy : y < 18446744073709551616) : V (s.set i (y : Int)) ∧ ∀ n, n < 256 → hs (s.set i (y : Int)) n = if n / 64 = i then y.testBit (n % 64) else hs s n := by
  obtain ⟨a, b, c, d, rfl, h1, h2, h3, h4⟩ := h
  have go : ∀ n, n < 256 → hs ([(a : Int), b, c, d].set i (y : Int)) n = if n / 64 = i then y.testBit (n % 64) else hs [(a : Int), b, c, d] n := by
    intro n hn
    unfold hs
    have hq : n / 64 < 4 := by omega
    by_cases e : n / 64 = i
    · rw [if_pos e, e, List.getD_eq_getElem?_getD, List.getElem?_set_self (by simp; omega)]
      rfl
    · rw [if_neg e, List.getD_eq_getElem?_getD, List.getElem?_set_ne (fun q => e q.symm), ← List.getD_eq_getElem?_getD]
  refine ⟨?_, go⟩
  match i, hi with
  | 0, _ => exact ⟨y, b, c, d, rfl, hy, h2, h3, h4⟩
  | 1, _ => exact ⟨a, y, c, d, rfl, h1, hy, h3, h4⟩
  | 2, _ => exact ⟨a, b, y, d, rfl, h1, h2, hy, h4⟩
  | 3, _ => exact ⟨a, b, c, y, rfl, h1, h2, h3, hy⟩
theorem put_eq {s : List Int} (h : V s) (c : Nat) (hc : c < 256) : ∃ r, s_bytesets_put (s, ((c : Int), ())) = some ((), (r, ())) ∧ V r ∧ ∀ n, n < 256 → hs r n = (hs s n || decide (n = c)) := by
  have st : s_bytesets_put (s, ((c : Int), ())) = bytesets_put.t0 s (c : Int) := rfl
  obtain ⟨x, hx, hxl⟩ := h.at (c / 64) (by omega)
  have hm : c % 64 < 64 := Nat.mod_lt _ (by omega)
  have h2 : 2 ^ (c % 64) < 18446744073709551616 := Nat.lt_of_lt_of_le (Nat.pow_lt_pow_right (by omega) hm) (by omega)
  obtain ⟨o1, o2⟩ := orI_nat x (2 ^ (c % 64)) hxl h2
  obtain ⟨v1, v2⟩ := V_set h (c / 64) (by omega) _ o2
  refine ⟨_, ?_, v1, fun n hn => ?_⟩
  · rw [st]
    simp only [bytesets_put.t0, tdiv64 c hc, tmod64, withinR_nat (show c / 64 < 4 by omega), hx]
    rw [mustR_dec (by omega), shl_nat _ hm, o1]
  · rw [v2 n hn]
    by_cases e : n / 64 = c / 64
    · rw [if_pos e, Nat.testBit_or, Nat.testBit_two_pow]
      have : hs s n = x.testBit (n % 64) := by unfold hs; rw [e, hx]; rfl
      rw [this]
      congr 1
      by_cases e2 : n = c
      · rw [decide_eq_true e2, decide_eq_true (by rw [e2])]
      · rw [decide_eq_false e2, decide_eq_false (by omega)]
    · rw [if_neg e, decide_eq_false (by omega), Bool.or_false]
/-! ### 'Alike' -/
def al (l : List (List Int)) (a b : Nat) : Bool := l.all fun s => hs s a == hs s b
theorem al_refl (l : List (List Int)) (a : Nat) : al l a a = true := by simp [al]
theorem al_symm {l : List (List Int)} {a b : Nat} (h : al l a b = true) : al l b a = true := by
  simp only [al, List.all_eq_true, beq_iff_eq] at h ⊢
  exact fun s hs => (h s hs).symm
theorem al_trans {l : List (List Int)} {a b c : Nat} (h : al l a b = true) (g : al l b c = true) : al l a c = true := by
  simp only [al, List.all_eq_true, beq_iff_eq] at h g ⊢
  exact fun s hs => (h s hs).trans (g s hs)
theorem alike_p1 (l : List (List Int)) (hl : l.length < 100000) (hV : ∀ s ∈ l, V s) (a b : Nat) (ha : a < 256) (hb : b < 256) : ∀ (m i : Nat), l.length < m + i → i ≤ l.length →
    ref05_Alike.p1 fuel m l (a : Int) (b : Int) (i : Int) = some (al (l.drop i) a b, ())
  | 0, i, h, hi => by omega
  | m + 1, i, h, hi => by
    have step : ref05_Alike.p1 fuel (m + 1) l (a : Int) (b : Int) (i : Int) = ref05_Alike.t1 (ref05_Alike.p1 fuel m) (ref05_Alike.p2 fuel) l (a : Int) (b : Int) (i : Int) := rfl
    rw [step]
    simp only [ref05_Alike.t1, iteB_dec]
    by_cases c : i < l.length
    · have hg : l.getD i (List.replicate 4 (0 : Int)) = l[i] := by simp [c]
      have hVi : V l[i] := hV _ (List.getElem_mem c)
      have wi : w64 ((i : Int) + 1) = ((i + 1 : Nat) : Int) := w64_id (by omega) (by omega)
      rw [if_pos (by omega), withinR_nat c, withinR_nat c, hg, has_eq hVi a ha, bindR_val, has_eq hVi b hb, bindR_val, wi, alike_p1 l hl hV a b ha hb m (i + 1) (by omega) (by omega)]
      rw [List.drop_eq_getElem_cons c]
      cases e : hs l[i] a == hs l[i] b with
      | true => simp only [al, List.all_cons, e, Bool.not_true, iteB_false, Bool.true_and]
      | false => simp only [al, List.all_cons, e, Bool.not_false, iteB_true, Bool.false_and]
    · rw [if_neg (by omega), List.drop_of_length_le (by omega)]; rfl
theorem Alike_eq (l : List (List Int)) (hl : l.length < 100000) (hV : ∀ s ∈ l, V s) (a b : Nat) (ha : a < 256) (hb : b < 256) : s_ref05_Alike (l, ((a : Int), ((b : Int), ()))) = some (al l a b, ()) := by
  have st : s_ref05_Alike (l, ((a : Int), ((b : Int), ()))) = ref05_Alike.p1 fuel fuel l (a : Int) (b : Int) ((0 : Nat) : Int) := rfl
  rw [st, alike_p1 l hl hV a b ha hb fuel 0 (by have := fuel_gt l.length (by omega); omega) (by omega), List.drop_zero]
/-! ### 'those' -/
theorem those_p1 (f : List Int) (hf : f.length = 256) (k : Int) (m2 : List Int) : ∀ (m c : Nat) (acc : List Int), 256 < m + c → c ≤ 256 → V acc →
    ∃ r, bytesets_those_l23.p1 fuel m (f, (k, ())) (c : Int) m2 acc = some (r, ()) ∧ V r ∧ ∀ n, n < 256 → hs r n = (hs acc n || (decide (c ≤ n) && decide (w64 (f.getD n 0) = k)))
  | 0, c, acc, h, hc, _ => by omega
  | m + 1, c, acc, h, hc, ha => by
    have step : bytesets_those_l23.p1 fuel (m + 1) (f, (k, ())) (c : Int) m2 acc = bytesets_those_l23.t1 (bytesets_those_l23.p2 fuel (bytesets_those_l23.p1 fuel m)) (bytesets_those_l23.p3 fuel) (f, (k, ())) (c : Int) m2 acc := rfl
    rw [step]
    simp only [bytesets_those_l23.t1, iteB_dec]
    by_cases h1 : c < 256
    · have w8c : w8 (c : Int) = (c : Int) := w8_id (by omega) (by omega)
      have wi : w64 ((c : Int) + 1) = ((c + 1 : Nat) : Int) := w64_id (by omega) (by omega)
      have nxt : ∀ z, bytesets_those_l23.p2 fuel (bytesets_those_l23.p1 fuel m) (f, (k, ())) (c : Int) m2 z = bytesets_those_l23.p1 fuel m (f, (k, ())) ((c + 1 : Nat) : Int) m2 z := fun z => by
        show bytesets_those_l23.p1 fuel m (f, (k, ())) (w64 ((c : Int) + 1)) m2 z = _
        rw [wi]
      have e1 : s_bytesets_Class_1 ((c : Int), (f, (k, ()))) = some (decide (w64 (f.getD c 0) = k), ()) := by
        have st : s_bytesets_Class_1 ((c : Int), (f, (k, ()))) = bytesets_Class_1.t0 (c : Int) f k := rfl
        rw [st]
        simp only [bytesets_Class_1.t0, withinR_nat h1]
      rw [if_pos (by omega), w8c, e1, bindR_val, nxt, iteB_dec]
      by_cases h2 : w64 (f.getD c 0) = k
      · obtain ⟨r, r1, r2, r3⟩ := put_eq ha c h1
        rw [if_pos h2, r1, bindR_val, nxt]
        obtain ⟨o, o1, o2, o3⟩ := those_p1 f hf k m2 m (c + 1) r (by omega) (by omega) r2
        refine ⟨o, o1, o2, fun n hn => ?_⟩
        rw [o3 n hn, r3 n hn, Bool.or_assoc]
        congr 1
        by_cases e : n = c
        · subst e
          simp [-List.getD_eq_getElem?_getD, h2]
        · have : decide (c + 1 ≤ n) = decide (c ≤ n) := by
            by_cases q : c ≤ n
            · rw [decide_eq_true q, decide_eq_true (by omega)]
            · rw [decide_eq_false q, decide_eq_false (by omega)]
          rw [this, decide_eq_false e, Bool.false_or]
      · rw [if_neg h2]
        obtain ⟨o, o1, o2, o3⟩ := those_p1 f hf k m2 m (c + 1) acc (by omega) (by omega) ha
        refine ⟨o, o1, o2, fun n hn => ?_⟩
        rw [o3 n hn]
        congr 1
        by_cases e : n = c
        · subst e
          rw [decide_eq_false h2, Bool.and_false, Bool.and_false]
        · have : decide (c + 1 ≤ n) = decide (c ≤ n) := by
            by_cases q : c ≤ n
            · rw [decide_eq_true q, decide_eq_true (by omega)]
            · rw [decide_eq_false q, decide_eq_false (by omega)]
          rw [this]
    · rw [if_neg (by omega)]
      refine ⟨acc, rfl, ha, fun n hn => ?_⟩
      rw [decide_eq_false (by omega), Bool.false_and, Bool.or_false]
theorem those_eq (f : List Int) (hf : f.length = 256) (k : Int) : ∃ r, s_bytesets_those_l23 ((f, (k, ())), ()) = some (r, ()) ∧ V r ∧ ∀ n, n < 256 → hs r n = decide (w64 (f.getD n 0) = k) := by
  obtain ⟨r, r1, r2, r3⟩ := those_p1 f hf k (List.replicate 4 (0 : Int)) fuel 0 (List.replicate 4 (0 : Int)) (by have := fuel_gt 1000 (by omega); omega) (by omega) V0
  refine ⟨r, r1, r2, fun n hn => ?_⟩
  rw [r3 n hn, hs0, Bool.false_or, decide_eq_true (by omega), Bool.true_and]
/-! ### 'split' -/
structure Spl (out l : List (List Int)) (bs : List Int) : Prop where
  v : ∀ p ∈ out, V p ∧ anyC p
  one : ∀ c, c < 256 → out.countP (fun p => hs p c) = l.countP (fun p => hs p c)
  from_ : ∀ p ∈ out, ∃ x ∈ l, (∀ c, c < 256 → hs p c = (hs x c && hs bs c)) ∨ (∀ c, c < 256 → hs p c = (hs x c && !hs bs c))
  len : out.length ≤ 2 * l.length
theorem room_ok {β γ : Type} {l1 : List β} {l2 : List γ} (h : l1.length + l2.length ≤ 34359738368) : room l1 l2 = true := by
  unfold room; exact decide_eq_true (by omega)
theorem split_step (A : bytesets_split.T1) (x5 x10 : List (List Int)) (x11 x12 : Int) (a b m3 : List Int) :
    bytesets_split.p2 fuel A fuel x5 x10 x11 x12 (List.set (List.set (List.replicate 2 (List.replicate 4 (0 : Int))) 0 a) 1 b) 0 m3 =
    iteB (!(decide (a = List.replicate 4 (0 : Int)))) (mustR (room x5 [a])
      (iteB (!(decide (b = List.replicate 4 (0 : Int)))) (mustR (room (x5 ++ [a]) [b]) (A ((x5 ++ [a]) ++ [b]) x10 x11 (w64 (x12 + 1)) m3)) (A (x5 ++ [a]) x10 x11 (w64 (x12 + 1)) m3)))
      (iteB (!(decide (b = List.replicate 4 (0 : Int)))) (mustR (room x5 [b]) (A (x5 ++ [b]) x10 x11 (w64 (x12 + 1)) m3)) (A x5 x10 x11 (w64 (x12 + 1)) m3)) := by kernel_rfl
def keep (a : List Int) : List (List Int) := if a = Z then [] else [a]
theorem split_two (A : bytesets_split.T1) (x5 x10 : List (List Int)) (x11 x12 : Int) (a b m3 : List Int) (h : x5.length ≤ 4294967296) :
    bytesets_split.p2 fuel A fuel x5 x10 x11 x12 (List.set (List.set (List.replicate 2 (List.replicate 4 (0 : Int))) 0 a) 1 b) 0 m3 = A (x5 ++ (keep a ++ keep b)) x10 x11 (w64 (x12 + 1)) m3 := by
  rw [split_step, room_ok (by simp; omega), room_ok (by simp; omega), room_ok (by simp; omega)]
  unfold keep
  by_cases ha : a = Z <;> by_cases hb : b = Z
  · rw [if_pos ha, if_pos hb, decide_eq_true ha, decide_eq_true hb]; simp
  · rw [if_pos ha, if_neg hb, decide_eq_true ha, decide_eq_false hb]; simp
  · rw [if_neg ha, if_pos hb, decide_eq_false ha, decide_eq_true hb]; simp
  · rw [if_neg ha, if_neg hb, decide_eq_false ha, decide_eq_false hb]; simp
theorem keep_mem {a p : List Int} (h : p ∈ keep a) : p = a ∧ a ≠ Z := by
  unfold keep at h
  by_cases e : a = Z
  · rw [if_pos e] at h; cases h
  · rw [if_neg e] at h; exact ⟨List.mem_singleton.1 h, e⟩
theorem keep_len (a : List Int) : (keep a).length ≤ 1 := by unfold keep; split <;> simp
theorem keep_count {a : List Int} (h : V a) (c : Nat) (hc : c < 256) : (keep a).countP (fun p => hs p c) = if hs a c = true then 1 else 0 := by
  unfold keep
  by_cases e : a = Z
  · rw [if_pos e, e, hs0]; rfl
  · rw [if_neg e]; simp [List.countP_cons]
theorem split_p1 (l : List (List Int)) (hl : l.length ≤ 2147483648) (hV : ∀ s ∈ l, V s) (bs : List Int) (hb : V bs) : ∀ (m i : Nat) (acc : List (List Int)), l.length < m + i → i ≤ l.length → acc.length ≤ 2 * i →
    ∃ out, bytesets_split.p1 fuel m acc l (l.length : Int) (i : Int) bs = some (acc ++ out, ()) ∧ Spl out (l.drop i) bs
  | 0, i, acc, h, hi, _ => by omega
  | m + 1, i, acc, h, hi, ha => by
    have step : bytesets_split.p1 fuel (m + 1) acc l (l.length : Int) (i : Int) bs = bytesets_split.t1 (bytesets_split.p2 fuel (bytesets_split.p1 fuel m) fuel) (bytesets_split.p3 fuel) acc l (l.length : Int) (i : Int) bs := rfl
    rw [step]
    simp only [bytesets_split.t1, iteB_dec]
    by_cases c : i < l.length
    · have hg : l.getD i (List.replicate 4 (0 : Int)) = l[i] := by simp [c]
      have hVi : V l[i] := hV _ (List.getElem_mem c)
      have wi : w64 ((i : Int) + 1) = ((i + 1 : Nat) : Int) := w64_id (by omega) (by omega)
      obtain ⟨a, a1, a2, a3⟩ := And_eq hVi hb
      obtain ⟨b, b1, b2, b3⟩ := Less_eq hVi hb
      rw [if_pos (by omega), withinR_nat c, hg, a1, bindR_val, b1, bindR_val, split_two _ _ _ _ _ _ _ _ (by omega), wi]
      have kl := keep_len a
      have kl2 := keep_len b
      obtain ⟨out, o1, o2⟩ := split_p1 l hl hV bs hb m (i + 1) (acc ++ (keep a ++ keep b)) (by omega) (by omega) (by simp; omega)
      refine ⟨keep a ++ keep b ++ out, by rw [o1]; simp, ?_⟩
      rw [List.drop_eq_getElem_cons c]
      refine ⟨fun p hp => ?_, fun c hc => ?_, fun p hp => ?_, ?_⟩
      · rcases List.mem_append.1 hp with hp | hp
        · rcases List.mem_append.1 hp with hp | hp
          · obtain ⟨rfl, q⟩ := keep_mem hp; exact ⟨a2, ne_any a2 q⟩
          · obtain ⟨rfl, q⟩ := keep_mem hp; exact ⟨b2, ne_any b2 q⟩
        · exact o2.v p hp
      · rw [List.countP_append, List.countP_append, keep_count a2 c hc, keep_count b2 c hc, o2.one c hc, List.countP_cons, a3 c hc, b3 c hc]
        cases hs l[i] c <;> cases hs bs c <;> simp <;> omega
      · rcases List.mem_append.1 hp with hp | hp
        · refine ⟨l[i], List.mem_cons_self .., ?_⟩
          rcases List.mem_append.1 hp with hp | hp
          · obtain ⟨rfl, q⟩ := keep_mem hp; exact .inl a3
          · obtain ⟨rfl, q⟩ := keep_mem hp; exact .inr b3
        · obtain ⟨x, x1, x2⟩ := o2.from_ p hp
          exact ⟨x, List.mem_cons_of_mem _ x1, x2⟩
      · have := o2.len
        simp only [List.length_append, List.length_cons, List.length_drop] at *
        omega
    · rw [if_neg (by omega), List.drop_of_length_le (by omega)]
      exact ⟨[], by rw [List.append_nil]; rfl, fun p hp => (List.not_mem_nil hp).elim, fun c hc => rfl, fun p hp => (List.not_mem_nil hp).elim, by simp⟩
theorem split_eq (l : List (List Int)) (hl : l.length ≤ 2147483648) (hV : ∀ s ∈ l, V s) (bs : List Int) (hb : V bs) : ∃ out, s_bytesets_split (l, (bs, ())) = some (out, ()) ∧ Spl out l bs := by
  have st : s_bytesets_split (l, (bs, ())) = bytesets_split.p1 fuel fuel [] l (l.length : Int) ((0 : Nat) : Int) bs := rfl
  obtain ⟨out, o1, o2⟩ := split_p1 l hl hV bs hb fuel 0 [] (by have := fuel_gt l.length (by omega); omega) (by omega) (by simp)
  exact ⟨out, st.trans o1, o2⟩
end Go.Proofs.Ytpmlimdilajidaa.Vm.Bs
namespace Go.Proofs.Ytpmlimdilajidaa.Vm.Bs
open Go Go.Proofs.Ytpmlimdilajidaa.Vm
set_option linter.unusedVariables false
set_option maxRecDepth 100000
/-! ### Each byte's first like, and how many firsts there are -/
def fstB (p : Nat → Bool) : Nat → Nat
  | 0 => 0
  | n + 1 => if fstB p n < n then fstB p n else if p n = true then n else n + 1
theorem fstB_le (p : Nat → Bool) : ∀ n, fstB p n ≤ n
  | 0 => Nat.le_refl _
  | n + 1 => by
    have := fstB_le p n
    unfold fstB; split
    · omega
    · split <;> omega
theorem fstB_min (p : Nat → Bool) : ∀ n d, d < fstB p n → p d = false
  | 0, d, h => by unfold fstB at h; omega
  | n + 1, d, h => by
    unfold fstB at h
    split at h
    · exact fstB_min p n d h
    · have := fstB_le p n
      split at h
      · exact fstB_min p n d (by omega)
      · rename_i h1 h2
        by_cases e : d = n
        · subst e; cases q : p d with
          | false => rfl
          | true => exact absurd q h2
        · exact fstB_min p n d (by omega)
theorem fstB_sat (p : Nat → Bool) : ∀ n, fstB p n < n → p (fstB p n) = true
  | 0, h => by omega
  | n + 1, h => by
    unfold fstB at h ⊢
    split
    · rename_i h1; exact fstB_sat p n h1
    · split
      · rename_i h2; exact h2
      · rename_i h1 h2; rw [if_neg h1, if_neg h2] at h; omega
section
variable (l : List (List Int))
def rep (c : Nat) : Nat := fstB (al l c) c
def cnt : Nat → Nat
  | 0 => 0
  | c + 1 => cnt c + if rep l c = c then 1 else 0
def cls (c : Nat) : Nat := cnt l (rep l c)
theorem rep_le (c : Nat) : rep l c ≤ c := fstB_le _ c
theorem rep_al (c : Nat) : al l c (rep l c) = true := by
  by_cases h : rep l c < c
  · exact fstB_sat _ c h
  · have := rep_le l c
    rw [show rep l c = c by omega]; exact al_refl l c
theorem rep_min {c d : Nat} (h : d < rep l c) : al l c d = false := fstB_min _ c d h
theorem rep_eq {a b : Nat} (h : al l a b = true) : rep l a = rep l b := by
  rcases Nat.lt_trichotomy (rep l a) (rep l b) with c | c | c
  · have := rep_min l c
    rw [al_trans (al_symm h) (rep_al l a)] at this; cases this
  · exact c
  · have := rep_min l c
    rw [al_trans h (rep_al l b)] at this; cases this
theorem rep_rep (c : Nat) : rep l (rep l c) = rep l c := rep_eq l (al_symm (rep_al l c))
theorem cnt_le : ∀ c, cnt l c ≤ c
  | 0 => Nat.le_refl _
  | c + 1 => by have := cnt_le c; unfold cnt; split <;> omega
theorem cnt_mono {a b : Nat} (h : a ≤ b) : cnt l a ≤ cnt l b := by
  induction h with
  | refl => exact Nat.le_refl _
  | step _ ih => exact Nat.le_trans ih (Nat.le_add_right _ _)
theorem cnt_lt {a b : Nat} (ha : rep l a = a) (h : a < b) : cnt l a < cnt l b := by
  have e : cnt l (a + 1) = cnt l a + 1 := by show cnt l a + (if rep l a = a then 1 else 0) = _; rw [if_pos ha]
  have := cnt_mono l (show a + 1 ≤ b from h)
  omega
theorem cls_al {a b : Nat} (h : cls l a = cls l b) : al l a b = true := by
  have e : rep l a = rep l b := by
    unfold cls at h
    rcases Nat.lt_trichotomy (rep l a) (rep l b) with c | c | c
    · have := cnt_lt l (rep_rep l a) c; omega
    · exact c
    · have := cnt_lt l (rep_rep l b) c; omega
  have := rep_al l a
  rw [e] at this
  exact al_trans this (al_symm (rep_al l b))
theorem al_cls {a b : Nat} (h : al l a b = true) : cls l a = cls l b := by unfold cls; rw [rep_eq l h]
theorem cls_lt {a n : Nat} (h : a < n) : cls l a < cnt l n := by
  have := rep_le l a
  exact cnt_lt l (rep_rep l a) (by omega)
theorem cls_le (a : Nat) : cls l a ≤ a := Nat.le_trans (cnt_le l _) (rep_le l a)
theorem cls_new {c : Nat} (h : rep l c = c) : cls l c = cnt l c := by unfold cls; rw [h]
theorem cls_rep (c : Nat) : cls l (rep l c) = cls l c := by unfold cls; rw [rep_rep]
end
/-! ### The reference's classes -/
def wantOf (l : List (List Int)) (n : Nat) : List Int := (List.range n).map fun d => (cls l d : Int)
theorem wantOf_succ (l : List (List Int)) (n : Nat) : wantOf l (n + 1) = wantOf l n ++ [(cls l n : Int)] := by simp [wantOf, List.range_succ]
theorem wantOf_len (l : List (List Int)) (n : Nat) : (wantOf l n).length = n := by simp [wantOf]
theorem wantOf_get (l : List (List Int)) {n d : Nat} (h : d < n) : (wantOf l n).getD d 0 = (cls l d : Int) := by simp [wantOf, h]
theorem ref_p2 (l : List (List Int)) (hl : l.length < 100000) (hV : ∀ s ∈ l, V s) (A : ref05_Classes.T1) (n : Int) (c : Nat) (hc : c < 256) : ∀ (m d : Nat), 256 < m + d → d ≤ rep l c →
    ref05_Classes.p2 fuel A m l (wantOf l c) n (c : Int) (-1) (d : Int) = ref05_Classes.p6 fuel A l (wantOf l c) n (c : Int) (if rep l c < c then (cls l c : Int) else -1)
  | 0, d, h, hd => by have := rep_le l c; omega
  | m + 1, d, h, hd => by
    have step : ref05_Classes.p2 fuel A (m + 1) l (wantOf l c) n (c : Int) (-1) (d : Int) = ref05_Classes.t2 (ref05_Classes.p4 fuel A (ref05_Classes.p2 fuel A m)) l (wantOf l c) n (c : Int) (-1) (d : Int) := rfl
    have hr := rep_le l c
    have h4t : ∀ k d', ref05_Classes.p4 fuel A (ref05_Classes.p2 fuel A m) l (wantOf l c) n (c : Int) k d' true = ref05_Classes.p5 fuel A (ref05_Classes.p2 fuel A m) l (wantOf l c) n (c : Int) k d' := fun _ _ => rfl
    have h4f : ∀ k d', ref05_Classes.p4 fuel A (ref05_Classes.p2 fuel A m) l (wantOf l c) n (c : Int) k d' false = ref05_Classes.p6 fuel A l (wantOf l c) n (c : Int) k := fun _ _ => rfl
    rw [step]
    simp only [ref05_Classes.t2, iteB_dec]
    by_cases h1 : d < c
    · have wc : w8 (c : Int) = (c : Int) := w8_id (by omega) (by omega)
      have wd : w8 (d : Int) = (d : Int) := w8_id (by omega) (by omega)
      have wi : w64 ((d : Int) + 1) = ((d + 1 : Nat) : Int) := w64_id (by omega) (by omega)
      rw [if_pos (by omega), decide_eq_true (show (-1 : Int) < 0 by omega), h4t]
      have nxt : ∀ k, ref05_Classes.p7 fuel A (ref05_Classes.p2 fuel A m) l (wantOf l c) n (c : Int) k (d : Int) = ref05_Classes.p2 fuel A m l (wantOf l c) n (c : Int) k ((d + 1 : Nat) : Int) := fun k => by
        show ref05_Classes.p2 fuel A m l (wantOf l c) n (c : Int) k (w64 ((d : Int) + 1)) = _
        rw [wi]
      show ref05_Classes.t5 (ref05_Classes.p7 fuel A (ref05_Classes.p2 fuel A m)) l (wantOf l c) n (c : Int) (-1) (d : Int) = _
      simp only [ref05_Classes.t5, wc, wd, Alike_eq l hl hV c d hc (by omega), bindR_val, nxt]
      by_cases h2 : d = rep l c
      · have e : al l c d = true := by rw [h2]; exact rep_al l c
        rw [e, iteB_true, withinR_nat (by rw [wantOf_len]; exact h1), wantOf_get l h1, if_pos (by omega)]
        have e2 : cls l d = cls l c := by rw [h2, cls_rep]
        rw [e2]
        match m, (show 1 ≤ m by omega) with
        | m + 1, _ =>
          have step2 : ref05_Classes.p2 fuel A (m + 1) l (wantOf l c) n (c : Int) (cls l c : Int) ((d + 1 : Nat) : Int) = ref05_Classes.t2 (ref05_Classes.p4 fuel A (ref05_Classes.p2 fuel A m)) l (wantOf l c) n (c : Int) (cls l c : Int) ((d + 1 : Nat) : Int) := rfl
          rw [step2]
          simp only [ref05_Classes.t2, iteB_dec]
          rw [decide_eq_false (show ¬((cls l c : Int) < 0) by omega), if_t_same]
          rfl
      · have e : al l c d = false := rep_min l (by omega)
        rw [e, iteB_false]
        exact ref_p2 l hl hV A n c hc m (d + 1) (by omega) (by omega)
    · rw [if_neg (by omega), h4f, if_neg (by omega)]
  where
  if_t_same {α : Type} {p : Prop} [Decidable p] {a : α} : (if p then a else a) = a := by split <;> rfl
theorem ref_p1 (l : List (List Int)) (hl : l.length < 100000) (hV : ∀ s ∈ l, V s) : ∀ (m c : Nat), 256 < m + c → c ≤ 256 →
    ref05_Classes.p1 fuel m l (wantOf l c) (cnt l c : Int) (c : Int) = some ((wantOf l 256, (cnt l 256 : Int)), ())
  | 0, c, h, hc => by omega
  | m + 1, c, h, hc => by
    have step : ref05_Classes.p1 fuel (m + 1) l (wantOf l c) (cnt l c : Int) (c : Int) = ref05_Classes.t1 (ref05_Classes.p2 fuel (ref05_Classes.p1 fuel m) fuel) (ref05_Classes.p3 fuel) l (wantOf l c) (cnt l c : Int) (c : Int) := rfl
    rw [step]
    simp only [ref05_Classes.t1, iteB_dec]
    by_cases h1 : c < 256
    · have wi : w64 ((c : Int) + 1) = ((c + 1 : Nat) : Int) := w64_id (by omega) (by omega)
      have cl := cnt_le l c
      have wn : w64 ((cnt l c : Int) + 1) = ((cnt l c + 1 : Nat) : Int) := w64_id (by omega) (by omega)
      rw [if_pos (by omega)]
      refine Eq.trans (ref_p2 l hl hV (ref05_Classes.p1 fuel m) (cnt l c : Int) c h1 fuel 0 (by have := fuel_gt 1000 (by omega); omega) (by omega)) ?_
      have p8e : ∀ (n' : Int) k, ref05_Classes.p8 fuel (ref05_Classes.p1 fuel m) l (wantOf l c) n' (c : Int) k = ref05_Classes.p1 fuel m l (wantOf l c ++ [k]) n' ((c + 1 : Nat) : Int) := fun n' k => by
        show mustR (room (wantOf l c) ([k] : List Int)) (ref05_Classes.p1 fuel m l (wantOf l c ++ [k]) n' (w64 ((c : Int) + 1))) = _
        rw [room_ok (by rw [wantOf_len]; simp; omega), wi]; rfl
      show ref05_Classes.t6 (ref05_Classes.p8 fuel (ref05_Classes.p1 fuel m)) l (wantOf l c) (cnt l c : Int) (c : Int) _ = _
      simp only [ref05_Classes.t6, iteB_dec, p8e, wn]
      have ih := ref_p1 l hl hV m (c + 1) (by omega) (by omega)
      rw [wantOf_succ] at ih
      have hr := rep_le l c
      by_cases h2 : rep l c < c
      · rw [if_pos h2, if_neg (by omega)]
        have e : cnt l (c + 1) = cnt l c := by show cnt l c + (if rep l c = c then 1 else 0) = _; rw [if_neg (by omega)]; omega
        rw [e] at ih; exact ih
      · rw [if_neg h2, if_pos (by omega)]
        have e : cnt l (c + 1) = cnt l c + 1 := by show cnt l c + (if rep l c = c then 1 else 0) = _; rw [if_pos (by omega)]
        rw [e, cls_new l (show rep l c = c by omega)] at ih; exact ih
    · rw [if_neg (by omega), show c = 256 by omega]; rfl
theorem RefClasses_eq (l : List (List Int)) (hl : l.length < 100000) (hV : ∀ s ∈ l, V s) : s_ref05_Classes (l, ()) = some ((wantOf l 256, (cnt l 256 : Int)), ()) := by
  have st : s_ref05_Classes (l, ()) = ref05_Classes.p1 fuel fuel l (wantOf l 0) ((cnt l 0 : Nat) : Int) ((0 : Nat) : Int) := rfl
  rw [st, ref_p1 l hl hV fuel 0 (by have := fuel_gt 1000 (by omega); omega) (by omega)]
/-! ### The program's parts -/
structure Parts (P l : List (List Int)) : Prop where
  v : ∀ p ∈ P, V p ∧ anyC p
  one : ∀ c, c < 256 → P.countP (fun p => hs p c) = 1
  cls : ∀ p ∈ P, ∀ a b, a < 256 → b < 256 → hs p a = true → hs p b = al l a b
theorem al_append (l : List (List Int)) (s : List Int) (a b : Nat) : al (l ++ [s]) a b = (al l a b && (hs s a == hs s b)) := by simp [al]
theorem Parts.split {P l out : List (List Int)} {s : List Int} (h : Parts P l) (g : Spl out P s) : Parts out (l ++ [s]) := by
  refine ⟨g.v, fun c hc => (g.one c hc).trans (h.one c hc), fun p hp a b ha hb e => ?_⟩
  rw [al_append]
  obtain ⟨x, x1, x2⟩ := g.from_ p hp
  rcases x2 with x2 | x2
  · rw [x2 a ha, Bool.and_eq_true] at e
    rw [x2 b hb, h.cls x x1 a b ha hb e.1, e.2]
    cases hs s b <;> rfl
  · rw [x2 a ha, Bool.and_eq_true, Bool.not_eq_true'] at e
    rw [x2 b hb, h.cls x x1 a b ha hb e.1, e.2]
    cases hs s b <;> rfl
theorem All_eq : ∃ s, s_bytesets_All () = some (s, ()) ∧ V s ∧ ∀ n, n < 256 → hs s n = true := by
  have st : s_bytesets_All () = bindR (s_bytesets_Not (List.replicate 4 (0 : Int), ())) fun r1 => some (r1.1, ()) := rfl
  obtain ⟨s, s1, s2, s3⟩ := Not_eq V0
  exact ⟨s, by rw [st, s1]; rfl, s2, fun n hn => by rw [s3 n hn, hs0]; rfl⟩
theorem Parts.init {s : List Int} (h : V s) (g : ∀ n, n < 256 → hs s n = true) : Parts [s] [] := by
  refine ⟨fun p hp => ?_, fun c hc => ?_, fun p hp a b ha hb e => ?_⟩
  · rw [List.mem_singleton.1 hp]; exact ⟨h, 0, by omega, g 0 (by omega)⟩
  · simp [List.countP_cons, g c hc]
  · rw [List.mem_singleton.1 hp, g b hb]; rfl
theorem classes_p1 (l : List (List Int)) (hl : l.length ≤ 30) (hV : ∀ s ∈ l, V s) (m2 : List Int) : ∀ (m i : Nat) (P : List (List Int)), l.length < m + i → i ≤ l.length → Parts P (l.take i) → P.length ≤ 2 ^ i →
    ∃ P', bytesets_Classes.p1 fuel m P l (l.length : Int) (i : Int) m2 = bytesets_Classes.p2 fuel P' m2 ∧ Parts P' l ∧ P'.length ≤ 2 ^ l.length
  | 0, i, P, h, hi, _, _ => by omega
  | m + 1, i, P, h, hi, hP, hlen => by
    have step : bytesets_Classes.p1 fuel (m + 1) P l (l.length : Int) (i : Int) m2 = bytesets_Classes.t1 (bytesets_Classes.p1 fuel m) (bytesets_Classes.p2 fuel) P l (l.length : Int) (i : Int) m2 := rfl
    rw [step]
    simp only [bytesets_Classes.t1, iteB_dec]
    by_cases c : i < l.length
    · have hg : l.getD i (List.replicate 4 (0 : Int)) = l[i] := by simp [c]
      have hVi : V l[i] := hV _ (List.getElem_mem c)
      have wi : w64 ((i : Int) + 1) = ((i + 1 : Nat) : Int) := w64_id (by omega) (by omega)
      have h30 : 2 ^ i ≤ 2 ^ 30 := Nat.pow_le_pow_right (by omega) (by omega)
      obtain ⟨out, o1, o2⟩ := split_eq P (by omega) (fun p hp => (hP.v p hp).1) l[i] hVi
      rw [if_pos (by omega), withinR_nat c, hg, o1, bindR_val, wi]
      have hn : Parts out (l.take (i + 1)) := by
        rw [← List.take_append_getElem c]; exact hP.split o2
      exact classes_p1 l hl hV m2 m (i + 1) out (by omega) (by omega) hn (by have := o2.len; rw [Nat.pow_succ]; omega)
    · rw [if_neg (by omega)]
      have e : i = l.length := by omega
      subst e
      rw [List.take_length] at hP
      exact ⟨P, rfl, hP, hlen⟩
/-! ### Maps -/
abbrev EQ : List Int → List Int → Bool := fun a b => decide (a = b)
theorem find_pos {p : List Int} {e : List Int × Int} {m : List (List Int × Int)} (h : p = e.1) : findM EQ p (e :: m) = some e.2 := by
  have : EQ p e.1 = true := decide_eq_true h
  unfold findM; rw [this]
theorem find_neg {p : List Int} {e : List Int × Int} {m : List (List Int × Int)} (h : p ≠ e.1) : findM EQ p (e :: m) = findM EQ p m := by
  have : EQ p e.1 = false := decide_eq_false h
  rw [findM, this]
theorem put_pos {p : List Int} {v : Int} {e : List Int × Int} {m : List (List Int × Int)} (h : p = e.1) : putM EQ p v (e :: m) = (p, v) :: m := by
  have : EQ p e.1 = true := decide_eq_true h
  unfold putM; rw [this]
theorem put_neg {p : List Int} {v : Int} {e : List Int × Int} {m : List (List Int × Int)} (h : p ≠ e.1) : putM EQ p v (e :: m) = e :: putM EQ p v m := by
  have : EQ p e.1 = false := decide_eq_false h
  rw [putM, this]
theorem find_put_self {p : List Int} {v : Int} : ∀ m : List (List Int × Int), findM EQ p (putM EQ p v m) = some v
  | [] => find_pos (e := (p, v)) rfl
  | e :: m => by
    by_cases h : p = e.1
    · rw [put_pos h]; exact find_pos rfl
    · rw [put_neg h, find_neg h, find_put_self m]
theorem find_put_ne {p q : List Int} {v : Int} (h : q ≠ p) : ∀ m : List (List Int × Int), findM EQ q (putM EQ p v m) = findM EQ q m
  | [] => find_neg (e := (p, v)) h
  | e :: m => by
    by_cases g : p = e.1
    · rw [put_pos g, find_neg (by exact h), find_neg (by rw [← g]; exact h)]
    · rw [put_neg g]
      by_cases f : q = e.1
      · rw [find_pos f, find_pos f]
      · rw [find_neg f, find_neg f, find_put_ne h m]
theorem put_len {p : List Int} {v : Int} : ∀ m : List (List Int × Int), findM EQ p m = none → (putM EQ p v m).length = m.length + 1
  | [], _ => rfl
  | e :: m, h => by
    by_cases g : p = e.1
    · rw [find_pos g] at h; cases h
    · rw [find_neg g] at h
      rw [put_neg g, List.length_cons, put_len m h, List.length_cons]
/-! ### Numbers are given -/
theorem count_one {α : Type} {p : α → Bool} : ∀ {L : List α}, L.countP p ≤ 1 → ∀ {a b : α}, a ∈ L → b ∈ L → p a = true → p b = true → a = b
  | x :: L, h, a, b, ha, hb, pa, pb => by
    rw [List.countP_cons] at h
    have pos : ∀ z ∈ L, p z = true → 0 < L.countP p := fun z hz pz => List.countP_pos_iff.2 ⟨z, hz, pz⟩
    rcases List.mem_cons.1 ha with ea | ha' <;> rcases List.mem_cons.1 hb with eb | hb'
    · rw [ea, eb]
    · have := pos b hb' pb; rw [ea] at pa; rw [if_pos pa] at h; omega
    · have := pos a ha' pa; rw [eb] at pb; rw [if_pos pb] at h; omega
    · exact count_one (by omega) ha' hb' pa pb
structure Inv (P l : List (List Int)) (c : Nat) (x8 : List (List Int × Int)) (m7 : List Int) : Prop where
  len7 : m7.length = 256
  at7 : ∀ d, d < c → m7.getD d 0 = (cls l d : Int)
  seen : ∀ p ∈ P, ∀ d, d < c → hs p d = true → findM EQ p x8 = some (cls l d : Int)
  new : ∀ p ∈ P, (∀ d, d < c → hs p d = false) → findM EQ p x8 = none
  len8 : x8.length = cnt l c
def updM (x8 : List (List Int × Int)) (p : List Int) : List (List Int × Int) := if (findM EQ p x8).isSome = true then x8 else putM EQ p (x8.length : Int) x8
theorem Inv.step {P l : List (List Int)} {c : Nat} {x8 : List (List Int × Int)} {m7 : List Int} (hP : Parts P l) (hc : c < 256) (h : Inv P l c x8 m7) {p : List Int} (hp : p ∈ P) (hpc : hs p c = true) :
    Inv P l (c + 1) (updM x8 p) (m7.set c ((findM EQ p (updM x8 p)).getD 0)) := by
  have hr := rep_le l c
  have uniq : ∀ q ∈ P, hs q c = true → q = p := fun q hq e => count_one (Nat.le_of_eq (hP.one c hc)) hq hp e hpc
  have old : rep l c < c → findM EQ p x8 = some (cls l c : Int) := fun h2 => by
    have e : hs p (rep l c) = true := by rw [hP.cls p hp c (rep l c) hc (by omega) hpc]; exact rep_al l c
    rw [h.seen p hp (rep l c) h2 e, cls_rep]
  have fresh : ¬ rep l c < c → findM EQ p x8 = none := fun h2 => h.new p hp fun d hd => by
    cases e : hs p d with
    | false => rfl
    | true =>
      have := hP.cls p hp c d hc (by omega) hpc
      rw [e, rep_min l (show d < rep l c by omega)] at this; cases this
  have key : findM EQ p (updM x8 p) = some (cls l c : Int) ∧ (updM x8 p).length = cnt l (c + 1) ∧ ∀ q ∈ P, q ≠ p → findM EQ q (updM x8 p) = findM EQ q x8 := by
    unfold updM
    by_cases h2 : rep l c < c
    · rw [if_pos (by rw [old h2]; rfl)]
      refine ⟨old h2, ?_, fun _ _ _ => rfl⟩
      rw [h.len8]; show _ = cnt l c + (if rep l c = c then 1 else 0); rw [if_neg (by omega)]; rfl
    · rw [if_neg (by rw [fresh h2]; simp)]
      refine ⟨?_, ?_, fun q _ hq => find_put_ne hq _⟩
      · rw [find_put_self, h.len8, cls_new l (by omega)]
      · rw [put_len _ (fresh h2), h.len8]; show _ = cnt l c + (if rep l c = c then 1 else 0); rw [if_pos (by omega)]
  obtain ⟨k1, k2, k3⟩ := key
  refine ⟨by rw [List.length_set]; exact h.len7, fun d hd => ?_, fun q hq d hd e => ?_, fun q hq e => ?_, k2⟩
  · rw [k1]
    by_cases e : d = c
    · subst e; rw [List.getD_eq_getElem?_getD, List.getElem?_set_self (by rw [h.len7]; exact hc)]; rfl
    · rw [List.getD_eq_getElem?_getD, List.getElem?_set_ne (fun q => e q.symm), ← List.getD_eq_getElem?_getD]; exact h.at7 d (by omega)
  · by_cases e2 : d = c
    · subst e2; rw [uniq q hq e]; exact k1
    · by_cases e3 : q = p
      · subst e3
        rw [k1]
        have := hP.cls q hq d c (by omega) hc e
        rw [hpc] at this
        rw [al_cls l this.symm]
      · rw [k3 q hq e3]; exact h.seen q hq d (by omega) e
  · have e3 : q ≠ p := fun e3 => by subst e3; rw [e c (by omega)] at hpc; cases hpc
    rw [k3 q hq e3]
    exact h.new q hq fun d hd => e d (by omega)
theorem classes_p4 (P : List (List Int)) (hlen : P.length ≤ 2147483648) (hV : ∀ p ∈ P, V p) (A : bytesets_Classes.T3) (c : Nat) (hc : c < 256) (m2 : List Int) : ∀ (m j : Nat) (x8 : List (List Int × Int)) (m7 : List Int), P.length < m + j → j ≤ P.length →
    ((P.drop j).countP (fun p => hs p c) = 0 → bytesets_Classes.p4 fuel A m P x8 (c : Int) (c : Int) P (P.length : Int) (j : Int) m2 m7 = A P x8 ((c + 1 : Nat) : Int) m2 m7) ∧
    (x8.length < 256 → ∀ p ∈ P.drop j, hs p c = true → (P.drop j).countP (fun p => hs p c) = 1 → bytesets_Classes.p4 fuel A m P x8 (c : Int) (c : Int) P (P.length : Int) (j : Int) m2 m7 = A P (updM x8 p) ((c + 1 : Nat) : Int) m2 (m7.set c ((findM EQ p (updM x8 p)).getD 0)))
  | 0, j, x8, m7, h, hj => by omega
  | m + 1, j, x8, m7, h, hj => by
    have step : bytesets_Classes.p4 fuel A (m + 1) P x8 (c : Int) (c : Int) P (P.length : Int) (j : Int) m2 m7 = bytesets_Classes.t4 (bytesets_Classes.p6 fuel A (bytesets_Classes.p4 fuel A m)) (bytesets_Classes.p7 fuel A (bytesets_Classes.p4 fuel A m)) (bytesets_Classes.p8 fuel A) P x8 (c : Int) (c : Int) P (P.length : Int) (j : Int) m2 m7 := rfl
    rw [step]
    have wc : w8 (c : Int) = (c : Int) := w8_id (by omega) (by omega)
    have wc1 : w64 ((c : Int) + 1) = ((c + 1 : Nat) : Int) := w64_id (by omega) (by omega)
    simp only [bytesets_Classes.t4, iteB_dec, wc]
    by_cases h1 : j < P.length
    · have hg : P.getD j (List.replicate 4 (0 : Int)) = P[j] := by simp [h1]
      have hVj : V P[j] := hV _ (List.getElem_mem h1)
      have wi : w64 ((j : Int) + 1) = ((j + 1 : Nat) : Int) := w64_id (by omega) (by omega)
      have p6e : ∀ x8 m7, bytesets_Classes.p6 fuel A (bytesets_Classes.p4 fuel A m) P x8 (c : Int) (c : Int) P (P.length : Int) (j : Int) m2 m7 = bytesets_Classes.p4 fuel A m P x8 (c : Int) (c : Int) P (P.length : Int) ((j + 1 : Nat) : Int) m2 m7 := fun x8 m7 => by
        show bytesets_Classes.p4 fuel A m P x8 (c : Int) (c : Int) P (P.length : Int) (w64 ((j : Int) + 1)) m2 m7 = _
        rw [wi]
      have p7e : ∀ x8 q, bytesets_Classes.p7 fuel A (bytesets_Classes.p4 fuel A m) P x8 (c : Int) (c : Int) P (P.length : Int) (j : Int) m2 m7 q = bytesets_Classes.p4 fuel A m P x8 (c : Int) (c : Int) P (P.length : Int) ((j + 1 : Nat) : Int) m2 (m7.set c ((findM EQ q x8).getD 0)) := fun x8 q => by
        show withinR (c : Int) 256 (fun q6 => bytesets_Classes.p6 fuel A (bytesets_Classes.p4 fuel A m) P x8 (c : Int) (c : Int) P (P.length : Int) (j : Int) m2 (List.set m7 q6 _)) = _
        rw [withinR_nat hc, p6e]
      have ih := fun x8 m7 => classes_p4 P hlen hV A c hc m2 m (j + 1) x8 m7 (by omega) (by omega)
      rw [if_pos (by omega), withinR_nat h1, hg, Has_eq hVj c hc, bindR_val, List.drop_eq_getElem_cons h1, List.countP_cons]
      cases e : hs P[j] c with
      | false =>
        rw [notB_false, iteB_true, p6e]
        refine ⟨fun q => (ih x8 m7).1 (by simpa using q), fun hx p hp hpc q => (ih x8 m7).2 hx p ?_ hpc (by simpa using q)⟩
        rcases List.mem_cons.1 hp with rfl | hp
        · rw [e] at hpc; cases hpc
        · exact hp
      | true =>
        rw [notB_true, iteB_false]
        refine ⟨fun q => by simp at q, fun hx p hp hpc q => ?_⟩
        have z : (P.drop (j + 1)).countP (fun p => hs p c) = 0 := by simpa using q
        have ep : p = P[j] := by
          rcases List.mem_cons.1 hp with e | hp
          · exact e
          · have : 0 < (P.drop (j + 1)).countP (fun p => hs p c) := List.countP_pos_iff.2 ⟨p, hp, hpc⟩; omega
        subst ep
        have w : w8 ((x8.length : Nat) : Int) = ((x8.length : Nat) : Int) := w8_id (by omega) (by omega)
        rw [w, p7e, p7e]
        unfold updM
        cases f : (findM EQ P[j] x8).isSome with
        | true =>
          rw [show findM (fun (a b : List Int) => decide (a = b)) P[j] x8 = findM EQ P[j] x8 from rfl, notB_true, iteB_false, if_pos rfl]
          exact (ih x8 _).1 z
        | false =>
          rw [show findM (fun (a b : List Int) => decide (a = b)) P[j] x8 = findM EQ P[j] x8 from rfl, notB_false, iteB_true, if_neg (by simp)]
          exact (ih _ _).1 z
    · rw [if_neg (by omega)]
      have p8e : bytesets_Classes.p8 fuel A P x8 (c : Int) m2 m7 = A P x8 ((c + 1 : Nat) : Int) m2 m7 := by
        show A P x8 (w64 ((c : Int) + 1)) m2 m7 = _
        rw [wc1]
      refine ⟨fun _ => p8e, fun _ p hp => ?_⟩
      rw [List.drop_of_length_le (by omega)] at hp; cases hp
theorem classes_p3 (P l : List (List Int)) (hlen : P.length ≤ 2147483648) (hP : Parts P l) (m2 : List Int) : ∀ (m c : Nat) (x8 : List (List Int × Int)) (m7 : List Int), 256 < m + c → c ≤ 256 → Inv P l c x8 m7 →
    ∃ f, bytesets_Classes.p3 fuel m P x8 (c : Int) m2 m7 = some ((f, (P.length : Int)), ()) ∧ f.length = 256 ∧ ∀ d, d < 256 → f.getD d 0 = (cls l d : Int)
  | 0, c, x8, m7, h, hc, _ => by omega
  | m + 1, c, x8, m7, h, hc, hI => by
    have step : bytesets_Classes.p3 fuel (m + 1) P x8 (c : Int) m2 m7 = bytesets_Classes.t3 (bytesets_Classes.p4 fuel (bytesets_Classes.p3 fuel m) fuel) (bytesets_Classes.p5 fuel) P x8 (c : Int) m2 m7 := rfl
    rw [step]
    simp only [bytesets_Classes.t3, iteB_dec]
    by_cases h1 : c < 256
    · have one := hP.one c h1
      obtain ⟨p, hp, hpc⟩ := List.countP_pos_iff.1 (show 0 < P.countP (fun p => hs p c) by omega)
      have cl := cnt_le l c
      have := (classes_p4 P hlen (fun p hp => (hP.v p hp).1) (bytesets_Classes.p3 fuel m) c h1 m2 fuel 0 x8 m7 (by have := fuel_gt P.length (by omega); omega) (by omega)).2 (by rw [hI.len8]; omega) p (by rw [List.drop_zero]; exact hp) hpc (by rw [List.drop_zero]; exact one)
      rw [if_pos (by omega)]
      obtain ⟨f, f1, f2⟩ := classes_p3 P l hlen hP m2 m (c + 1) _ _ (by omega) (by omega) (hI.step hP h1 hp hpc)
      exact ⟨f, this.trans f1, f2⟩
    · rw [if_neg (by omega)]
      have e : c = 256 := by omega
      subst e
      exact ⟨m7, rfl, hI.len7, hI.at7⟩
/-! ### How many parts there are -/
theorem count_or {α : Type} (p q : α → Bool) : ∀ (L : List α), (∀ x ∈ L, p x = true → q x = false) → L.countP (fun x => p x || q x) = L.countP p + L.countP q
  | [], _ => rfl
  | x :: L, h => by
    have ih := count_or p q L fun y hy => h y (List.mem_cons_of_mem _ hy)
    have h0 := h x (List.mem_cons_self ..)
    rw [List.countP_cons, List.countP_cons, List.countP_cons, ih]
    cases e : p x with
    | true => rw [h0 e]; simp; omega
    | false => cases q x <;> simp <;> omega
def sn (c : Nat) (p : List Int) : Bool := (List.range c).any (hs p)
theorem sn_succ (c : Nat) (p : List Int) : sn (c + 1) p = (sn c p || hs p c) := by simp [sn, List.range_succ]
theorem sn_iff {c : Nat} {p : List Int} : sn c p = true ↔ ∃ d, d < c ∧ hs p d = true := by simp [sn]
theorem parts_cnt {P l : List (List Int)} (hP : Parts P l) : ∀ c, c ≤ 256 → P.countP (sn c) = cnt l c
  | 0, _ => by rw [List.countP_eq_zero.2 (fun p _ => by simp [sn])]; rfl
  | c + 1, h => by
    have ih := parts_cnt hP c (by omega)
    have hr := rep_le l c
    show _ = cnt l c + (if rep l c = c then 1 else 0)
    have e : P.countP (sn (c + 1)) = P.countP (fun p => sn c p || hs p c) := congrArg (fun f => P.countP f) (funext fun p => sn_succ c p)
    rw [e]
    by_cases h2 : rep l c = c
    · rw [if_pos h2, count_or _ _ P, ih, hP.one c (by omega)]
      intro p hp q
      obtain ⟨d, hd, e⟩ := sn_iff.1 q
      cases f : hs p c with
      | false => rfl
      | true =>
        have := hP.cls p hp c d (by omega) (by omega) f
        rw [e, rep_min l (show d < rep l c by omega)] at this; cases this
    · rw [if_neg h2, Nat.add_zero, ← ih]
      apply List.countP_congr
      intro p hp
      rw [Bool.or_eq_true]
      refine ⟨fun q => q.elim id fun f => ?_, .inl⟩
      refine sn_iff.2 ⟨rep l c, by omega, ?_⟩
      rw [hP.cls p hp c (rep l c) (by omega) (by omega) f]; exact rep_al l c
theorem parts_len {P l : List (List Int)} (hP : Parts P l) : P.length = cnt l 256 := by
  rw [← parts_cnt hP 256 (by omega)]
  symm
  rw [List.countP_eq_length]
  intro p hp
  obtain ⟨d, hd, e⟩ := (hP.v p hp).2
  exact sn_iff.2 ⟨d, hd, e⟩
theorem Classes_eq (l : List (List Int)) (hl : l.length ≤ 30) (hV : ∀ s ∈ l, V s) : ∃ f, s_bytesets_Classes (l, ()) = some ((f, (cnt l 256 : Int)), ()) ∧ f.length = 256 ∧ ∀ d, d < 256 → f.getD d 0 = (cls l d : Int) := by
  obtain ⟨s, s1, s2, s3⟩ := All_eq
  have st : s_bytesets_Classes (l, ()) = bindR (s_bytesets_All ()) fun r1 => bytesets_Classes.p1 fuel fuel [r1.1] l (l.length : Int) ((0 : Nat) : Int) (List.replicate 256 (0 : Int)) := rfl
  obtain ⟨P, p1, p2, p3⟩ := classes_p1 l hl hV (List.replicate 256 (0 : Int)) fuel 0 [s] (by have := fuel_gt l.length (by omega); omega) (by omega) (Parts.init s2 s3) (by simp)
  have h30 : 2 ^ l.length ≤ 2 ^ 30 := Nat.pow_le_pow_right (by omega) (by omega)
  have I0 : Inv P l 0 [] (List.replicate 256 (0 : Int)) := ⟨by simp, fun d hd => by omega, fun p hp d hd => by omega, fun p hp _ => rfl, rfl⟩
  obtain ⟨f, f1, f2, f3⟩ := classes_p3 P l (by omega) p2 (List.replicate 256 (0 : Int)) fuel 0 [] _ (by have := fuel_gt 1000 (by omega); omega) (by omega) I0
  refine ⟨f, ?_, f2, f3⟩
  rw [st, s1, bindR_val, p1, ← parts_len p2, ← f1]
  rfl
theorem Class_eq (l : List (List Int)) (hl : l.length ≤ 30) (hV : ∀ s ∈ l, V s) (k : Int) : ∃ r, s_bytesets_Class (l, (k, ())) = some (r, ()) ∧ V r ∧ ∀ n, n < 256 → hs r n = decide ((cls l n : Int) = k) := by
  obtain ⟨f, f1, f2, f3⟩ := Classes_eq l hl hV
  obtain ⟨r, r1, r2, r3⟩ := those_eq f f2 k
  have st : s_bytesets_Class (l, (k, ())) = bindR (s_bytesets_Classes (l, ())) fun r1 => bindR (s_bytesets_those_l23 ((r1.1.1, (k, ())), ())) fun r2 => some (r2.1, ()) := rfl
  refine ⟨r, by rw [st, f1, bindR_val, r1]; rfl, r2, fun n hn => ?_⟩
  have := cls_le l n
  rw [r3 n hn, f3 n hn, w64_id (by omega) (by omega)]
/-! ### The laws -/
theorem law_p1 (l : List (List Int)) (k : Int) (f r : List Int) (hf : f.length = 256) (hf2 : ∀ d, d < 256 → f.getD d 0 = (cls l d : Int)) (hr : V r) (hr2 : ∀ n, n < 256 → hs r n = decide ((cls l n : Int) = k)) : ∀ (m c : Nat), 256 < m + c → c ≤ 256 →
    law05_BytesetsClasses.p1 fuel m k (wantOf l 256) (c : Int) f r = some (true, ())
  | 0, c, h, hc => by omega
  | m + 1, c, h, hc => by
    have step : law05_BytesetsClasses.p1 fuel (m + 1) k (wantOf l 256) (c : Int) f r = law05_BytesetsClasses.t1 (law05_BytesetsClasses.p2 fuel (law05_BytesetsClasses.p1 fuel m)) (law05_BytesetsClasses.p3 fuel) k (wantOf l 256) (c : Int) f r := rfl
    rw [step]
    simp only [law05_BytesetsClasses.t1, iteB_dec]
    by_cases h1 : c < 256
    · have wc : w8 (c : Int) = (c : Int) := w8_id (by omega) (by omega)
      have wi : w64 ((c : Int) + 1) = ((c + 1 : Nat) : Int) := w64_id (by omega) (by omega)
      have := cls_le l c
      have hw : c < (wantOf l 256).length := by rw [wantOf_len]; exact h1
      rw [if_pos (by omega), withinR_nat h1, withinR_nat hw, hf2 c h1, wantOf_get l h1, w64_id (by omega) (by omega), decide_eq_true rfl, Bool.not_true, iteB_false, withinR_nat hw, wc, has_eq hr c h1, bindR_val, hr2 c h1, wantOf_get l h1]
      show law05_BytesetsClasses.t2 (law05_BytesetsClasses.p4 fuel (law05_BytesetsClasses.p1 fuel m)) k (wantOf l 256) (c : Int) _ f r = _
      simp only [law05_BytesetsClasses.t2, beq_self_eq_true, Bool.not_true, iteB_false]
      show law05_BytesetsClasses.p1 fuel m k (wantOf l 256) (w64 ((c : Int) + 1)) f r = _
      rw [wi]
      exact law_p1 l k f r hf hf2 hr hr2 m (c + 1) (by omega) (by omega)
    · rw [if_neg (by omega)]; rfl
theorem classesLaw (l : List (List Int)) (k : Int) (hV : ∀ s ∈ l, V s) : s_law05_BytesetsClasses (l, (k, ())) = some (true, ()) := by
  have st : s_law05_BytesetsClasses (l, (k, ())) = law05_BytesetsClasses.t0 (law05_BytesetsClasses.p1 fuel fuel) l k := rfl
  rw [st]
  simp only [law05_BytesetsClasses.t0, alive5, bindR_val, notB_true, iteB_false, iteB_dec]
  by_cases hl : (12 : Int) < (l.length : Int)
  · rw [if_pos hl]
  · rw [if_neg hl]
    obtain ⟨f, f1, f2, f3⟩ := Classes_eq l (by omega) hV
    obtain ⟨r, r1, r2, r3⟩ := Class_eq l (by omega) hV k
    simp only [f1, bindR_val, RefClasses_eq l (by omega) hV, decide_true, Bool.not_true, iteB_false, r1]
    exact law_p1 l k f r f2 f3 r2 r3 fuel 0 (by have := fuel_gt 1000 (by omega); omega) (by omega)
theorem f_classes : F_law05_BytesetsClasses.f = s_law05_BytesetsClasses := by kernel_rfl
theorem f_parts : F_law05_BytesetsParts.f = s_law05_BytesetsParts := by kernel_rfl
end Go.Proofs.Ytpmlimdilajidaa.Vm.Bs
namespace Go.Proofs.Ytpmlimdilajidaa.Vm.Bs
open Go Go.Proofs.Ytpmlimdilajidaa.Vm
set_option linter.unusedVariables false
set_option maxRecDepth 100000
theorem al_at {l : List (List Int)} {a b : Nat} (h : al l a b = true) {s : List Int} (hs' : s ∈ l) : hs s a = hs s b := by
  simp only [al, List.all_eq_true, beq_iff_eq] at h
  exact h s hs'
theorem parts_p4 (l : List (List Int)) (hl : l.length ≤ 30) (hV : ∀ s ∈ l, V s) (N : Nat) (c256 : N ≤ 256) (hN : ∀ x, x < 256 → cls l x < N) (A : law05_BytesetsParts.T3) (i : Nat) (hi : i < l.length) : ∀ (m k : Nat) (tog : List Int), N < m + k → k ≤ N → V tog →
    (∀ x, x < 256 → hs tog x = (hs l[i] x && decide (cls l x < k))) →
    law05_BytesetsParts.p4 fuel A m l (N : Int) (i : Int) (k : Int) tog = law05_BytesetsParts.p7 fuel A l (N : Int) (i : Int) l[i]
  | 0, k, tog, h, hk, _, _ => by omega
  | m + 1, k, tog, h, hk, hT, hI => by
    have step : law05_BytesetsParts.p4 fuel A (m + 1) l (N : Int) (i : Int) (k : Int) tog = law05_BytesetsParts.t4 (law05_BytesetsParts.p6 fuel A (law05_BytesetsParts.p4 fuel A m)) (law05_BytesetsParts.p7 fuel A) l (N : Int) (i : Int) (k : Int) tog := rfl
    have hVi : V l[i] := hV _ (List.getElem_mem hi)
    rw [step]
    simp only [law05_BytesetsParts.t4, iteB_dec]
    by_cases h1 : k < N
    · have wi : w64 ((k : Int) + 1) = ((k + 1 : Nat) : Int) := w64_id (by omega) (by omega)
      have hg : l.getD i (List.replicate 4 (0 : Int)) = l[i] := by simp [hi]
      have p6e : ∀ z, law05_BytesetsParts.p6 fuel A (law05_BytesetsParts.p4 fuel A m) l (N : Int) (i : Int) (k : Int) z = law05_BytesetsParts.p4 fuel A m l (N : Int) (i : Int) ((k + 1 : Nat) : Int) z := fun z => by
        show law05_BytesetsParts.p4 fuel A m l (N : Int) (i : Int) (w64 ((k : Int) + 1)) z = _
        rw [wi]
      obtain ⟨r, r1, r2, r3⟩ := Class_eq l hl hV (k : Int)
      obtain ⟨q, q1, q2, q3⟩ := And_eq r2 hVi
      rw [if_pos (by omega), r1, bindR_val, withinR_nat hi, hg, q1, bindR_val]
      by_cases e : q = Z
      · rw [decide_eq_true e, Bool.not_true, iteB_false, p6e]
        refine parts_p4 l hl hV N c256 hN A i hi m (k + 1) tog (by omega) (by omega) hT fun x hx => ?_
        rw [hI x hx]
        have z := q3 x hx
        rw [e, hs0, r3 x hx] at z
        by_cases e2 : cls l x = k
        · rw [decide_eq_true (by omega), Bool.true_and] at z
          rw [← z]; simp
        · have : decide (cls l x < k + 1) = decide (cls l x < k) := by
            by_cases e3 : cls l x < k
            · rw [decide_eq_true e3, decide_eq_true (by omega)]
            · rw [decide_eq_false e3, decide_eq_false (by omega)]
          rw [this]
      · obtain ⟨y, y1, y2⟩ := ne_any q2 e
        rw [q3 y y1, r3 y y1, Bool.and_eq_true, decide_eq_true_eq] at y2
        obtain ⟨o, o1, o2, o3⟩ := Or_eq [tog, r] (by simp) (fun s hs => by
          rcases List.mem_cons.1 hs with rfl | hs
          · exact hT
          · rw [List.mem_singleton.1 hs]; exact r2)
        rw [decide_eq_false e, Bool.not_false, iteB_true, o1, bindR_val, p6e]
        refine parts_p4 l hl hV N c256 hN A i hi m (k + 1) o (by omega) (by omega) o2 fun x hx => ?_
        rw [o3 x hx]
        simp only [List.any_cons, List.any_nil, Bool.or_false]
        rw [hI x hx, r3 x hx]
        by_cases e2 : cls l x = k
        · have ax : al l y x = true := cls_al l (by omega)
          have sx : hs l[i] x = true := by rw [← al_at ax (List.getElem_mem hi)]; exact y2.2
          rw [sx, decide_eq_true (show (cls l x : Int) = (k : Int) by omega), decide_eq_true (show cls l x < k + 1 by omega), Bool.or_true, Bool.and_true]
        · rw [decide_eq_false (show ¬(cls l x : Int) = (k : Int) by omega), Bool.or_false]
          have : decide (cls l x < k + 1) = decide (cls l x < k) := by
            by_cases e3 : cls l x < k
            · rw [decide_eq_true e3, decide_eq_true (by omega)]
            · rw [decide_eq_false e3, decide_eq_false (by omega)]
          rw [this]
    · rw [if_neg (by omega)]
      have e : tog = l[i] := V_ext hT hVi fun x hx => by
        have := hN x hx
        rw [hI x hx, decide_eq_true (by omega), Bool.and_true]
      rw [e]
theorem parts_p3 (l : List (List Int)) (hl : l.length ≤ 30) (hV : ∀ s ∈ l, V s) (N : Nat) (c256 : N ≤ 256) (hN : ∀ x, x < 256 → cls l x < N) : ∀ (m i : Nat), l.length < m + i → i ≤ l.length → law05_BytesetsParts.p3 fuel m l (N : Int) (i : Int) = some (true, ())
  | 0, i, h, hi => by omega
  | m + 1, i, h, hi => by
    have step : law05_BytesetsParts.p3 fuel (m + 1) l (N : Int) (i : Int) = law05_BytesetsParts.t3 (law05_BytesetsParts.p4 fuel (law05_BytesetsParts.p3 fuel m) fuel) (law05_BytesetsParts.p5 fuel) l (N : Int) (i : Int) := rfl
    rw [step]
    simp only [law05_BytesetsParts.t3, iteB_dec]
    by_cases h1 : i < l.length
    · have wi : w64 ((i : Int) + 1) = ((i + 1 : Nat) : Int) := w64_id (by omega) (by omega)
      have hg : l.getD i (List.replicate 4 (0 : Int)) = l[i] := by simp [h1]
      rw [if_pos (by omega)]
      refine Eq.trans (parts_p4 l hl hV N c256 hN (law05_BytesetsParts.p3 fuel m) i h1 fuel 0 (List.replicate 4 (0 : Int)) (by have := fuel_gt 1000 (by omega); omega) (by omega) V0 fun x hx => by rw [hs0, decide_eq_false (by omega), Bool.and_false]) ?_
      have p8e : law05_BytesetsParts.p8 fuel (law05_BytesetsParts.p3 fuel m) l (N : Int) (i : Int) false = law05_BytesetsParts.p3 fuel m l (N : Int) ((i + 1 : Nat) : Int) := by
        show law05_BytesetsParts.p3 fuel m l (N : Int) (w64 ((i : Int) + 1)) = _
        rw [wi]
      have ih := parts_p3 l hl hV N c256 hN m (i + 1) (by omega) (by omega)
      show law05_BytesetsParts.t7 (law05_BytesetsParts.p8 fuel (law05_BytesetsParts.p3 fuel m)) l (N : Int) (i : Int) l[i] = _
      simp only [law05_BytesetsParts.t7, iteB_dec]
      by_cases h3 : (i : Int) < 3
      · rw [if_pos h3, withinR_nat h1, hg, decide_eq_true rfl, Bool.not_true, p8e, ih]
      · rw [if_neg h3, p8e, ih]
    · rw [if_neg (by omega)]; rfl
theorem partsLaw (l : List (List Int)) (a b : Int) (hV : ∀ s ∈ l, V s) (a0 : 0 ≤ a) (a1 : a < 256) (b0 : 0 ≤ b) (b1 : b < 256) : s_law05_BytesetsParts (l, (a, (b, ()))) = some (true, ()) := by
  obtain ⟨a, rfl⟩ : ∃ n : Nat, a = n := ⟨a.toNat, by omega⟩
  obtain ⟨b, rfl⟩ : ∃ n : Nat, b = n := ⟨b.toNat, by omega⟩
  have ha : a < 256 := by omega
  have hb : b < 256 := by omega
  have st : s_law05_BytesetsParts (l, ((a : Int), ((b : Int), ()))) = law05_BytesetsParts.t0 (law05_BytesetsParts.p1 fuel) l (a : Int) (b : Int) := rfl
  rw [st]
  simp only [law05_BytesetsParts.t0, alive5, bindR_val, notB_true, iteB_false, iteB_dec]
  by_cases hl : (30 : Int) < (l.length : Int)
  · rw [if_pos hl]
  · rw [if_neg hl]
    have hl' : l.length ≤ 30 := by omega
    obtain ⟨f, f1, f2, f3⟩ := Classes_eq l hl' hV
    have lt := cls_lt l ha
    have le := cls_le l a
    have e : (decide ((cls l a : Int) = (cls l b : Int)) == al l a b) = true := by
      cases q : al l a b with
      | true => rw [al_cls l q, decide_eq_true rfl]; rfl
      | false =>
        rw [decide_eq_false]; rfl
        intro h
        rw [cls_al l (by omega)] at q; cases q
    obtain ⟨N, hN⟩ : ∃ N, N = cnt l 256 := ⟨_, rfl⟩
    rw [← hN] at f1 lt
    rw [f1, bindR_val, withinR_nat ha, withinR_nat hb, Alike_eq l (by omega) hV a b ha hb, bindR_val, f3 a ha, f3 b hb, e, Bool.not_true, iteB_false, withinR_nat ha]
    simp only [f3 a ha]
    rw [w64_id (n := (cls l a : Int)) (by omega) (by omega), decide_eq_false (show ¬((N : Int) ≤ (cls l a : Int)) by omega)]
    exact parts_p3 l hl' hV N (by rw [hN]; exact cnt_le l 256) (fun x hx => by rw [hN]; exact cls_lt l hx) fuel 0 (by have := fuel_gt 1000 (by omega); omega) (by omega)
end Go.Proofs.Ytpmlimdilajidaa.Vm.Bs
