/- The plain laws of places. -/
import Derived.Test.YtdifekkamjoepaaFnsPlace
import Derived.Test.YtdifekkamjoepaaLaw
namespace Go.Proofs.Ytdifekkamjoepaa.Vm.Rp
open Go Go.Proofs.Ytdifekkamjoepaa.Vm
set_option linter.unusedVariables false

def st (s : List UInt8) (k : Nat) : Nat := if k = 0 then 0 else ln s k
def en (s : List UInt8) (k : Nat) : Nat := if k + 1 ≤ nl s then ln s (k + 1) - 1 else s.length
def cut : List UInt8 → Nat → Nat
  | [], _ => 0
  | c :: t, n => if isF c = true then 1 + cut t n else if n = 0 then 0 else 1 + cut t (n - 1)
end Go.Proofs.Ytdifekkamjoepaa.Vm.Rp
namespace Go.Proofs.Ytdifekkamjoepaa.Vm.Rp
open Go Go.Proofs.Ytdifekkamjoepaa.Vm
set_option linter.unusedVariables false
section
variable {s : List UInt8} {o : Option N0}

theorem rEdge_eq (t : List UInt8) (i : Nat) (h : i ≤ t.length) : s_ref01_Edge (t, ((i : Int), ())) = some (decide (i = t.length ∨ isF (t.getD i 0) = false), ()) := by
  show ref01_Edge.t0 (ref01_Edge.p1 fuel) t i = _
  simp only [ref01_Edge.t0, iteB_dec]
  rw [if_neg (by omega), decide_eq_false (by omega)]
  show ref01_Edge.t2 t i = _
  simp only [ref01_Edge.t2, iteB_dec]
  by_cases c : i = t.length
  · rw [if_pos (by omega), decide_eq_true (.inl c)]
  · rw [if_neg (by omega), withinR_nat (by omega)]
    show bindR (s_ref01_Follower (((t.getD i 0).toNat : Int), ())) _ = _
    rw [rfollower_eq, bindR_val]
    cases hF : isF (t.getD i 0) with
    | true => rw [decide_eq_false (by simp [c])]; rfl
    | false => rw [decide_eq_true (.inr rfl)]; rfl
theorem rEdge_bad (t : List UInt8) (i : Int) (h : i < 0 ∨ t.length < i) : s_ref01_Edge (t, (i, ())) = some (false, ()) := by
  show ref01_Edge.t0 (ref01_Edge.p1 fuel) t i = _
  simp only [ref01_Edge.t0, iteB_dec]
  by_cases c : i < 0
  · rw [if_pos c]; rfl
  · rw [if_neg c, decide_eq_true (by omega)]; rfl
theorem rune_edge (c : UInt8) : s_runes_Edge (bytesOf ([((c.toNat : Int))] : List Int), ((0 : Int), ())) = some (!isF c, ()) := by
  have e : bytesOf ([((c.toNat : Int))] : List Int) = [c] := by
    show [UInt8.ofNat ((c.toNat : Int)).toNat] = [c]
    rw [Int.toNat_natCast, UInt8.ofNat_toNat]
  rw [e]
  show runes_Edge.t0 [c] 0 = _
  simp only [runes_Edge.t0, iteB_dec]
  rw [if_neg (by simp), if_pos (by omega), if_pos (by simp), withinR_zero (by simp)]
  show bindR (s_runes_isFollower ((c.toNat : Int), ())) _ = _
  rw [isFollower_eq, bindR_val]; rfl
theorem PEdge_eq (H : Ro s o) (hs : s.length < 1000000) (i : Int) : ∃ b, s_place_Edge (o, (i, ())) = some (b, ()) ∧ s_ref01_Edge (s, (i, ())) = some (b, ()) := by
  have st : s_place_Edge (o, (i, ())) = place_Edge.t0 o i := rfl
  rw [st]
  simp only [place_Edge.t0, iteB_dec, len_eq H (by omega), bindR_val, at_eq H (by omega)]
  by_cases c : i = s.length
  · subst c
    refine ⟨true, by rw [if_pos rfl], ?_⟩
    rw [rEdge_eq s s.length (Nat.le_refl _), decide_eq_true (.inl rfl)]
  · rw [if_neg c]
    by_cases c2 : 0 ≤ i ∧ i < s.length
    · obtain ⟨j, rfl⟩ : ∃ j : Nat, i = j := ⟨i.toNat, by omega⟩
      rw [if_pos c2]
      simp only [iteB_true]
      refine ⟨!isF (s.getD j 0), ?_, ?_⟩
      · have : byteAt s (j : Int).toNat = ((s.getD j 0).toNat : Int) := rfl
        rw [this, rune_edge, bindR_val]
      · rw [rEdge_eq s j (by omega)]
        cases hF : isF (s.getD j 0) with
        | true => rw [decide_eq_false (by simp; omega)]; rfl
        | false => rw [decide_eq_true (.inr rfl)]; rfl
    · rw [if_neg c2]
      exact ⟨false, rfl, rEdge_bad s i (by omega)⟩
end
end Go.Proofs.Ytdifekkamjoepaa.Vm.Rp
