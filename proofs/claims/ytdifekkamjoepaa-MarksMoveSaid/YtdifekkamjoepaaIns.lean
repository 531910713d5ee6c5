/- What puts in a row and takes out of one. -/
import Derived.Shelf.Spec.SlicesInsertGrow
import Derived.Shelf.Slices.Delete
import Derived.Test.YtdifekkamjoepaaProg
import Derived.Test.YtdifekkamjoepaaVm2
import Derived.Test.YtdifekkamjoepaaLib
namespace Go.Proofs
open Go.Shelf
def Try.laysNm221_ren : Go.Shelf.Ren := ⟨fun | 21 => 82 | 27 => 120 | 28 => 121 | 35 => 132 | 39 => 138 | n => n, fun | 22 => 27 | 3 => 3 | 4 => 4 | 0 => 0 | n => n, fun | n => n⟩
theorem Try.laysNm221 : Go.Proofs.Lays2.n21 Try.prog Try.laysNm221_ren := {
  mixed := by kernel_rfl
  f21 := Try.func82.trans (congrArg some (by kernel_rfl))
  f27 := Try.func120.trans (congrArg some (by kernel_rfl))
  f28 := Try.func121.trans (congrArg some (by kernel_rfl))
  f35 := Try.func132.trans (congrArg some (by kernel_rfl))
  f39 := Try.func138.trans (congrArg some (by kernel_rfl))
  t0 := Try.underlying0
  a0 := Try.isAgg0
  z0 := Try.sizeOf0
  v0 := Try.zeroValue0
  t3 := Try.underlying3
  a3 := Try.isAgg3
  z3 := Try.sizeOf3
  v3 := Try.zeroValue3
  t4 := Try.underlying4
  a4 := Try.isAgg4
  z4 := Try.sizeOf4
  v4 := Try.zeroValue4
  t22 := Try.underlying27
  a22 := Try.isAgg27
  z22 := Try.sizeOf27
  v22 := Try.zeroValue27
  i3 := by kernel_rfl }
def Try.laysNm222_ren : Go.Shelf.Ren := ⟨fun | 22 => 81 | 29 => 118 | 30 => 119 | 36 => 131 | 17 => 137 | n => n, fun | 24 => 26 | 9 => 9 | 3 => 3 | 4 => 4 | 0 => 0 | n => n, fun | n => n⟩
theorem Try.laysNm222 : Go.Proofs.Lays2.n22 Try.prog Try.laysNm222_ren := {
  mixed := by kernel_rfl
  f17 := Try.func137.trans (congrArg some (by kernel_rfl))
  f22 := Try.func81.trans (congrArg some (by kernel_rfl))
  f29 := Try.func118.trans (congrArg some (by kernel_rfl))
  f30 := Try.func119.trans (congrArg some (by kernel_rfl))
  f36 := Try.func131.trans (congrArg some (by kernel_rfl))
  t0 := Try.underlying0
  a0 := Try.isAgg0
  z0 := Try.sizeOf0
  v0 := Try.zeroValue0
  t3 := Try.underlying3
  a3 := Try.isAgg3
  z3 := Try.sizeOf3
  v3 := Try.zeroValue3
  t4 := Try.underlying4
  a4 := Try.isAgg4
  z4 := Try.sizeOf4
  v4 := Try.zeroValue4
  t9 := Try.underlying9
  a9 := Try.isAgg9
  z9 := Try.sizeOf9
  v9 := Try.zeroValue9
  t24 := Try.underlying26
  a24 := Try.isAgg26
  z24 := Try.sizeOf26
  v24 := Try.zeroValue26
  i9 := by kernel_rfl }
end Go.Proofs
namespace Go.Proofs.Ytdifekkamjoepaa.Vm.Rp
open Go Go.Proofs.Ytdifekkamjoepaa.Vm Go.Proofs Go.RowKit
set_option linter.unusedVariables false

theorem spl_take {cs new : List Value} {o : Nat} (h : o ≤ cs.length) : (spl cs o new).take (o + new.length) = cs.take o ++ new := by
  have e : (cs.take o ++ new).length = o + new.length := by simp; omega
  unfold spl
  rw [← e, List.take_left']; rfl
theorem spl_get {cs new : List Value} {o k : Nat} (h : o + new.length ≤ cs.length) : (spl cs o new)[k]? = if k < o then cs[k]? else if k < o + new.length then new[k - o]? else cs[k]? := by
  unfold spl
  have e1 : (cs.take o).length = o := by simp; omega
  by_cases h1 : k < o
  · rw [if_pos h1, List.append_assoc, List.getElem?_append_left (by omega), List.getElem?_take, if_pos h1]
  · rw [if_neg h1]
    by_cases h2 : k < o + new.length
    · rw [if_pos h2, List.append_assoc, List.getElem?_append_right (by omega), e1, List.getElem?_append_left (by omega)]
    · rw [if_neg h2, List.append_assoc, List.getElem?_append_right (by omega), e1, List.getElem?_append_right (by omega), List.getElem?_drop]
      congr 1; omega
/-- Put first, in the middle of what was moved. -/
theorem spl_shift {L B : List Value} {i : Nat} {v : Value} (h : i + 1 + B.length ≤ L.length) : (spl (spl L (i + 1) B) i [v]).take (i + 1 + B.length) = L.take i ++ v :: B := by
  have hl := spl_len (cs := L) (new := B) (off := i + 1) h
  apply List.ext_getElem?
  intro k
  rw [List.getElem?_take]
  have e1 : (L.take i).length = i := by simp; omega
  by_cases hk : k < i + 1 + B.length
  · rw [if_pos hk, spl_get (by rw [hl]; simp; omega), spl_get h]
    by_cases h1 : k < i
    · rw [if_pos h1, if_pos (by omega), List.getElem?_append_left (by omega), List.getElem?_take, if_pos h1]
    · rw [if_neg h1, List.getElem?_append_right (by omega), e1]
      by_cases h2 : k = i
      · subst h2; simp
      · rw [if_neg (by simp; omega), if_neg (by omega), if_pos (by omega)]
        rw [show k - i = (k - (i + 1)) + 1 by omega, List.getElem?_cons_succ]
  · rw [if_neg hk, List.getElem?_eq_none (by simp; omega)]

theorem set_cells {b : Nat} {e : TypeId} {f : Nat × Nat} : ∀ (vs : List Value) (o : Nat) (w : World) (cells : Array Value), w.heap[b]? = some (.cells cells e f) → o + vs.length ≤ cells.size →
    (w.setCells b o vs).heap[b]? = some (.cells (spl cells.toList o vs).toArray e f) ∧ (∀ b', b' ≠ b → (w.setCells b o vs).heap[b']? = w.heap[b']?) ∧ (w.setCells b o vs).heap.size = w.heap.size ∧
      (w.setCells b o vs).os = w.os ∧ (w.setCells b o vs).tape = w.tape ∧ (w.setCells b o vs).output = w.output
  | [], o, w, cells, h, hs => by
    refine ⟨?_, fun _ _ => rfl, rfl, rfl, rfl, rfl⟩
    show w.heap[b]? = _
    rw [h]; simp [spl]
  | v :: vs, o, w, cells, h, hs => by
    have hl : cells.toList.length = cells.size := Array.length_toList
    have h1 : (w.setCell ⟨b, o, none⟩ v).heap[b]? = some (.cells (cells.setIfInBounds o v) e f) := by simp [World.setCell, Array.getElem?_modify, h]
    obtain ⟨k1, k2, k3, k4, k5, k6⟩ := set_cells vs (o + 1) (w.setCell ⟨b, o, none⟩ v) _ h1 (by simp at hs ⊢; omega)
    refine ⟨?_, fun b' hb' => (k2 b' hb').trans (by simp only [World.setCell, Array.getElem?_modify]; rw [if_neg (by omega)]), k3.trans (by simp [World.setCell]), k4, k5, k6⟩
    show ((w.setCell ⟨b, o, none⟩ v).setCells b (o + 1) vs).heap[b]? = _
    rw [k1]
    congr 2
    have hs' : o + (v :: vs).length ≤ cells.toList.length := by rw [hl]; exact hs
    have hs2 : o + 1 + vs.length ≤ (cells.setIfInBounds o v).toList.length := by simp at hs ⊢; omega
    congr 1
    apply List.ext_getElem?
    intro k
    rw [spl_get hs2, spl_get hs', Array.toList_setIfInBounds]
    simp only [List.length_cons] at hs' ⊢
    by_cases c1 : k < o
    · rw [if_pos (by omega), if_pos c1, List.getElem?_set_ne (by omega)]
    · rw [if_neg c1]
      by_cases c2 : k = o
      · subst c2
        rw [if_pos (by omega), if_pos (by omega), List.getElem?_set_self (by omega)]; simp
      · rw [if_neg (by omega)]
        by_cases c3 : k < o + 1 + vs.length
        · rw [if_pos c3, if_pos (by omega), show k - o = (k - (o + 1)) + 1 by omega, List.getElem?_cons_succ]
        · rw [if_neg c3, if_neg (by omega), List.getElem?_set_ne (by omega)]

/-- What is written as one cell. -/
structure Enc (S : Cx) (u : Ty) (enc : S.den u → Value) : Prop where
  size : S.size u = 1
  r : ∀ (w : World) (Z : Nat → Prop) (cs : List Value) (y : S.den u), S.R w Z u cs y ↔ cs = [enc y]
  one : ∀ y, (enc y).oneCell' = true
section
variable {S : Cx} {u : Ty} {enc : S.den u → Value}
theorem row_iff (E : Enc S u enc) {w : World} {Z : Nat → Prop} {L : List Value} {l : List (S.den u)} (h : l.length ≤ L.length) :
    (∀ i y, nth l i = some y → S.R w Z u ((L.drop (i * S.size u)).take (S.size u)) y) ↔ L.take l.length = l.map enc := by
  rw [E.size]
  have key : ∀ i y, i < L.length → (S.R w Z u ((L.drop (i * 1)).take 1) y ↔ L[i]? = some (enc y)) := fun i y hi => by
    rw [E.r, Nat.mul_one, List.drop_eq_getElem_cons hi, List.getElem?_eq_getElem hi, List.take_succ_cons, List.take_zero]
    constructor
    · intro hh; rw [(List.cons.inj hh).1]
    · intro hh; rw [Option.some.inj hh]
  constructor
  · intro hh
    apply List.ext_getElem?
    intro k
    by_cases hk : k < l.length
    · rw [List.getElem?_take, if_pos hk, List.getElem?_map]
      have := (key k l[k] (by omega)).1 (hh k l[k] (by simp [nth, hk]))
      rw [this, List.getElem?_eq_getElem hk]; rfl
    · rw [List.getElem?_take, if_neg hk, List.getElem?_eq_none (by simp; omega)]
  · intro hh i y hy
    have hi := nth_lt hy
    refine (key i y (by omega)).2 ?_
    have : (L.take l.length)[i]? = (l.map enc)[i]? := by rw [hh]
    rw [List.getElem?_take, if_pos hi, List.getElem?_map] at this
    rw [this, show l[i]? = some y from hy]; rfl
theorem rowIntro (E : Enc S u enc) {w : World} {e b c : Nat} {cells : Array Value} {l : List (S.den u)} (h : w.heap[b]? = some (.cells cells e (0, 0))) (h1 : l.length ≤ c) (h2 : c ≤ maxLen) (h3 : cells.size = c)
    (h4 : cells.toList.take l.length = l.map enc) : ORow S w e u (.slice (some ⟨b, 0, none⟩) l.length c) l :=
  .inr ⟨b, c, cells, rfl, h, h1, h2, by rw [E.size, Nat.mul_one]; exact h3, (row_iff E (by rw [Array.length_toList (xs := cells), h3]; exact h1)).2 h4⟩
theorem rowElim (E : Enc S u enc) {w : World} {e : Nat} {v : Value} {l : List (S.den u)} (h : ORow S w e u v l) : (v = .slice none 0 0 ∧ l = []) ∨ ∃ b c cells, v = .slice (some ⟨b, 0, none⟩) l.length c ∧
    w.heap[b]? = some (.cells cells e (0, 0)) ∧ l.length ≤ c ∧ c ≤ maxLen ∧ cells.size = c ∧ cells.toList.take l.length = l.map enc := by
  rcases h with h | ⟨b, c, cells, h1, h2, h3, h4, h5, h6⟩
  · exact .inl h
  · rw [E.size, Nat.mul_one] at h5
    exact .inr ⟨b, c, cells, h1, h2, h3, h4, h5, (row_iff E (by rw [Array.length_toList (xs := cells), h5]; exact h3)).1 h6⟩
theorem row_cell {w : World} {b : Nat} {cells : Array Value} {e : TypeId} {f : Nat × Nat} (h : w.heap[b]? = some (.cells cells e f)) (j : Nat) : w.cell? ⟨b, j, none⟩ = cells.toList[j]? := by
  simp [World.cell?, h]
theorem row_frozen {w : World} {b : Nat} {cells : Array Value} {e : TypeId} (h : w.heap[b]? = some (.cells cells e (0, 0))) (j : Nat) : w.frozen? ⟨b, j, none⟩ = false := by
  simp [World.frozen?, h]

/-- What is told of slices.Insert. -/
def InsPost (w : World) (b : Option Nat) (e : Nat) (v : Value) (w' : World) (l' : List Value) : Prop :=
  w'.os = w.os ∧ w'.tape = w.tape ∧ w'.output = w.output ∧ w.heap.size ≤ w'.heap.size ∧ (∀ b', b' < w.heap.size → b ≠ some b' → w'.heap[b']? = w.heap[b']?) ∧
    ∃ b' c cells, v = .slice (some ⟨b', 0, none⟩) l'.length c ∧ w'.heap[b']? = some (.cells cells e (0, 0)) ∧ l'.length ≤ c ∧ c ≤ maxLen ∧ cells.size = c ∧ cells.toList.take l'.length = l' ∧ (b = some b' ∨ w.heap.size ≤ b')

theorem post_row (E : Enc S u enc) {w w' : World} {v0 v : Value} {e : Nat} {l : List (S.den u)} (h : InsPost w (rowOf v0) e v w' (l.map enc)) :
    w'.os = w.os ∧ w'.tape = w.tape ∧ w'.output = w.output ∧ w.heap.size ≤ w'.heap.size ∧ (∀ b, b < w.heap.size → rowOf v0 ≠ some b → w'.heap[b]? = w.heap[b]?) ∧
      ORow S w' e u v l ∧ ∀ b, rowOf v = some b → rowOf v0 = some b ∨ w.heap.size ≤ b := by
  obtain ⟨h1, h2, h3, h4, h5, b, c, cells, k1, k2, k3, k4, k5, k6, k7⟩ := h
  rw [List.length_map] at k1 k3 k6
  refine ⟨h1, h2, h3, h4, h5, by rw [k1]; exact rowIntro E k2 k3 k4 k5 k6, fun b' hb' => ?_⟩
  rw [k1] at hb'
  cases hb'; exact k7
end
end Go.Proofs.Ytdifekkamjoepaa.Vm.Rp
namespace Go.Proofs.Ytdifekkamjoepaa.Vm.Rp
open Go Go.Proofs.Ytdifekkamjoepaa.Vm Go.Proofs Go.RowKit Go.Lib
set_option linter.unusedVariables false

structure Roads (f : Nat) (e : Nat) (z : Value) (sz : Nat) : Prop where
  shift : ∀ (b off n c i vb voff m vc : Nat) (cs vs : List Value) (w : World) (hi : i < n) (hm : 0 < m) (hroom : n + m ≤ c) (hc63 : c ≤ 9223372036854775807) (hvb : vb ≠ b) (hcl : cs.length = n) (hvl : vs.length = m)
    (hcs : ∀ j v, cs[j]? = some v → w.cell? ⟨b, off + j, none⟩ = some v) (hsp : ∀ j, j < n + m → (w.cell? ⟨b, off + j, none⟩).isSome = true) (hfz : ∀ j, j < n + m → w.frozen? ⟨b, off + j, none⟩ = false)
    (hvs : ∀ j v, vs[j]? = some v → w.cell? ⟨vb, voff + j, none⟩ = some v) (h1c : ∀ v ∈ cs, v.oneCell' = true) (h1v : ∀ v ∈ vs, v.oneCell' = true)
    (tA tB : TypeId) (kA kB : Nat) (hsa : w.shape? vb = some (tA, kA)) (hsb : w.shape? b = some (tB, kB)) (hkB : kB ≠ 0) (hfa : w.frozen? ⟨vb, voff, none⟩ = false) (hfe : w.frozen? ⟨vb, kA, none⟩ = false),
    Calls Try.prog f #[.slice (some ⟨b, off, none⟩) n c, .int .i64 i, .slice (some ⟨vb, voff, none⟩) m vc] w fun e w' =>
      e = .returned (.slice (some ⟨b, off, none⟩) (n + m) c) ∧ w' = (w.drew.setCells b (off + (i + m)) (cs.drop i)).setCells b (off + i) vs
  endRoom : ∀ (b off n c vb voff m vc : Nat) (vs : List Value) (w : World) (hm : 0 < m) (hroom : n + m ≤ c) (hc63 : c ≤ 9223372036854775807)
    (hvl : vs.length = m) (hsp : ∀ j, j < m → (w.cell? ⟨b, off + n + j, none⟩).isSome = true) (hfz : ∀ j, j < m → w.frozen? ⟨b, off + n + j, none⟩ = false)
    (hvs : ∀ j v, vs[j]? = some v → w.cell? ⟨vb, voff + j, none⟩ = some v) (h1v : ∀ v ∈ vs, v.oneCell' = true),
    Calls Try.prog f #[.slice (some ⟨b, off, none⟩) n c, .int .i64 n, .slice (some ⟨vb, voff, none⟩) m vc] w fun e w' =>
      e = .returned (.slice (some ⟨b, off, none⟩) (n + m) c) ∧ w' = w.setCells b (off + n) vs
  endGrow : ∀ (base : Option Addr) (n c vb voff m vc : Nat) (cs vs : List Value) (w : World) (hm : 0 < m) (hnc : n ≤ c) (hroom : c < n + m) (hbig : (n + m) * sz ≤ 140737488355328)
    (hcl : cs.length = n) (hvl : vs.length = m) (hnil : base = none → n = 0)
    (hcs : ∀ a, base = some a → ∀ j v, cs[j]? = some v → w.cell? (a.add j) = some v)
    (hvs : ∀ j v, vs[j]? = some v → w.cell? ⟨vb, voff + j, none⟩ = some v) (h1v : ∀ v ∈ vs, v.oneCell' = true),
    Calls Try.prog f #[.slice base n c, .int .i64 n, .slice (some ⟨vb, voff, none⟩) m vc] w fun e' w' =>
      e' = .returned (.slice (some ⟨w.heap.size, 0, none⟩) (n + m) (grownCap w (n + m) c e)) ∧
      w' = w.drew.alloc (.cells ((cs ++ vs).toArray ++ Builtin.zeroCells z.cells (grownCap w (n + m) c e - (n + m))) e)
  grow : ∀ (b off n c i vb voff m vc : Nat) (cs vs : List Value) (w : World) (hi : i < n) (hm : 0 < m) (hnc : n ≤ c) (hroom : c < n + m) (hbig : (n + m) * sz ≤ 140737488355328)
    (hcl : cs.length = n) (hvl : vs.length = m)
    (hcs : ∀ j v, cs[j]? = some v → w.cell? ⟨b, off + j, none⟩ = some v)
    (hvs : ∀ j v, vs[j]? = some v → w.cell? ⟨vb, voff + j, none⟩ = some v) (h1c : ∀ v ∈ cs, v.oneCell' = true) (h1v : ∀ v ∈ vs, v.oneCell' = true),
    Calls Try.prog f #[.slice (some ⟨b, off, none⟩) n c, .int .i64 i, .slice (some ⟨vb, voff, none⟩) m vc] w fun e' w' =>
      e' = .returned (.slice (some ⟨w.heap.size, 0, none⟩) (n + m) (grownCap w (n + m) c e)) ∧
      w' = (((w.alloc (.cells ((cs.take i).toArray ++ Builtin.zeroCells z.cells (n + m - i) ++ Builtin.zeroCells z.cells (grownCap w (n + m) c e - (n + m))) e)).drew.setCells w.heap.size i vs).drew).setCells w.heap.size (i + m) (cs.drop i)

theorem map_ins {α β : Type} (f : α → β) (l : List α) (x : α) (i : Nat) : (l.take i ++ x :: l.drop i).map f = (l.map f).take i ++ f x :: (l.map f).drop i := by
  simp [List.map_take, List.map_drop]
theorem max63 : maxLen = 9223372036854775807 := rfl

theorem insert_post {u : Ty} {enc : cx.den u → Value} {f e sz : Nat} {z : Value} (E : Enc cx u enc) (hz : z.cells.size = 1) (hsz : sz ≤ 16) (R : Roads f e z sz) {w : World} {v0 v2 : Value} {l : List (cx.den u)} {x : cx.den u} {i : Nat}
    (h0 : ORow cx w e u v0 l) (h2 : ORow cx w e u v2 [x]) (hne : ∀ b, rowOf v2 = some b → rowOf v0 ≠ some b) (hi : i ≤ l.length) (hlen : l.length ≤ 1000000) :
    Calls Try.prog f #[v0, .int .i64 i, v2] w fun e' w' => ∃ v, e' = .returned v ∧ InsPost w (rowOf v0) e v w' ((l.take i ++ x :: l.drop i).map enc) := by
  rw [map_ins]
  rcases rowElim E h2 with ⟨_, h⟩ | ⟨vb, vc, vcells, rfl, g1, g2, g3, g4, g5⟩
  · cases h
  · have hvs : ∀ j v, ([enc x] : List Value)[j]? = some v → w.cell? ⟨vb, 0 + j, none⟩ = some v := fun j v hj => by
      rw [Nat.zero_add, row_cell g1]
      match j, hj with
      | 0, hj =>
        cases hj
        have : (vcells.toList.take 1)[0]? = ([enc x] : List Value)[0]? := by rw [show vcells.toList.take 1 = [enc x] from g5]
        rwa [List.getElem?_take, if_pos (by omega)] at this
    have h1v : ∀ v ∈ ([enc x] : List Value), v.oneCell' = true := fun v hv => by rw [List.mem_singleton.1 hv]; exact E.one x
    have hml : (l.map enc).length = l.length := List.length_map ..
    have h1c : ∀ v ∈ l.map enc, v.oneCell' = true := fun v hv => by
      obtain ⟨y, _, rfl⟩ := List.mem_map.1 hv
      exact E.one y
    have hn1 : ((l.map enc).take i ++ enc x :: (l.map enc).drop i).length = l.length + 1 := by simp; omega
    have hbig : (l.length + 1) * sz ≤ 140737488355328 := Nat.le_trans (Nat.mul_le_mul_left _ hsz) (by omega)
    have hzc : ∀ k, (Builtin.zeroCells z.cells k).size = k := fun k => by rw [size_zeroCells, hz, Nat.mul_one]
    have fresh : ∀ (cells : Array Value) (G : Nat) (w' : World), w'.heap.size = w.heap.size + 1 → w'.os = w.os → w'.tape = w.tape → w'.output = w.output → (∀ b', b' < w.heap.size → w'.heap[b']? = w.heap[b']?) →
        w'.heap[w.heap.size]? = some (.cells cells e (0, 0)) → l.length + 1 ≤ G → G ≤ maxLen → cells.size = G → cells.toList.take (l.length + 1) = (l.map enc).take i ++ enc x :: (l.map enc).drop i →
        InsPost w (rowOf v0) e (.slice (some ⟨w.heap.size, 0, none⟩) (l.length + 1) G) w' ((l.map enc).take i ++ enc x :: (l.map enc).drop i) := fun cells G w' k1 k2 k3 k4 k5 k6 k7 k8 k9 k10 =>
      ⟨k2, k3, k4, by omega, fun b' hb' _ => k5 b' hb', w.heap.size, G, cells, by rw [hn1], k6, by rw [hn1]; exact k7, k8, k9, by rw [hn1]; exact k10, .inr (Nat.le_refl _)⟩
    rcases rowElim E h0 with ⟨rfl, rfl⟩ | ⟨b, c, cells, rfl, f1, f2, f3, f4, f5⟩
    · have : i = 0 := by simpa using hi
      subst this
      refine (R.endGrow none 0 0 vb 0 1 vc [] [enc x] w (by omega) (by omega) (by omega) (by simpa using hbig) rfl rfl (fun _ => rfl) (fun a h => by cases h) hvs h1v).mono ?_
      rintro e' w' ⟨rfl, rfl⟩
      have hge := grownCap_ge w (0 + 1) 0 e
      have hle := grownCap_le_maxLen w (0 + 1) 0 e (by rw [max63]; omega)
      refine ⟨_, rfl, fresh _ _ _ (by rw [alloc_size]; rfl) rfl rfl rfl (fun b' hb' => ?_) alloc_at hge hle ?_ ?_⟩
      · exact ((Below.refl _ w).drew.trans ((Below.refl _ w.drew).alloc (Nat.le_refl _) _)).block b' hb'
      · rw [Array.size_append, hzc]; show 1 + _ = _; omega
      · simp
    · have hcl : ∀ j v, (l.map enc)[j]? = some v → w.cell? ⟨b, 0 + j, none⟩ = some v := fun j v hj => by
        rw [Nat.zero_add, row_cell f1]
        have hj' : j < l.length := by rw [← hml]; exact (List.getElem?_eq_some_iff.1 hj).1
        rw [← f5, List.getElem?_take, if_pos hj'] at hj
        exact hj
      have hL : cells.toList.length = c := by rw [Array.length_toList (xs := cells)]; exact f4
      have hcell : ∀ j, j < c → (w.cell? ⟨b, j, none⟩).isSome = true := fun j hj => by
        rw [row_cell f1, List.getElem?_eq_getElem (by omega)]; rfl
      have hvb : vb ≠ b := fun h => by subst h; exact hne vb rfl rfl
      have hbl : b < w.heap.size := (Array.getElem?_eq_some_iff.1 f1).1
      by_cases hroom : l.length + 1 ≤ c
      · -- in place
        have inpl : ∀ (cells' : Array Value) (w' : World), w'.heap.size = w.heap.size → w'.os = w.os → w'.tape = w.tape → w'.output = w.output → (∀ b', b' ≠ b → w'.heap[b']? = w.heap[b']?) →
            w'.heap[b]? = some (.cells cells' e (0, 0)) → cells'.size = c → cells'.toList.take (l.length + 1) = (l.map enc).take i ++ enc x :: (l.map enc).drop i →
            InsPost w (rowOf (.slice (some ⟨b, 0, none⟩) l.length c)) e (.slice (some ⟨b, 0, none⟩) (l.length + 1) c) w' ((l.map enc).take i ++ enc x :: (l.map enc).drop i) := fun cells' w' k1 k2 k3 k4 k5 k6 k7 k8 =>
          ⟨k2, k3, k4, by omega, fun b' hb' hn => k5 b' (fun h => hn (by rw [h]; rfl)), b, c, cells', by rw [hn1], k6, by rw [hn1]; exact hroom, f3, k7, by rw [hn1]; exact k8, .inl rfl⟩
        by_cases hlt : i < l.length
        · refine (R.shift b 0 l.length c i vb 0 1 vc (l.map enc) [enc x] w hlt (by omega) hroom f3 hvb hml rfl hcl (fun j hj => by rw [Nat.zero_add]; exact hcell j (by omega)) (fun j hj => row_frozen f1 _) hvs h1c h1v e e vcells.size cells.size
            (by simp [World.shape?, g1]) (by simp [World.shape?, f1]) (by omega) (row_frozen g1 _) (row_frozen g1 _)).mono ?_
          rintro e' w' ⟨rfl, rfl⟩
          have hB : ((l.map enc).drop i).length = l.length - i := by simp
          obtain ⟨a1, a2, a3, a4, a5, a6⟩ := set_cells (b := b) (e := e) (f := (0, 0)) ((l.map enc).drop i) (0 + (i + 1)) w.drew cells f1 (by rw [hB]; omega)
          obtain ⟨b1, b2, b3, b4, b5, b6⟩ := set_cells (b := b) (e := e) (f := (0, 0)) [enc x] (0 + i) _ _ a1 (by rw [List.size_toArray, spl_len (by rw [hB]; omega)]; simp; omega)
          refine ⟨_, rfl, inpl _ _ (b3.trans a3) (b4.trans a4) (b5.trans a5) (b6.trans a6) (fun b' hb' => (b2 b' hb').trans (a2 b' hb')) b1 ?_ ?_⟩
          · rw [List.size_toArray, spl_len (by simp; rw [spl_len (by simp; omega)]; simp; omega)]
            simp only [List.toList_toArray]
            rw [spl_len (by simp; omega)]; exact hL
          · simp only [List.toList_toArray, Nat.zero_add]
            have hk : l.length + 1 = i + 1 + ((l.map enc).drop i).length := by rw [hB]; omega
            rw [hk, spl_shift (by rw [hB]; omega)]
            congr 1
            rw [← f5, List.take_take, Nat.min_eq_left (by omega)]
        · have : i = l.length := by omega
          subst this
          refine (R.endRoom b 0 l.length c vb 0 1 vc [enc x] w (by omega) hroom f3 rfl (fun j hj => by rw [Nat.zero_add]; exact hcell _ (by omega)) (fun j hj => row_frozen f1 _) hvs h1v).mono ?_
          rintro e' w' ⟨rfl, rfl⟩
          obtain ⟨b1, b2, b3, b4, b5, b6⟩ := set_cells (b := b) (e := e) (f := (0, 0)) [enc x] (0 + l.length) w cells f1 (by simp; omega)
          refine ⟨_, rfl, inpl _ _ b3 b4 b5 b6 b2 b1 ?_ ?_⟩
          · rw [List.size_toArray, spl_len (by simp; omega)]; exact hL
          · simp only [List.toList_toArray, Nat.zero_add]
            have := spl_take (cs := cells.toList) (new := [enc x]) (o := l.length) (by omega)
            rw [show l.length + 1 = l.length + [enc x].length from rfl, this, f5, List.take_of_length_le (by rw [hml]; exact Nat.le_refl _), List.drop_of_length_le (by rw [hml]; exact Nat.le_refl _)]
      · have hge := grownCap_ge w (l.length + 1) c e
        have hle := grownCap_le_maxLen w (l.length + 1) c e (by rw [max63]; omega)
        by_cases hlt : i < l.length
        · refine (R.grow b 0 l.length c i vb 0 1 vc (l.map enc) [enc x] w hlt (by omega) f2 (by omega) hbig hml rfl hcl hvs h1c h1v).mono ?_
          rintro e' w' ⟨rfl, rfl⟩
          have hB : ((l.map enc).drop i).length = l.length - i := by simp
          have hA : ((l.map enc).take i).length = i := by simp; omega
          obtain ⟨ROW, hROW⟩ : ∃ ROW : Array Value, ROW = ((l.map enc).take i).toArray ++ Builtin.zeroCells z.cells (l.length + 1 - i) ++ Builtin.zeroCells z.cells (grownCap w (l.length + 1) c e - (l.length + 1)) := ⟨_, rfl⟩
          have hRs : ROW.size = grownCap w (l.length + 1) c e := by
            rw [hROW, Array.size_append, Array.size_append, hzc, hzc, List.size_toArray, hA]; omega
          have hRl : ROW.toList.length = grownCap w (l.length + 1) c e := by rw [Array.length_toList (xs := ROW)]; exact hRs
          have hRt : ROW.toList.take i = (l.map enc).take i := by
            rw [hROW, Array.toList_append, Array.toList_append, List.append_assoc, List.take_left' (by simpa using hA)]
          rw [← hROW]
          have hal : (w.alloc (.cells ROW e)).drew.heap[w.heap.size]? = some (.cells ROW e (0, 0)) := alloc_at
          obtain ⟨a1, a2, a3, a4, a5, a6⟩ := set_cells (b := w.heap.size) (e := e) (f := (0, 0)) [enc x] i (w.alloc (.cells ROW e)).drew ROW hal (by simp; omega)
          obtain ⟨b1, b2, b3, b4, b5, b6⟩ := set_cells (b := w.heap.size) (e := e) (f := (0, 0)) ((l.map enc).drop i) (i + 1) ((w.alloc (.cells ROW e)).drew.setCells w.heap.size i [enc x]).drew _ a1 (by rw [List.size_toArray, spl_len (by simp; omega), hB, hRl]; omega)
          have hsz1 : (w.alloc (.cells ROW e)).drew.heap.size = w.heap.size + 1 := alloc_size
          refine ⟨_, rfl, fresh _ _ _ (b3.trans (a3.trans hsz1)) (b4.trans a4) (b5.trans a5) (b6.trans a6) (fun b' hb' => ?_) b1 hge hle ?_ ?_⟩
          · refine (b2 b' (by omega)).trans ((a2 b' (by omega)).trans ?_)
            exact ((Below.refl _ w).alloc (Nat.le_refl _) (.cells ROW e)).block b' hb'
          · rw [List.size_toArray, spl_len (by simp only [List.toList_toArray]; rw [spl_len (by simp; omega), hB, hRl]; omega)]
            simp only [List.toList_toArray]
            rw [spl_len (by simp; omega)]; exact hRl
          · simp only [List.toList_toArray]
            have hk : l.length + 1 = i + 1 + ((l.map enc).drop i).length := by rw [hB]; omega
            rw [hk, spl_take (by rw [spl_len (by simp; omega), hRl]; omega)]
            have := spl_take (cs := ROW.toList) (new := [enc x]) (o := i) (by omega)
            rw [show i + 1 = i + [enc x].length from rfl, this, hRt]; simp
        · have : i = l.length := by omega
          subst this
          refine (R.endGrow (some ⟨b, 0, none⟩) l.length c vb 0 1 vc (l.map enc) [enc x] w (by omega) f2 (by omega) hbig hml rfl (fun h => by cases h) (fun a h j v hj => by cases h; rw [Addr.add_lit]; exact hcl j v hj) hvs h1v).mono ?_
          rintro e' w' ⟨rfl, rfl⟩
          refine ⟨_, rfl, fresh _ _ _ (by rw [alloc_size]; rfl) rfl rfl rfl (fun b' hb' => ?_) alloc_at hge hle ?_ ?_⟩
          · exact ((Below.refl _ w).drew.trans ((Below.refl _ w.drew).alloc (Nat.le_refl _) _)).block b' hb'
          · rw [Array.size_append, hzc, List.size_toArray, List.length_append, hml]; simp; omega
          · rw [Array.toList_append, List.toList_toArray, List.take_left' (by simp), List.take_of_length_le (by rw [hml]; exact Nat.le_refl _), List.drop_of_length_le (by rw [hml]; exact Nat.le_refl _)]

theorem encS : Enc cx .str (fun l => Value.string ⟨⟨l⟩⟩) := ⟨rfl, fun _ _ _ _ => Cx.R_str, fun _ => rfl⟩
theorem encI64 : Enc cx (.int .i64) (fun x => Value.int .i64 x) := ⟨rfl, fun _ _ _ _ => Cx.R_int, fun _ => rfl⟩
set_option maxRecDepth 100000 in
theorem roadsS : Roads 81 9 (.string ⟨#[]⟩) 16 := ⟨Any2.slices_Insert_string_shift Try.laysNm222, Any2.slices_Insert_string_end_room Try.laysNm222, Any2.slices_Insert_string_end_grow Try.laysNm222, Any2.slices_Insert_string_grow Try.laysNm222⟩
set_option maxRecDepth 100000 in
theorem roadsI : Roads 82 3 (.int .i64 0) 8 := ⟨Any2.slices_Insert_int_shift Try.laysNm221, Any2.slices_Insert_int_end_room Try.laysNm221, Any2.slices_Insert_int_end_grow Try.laysNm221, Any2.slices_Insert_int_grow Try.laysNm221⟩
set_option maxRecDepth 100000 in
theorem enters81 (vs : Array Value) (w : World) : (callFunc 81 vs).run Try.prog w = .ok (.enter 81 vs) w := enters_at (c := bodyC Try.f81) Try.func81 (by kernel_rfl) (by kernel_rfl) vs w
set_option maxRecDepth 100000 in
theorem enters82 (vs : Array Value) (w : World) : (callFunc 82 vs).run Try.prog w = .ok (.enter 82 vs) w := enters_at (c := bodyC Try.f82) Try.func82 (by kernel_rfl) (by kernel_rfl) vs w
set_option maxRecDepth 100000 in
theorem ins_ok {u : Ty} {enc : cx.den u → Value} {f e sz : Nat} {z : Value} (E : Enc cx u enc) (hz : z.cells.size = 1) (hsz : sz ≤ 16) (R : Roads f e z sz) (hent : ∀ (vs : Array Value) (w : World), (callFunc f vs).run Try.prog w = .ok (.enter f vs) w)
    {s : List (cx.den u) → (Int × Unit) → List (cx.den u) → Option (List (cx.den u))} (hs : s = vInsert) : OsOk Try.prog ({ e := e, u := u, ps := [.val (.int .i64)], two := true, f := s } : OSpec cx.toNm) f := by
  intro w Z v0 vs v2 l y l2 l' hZ hrow hnz hV htwo hf
  match vs, hV with
  | [v], hV =>
    obtain ⟨⟨cs, h1, h2⟩, _⟩ := hV
    have h1 : cs = [v] := h1
    have h2 := Cx.R_int.1 h2
    rw [h1] at h2
    obtain ⟨i, rfl⟩ : ∃ i : Int, (i, ()) = y := ⟨y.1, rfl⟩
    cases (List.cons.inj h2).1
    obtain ⟨v2', rfl, hrow2, hne⟩ := htwo
    have hf : s l (i, ()) l2 = some l' := hf
    rw [hs] at hf
    unfold vInsert at hf
    split at hf
    · rename_i x
      split at hf
      · rename_i hd
        have hd := of_decide_eq_true hd
        cases hf
        obtain ⟨n, rfl⟩ : ∃ n : Nat, i = n := ⟨i.toNat, by omega⟩
        unfold Enters
        rw [hent]
        refine (insert_post (f := f) (e := e) E hz hsz R hrow hrow2 hne (i := n) (by omega) hd.2.2).mono ?_
        rintro e' w' ⟨v, rfl, hp⟩
        exact ⟨v, rfl, post_row E hp⟩
      · cases hf
    · cases hf
  | [], hV => exact hV.elim
  | _ :: _ :: _, hV => exact hV.2.elim
set_option maxRecDepth 100000 in
theorem ok_InsertS : FnOk Try.prog F_InsertS 81 := show OsOk Try.prog O_InsertS 81 from ins_ok encS rfl (Nat.le_refl _) roadsS enters81 InsertS_is
set_option maxRecDepth 100000 in
theorem ok_InsertI : FnOk Try.prog F_InsertI 82 := show OsOk Try.prog O_InsertI 82 from ins_ok encI64 rfl (by omega) roadsI enters82 InsertI_is
end Go.Proofs.Ytdifekkamjoepaa.Vm.Rp
