/- What writes a description, walked by hand. -/
import Derived.Shelf.Spec.SlicesGrow
import Derived.Test.YtogipciicekmoaaGreatDoorProg
import Derived.Test.YtogipciicekmoaaGreatDoorFns
import Derived.Test.YtogipciicekmoaaGreatDoorLib
import Derived.Shelf.Strings.OnBuilder
import Derived.Laws.AppendOwnNone
import Derived.Deep.RegionHeld3
import Derived.Deep.AppendLies
namespace Go.Proofs
open Go.Shelf
def Tryz.growS_ren : Go.Shelf.Ren := ⟨fun | 4 => 44 | n => n, fun | 22 => 40 | 25 => 9 | 3 => 3 | 4 => 4 | 9 => 9 | 20 => 20 | 0 => 0 | n => n, fun | n => n⟩
theorem Tryz.growS : Go.Proofs.Lays8.n4 Tryz.prog Tryz.growS_ren := {
  mixed := by kernel_rfl
  f4 := ⟨Tryz.f44.name, by decide, Tryz.func44.trans (congrArg some (by kernel_rfl))⟩
  t0 := Tryz.underlying0
  a0 := Tryz.isAgg0
  z0 := Tryz.sizeOf0
  v0 := Tryz.zeroValue0
  t3 := Tryz.underlying3
  a3 := Tryz.isAgg3
  z3 := Tryz.sizeOf3
  v3 := Tryz.zeroValue3
  t4 := Tryz.underlying4
  a4 := Tryz.isAgg4
  z4 := Tryz.sizeOf4
  v4 := Tryz.zeroValue4
  t9 := Tryz.underlying9
  a9 := Tryz.isAgg9
  z9 := Tryz.sizeOf9
  v9 := Tryz.zeroValue9
  t20 := Tryz.underlying20
  a20 := Tryz.isAgg20
  z20 := Tryz.sizeOf20
  v20 := Tryz.zeroValue20
  t22 := Tryz.underlying40
  a22 := Tryz.isAgg40
  z22 := Tryz.sizeOf40
  v22 := Tryz.zeroValue40 }
end Go.Proofs
namespace Go.Proofs.Wr
open Go.RowKit
set_option linter.unusedVariables false
theorem bX : (Tryz.prog.info? 50).map (·.size) = some 2 := by kernel_rfl
theorem bLies : liesAt Tryz.prog Tryz.prog.depth 52 (2 / Tryz.prog.cellsOf 52) 0 50 1 = true := by kernel_rfl
theorem bByte : (Tryz.prog.info? 5).map (fun i => (i.zero, i.size, i.bytes)) = some (some (.int .u8 0), 1, 1) := by kernel_rfl
def Keep (b : Nat) (w w' : World) : Prop := ∀ k cs T fz, w.heap[k]? = some (.cells cs T fz) → T ≠ 5 → k ≠ b → w'.heap[k]? = some (.cells cs T fz)
theorem Keep.refl (b : Nat) (w : World) : Keep b w w := fun _ _ _ _ h _ _ => h
theorem Keep.trans {b : Nat} {w w1 w2 : World} (h : Keep b w w1) (h' : Keep b w1 w2) : Keep b w w2 := fun k cs T fz hk hT hb => h' k cs T fz (h k cs T fz hk hT hb) hT hb
theorem Keep.setCell {b o : Nat} {u : Value} {w w1 : World} (h : Keep b w w1) : Keep b w (w1.setCell ⟨b, o, none⟩ u) := fun k cs T fz hk hT hb => by
  rw [Below.heap_setCell _ _ _ _ (show k ≠ b from hb)]; exact h k cs T fz hk hT hb
theorem Keep.below {b : Nat} {w w1 : World} (h : Below w.heap.size w w1) : Keep b w w1 := fun k cs T fz hk hT hb => by
  have : k < w.heap.size := by
    rcases Nat.lt_or_ge k w.heap.size with h' | h'
    · exact h'
    · simp [Array.getElem?_eq_none h'] at hk
  rw [h.block k this]; exact hk
theorem Keep.grown {B b n : Nat} {v : Value} {xs : List Value} {w w1 w2 : World} (h : Keep b w w1) (hg : w1.grownBy w2 v.ownBlock) (ho : w1.ownsRow B 5 1 v n xs) : Keep b w w2 := fun k cs T fz hk hT hb => by
  have h1 := h k cs T fz hk hT hb
  have : k < w1.heap.size := by
    rcases Nat.lt_or_ge k w1.heap.size with h' | h'
    · exact h'
    · simp [Array.getElem?_eq_none h'] at h1
  rw [hg.block k this ?_]; exact h1
  intro e
  rcases ho.2 with ⟨rfl, _⟩ | ⟨g, cap, cur, rfl, _, hc, _⟩
  · cases e
  · have e : k = g := Option.some.inj e
    subst e
    rw [h1] at hc
    injection hc with hc
    injection hc with _ hc _
    exact hT hc
set_option maxHeartbeats 1000000 in
set_option maxRecDepth 100000 in
theorem copyCheck_used (b : Nat) (w : World) (h0 : w.cell? ⟨b, 0, none⟩ = some (.pointer (some ⟨b, 0, none⟩))) :
    Calls Tryz.prog 62 #[.pointer (some ⟨b, 0, none⟩)] w fun e w' => e = .returned (.tuple #[]) ∧ w' = w := by
  obtain ⟨j, hj, _⟩ := Option.map_eq_some_iff.1 bX
  go_enter Tryz.func62, Tryz.ntmps62
  go_wp2
  rw [Lib.run_neq_ptr_same w _ Tryz.underlying47 hj]
  go_wp2
  go_end0
  exact ⟨rfl, rfl⟩
set_option maxHeartbeats 1000000 in
set_option maxRecDepth 100000 in
theorem copyCheck_fresh (b : Nat) (w : World) (h0 : w.cell? ⟨b, 0, none⟩ = some (.pointer none)) (hsh : w.shape? b = some (52, 2)) (hfz : w.frozen? ⟨b, 0, none⟩ = false) :
    Calls Tryz.prog 62 #[.pointer (some ⟨b, 0, none⟩)] w fun e w' => e = .returned (.tuple #[]) ∧ w' = w.setCell ⟨b, 0, none⟩ (.pointer (some ⟨b, 0, none⟩)) := by
  obtain ⟨j, hj, hjs⟩ := Option.map_eq_some_iff.1 bX
  go_enter Tryz.func62, Tryz.ntmps62
  go_wp2
  rw [Lib.run_to_unsafe w ⟨b, 0, none⟩ Tryz.underlying47 Tryz.underlying110 hj (by rw [hjs]; decide) hsh (Nat.zero_lt_succ 1)]
  simp only [Result.andThen]
  rw [Oper.upon_value]
  go_wp2
  rw [run_callFunc_extern Tryz.func75 (by kernel_rfl) (by kernel_rfl) (by kernel_rfl) (e := Extern.AbiNoEscape.same) (by kernel_rfl)]
  rw [Lib.run_noEscape]
  simp only [Result.andThen]
  rw [Oper.upon_value]
  go_wp2
  rw [Lib.run_from_unsafe w ⟨b, 0, none⟩ Tryz.underlying110 Tryz.underlying47 hj hsh bLies]
  simp only [Result.andThen]
  rw [Oper.upon_value]
  go_wp2
  go_end0
  exact ⟨rfl, rfl⟩
theorem copyCheck_is (B b : Nat) (bs : List Value) (w : World) (h : Lib.IsBuilder 52 5 B b bs w) :
    Calls Tryz.prog 62 #[.pointer (some ⟨b, 0, none⟩)] w fun e w' => e = .returned (.tuple #[]) ∧ (Lib.BuilderAt 52 5 B b (.pointer (some ⟨b, 0, none⟩)) bs w' ∧ Below B w w' ∧ Keep b w w') := by
  rcases h with h | h
  · refine (copyCheck_fresh b w h.cell0 h.shape h.frozen0).mono ?_
    rintro e w' ⟨rfl, rfl⟩
    exact ⟨rfl, h.used _, (Below.refl B w).setCell (p := ⟨b, 0, none⟩) h.1 _, (Keep.refl b w).setCell⟩
  · refine (copyCheck_used b w h.cell0).mono ?_
    rintro e w' ⟨rfl, rfl⟩
    exact ⟨rfl, h, Below.refl B _, Keep.refl _ _⟩
set_option maxHeartbeats 2000000 in
set_option maxRecDepth 100000 in
theorem writeString_is (B b : Nat) (bs : List Value) (s : ByteArray) (w : World) (h : Lib.IsBuilder 52 5 B b bs w) (hlen : bs.length + s.size ≤ 140737488355328) (hBw : B ≤ w.heap.size) :
    Calls Tryz.prog 41 #[.pointer (some ⟨b, 0, none⟩), .string s] w fun e w' => e = .returned (.tuple #[.int .i64 s.size, .nilIface]) ∧ (Lib.BuilderAt 52 5 B b (.pointer (some ⟨b, 0, none⟩)) (bs ++ Lib.strCells s) w' ∧ Below B w w' ∧ Keep b w w') := by
  obtain ⟨i0, hi, hz0, hz1, hz2⟩ := info_parts bByte
  go_enter Tryz.func41, Tryz.ntmps41
  go_wp2_with (go_at_call 62; refine (copyCheck_is B b bs _ h).mono ?_)
  rintro e w1 ⟨rfl, h1, hb1, hk1⟩
  obtain ⟨hB, v, hbk, hown, hne⟩ := h1
  have c0 : w1.cell? ⟨b, 0, none⟩ = some (.pointer (some ⟨b, 0, none⟩)) := by rw [Lib.cell_of_heap hbk]; rfl
  have c1 : w1.cell? ⟨b, 1, none⟩ = some v := by rw [Lib.cell_of_heap hbk]; rfl
  go_wp2_with (at_builtin; refine Lib.wpList_append_own_string _ rfl _ _ 48 9 rfl B 5 i0 Tryz.underlying48 Tryz.underlying9 hi hz0 hz1 hz2 _ _ _ rfl hown s rfl ?c3 ?c4 ?c5 ?_)
  case c3 => unfold maxLen; omega
  case c4 => omega
  case c5 => have := hb1.size; omega
  intro v' w2 hown' hgrow _
  have hlt : b < w1.heap.size := by
    rcases Nat.lt_or_ge b w1.heap.size with h' | h'
    · exact h'
    · simp [Array.getElem?_eq_none h'] at hbk
  have hb2 : w2.heap[b]? = some (.cells #[.pointer (some ⟨b, 0, none⟩), v] 52 (0, 0)) := by
    rw [hgrow.block b hlt (fun e => hne e.symm)]
    exact hbk
  have d0 : w2.cell? ⟨b, 0, none⟩ = some (.pointer (some ⟨b, 0, none⟩)) := by rw [Lib.cell_of_heap hb2]; rfl
  have d1 : w2.cell? ⟨b, 1, none⟩ = some v := by rw [Lib.cell_of_heap hb2]; rfl
  have f1 : w2.frozen? ⟨b, 1, none⟩ = false := Lib.frozen_of_heap hb2 1
  obtain ⟨ao, n', cap, rfl⟩ : ∃ ao n' cap, v' = .slice ao n' cap := by
    rcases hown'.2 with ⟨hv, _⟩ | ⟨g, cap, cur, hv, _⟩
    · exact ⟨_, _, _, hv⟩
    · exact ⟨_, _, _, hv⟩
  go_wp2
  go_ret2
  refine ⟨rfl, ?_, ?_, ?_⟩
  · exact Lib.BuilderAt.put (T := 52) (e := 5) hB hb2 (bs' := bs ++ Lib.strCells s) (by simpa [Lib.strCells_length] using hown') (by decide)
  · exact (hb1.grown hgrow (by have := hb1.size; omega) (fun k hk => (hown.lt k hk).1)).setCell (p := ⟨b, 1, none⟩) hB _
  · exact (hk1.grown hgrow hown).setCell
set_option maxHeartbeats 2000000 in
set_option maxRecDepth 100000 in
theorem writeByte_is (B b : Nat) (bs : List Value) (c : Int) (w : World) (h : Lib.IsBuilder 52 5 B b bs w) (hlen : bs.length + 1 ≤ 140737488355328) (hBw : B ≤ w.heap.size) :
    Calls Tryz.prog 43 #[.pointer (some ⟨b, 0, none⟩), .int .u8 c] w fun e w' => e = .returned .nilIface ∧ (Lib.BuilderAt 52 5 B b (.pointer (some ⟨b, 0, none⟩)) (bs ++ [.int .u8 c]) w' ∧ Below B w w' ∧ Keep b w w') := by
  obtain ⟨i0, hi, hz0, hz1, hz2⟩ := info_parts bByte
  go_enter Tryz.func43, Tryz.ntmps43
  go_wp2_with (go_at_call 62; refine (copyCheck_is B b bs _ h).mono ?_)
  rintro e w1 ⟨rfl, h1, hb1, hk1⟩
  obtain ⟨hB, v, hbk, hown, hne⟩ := h1
  have c0 : w1.cell? ⟨b, 0, none⟩ = some (.pointer (some ⟨b, 0, none⟩)) := by rw [Lib.cell_of_heap hbk]; rfl
  have c1 : w1.cell? ⟨b, 1, none⟩ = some v := by rw [Lib.cell_of_heap hbk]; rfl
  go_wp2_with (at_builtin; refine wpList_append_own _ rfl _ _ 48 rfl B 5 i0 (.int .u8 0) 1 1 Tryz.underlying48 hi hz0 hz1 hz2 rfl (by decide) _ _ _ rfl (hown.alloc _) ⟨w1.heap.size, 0, none⟩ 1 1 [.int .u8 c] rfl rfl ?c1 ?c2 ?c3 ?c4 ?c5 ?_)
  case c1 =>
    intro j u hj
    match j, hj with
    | 0, hj => simp at hj; subst hj; simp [Addr.add]
  case c2 => intro u hu; simp at hu; subst hu; rfl
  case c3 => unfold maxLen; omega
  case c4 => omega
  case c5 => have := hb1.size; simp; omega
  intro v' w2 hown' hgrow _
  have hlt : b < w1.heap.size := by
    rcases Nat.lt_or_ge b w1.heap.size with h' | h'
    · exact h'
    · simp [Array.getElem?_eq_none h'] at hbk
  have hb2 : w2.heap[b]? = some (.cells #[.pointer (some ⟨b, 0, none⟩), v] 52 (0, 0)) := by
    rw [hgrow.block b (by simp; omega) (fun e => hne e.symm), Lib.alloc_old w1 _ b hlt]
    exact hbk
  have d0 : w2.cell? ⟨b, 0, none⟩ = some (.pointer (some ⟨b, 0, none⟩)) := by rw [Lib.cell_of_heap hb2]; rfl
  have d1 : w2.cell? ⟨b, 1, none⟩ = some v := by rw [Lib.cell_of_heap hb2]; rfl
  have f1 : w2.frozen? ⟨b, 1, none⟩ = false := Lib.frozen_of_heap hb2 1
  obtain ⟨g, cap, rfl⟩ : ∃ g cap, v' = .slice (some ⟨g, 0, none⟩) (bs.length + 1) cap := by
    rcases hown'.2 with ⟨_, h0⟩ | ⟨g, cap, cur, hv, _⟩
    · omega
    · exact ⟨g, cap, hv⟩
  go_wp2
  go_ret
  refine ⟨rfl, ?_, ?_, ?_⟩
  · exact Lib.BuilderAt.put (T := 52) (e := 5) hB hb2 (bs' := bs ++ [.int .u8 c]) (by simpa using hown') (by decide)
  · exact ((hb1.alloc (by have := hb1.size; omega) _).grown hgrow (by have := hb1.size; simp; omega) (fun k hk => (hown.lt k hk).1)).setCell (p := ⟨b, 1, none⟩) hB _
  · exact ((hk1.trans (Keep.below ((Below.refl _ _).alloc (Nat.le_refl _) _))).grown hgrow (hown.alloc _)).setCell
set_option maxHeartbeats 1000000 in
set_option maxRecDepth 100000 in
theorem len_is (B b : Nat) (bs : List Value) (w : World) (h : Lib.IsBuilder 52 5 B b bs w) :
    Calls Tryz.prog 20 #[.pointer (some ⟨b, 0, none⟩)] w fun e w' => e = .returned (.int .i64 bs.length) ∧ w' = w := by
  obtain ⟨p, hB, v, hbk, hown, hne⟩ : ∃ p, Lib.BuilderAt 52 5 B b p bs w := by
    rcases h with h | h
    · exact ⟨_, h⟩
    · exact ⟨_, h⟩
  obtain ⟨ao, cap, rfl⟩ : ∃ ao cap, v = .slice ao bs.length cap := by
    rcases hown.2 with ⟨hv, h0⟩ | ⟨g, cap, cur, hv, _⟩
    · exact ⟨none, 0, by rw [hv, h0]⟩
    · exact ⟨_, _, hv⟩
  have c1 : w.cell? ⟨b, 1, none⟩ = some (.slice ao bs.length cap) := by rw [Lib.cell_of_heap hbk]; rfl
  go_enter Tryz.func20, Tryz.ntmps20
  go_wp2
  go_ret
  exact ⟨rfl, rfl⟩
end Go.Proofs.Wr
namespace Go.Proofs.Wr
open Go.RowKit
set_option linter.unusedVariables false
theorem drew_cell {w : World} {b : Nat} {p v : Value} (hbk : w.heap[b]? = some (.cells #[p, v] 52 (0, 0))) : w.drew.cell? ⟨b, 1, none⟩ = some v := by
  have : w.drew.heap[b]? = some (.cells #[p, v] 52 (0, 0)) := hbk
  rw [Lib.cell_of_heap this]; rfl
set_option maxHeartbeats 2000000 in
set_option maxRecDepth 100000 in
theorem string_some (B b : Nat) (l : List UInt8) (w : World) (h : Lib.IsBuilder 52 5 B b (Lib.byteCells l) w) (h0 : l ≠ []) :
    Calls Tryz.prog 21 #[.pointer (some ⟨b, 0, none⟩)] w fun e w' => e = .returned (.string ⟨l.toArray⟩) ∧ Below B w w' := by
  obtain ⟨p, hB, v, hbk, hown, hne⟩ : ∃ p, Lib.BuilderAt 52 5 B b p (Lib.byteCells l) w := by
    rcases h with h | h
    · exact ⟨_, h⟩
    · exact ⟨_, h⟩
  have hl0 : l.length ≠ 0 := by simpa using h0
  rw [Lib.byteCells_length] at hown
  obtain ⟨g, cap, cur, rfl, hbg, hg, hnc, hcm, hcs, htake⟩ : ∃ g cap cur, v = .slice (some ⟨g, 0, none⟩) l.length cap ∧ B ≤ g ∧ w.heap[g]? = some (.cells cur 5 (0, 0)) ∧ l.length ≤ cap ∧ cap ≤ maxLen ∧ cur.size = cap * 1 ∧ cur.toList.take (l.length * 1) = Lib.byteCells l := by
    rcases hown.2 with ⟨_, hz⟩ | ⟨g, cap, cur, hv, r⟩
    · exact absurd hz hl0
    · exact ⟨g, cap, cur, hv, r⟩
  have c1 := drew_cell hbk
  have hSD : (Builtin.unsafeSliceData_ #[48] 85 #[.slice (some ⟨g, 0, none⟩) l.length cap]).run Tryz.prog w.drew = .ok (.pointer (some ⟨g, 0, none⟩)) w.drew :=
    Lib.run_unsafeSliceData_row _ _ _ _ _ _ (by omega)
  have hUS : (Builtin.unsafeString_ #[85, 3] 9 #[.pointer (some ⟨g, 0, none⟩), .int .i64 l.length]).run Tryz.prog w.drew = .ok (.string ⟨l.toArray⟩) (w.drew.freeze ⟨g, 0, none⟩ l.length) := by
    refine Lib.run_unsafeString_row w.drew 85 3 9 5 Tryz.underlying85 (by kernel_rfl) g cur.size (by have hg' : w.drew.heap[g]? = some (.cells cur 5 (0, 0)) := hg; simp [World.shape?, hg']) l h0 (by omega) (by unfold maxLen at hcm; omega) ?_
    intro j x hx
    have := hown.cells (g := g) rfl j (.int .u8 x.toNat) (by simp [Lib.byteCells, hx])
    exact this
  go_enter Tryz.func21, Tryz.ntmps21
  go_wp2
  go_region
  all_goals (go_wp2; go_ret; exact ⟨rfl, Lib.below_freeze (Below.drew (Below.refl B w)) (p := ⟨g, 0, none⟩) hbg _⟩)
set_option maxHeartbeats 2000000 in
set_option maxRecDepth 100000 in
theorem string_nil (B b : Nat) (p : Value) (w : World) (hbk : w.heap[b]? = some (.cells #[p, .slice none 0 0] 52 (0, 0))) :
    Calls Tryz.prog 21 #[.pointer (some ⟨b, 0, none⟩)] w fun e w' => e = .returned (.string ⟨#[]⟩) ∧ Below B w w' := by
  have hUS := fun (W : World) q => (Lib.run_unsafeString_none W _ _ _ q : (Builtin.unsafeString_ #[85, 3] 9 #[.pointer q, .int .i64 0]).run Tryz.prog W = .ok (.string .empty) W)
  have c1 := drew_cell hbk
  have hSD : (Builtin.unsafeSliceData_ #[48] 85 #[.slice none 0 0]).run Tryz.prog w.drew = .ok (.pointer none) w.drew := rfl
  go_enter Tryz.func21, Tryz.ntmps21
  go_wp2
  go_region
  all_goals (go_wp2; go_ret; exact ⟨rfl, Below.drew (Below.refl B w)⟩)
set_option maxHeartbeats 2000000 in
set_option maxRecDepth 100000 in
theorem string_noroom (B b g : Nat) (p : Value) (cur : Array Value) (w : World) (hBw : B ≤ w.heap.size) (hbk : w.heap[b]? = some (.cells #[p, .slice (some ⟨g, 0, none⟩) 0 0] 52 (0, 0))) (hg : w.heap[g]? = some (.cells cur 5 (0, 0))) :
    Calls Tryz.prog 21 #[.pointer (some ⟨b, 0, none⟩)] w fun e w' => e = .returned (.string ⟨#[]⟩) ∧ Below B w w' := by
  have hUS := fun (W : World) q => (Lib.run_unsafeString_none W _ _ _ q : (Builtin.unsafeString_ #[85, 3] 9 #[.pointer q, .int .i64 0]).run Tryz.prog W = .ok (.string .empty) W)
  have hlt : b < w.heap.size := by
    rcases Nat.lt_or_ge b w.heap.size with h' | h'
    · exact h'
    · simp [Array.getElem?_eq_none h'] at hbk
  have c1 := drew_cell hbk
  have hSD : (Builtin.unsafeSliceData_ #[48] 85 #[.slice (some ⟨g, 0, none⟩) 0 0]).run Tryz.prog w.drew = .ok (.pointer (some ⟨w.drew.heap.size, 0, none⟩)) (w.drew.alloc (.view ⟨g, 0, none⟩ 5)) :=
    Lib.run_unsafeSliceData_zero w.drew _ _ 5 Tryz.underlying85 ⟨g, 0, none⟩ 0 (5, cur.size) (by have hg' : w.drew.heap[g]? = some (.cells cur 5 (0, 0)) := hg; simp [World.shape?, hg'])
  have c2 : (w.drew.alloc (.view ⟨g, 0, none⟩ 5)).cell? ⟨b, 1, none⟩ = some (.slice (some ⟨g, 0, none⟩) 0 0) := by
    have : (w.drew.alloc (.view ⟨g, 0, none⟩ 5)).heap[b]? = _ := (Lib.alloc_old w.drew _ b hlt).trans hbk
    rw [Lib.cell_of_heap this]; rfl
  have c3 : (w.alloc (.view ⟨g, 0, none⟩ 5)).drew.cell? ⟨b, 1, none⟩ = some (.slice (some ⟨g, 0, none⟩) 0 0) := c2
  have c0 : w.cell? ⟨b, 1, none⟩ = some (.slice (some ⟨g, 0, none⟩) 0 0) := c1
  go_enter Tryz.func21, Tryz.ntmps21
  go_wp2
  go_region
  all_goals (go_wp2; go_ret; exact ⟨rfl, (Below.drew (Below.refl B w)).alloc hBw _⟩)
set_option maxHeartbeats 2000000 in
set_option maxRecDepth 100000 in
theorem string_room (B b g cap : Nat) (p : Value) (w : World) (hc0 : cap ≠ 0) (hbk : w.heap[b]? = some (.cells #[p, .slice (some ⟨g, 0, none⟩) 0 cap] 52 (0, 0))) :
    Calls Tryz.prog 21 #[.pointer (some ⟨b, 0, none⟩)] w fun e w' => e = .returned (.string ⟨#[]⟩) ∧ Below B w w' := by
  have hUS := fun (W : World) q => (Lib.run_unsafeString_none W _ _ _ q : (Builtin.unsafeString_ #[85, 3] 9 #[.pointer q, .int .i64 0]).run Tryz.prog W = .ok (.string .empty) W)
  have c1 := drew_cell hbk
  have hSD : (Builtin.unsafeSliceData_ #[48] 85 #[.slice (some ⟨g, 0, none⟩) 0 cap]).run Tryz.prog w.drew = .ok (.pointer (some ⟨g, 0, none⟩)) w.drew :=
    Lib.run_unsafeSliceData_row _ _ _ _ _ _ hc0
  clear hc0
  go_enter Tryz.func21, Tryz.ntmps21
  go_wp2
  go_region
  all_goals (go_wp2; go_ret; exact ⟨rfl, Below.drew (Below.refl B w)⟩)
theorem string_any (B b : Nat) (l : List UInt8) (w : World) (h : Lib.IsBuilder 52 5 B b (Lib.byteCells l) w) (hBw : B ≤ w.heap.size) :
    Calls Tryz.prog 21 #[.pointer (some ⟨b, 0, none⟩)] w fun e w' => e = .returned (.string ⟨⟨l⟩⟩) ∧ Below B w w' := by
  cases l with
  | cons x r => exact string_some B b (x :: r) w h (by simp)
  | nil =>
    obtain ⟨p, hB, v, hbk, hown, hne⟩ : ∃ p, Lib.BuilderAt 52 5 B b p (Lib.byteCells []) w := by
      rcases h with h | h
      · exact ⟨_, h⟩
      · exact ⟨_, h⟩
    rcases hown.2 with ⟨rfl, _⟩ | ⟨g, cap, cur, rfl, hbg, hg, _, _, _, _⟩
    · exact string_nil B b p w hbk
    · by_cases hc0 : cap = 0
      · subst hc0
        exact string_noroom B b g p cur w hBw hbk hg
      · exact string_room B b g cap p w hc0 hbk
end Go.Proofs.Wr
namespace Go.Proofs.Wr
open Go.RowKit
set_option linter.unusedVariables false
set_option maxRecDepth 100000
def StrRow (K : Nat) (w : World) (v : Value) (xs : List (List UInt8)) : Prop :=
  ∃ a c, v = .slice a xs.length c ∧ xs.length ≤ c ∧ ∀ j x, xs[j]? = some x → ∃ b off, a = some ⟨b, off, none⟩ ∧ b < K ∧ w.cell? ⟨b, off + j, none⟩ = some (.string ⟨⟨x⟩⟩)
theorem StrRow.below {K B : Nat} {w w' : World} {v : Value} {xs : List (List UInt8)} (h : StrRow K w v xs) (hb : Below B w w') (hK : K ≤ B) : StrRow K w' v xs := by
  obtain ⟨a, c, h1, h2, h3⟩ := h
  refine ⟨a, c, h1, h2, fun j x hx => ?_⟩
  obtain ⟨b, off, k1, k2, k3⟩ := h3 j x hx
  exact ⟨b, off, k1, k2, by rw [hb.cell (p := ⟨b, off + j, none⟩) (Nat.lt_of_lt_of_le k2 hK)]; exact k3⟩
theorem BuilderAt_below {T e B b : Nat} {p : Value} {bs : List Value} {w w' : World} (h : Lib.BuilderAt T e B b p bs w) (hb : Below w.heap.size w w') : Lib.BuilderAt T e B b p bs w' := by
  have hlt := h.lt
  obtain ⟨hB, v, hbk, ⟨ho1, ho2⟩, hne⟩ := h
  refine ⟨hB, v, by rw [hb.block b hlt]; exact hbk, ⟨ho1, ?_⟩, hne⟩
  rcases ho2 with h | ⟨g, cap, cur, k1, k2, k3, k4⟩
  · exact .inl h
  · refine .inr ⟨g, cap, cur, k1, k2, ?_, k4⟩
    have hg : g < w.heap.size := by
      rcases Nat.lt_or_ge g w.heap.size with h' | h'
      · exact h'
      · simp [Array.getElem?_eq_none h'] at k3
    rw [hb.block g hg]; exact k3
theorem IsBuilder_below {T e B b : Nat} {bs : List Value} {w w' : World} (h : Lib.IsBuilder T e B b bs w) (hb : Below w.heap.size w w') : Lib.IsBuilder T e B b bs w' :=
  h.imp (fun h => BuilderAt_below h hb) (fun h => BuilderAt_below h hb)
theorem join_is (v : Value) (xs : List (List UInt8)) (w : World) (hx : StrRow w.heap.size w v xs) (hn : xs.length ≤ 1000000) (hl : (Lib.join xs [32]).length ≤ 1000000000) :
    Calls Tryz.prog 42 #[v, .string ⟨#[32]⟩] w fun e w' => e = .returned (.string ⟨⟨Lib.join xs [32]⟩⟩) ∧ Below w.heap.size w w' := by
  obtain ⟨a, c, rfl, h2, h3⟩ := hx
  have hmap : (xs.map fun l => ByteArray.mk (Array.mk l)).map (·.data.toList) = xs := by
    rw [List.map_map]; simp [Function.comp_def]
  cases hx0 : xs with
  | nil =>
    refine (Tryz.strings_Join_none a c ⟨#[32]⟩ w).mono ?_
    rintro e w' ⟨rfl, rfl⟩
    exact ⟨rfl, Below.refl _ _⟩
  | cons y l =>
    have h0 : xs[0]? = some y := by rw [hx0]; rfl
    obtain ⟨b, off, f1, f2, f3⟩ := h3 0 y h0
    subst f1
    have hcells : ∀ (j : Nat) z, (xs.map fun l => ByteArray.mk (Array.mk l))[j]? = some z → w.cell? ⟨b, off + j, none⟩ = some (.string z) := by
      intro j z hz
      rw [List.getElem?_map] at hz
      obtain ⟨y', hy', rfl⟩ := Option.map_eq_some_iff.1 hz
      obtain ⟨b', off', k1, _, k3⟩ := h3 j y' hy'
      cases k1
      exact k3
    have := Tryz.strings_Join b off c (xs.map fun l => ByteArray.mk (Array.mk l)) ⟨#[32]⟩ w hcells f2 (by rw [List.length_map]; omega) (by rw [List.length_map]; exact h2) (by rw [hmap]; show (Lib.join xs [32]).length ≤ _; omega)
    rw [List.length_map, hmap] at this
    rw [← hx0]
    exact this
def ln (xs : List (List UInt8)) : List UInt8 := Lib.join xs [32] ++ [10]
set_option maxHeartbeats 2000000 in
theorem put_is (B b : Nat) (l : List UInt8) (v : Value) (xs : List (List UInt8)) (w : World) (h : Lib.IsBuilder 52 5 B b (Lib.byteCells l) w) (hx : StrRow w.heap.size w v xs) (hn : xs.length ≤ 1000000) (hl : l.length + (ln xs).length ≤ 1000000000) (hBw : B ≤ w.heap.size) :
    Calls Tryz.prog 17 #[.pointer (some ⟨b, 0, none⟩), v] w fun e w' => e = .returned (.tuple #[]) ∧ (Lib.IsBuilder 52 5 B b (Lib.byteCells (l ++ ln xs)) w' ∧ Below B w w' ∧ Keep b w w') := by
  have hl2 : (ln xs).length = (Lib.join xs [32]).length + 1 := by simp [ln]
  go_enter Tryz.func17, Tryz.ntmps17
  go_wp2
  have hl1 : (Lib.join xs [32]).length ≤ 1000000000 := by omega
  have hl3 : (Lib.byteCells l).length + (ByteArray.mk (Array.mk (Lib.join xs [32]))).size ≤ 140737488355328 := by
    have : (ByteArray.mk (Array.mk (Lib.join xs [32]))).size = (Lib.join xs [32]).length := rfl
    rw [Lib.byteCells_length]; omega
  have hxd : StrRow w.drew.heap.size w.drew v xs := hx
  have hdr : Below w.drew.heap.size w w.drew := Below.drew (Below.refl _ w)
  go_region_with (first | (go_at_call 42; refine (join_is v xs _ hxd hn hl1).mono ?_; rintro e w1 ⟨rfl, hw1⟩; have hB1 := IsBuilder_below h (hdr.trans hw1); have hs1 := Nat.le_trans hBw hw1.size) | (go_at_call 41; refine (writeString_is B b (Lib.byteCells l) _ _ hB1 hl3 hs1).mono ?_; rintro e w2 ⟨rfl, h2, hb2, hk2⟩))
  have he : Lib.byteCells l ++ Lib.strCells { data := { toList := Lib.join xs [32] } } ++ [.int .u8 10] = Lib.byteCells (l ++ ln xs) := by
    simp only [ln, Lib.byteCells_append, Lib.strCells_eq, List.append_assoc]
    rfl
  have hl4 : (Lib.byteCells l ++ Lib.strCells { data := { toList := Lib.join xs [32] } }).length + 1 ≤ 140737488355328 := by
    rw [List.length_append, Lib.strCells_length]
    have : (ByteArray.mk (Array.mk (Lib.join xs [32]))).size = (Lib.join xs [32]).length := rfl
    rw [Lib.byteCells_length]; omega
  have hs2 : B ≤ w2.heap.size := Nat.le_trans hs1 hb2.size
  go_wp2_with (go_at_call 43; refine (writeByte_is B b _ _ _ (.inr h2) hl4 hs2).mono ?_)
  rintro e w3 ⟨rfl, h3, hb3, hk3⟩
  go_wp2
  go_end0
  rw [he] at h3
  exact ⟨rfl, .inr h3, ((hdr.mono hBw).trans (hw1.mono hBw)).trans (hb2.trans hb3), (Keep.below (hdr.trans hw1)).trans (hk2.trans hk3)⟩
def dg (n : Nat) : List UInt8 := [UInt8.ofNat (48 + n)]
theorem small_is (n : Nat) (hn : n < 10) (w : World) : Calls Tryz.prog 86 #[.int .i64 n] w fun e w' => e = .returned (.string ⟨⟨dg n⟩⟩) ∧ w' = w := by
  have hs : n = 0 ∨ n = 1 ∨ n = 2 ∨ n = 3 ∨ n = 4 ∨ n = 5 ∨ n = 6 ∨ n = 7 ∨ n = 8 ∨ n = 9 := by omega
  rcases hs with h | h | h | h | h | h | h | h | h | h <;> subst h
  all_goals
    go_enter Tryz.func86, Tryz.ntmps86
    go_wp2
    go_ret
    exact ⟨by rfl, rfl⟩
theorem fmt_is (n : Nat) (hn : n < 10) (w : World) : Calls Tryz.prog 74 #[.int .i64 n, .int .i64 10] w fun e w' => e = .returned (.string ⟨⟨dg n⟩⟩) ∧ w' = w := by
  have h1 : (n : Int) < 100 := by omega
  have h0 : (0 : Int) ≤ n := by omega
  go_enter Tryz.func74, Tryz.ntmps74
  go_wp2_with (go_at_call 86; refine (small_is n hn _).mono ?_)
  rintro e w1 ⟨rfl, rfl⟩
  go_wp2
  go_ret
  exact ⟨rfl, rfl⟩
theorem itoa2_is (n : Nat) (hn : n < 10) (w : World) : Calls Tryz.prog 61 #[.int .i64 n] w fun e w' => e = .returned (.string ⟨⟨dg n⟩⟩) ∧ w' = w := by
  go_enter Tryz.func61, Tryz.ntmps61
  go_wp2_with (go_at_call 74; refine (fmt_is n hn _).mono ?_)
  rintro e w1 ⟨rfl, rfl⟩
  go_wp2
  go_ret
  exact ⟨rfl, rfl⟩
theorem itoa_is (n : Nat) (hn : n < 10) (w : World) : Calls Tryz.prog 40 #[.int .i64 n] w fun e w' => e = .returned (.string ⟨⟨dg n⟩⟩) ∧ w' = w := by
  go_enter Tryz.func40, Tryz.ntmps40
  go_wp2_with (go_at_call 61; refine (itoa2_is n hn _).mono ?_)
  rintro e w1 ⟨rfl, rfl⟩
  go_wp2
  go_ret
  exact ⟨rfl, rfl⟩
end Go.Proofs.Wr
namespace Go.Proofs.Wr
open Go.RowKit
set_option linter.unusedVariables false
set_option maxRecDepth 100000
def wTok : List UInt8 := [116, 111, 107, 101, 110]
def wSkip : List UInt8 := [115, 107, 105, 112]
def wClass : List UInt8 := [99, 108, 97, 115, 115]
def wdS (sk : Bool) : List UInt8 := match sk with | true => wSkip | false => wTok
def clsS (nm : List UInt8) (cl : Nat) : List UInt8 := match cl with | 0 => [] | c + 1 => ln [wClass, nm, dg (c + 1)]
def tokS (nm rx : List UInt8) (sk : Bool) (cl : Nat) : List UInt8 := ln [wdS sk, nm, rx] ++ clsS nm cl
theorem al_size (w : World) (o : Obj) : (w.alloc o).heap.size = w.heap.size + 1 := by show (w.heap.push o).size = _; simp
theorem row3 (w : World) (x y z : List UInt8) : StrRow (w.alloc (.cells #[.string ⟨⟨x⟩⟩, .string ⟨⟨y⟩⟩, .string ⟨⟨z⟩⟩] 9)).heap.size (w.alloc (.cells #[.string ⟨⟨x⟩⟩, .string ⟨⟨y⟩⟩, .string ⟨⟨z⟩⟩] 9)) (.slice (some ⟨w.heap.size, 0, none⟩) 3 3) [x, y, z] := by
  have hh := Lib.cell_of_heap (heap_alloc_new w (.cells #[.string ⟨⟨x⟩⟩, .string ⟨⟨y⟩⟩, .string ⟨⟨z⟩⟩] 9))
  refine ⟨_, _, rfl, by simp, fun j s hj => ⟨w.heap.size, 0, rfl, by simp, ?_⟩⟩
  rw [hh]
  match j, hj with
  | 0, hj | 1, hj | 2, hj => simp at hj; subst hj; rfl
  | _ + 3, hj => simp at hj
theorem lt_of_heap {w : World} {k : Nat} {o : Obj} (h : w.heap[k]? = some o) : k < w.heap.size := by
  rcases Nat.lt_or_ge k w.heap.size with h' | h'
  · exact h'
  · simp [Array.getElem?_eq_none h'] at h
set_option maxHeartbeats 4000000 in
theorem token_skip (B b : Nat) (l nm rx : List UInt8) (z : Int) (w : World) (h : Lib.IsBuilder 52 5 B b (Lib.byteCells l) w) (hz : 0 ≤ z) (hc : z < 10) (hl : l.length + (tokS nm rx true z.toNat).length ≤ 1000000000) (hBw : B ≤ w.heap.size) :
    Calls Tryz.prog 16 #[.pointer (some ⟨b, 0, none⟩), .agg #[.string ⟨⟨nm⟩⟩, .string ⟨⟨rx⟩⟩, .bool true, .int .i64 z]] w fun e w' => e = .returned (.tuple #[]) ∧ (Lib.IsBuilder 52 5 B b (Lib.byteCells (l ++ tokS nm rx true z.toNat)) w' ∧ Below B w w' ∧ Keep b w w') := by
  have hbl : b < w.heap.size := h.elim (·.lt) (·.lt)
  have htk : tokS nm rx true z.toNat = ln [wSkip, nm, rx] ++ clsS nm z.toNat := rfl
  have htl : l.length + (ln [wSkip, nm, rx]).length + (clsS nm z.toNat).length ≤ 1000000000 := by rw [htk, List.length_append] at hl; omega
  have b1 := (Below.refl w.heap.size w).alloc (Nat.le_refl _) (.cells #[.string ⟨⟨nm⟩⟩, .string ⟨⟨rx⟩⟩, .bool true, .int .i64 z] 36)
  have n1 := heap_alloc_new w (.cells #[.string ⟨⟨nm⟩⟩, .string ⟨⟨rx⟩⟩, .bool true, .int .i64 z] 36)
  have b2 := (Below.refl _ (w.alloc (.cells #[.string ⟨⟨nm⟩⟩, .string ⟨⟨rx⟩⟩, .bool true, .int .i64 z] 36))).alloc (Nat.le_refl _) (.cells #[.string ⟨#[115, 107, 105, 112]⟩, .string ⟨⟨nm⟩⟩, .string ⟨⟨rx⟩⟩] 9)
  have h2 := IsBuilder_below (IsBuilder_below h b1) b2
  have p1 : Calls Tryz.prog 17 #[.pointer (some ⟨b, 0, none⟩), .slice (some ⟨w.heap.size + 1, 0, none⟩) 3 3] ((w.alloc (.cells #[.string ⟨⟨nm⟩⟩, .string ⟨⟨rx⟩⟩, .bool true, .int .i64 z] 36)).alloc (.cells #[.string ⟨#[115, 107, 105, 112]⟩, .string ⟨⟨nm⟩⟩, .string ⟨⟨rx⟩⟩] 9)) fun e w' => e = .returned (.tuple #[]) ∧ (Lib.IsBuilder 52 5 B b (Lib.byteCells (l ++ ln [wSkip, nm, rx])) w' ∧ Below B ((w.alloc (.cells #[.string ⟨⟨nm⟩⟩, .string ⟨⟨rx⟩⟩, .bool true, .int .i64 z] 36)).alloc (.cells #[.string ⟨#[115, 107, 105, 112]⟩, .string ⟨⟨nm⟩⟩, .string ⟨⟨rx⟩⟩] 9)) w' ∧ Keep b ((w.alloc (.cells #[.string ⟨⟨nm⟩⟩, .string ⟨⟨rx⟩⟩, .bool true, .int .i64 z] 36)).alloc (.cells #[.string ⟨#[115, 107, 105, 112]⟩, .string ⟨⟨nm⟩⟩, .string ⟨⟨rx⟩⟩] 9)) w') := by
    have := put_is B b l _ [wSkip, nm, rx] _ h2 (row3 _ wSkip nm rx) (by simp) (by omega) (by rw [al_size, al_size]; omega)
    rw [al_size] at this
    exact this
  have hne : w.heap.size ≠ b := by omega
  have fin : ∀ w3, (Lib.IsBuilder 52 5 B b (Lib.byteCells (l ++ ln [wSkip, nm, rx])) w3 ∧ Below B ((w.alloc (.cells #[.string ⟨⟨nm⟩⟩, .string ⟨⟨rx⟩⟩, .bool true, .int .i64 z] 36)).alloc (.cells #[.string ⟨#[115, 107, 105, 112]⟩, .string ⟨⟨nm⟩⟩, .string ⟨⟨rx⟩⟩] 9)) w3 ∧ Keep b ((w.alloc (.cells #[.string ⟨⟨nm⟩⟩, .string ⟨⟨rx⟩⟩, .bool true, .int .i64 z] 36)).alloc (.cells #[.string ⟨#[115, 107, 105, 112]⟩, .string ⟨⟨nm⟩⟩, .string ⟨⟨rx⟩⟩] 9)) w3) →
      Below B w w3 ∧ Keep b w w3 ∧ B ≤ w3.heap.size ∧ w3.cell? ⟨w.heap.size, 0, none⟩ = some (.string ⟨⟨nm⟩⟩) ∧ w3.cell? ⟨w.heap.size, 3, none⟩ = some (.int .i64 z) := by
    rintro w3 ⟨k1, k2, k3⟩
    have b12 := (b1.mono hBw).trans (b2.mono (by rw [al_size]; omega))
    have n2 := (Keep.below b2 : Keep b _ _) _ _ _ _ n1 (by decide) hne
    have n3 := k3 _ _ _ _ n2 (by decide) hne
    refine ⟨b12.trans k2, ((Keep.below b1).trans (Keep.below b2)).trans k3, Nat.le_trans hBw (b12.trans k2).size, ?_, ?_⟩
    · rw [Lib.cell_of_heap n3]; rfl
    · rw [Lib.cell_of_heap n3]; rfl
  clear b1 n1 b2 h2
  replace fin := Any.hidU fin
  replace p1 := Any.hidU p1
  by_cases h0 : (0 : Int) < z
  · have hcl : clsS nm z.toNat = ln [wClass, nm, dg z.toNat] := by
      obtain ⟨c, hc⟩ : ∃ c, z.toNat = c + 1 := ⟨z.toNat - 1, by omega⟩
      rw [hc]; rfl
    rw [hcl] at htl
    have hit : ∀ w, Calls Tryz.prog 40 #[.int .i64 z] w fun e w' => e = .returned (.string ⟨⟨dg z.toNat⟩⟩) ∧ w' = w := fun w => by
      have := itoa_is z.toNat (by omega) w
      rwa [Int.toNat_of_nonneg hz] at this
    have p2 : ∀ w3, Lib.IsBuilder 52 5 B b (Lib.byteCells (l ++ ln [wSkip, nm, rx])) w3 → B ≤ w3.heap.size → Calls Tryz.prog 17 #[.pointer (some ⟨b, 0, none⟩), .slice (some ⟨w3.heap.size, 0, none⟩) 3 3] (w3.drew.alloc (.cells #[.string ⟨#[99, 108, 97, 115, 115]⟩, .string ⟨⟨nm⟩⟩, .string ⟨⟨dg z.toNat⟩⟩] 9)) fun e w' => e = .returned (.tuple #[]) ∧ (Lib.IsBuilder 52 5 B b (Lib.byteCells (l ++ ln [wSkip, nm, rx] ++ ln [wClass, nm, dg z.toNat])) w' ∧ Below B w3 w' ∧ Keep b w3 w') := by
      intro w3 k1 k2
      have d1 := (Below.drew (Below.refl w3.heap.size w3)).alloc (Nat.le_refl _) (.cells #[.string ⟨#[99, 108, 97, 115, 115]⟩, .string ⟨⟨nm⟩⟩, .string ⟨⟨dg z.toNat⟩⟩] 9)
      refine (put_is B b (l ++ ln [wSkip, nm, rx]) _ [wClass, nm, dg z.toNat] _ (IsBuilder_below k1 d1) (row3 w3.drew wClass nm (dg z.toNat)) (by simp) (by rw [List.length_append]; omega) (by rw [al_size]; show B ≤ w3.heap.size + 1; omega)).mono ?_
      rintro e w' ⟨q1, q2, q3, q4⟩
      exact ⟨q1, q2, (d1.mono k2).trans q3, (Keep.below d1).trans q4⟩
    replace p2 := Any.hidU p2
    have hends : l ++ ln [wSkip, nm, rx] ++ ln [wClass, nm, dg z.toNat] = l ++ tokS nm rx true z.toNat := by rw [htk, hcl, List.append_assoc]
    replace hends := Any.hidU hends
    clear htk hcl hl htl
    go_enter Tryz.func16, Tryz.ntmps16
    go_wp2_with (go_at_call 17; refine p1.out.mono ?_)
    rintro e w3 ⟨rfl, h3⟩
    obtain ⟨k1, k2, k3, c0, c3⟩ := fin.out w3 h3
    have h3 := h3.1
    have d0 : w3.drew.cell? ⟨w.heap.size, 0, none⟩ = some (.string ⟨⟨nm⟩⟩) := c0
    have d3 : w3.drew.cell? ⟨w.heap.size, 3, none⟩ = some (.int .i64 z) := c3
    go_wp2
    go_region_with (first | (go_at_call 40; refine (hit _).mono ?_; rintro e w4 ⟨rfl, rfl⟩) | (go_at_call 17; refine (p2.out w3 h3 k3).mono ?_; rintro e w4 ⟨rfl, q2, q3, q4⟩))
    all_goals
      go_wp2
      go_end0
      exact ⟨rfl, hends.out ▸ q2, k1.trans q3, k2.trans q4⟩
  · have hnil : l ++ ln [wSkip, nm, rx] = l ++ tokS nm rx true z.toNat := by
      have : z.toNat = 0 := by omega
      rw [htk, this]
      show _ = l ++ (ln [wSkip, nm, rx] ++ [])
      rw [List.append_nil]
    replace hnil := Any.hidU hnil
    clear htk hl htl
    go_enter Tryz.func16, Tryz.ntmps16
    go_wp2_with (go_at_call 17; refine p1.out.mono ?_)
    rintro e w3 ⟨rfl⟩ q1 q2 q3
    have h3 := And.intro q1 (And.intro q2 q3)
    obtain ⟨k1, k2, k3, c0, c3⟩ := fin.out w3 h3
    have h3 := h3.1
    go_wp2
    go_end0
    exact ⟨rfl, hnil.out ▸ h3, k1, k2⟩
set_option maxHeartbeats 4000000 in
theorem token_tok (B b : Nat) (l nm rx : List UInt8) (z : Int) (w : World) (h : Lib.IsBuilder 52 5 B b (Lib.byteCells l) w) (hz : 0 ≤ z) (hc : z < 10) (hl : l.length + (tokS nm rx false z.toNat).length ≤ 1000000000) (hBw : B ≤ w.heap.size) :
    Calls Tryz.prog 16 #[.pointer (some ⟨b, 0, none⟩), .agg #[.string ⟨⟨nm⟩⟩, .string ⟨⟨rx⟩⟩, .bool false, .int .i64 z]] w fun e w' => e = .returned (.tuple #[]) ∧ (Lib.IsBuilder 52 5 B b (Lib.byteCells (l ++ tokS nm rx false z.toNat)) w' ∧ Below B w w' ∧ Keep b w w') := by
  have hbl : b < w.heap.size := h.elim (·.lt) (·.lt)
  have htk : tokS nm rx false z.toNat = ln [wTok, nm, rx] ++ clsS nm z.toNat := rfl
  have htl : l.length + (ln [wTok, nm, rx]).length + (clsS nm z.toNat).length ≤ 1000000000 := by rw [htk, List.length_append] at hl; omega
  have b1 := (Below.refl w.heap.size w).alloc (Nat.le_refl _) (.cells #[.string ⟨⟨nm⟩⟩, .string ⟨⟨rx⟩⟩, .bool false, .int .i64 z] 36)
  have n1 := heap_alloc_new w (.cells #[.string ⟨⟨nm⟩⟩, .string ⟨⟨rx⟩⟩, .bool false, .int .i64 z] 36)
  have b2 := (Below.refl _ (w.alloc (.cells #[.string ⟨⟨nm⟩⟩, .string ⟨⟨rx⟩⟩, .bool false, .int .i64 z] 36))).alloc (Nat.le_refl _) (.cells #[.string ⟨#[116, 111, 107, 101, 110]⟩, .string ⟨⟨nm⟩⟩, .string ⟨⟨rx⟩⟩] 9)
  have h2 := IsBuilder_below (IsBuilder_below h b1) b2
  have p1 : Calls Tryz.prog 17 #[.pointer (some ⟨b, 0, none⟩), .slice (some ⟨w.heap.size + 1, 0, none⟩) 3 3] ((w.alloc (.cells #[.string ⟨⟨nm⟩⟩, .string ⟨⟨rx⟩⟩, .bool false, .int .i64 z] 36)).alloc (.cells #[.string ⟨#[116, 111, 107, 101, 110]⟩, .string ⟨⟨nm⟩⟩, .string ⟨⟨rx⟩⟩] 9)) fun e w' => e = .returned (.tuple #[]) ∧ (Lib.IsBuilder 52 5 B b (Lib.byteCells (l ++ ln [wTok, nm, rx])) w' ∧ Below B ((w.alloc (.cells #[.string ⟨⟨nm⟩⟩, .string ⟨⟨rx⟩⟩, .bool false, .int .i64 z] 36)).alloc (.cells #[.string ⟨#[116, 111, 107, 101, 110]⟩, .string ⟨⟨nm⟩⟩, .string ⟨⟨rx⟩⟩] 9)) w' ∧ Keep b ((w.alloc (.cells #[.string ⟨⟨nm⟩⟩, .string ⟨⟨rx⟩⟩, .bool false, .int .i64 z] 36)).alloc (.cells #[.string ⟨#[116, 111, 107, 101, 110]⟩, .string ⟨⟨nm⟩⟩, .string ⟨⟨rx⟩⟩] 9)) w') := by
    have := put_is B b l _ [wTok, nm, rx] _ h2 (row3 _ wTok nm rx) (by simp) (by omega) (by rw [al_size, al_size]; omega)
    rw [al_size] at this
    exact this
  have hne : w.heap.size ≠ b := by omega
  have fin : ∀ w3, (Lib.IsBuilder 52 5 B b (Lib.byteCells (l ++ ln [wTok, nm, rx])) w3 ∧ Below B ((w.alloc (.cells #[.string ⟨⟨nm⟩⟩, .string ⟨⟨rx⟩⟩, .bool false, .int .i64 z] 36)).alloc (.cells #[.string ⟨#[116, 111, 107, 101, 110]⟩, .string ⟨⟨nm⟩⟩, .string ⟨⟨rx⟩⟩] 9)) w3 ∧ Keep b ((w.alloc (.cells #[.string ⟨⟨nm⟩⟩, .string ⟨⟨rx⟩⟩, .bool false, .int .i64 z] 36)).alloc (.cells #[.string ⟨#[116, 111, 107, 101, 110]⟩, .string ⟨⟨nm⟩⟩, .string ⟨⟨rx⟩⟩] 9)) w3) →
      Below B w w3 ∧ Keep b w w3 ∧ B ≤ w3.heap.size ∧ w3.cell? ⟨w.heap.size, 0, none⟩ = some (.string ⟨⟨nm⟩⟩) ∧ w3.cell? ⟨w.heap.size, 3, none⟩ = some (.int .i64 z) := by
    rintro w3 ⟨k1, k2, k3⟩
    have b12 := (b1.mono hBw).trans (b2.mono (by rw [al_size]; omega))
    have n2 := (Keep.below b2 : Keep b _ _) _ _ _ _ n1 (by decide) hne
    have n3 := k3 _ _ _ _ n2 (by decide) hne
    refine ⟨b12.trans k2, ((Keep.below b1).trans (Keep.below b2)).trans k3, Nat.le_trans hBw (b12.trans k2).size, ?_, ?_⟩
    · rw [Lib.cell_of_heap n3]; rfl
    · rw [Lib.cell_of_heap n3]; rfl
  clear b1 n1 b2 h2
  replace fin := Any.hidU fin
  replace p1 := Any.hidU p1
  by_cases h0 : (0 : Int) < z
  · have hcl : clsS nm z.toNat = ln [wClass, nm, dg z.toNat] := by
      obtain ⟨c, hc⟩ : ∃ c, z.toNat = c + 1 := ⟨z.toNat - 1, by omega⟩
      rw [hc]; rfl
    rw [hcl] at htl
    have hit : ∀ w, Calls Tryz.prog 40 #[.int .i64 z] w fun e w' => e = .returned (.string ⟨⟨dg z.toNat⟩⟩) ∧ w' = w := fun w => by
      have := itoa_is z.toNat (by omega) w
      rwa [Int.toNat_of_nonneg hz] at this
    have p2 : ∀ w3, Lib.IsBuilder 52 5 B b (Lib.byteCells (l ++ ln [wTok, nm, rx])) w3 → B ≤ w3.heap.size → Calls Tryz.prog 17 #[.pointer (some ⟨b, 0, none⟩), .slice (some ⟨w3.heap.size, 0, none⟩) 3 3] (w3.drew.alloc (.cells #[.string ⟨#[99, 108, 97, 115, 115]⟩, .string ⟨⟨nm⟩⟩, .string ⟨⟨dg z.toNat⟩⟩] 9)) fun e w' => e = .returned (.tuple #[]) ∧ (Lib.IsBuilder 52 5 B b (Lib.byteCells (l ++ ln [wTok, nm, rx] ++ ln [wClass, nm, dg z.toNat])) w' ∧ Below B w3 w' ∧ Keep b w3 w') := by
      intro w3 k1 k2
      have d1 := (Below.drew (Below.refl w3.heap.size w3)).alloc (Nat.le_refl _) (.cells #[.string ⟨#[99, 108, 97, 115, 115]⟩, .string ⟨⟨nm⟩⟩, .string ⟨⟨dg z.toNat⟩⟩] 9)
      refine (put_is B b (l ++ ln [wTok, nm, rx]) _ [wClass, nm, dg z.toNat] _ (IsBuilder_below k1 d1) (row3 w3.drew wClass nm (dg z.toNat)) (by simp) (by rw [List.length_append]; omega) (by rw [al_size]; show B ≤ w3.heap.size + 1; omega)).mono ?_
      rintro e w' ⟨q1, q2, q3, q4⟩
      exact ⟨q1, q2, (d1.mono k2).trans q3, (Keep.below d1).trans q4⟩
    replace p2 := Any.hidU p2
    have hends : l ++ ln [wTok, nm, rx] ++ ln [wClass, nm, dg z.toNat] = l ++ tokS nm rx false z.toNat := by rw [htk, hcl, List.append_assoc]
    replace hends := Any.hidU hends
    clear htk hcl hl htl
    go_enter Tryz.func16, Tryz.ntmps16
    go_wp2_with (go_at_call 17; refine p1.out.mono ?_)
    rintro e w3 ⟨rfl, h3⟩
    obtain ⟨k1, k2, k3, c0, c3⟩ := fin.out w3 h3
    have h3 := h3.1
    have d0 : w3.drew.cell? ⟨w.heap.size, 0, none⟩ = some (.string ⟨⟨nm⟩⟩) := c0
    have d3 : w3.drew.cell? ⟨w.heap.size, 3, none⟩ = some (.int .i64 z) := c3
    go_wp2
    go_region_with (first | (go_at_call 40; refine (hit _).mono ?_; rintro e w4 ⟨rfl, rfl⟩) | (go_at_call 17; refine (p2.out w3 h3 k3).mono ?_; rintro e w4 ⟨rfl, q2, q3, q4⟩))
    all_goals
      go_wp2
      go_end0
      exact ⟨rfl, hends.out ▸ q2, k1.trans q3, k2.trans q4⟩
  · have hnil : l ++ ln [wTok, nm, rx] = l ++ tokS nm rx false z.toNat := by
      have : z.toNat = 0 := by omega
      rw [htk, this]
      show _ = l ++ (ln [wTok, nm, rx] ++ [])
      rw [List.append_nil]
    replace hnil := Any.hidU hnil
    clear htk hl htl
    go_enter Tryz.func16, Tryz.ntmps16
    go_wp2_with (go_at_call 17; refine p1.out.mono ?_)
    rintro e w3 ⟨rfl⟩ q1 q2 q3
    have h3 := And.intro q1 (And.intro q2 q3)
    obtain ⟨k1, k2, k3, c0, c3⟩ := fin.out w3 h3
    have h3 := h3.1
    go_wp2
    go_end0
    exact ⟨rfl, hnil.out ▸ h3, k1, k2⟩
end Go.Proofs.Wr
namespace Go.Proofs.Wr
open Go.RowKit
set_option linter.unusedVariables false
set_option maxRecDepth 100000
theorem sInfo : (Tryz.prog.info? 9).map (fun i => (i.zero, i.size, i.bytes)) = some (some (.string .empty), 1, 16) := by kernel_rfl
theorem wpList_append_zero {P : Program} {w : World} {ops : Array Oper} {rest : List Oper} {o : Oper} {a : Act} {Q : Exit → Act → World → Prop} (hgd : o.guard = none) (s x : Operand) (t : TypeId)
    (ho : o.op = .call { callee := .builtin .append, args := #[s, x], argTypes := #[t, t] })
    (e : TypeId) (i : TypeInfo) (ht : P.underlying t = some (.slice e)) (hi : P.info? e = some i)
    (b ad : Option Addr) (n cap c : Nat) (hc : n ≤ cap) (hs : a.eval s = .slice b n cap) (hx : a.eval x = .slice ad 0 c)
    (h : wpList P ops Q rest (a.put o.dst (.slice b n cap)) w) : wpList P ops Q (o :: rest) a w := by
  refine wpList_plain hgd fun K hK => ?_
  have hrun := Go.Proofs.YtogipciicekmoaaGreatDoor.Vm.run_append_zero (P := P) w t o.type e i ht hi b ad n cap c hc
  unfold Oper.wp
  simp [execOp, ho, resolve, invoke, builtin, hs, hx, hrun, Result.andThen]
  exact hK _ _ h
def GrowPost (w : World) (e : Ending) (w' : World) : Prop := ∃ v, e = .returned v ∧ w'.ownsRow w.heap.size 9 1 v 0 [] ∧ Below w.heap.size w w'
theorem grow_is (n : Nat) (w : World) (h0 : 0 < n) (hn : n ≤ 1000000) : Calls Tryz.prog 44 #[.slice none 0 0, .int .i64 n] w (GrowPost w) := by
  obtain ⟨i0, hi, hz0, hz1, hz2⟩ := info_parts sInfo
  refine (Any8.slices_Grow_grow Tryz.growS i0 _ hi hz0 (by omega) none 0 0 n [] w (Nat.le_refl _) (by omega) (by rw [hz2]; omega) (by omega) (by simp) (fun _ => rfl) (fun a h => by cases h)).mono ?_
  rintro e w' ⟨rfl, rfl⟩
  refine ⟨_, rfl, ?_, ((Below.drew (Below.refl _ w)).alloc (Nat.le_refl _) _)⟩
  have hge := grownCap_ge w (0 + n) 0 9
  have hle := grownCap_le_maxLen w (0 + n) 0 9 (by unfold maxLen; omega)
  refine ⟨rfl, .inr ⟨_, _, _, rfl, Nat.le_refl _, heap_alloc_new w.drew _, Nat.zero_le _, hle, ?_, by simp⟩⟩
  show Array.size _ = grownCap w (0 + n) 0 9 * 1
  rw [Array.size_append, Array.size_append, size_zeroCells, size_zeroCells]
  show 0 + (0 + n - 0) * 1 + (grownCap w (0 + n) 0 9 - (0 + n)) * 1 = _
  omega
theorem addr_add (b off j : Nat) : (⟨b, off, none⟩ : Addr).add j = ⟨b, off + j, none⟩ := by
  cases j <;> simp [Addr.add]
theorem StrRow.cells {K : Nat} {w : World} {xs : List (List UInt8)} {a : Option Addr} {n c : Nat} (h : StrRow K w (.slice a n c) xs) (h0 : 0 < xs.length) : ∃ b off, a = some ⟨b, off, none⟩ ∧ b < K ∧ n = xs.length ∧
    ∀ j u, (xs.map fun x => Value.string ⟨⟨x⟩⟩)[j]? = some u → w.cell? ((⟨b, off, none⟩ : Addr).add j) = some u := by
  obtain ⟨a', c', h1, h2, h3⟩ := h
  injection h1 with e1 e2 e3
  subst e1
  obtain ⟨b, off, k1, k2, k3⟩ := h3 0 (xs[0]) (by simp [h0])
  refine ⟨b, off, k1, k2, e2, fun j u hu => ?_⟩
  rw [List.getElem?_map] at hu
  obtain ⟨x, hx, rfl⟩ := Option.map_eq_some_iff.1 hu
  obtain ⟨b', off', q1, _, q3⟩ := h3 j x hx
  rw [k1] at q1
  cases q1
  rw [addr_add]; exact q3
theorem StrRow.own {B : Nat} {w : World} {v : Value} {xs : List (List UInt8)} (h : w.ownsRow B 9 1 v xs.length (xs.map fun x => Value.string ⟨⟨x⟩⟩)) : StrRow w.heap.size w v xs := by
  have hc := fun g (hg : v.ownBlock = some g) => h.cells hg
  have hl := h.lt
  rcases h.2 with ⟨rfl, h0⟩ | ⟨g, cap, cur, rfl, h1, h2, h3, _⟩
  · exact ⟨none, 0, by rw [h0], by omega, fun j x hx => by simp [List.length_eq_zero_iff.1 h0] at hx⟩
  · refine ⟨_, cap, rfl, h3, fun j x hx => ⟨g, 0, rfl, (hl g rfl).2, ?_⟩⟩
    have := hc g rfl j (.string ⟨⟨x⟩⟩) (by rw [List.getElem?_map, hx]; rfl)
    rw [addr_add, Nat.zero_add] at this
    rw [Nat.zero_add]; exact this
set_option maxHeartbeats 4000000 in
theorem concat_is (sb : Nat) (aa ab : Option Addr) (ca cb : Nat) (xs ys : List (List UInt8)) (w : World) (h0 : w.cell? ⟨sb, 0, none⟩ = some (.slice aa xs.length ca)) (h1 : w.cell? ⟨sb, 1, none⟩ = some (.slice ab ys.length cb))
    (ha : StrRow w.heap.size w (.slice aa xs.length ca) xs) (hb : StrRow w.heap.size w (.slice ab ys.length cb) ys) (hn0 : 0 < xs.length) (hn : xs.length + ys.length ≤ 1000000) :
    Calls Tryz.prog 18 #[.slice (some ⟨sb, 0, none⟩) 2 2] w fun e w' => ∃ v, e = .returned v ∧ StrRow w'.heap.size w' v (xs ++ ys) ∧ Below w.heap.size w w' := by
  obtain ⟨i0, hi, hz0, hz1, hz2⟩ := info_parts sInfo
  have hsb : sb < w.heap.size := World.block_lt_of_cell? w _ h0
  obtain ⟨b, off, rfl, hbl, hca, hcell⟩ := ha.cells hn0
  have hA : (xs.map fun x => Value.string ⟨⟨x⟩⟩).length = xs.length * 1 := by simp
  have hB : (ys.map fun x => Value.string ⟨⟨x⟩⟩).length = ys.length * 1 := by simp
  have hA1 : ∀ u ∈ xs.map (fun x => Value.string ⟨⟨x⟩⟩), u.oneCell' = true := by
    intro u hu; obtain ⟨x, _, rfl⟩ := List.mem_map.1 hu; rfl
  have hB1 : ∀ u ∈ ys.map (fun x => Value.string ⟨⟨x⟩⟩), u.oneCell' = true := by
    intro u hu; obtain ⟨x, _, rfl⟩ := List.mem_map.1 hu; rfl
  have hAB : (xs.map fun x => Value.string ⟨⟨x⟩⟩) ++ (ys.map fun x => Value.string ⟨⟨x⟩⟩) = (xs ++ ys).map fun x => Value.string ⟨⟨x⟩⟩ := by rw [List.map_append]
  have hfin : ∀ (w' : World) v, w'.ownsRow w.heap.size 9 1 v (xs.length + ys.length) ((xs.map fun x => Value.string ⟨⟨x⟩⟩) ++ (ys.map fun x => Value.string ⟨⟨x⟩⟩)) → StrRow w'.heap.size w' v (xs ++ ys) := by
    intro w' v h
    rw [hAB] at h
    exact StrRow.own (B := w.heap.size) (by rw [List.length_append]; exact h)
  have hbc : 0 < ys.length → ∃ b off, ab = some ⟨b, off, none⟩ ∧ b < w.heap.size ∧ ∀ j u, (ys.map fun x => Value.string ⟨⟨x⟩⟩)[j]? = some u → w.cell? ((⟨b, off, none⟩ : Addr).add j) = some u := fun h => by
    obtain ⟨b, off, k1, k2, _, k3⟩ := hb.cells h
    exact ⟨b, off, k1, k2, k3⟩
  have hcA : ∀ (w' : World), Below w.heap.size w w' → ∀ (j : Nat) u, (xs.map fun x => Value.string ⟨⟨x⟩⟩)[j]? = some u → w'.cell? ((⟨b, off, none⟩ : Addr).add j) = some u := fun w' hw j u hu => by
    rw [hw.cell (p := (⟨b, off, none⟩ : Addr).add j) (by rw [addr_add]; exact hbl)]; exact hcell j u hu
  clear ha hb hcell hAB
  replace hbc := Any.hidU hbc
  replace hcA := Any.hidU hcA
  replace hfin := Any.hidU hfin
  replace hA := Any.hidU hA
  replace hB := Any.hidU hB
  replace hA1 := Any.hidU hA1
  replace hB1 := Any.hidU hB1
  generalize xs.map (fun x => Value.string ⟨⟨x⟩⟩) = A at *
  generalize ys.map (fun x => Value.string ⟨⟨x⟩⟩) = C at *
  generalize xs.length = n at *
  generalize ys.length = m at *
  have hn1 : ¬ ((n : Int) < 0) := by omega
  go_enter Tryz.func18, Tryz.ntmps18
  go_wp2
  go_loop [3, 11] (fun s i => (s = .int .i64 0 ∧ i = .int .i64 0) ∨ (s = .int .i64 n ∧ i = .int .i64 1) ∨ (s = .int .i64 (n + m : Nat) ∧ i = .int .i64 2)) (fun _ i => 2 - (intOf i).toNat)
  case atStart => exact .inl ⟨rfl, rfl⟩
  case round =>
    rcases hrel with ⟨rfl, rfl⟩ | ⟨rfl, rfl⟩ | ⟨rfl, rfl⟩
    · go_wp2
      exact ⟨.inr (.inl ⟨rfl, rfl⟩), by decide⟩
    · have hnn : ¬ ((n : Int) + m < 0) := by omega
      go_wp2
      exact ⟨.inr (.inr ⟨by simp, rfl⟩), by decide⟩
    · go_wp2_with (go_at_call 44; refine (grow_is (n + m) _ (by omega) (by omega)).mono ?_)
      intro e w1 hpost
      obtain ⟨v, rfl, hv, hb1⟩ := hpost
      have HV := Any.hidU hv
      have HB := Any.hidU hb1
      clear hv hb1
      go_wp2
      go_loopw [6, 27] (fun v i w' => (i = .int .i64 0 ∧ Hid (w'.ownsRow w.heap.size 9 1 v 0 []) ∧ Hid (Below w.heap.size w w')) ∨ (i = .int .i64 1 ∧ Hid (w'.ownsRow w.heap.size 9 1 v n A) ∧ Hid (Below w.heap.size w w')) ∨ (i = .int .i64 2 ∧ Hid (w'.ownsRow w.heap.size 9 1 v (n + m) (A ++ C)) ∧ Hid (Below w.heap.size w w'))) (fun _ i _ => 2 - (intOf i).toNat)
      case atStart => exact .inl ⟨rfl, HV, HB⟩
      case round =>
        rcases hrel with ⟨rfl, hv, hw⟩ | ⟨rfl, hv, hw⟩ | ⟨rfl, hv, hw⟩
        · have d0 : wr.cell? ⟨sb, 0, none⟩ = some (.slice (some ⟨b, off, none⟩) n ca) := by rw [hw.out.cell (p := ⟨sb, 0, none⟩) hsb]; exact h0
          go_wp2_with (at_builtin; refine wpList_append_own _ rfl _ _ 40 rfl w.heap.size 9 i0 (.string .empty) 1 16 Tryz.underlying40 hi hz0 hz1 hz2 rfl (by decide) _ _ _ rfl hv.out ⟨b, off, none⟩ n ca A rfl hA.out (hcA.out wr hw.out) hA1.out ?c3 ?c4 ?c5 ?_)
          case c3 => unfold maxLen; omega
          case c4 => omega
          case c5 => exact hw.out.size
          intro v' w2 hown' hgrow _
          have hl2 := hv.out.lt
          have hw2 := hw.out.grown hgrow hw.out.size (fun k hk => (hl2 k hk).1)
          obtain ⟨ao, n', cap, rfl⟩ : ∃ ao n' cap, v' = .slice ao n' cap := by
            rcases hown'.2 with ⟨hv, _⟩ | ⟨g, cap, cur, hv, _⟩
            · exact ⟨_, _, _, hv⟩
            · exact ⟨_, _, _, hv⟩
          have hown' := Any.hidU hown'
          have hw2 := Any.hidU hw2
          clear hl2 hgrow
          go_wp2
          exact ⟨.inr (.inl ⟨rfl, hown', hw2⟩), by decide⟩
        · have d1 : wr.cell? ⟨sb, 1, none⟩ = some (.slice ab m cb) := by rw [hw.out.cell (p := ⟨sb, 1, none⟩) hsb]; exact h1
          by_cases hm : 0 < m
          · obtain ⟨b', off', rfl, hb', hcell'⟩ := hbc.out hm
            have hcB : ∀ (j : Nat) u, C[j]? = some u → wr.cell? ((⟨b', off', none⟩ : Addr).add j) = some u := fun j u hu => by
              rw [hw.out.cell (p := (⟨b', off', none⟩ : Addr).add j) (by rw [addr_add]; exact hb')]; exact hcell' j u hu
            have hcB := Any.hidU hcB
            clear hcell'
            go_wp2_with (at_builtin; refine wpList_append_own _ rfl _ _ 40 rfl w.heap.size 9 i0 (.string .empty) 1 16 Tryz.underlying40 hi hz0 hz1 hz2 rfl (by decide) _ _ _ rfl hv.out ⟨b', off', none⟩ m cb C rfl hB.out (hcB.out) hB1.out ?c3 ?c4 ?c5 ?_)
            case c3 => unfold maxLen; omega
            case c4 => omega
            case c5 => exact hw.out.size
            intro v' w2 hown' hgrow _
            have hl2 := hv.out.lt
            have hw2 := hw.out.grown hgrow hw.out.size (fun k hk => (hl2 k hk).1)
            obtain ⟨ao, n', cap, rfl⟩ : ∃ ao n' cap, v' = .slice ao n' cap := by
              rcases hown'.2 with ⟨hv, _⟩ | ⟨g, cap, cur, hv, _⟩
              · exact ⟨_, _, _, hv⟩
              · exact ⟨_, _, _, hv⟩
            have hown' := Any.hidU hown'
            have hw2 := Any.hidU hw2
            clear hl2 hgrow
            go_wp2
            exact ⟨.inr (.inr ⟨rfl, hown', hw2⟩), by decide⟩
          · have hm0 : m = 0 := by omega
            have hC : C = [] := List.length_eq_zero_iff.1 (by rw [hB.out, hm0])
            have hv2 : Hid (wr.ownsRow w.heap.size 9 1 u6 (n + m) (A ++ C)) := by rw [hm0, hC, Nat.add_zero, List.append_nil]; exact hv
            have hxx : Value.slice ab m cb = .slice ab 0 cb := by rw [hm0]
            clear hm0 hC
            replace hxx := Any.hidU hxx
            obtain ⟨ao, cap, rfl, hcap⟩ : ∃ ao cap, u6 = .slice ao n cap ∧ n ≤ cap := by
              rcases hv.out.2 with ⟨hv, h0⟩ | ⟨g, cap, cur, hv, _, _, h3, _⟩
              · exact ⟨none, 0, by rw [hv, h0], by omega⟩
              · exact ⟨_, _, hv, h3⟩
            go_wp2_with (at_builtin; refine wpList_append_zero rfl _ _ 40 rfl 9 i0 Tryz.underlying40 hi ao ab n cap cb hcap rfl hxx.out ?_)
            go_wp2
            exact ⟨.inr (.inr ⟨rfl, hv2, hw⟩), by decide⟩
        · obtain ⟨ao, n', cap, rfl⟩ : ∃ ao n' cap, u6 = .slice ao n' cap := by
            rcases hv.out.2 with ⟨hv, _⟩ | ⟨g, cap, cur, hv, _⟩
            · exact ⟨_, _, _, hv⟩
            · exact ⟨_, _, _, hv⟩
          have hr := hfin.out _ _ hv.out
          replace hr := Any.hidU hr
          go_wp2
          go_ret
          exact ⟨_, rfl, hr.out, hw.out⟩
end Go.Proofs.Wr
namespace Go.Proofs.Wr
open Go.RowKit
set_option linter.unusedVariables false
set_option maxRecDepth 100000
abbrev Tok : Type := List UInt8 × (List UInt8 × (Bool × Int))
abbrev Prd : Type := List UInt8 × List (List UInt8)
abbrev Nte : Type := Int × List (List UInt8)
def TokRow (K : Nat) (w : World) (v : Value) (ts : List Tok) : Prop :=
  ∃ a c, v = .slice a ts.length c ∧ ∀ j t, ts[j]? = some t → ∃ b off, a = some ⟨b, off, none⟩ ∧ b < K ∧ w.cell? ⟨b, off + j * 4, none⟩ = some (.string ⟨⟨t.1⟩⟩) ∧ w.cell? ⟨b, off + j * 4 + 1, none⟩ = some (.string ⟨⟨t.2.1⟩⟩) ∧ w.cell? ⟨b, off + j * 4 + 2, none⟩ = some (.bool t.2.2.1) ∧ w.cell? ⟨b, off + j * 4 + 3, none⟩ = some (.int .i64 t.2.2.2)
def PrdRow (K : Nat) (w : World) (v : Value) (ps : List Prd) : Prop :=
  ∃ a c, v = .slice a ps.length c ∧ ∀ j t, ps[j]? = some t → ∃ b off ar cr, a = some ⟨b, off, none⟩ ∧ b < K ∧ w.cell? ⟨b, off + j * 2, none⟩ = some (.string ⟨⟨t.1⟩⟩) ∧ w.cell? ⟨b, off + j * 2 + 1, none⟩ = some (.slice ar t.2.length cr) ∧ StrRow K w (.slice ar t.2.length cr) t.2
def NteRow (K : Nat) (w : World) (v : Value) (ns : List Nte) : Prop :=
  ∃ a c, v = .slice a ns.length c ∧ ∀ j t, ns[j]? = some t → ∃ b off ar cr, a = some ⟨b, off, none⟩ ∧ b < K ∧ w.cell? ⟨b, off + j * 2, none⟩ = some (.int .u8 t.1) ∧ w.cell? ⟨b, off + j * 2 + 1, none⟩ = some (.slice ar t.2.length cr) ∧ StrRow K w (.slice ar t.2.length cr) t.2
def tksS : List Tok → List UInt8
  | [] => []
  | t :: l => tokS t.1 t.2.1 t.2.2.1 t.2.2.2.toNat ++ tksS l
def wRule : List UInt8 := [114, 117, 108, 101]
def wStart : List UInt8 := [115, 116, 97, 114, 116]
def prdsS : List Prd → List UInt8
  | [] => []
  | p :: l => ln ([wRule, p.1, [58]] ++ p.2) ++ prdsS l
def kdS (k : Int) : List UInt8 := match k.toNat with
  | 1 => [108, 105, 115, 116]
  | 2 => [100, 101, 108, 105, 109]
  | 3 => [104, 111, 108, 101]
  | _ => []
def ntsS : List Nte → List UInt8
  | [] => []
  | n :: l => ln (kdS n.1 :: n.2) ++ ntsS l
def stS (s : List UInt8) : List UInt8 := match s with | [] => [] | x :: l => ln [wStart, x :: l]
def txS (ts : List Tok) (s : List UInt8) (ps : List Prd) (ns : List Nte) : List UInt8 := tksS ts ++ stS s ++ prdsS ps ++ ntsS ns
def okIn (ts : List Tok) (s : List UInt8) (ps : List Prd) (ns : List Nte) : Bool :=
  ts.all (fun t => decide (0 ≤ t.2.2.2) && decide (t.2.2.2 < 10)) && ps.all (fun p => decide (p.2.length ≤ 1000)) && ns.all (fun n => decide (1 ≤ n.1) && decide (n.1 ≤ 3) && decide (1 ≤ n.2.length) && decide (n.2.length ≤ 1000)) && decide ((txS ts s ps ns).length ≤ 1000000) && decide (ts.length ≤ 1000) && decide (ps.length ≤ 1000) && decide (ns.length ≤ 1000)
def PostW (B b : Nat) (l : List UInt8) (w : World) (e : Ending) (w' : World) : Prop := e = .returned (.tuple #[]) ∧ Lib.IsBuilder 52 5 B b (Lib.byteCells l) w' ∧ Below B w w'
theorem token_any (B b : Nat) (l nm rx : List UInt8) (sk : Bool) (z : Int) (w : World) (h : Lib.IsBuilder 52 5 B b (Lib.byteCells l) w) (hz : 0 ≤ z) (hc : z < 10) (hl : l.length + (tokS nm rx sk z.toNat).length ≤ 1000000000) (hBw : B ≤ w.heap.size) :
    Calls Tryz.prog 16 #[.pointer (some ⟨b, 0, none⟩), .agg #[.string ⟨⟨nm⟩⟩, .string ⟨⟨rx⟩⟩, .bool sk, .int .i64 z]] w (PostW B b (l ++ tokS nm rx sk z.toNat) w) := by
  cases sk with
  | true => exact (token_skip B b l nm rx z w h hz hc hl hBw).mono fun e w' h => ⟨h.1, h.2.1, h.2.2.1⟩
  | false => exact (token_tok B b l nm rx z w h hz hc hl hBw).mono fun e w' h => ⟨h.1, h.2.1, h.2.2.1⟩
theorem put_any (B b : Nat) (l : List UInt8) (v : Value) (xs : List (List UInt8)) (w : World) (h : Lib.IsBuilder 52 5 B b (Lib.byteCells l) w) (hx : StrRow w.heap.size w v xs) (hn : xs.length ≤ 1000000) (hl : l.length + (ln xs).length ≤ 1000000000) (hBw : B ≤ w.heap.size) :
    Calls Tryz.prog 17 #[.pointer (some ⟨b, 0, none⟩), v] w (PostW B b (l ++ ln xs) w) :=
  (put_is B b l v xs w h hx hn hl hBw).mono fun e w' h => ⟨h.1, h.2.1, h.2.2.1⟩
theorem drop_one {α : Type} {l : List α} {k : Nat} {t : α} (h : l[k]? = some t) : l.drop k = t :: l.drop (k + 1) := by
  obtain ⟨hk, rfl⟩ := List.getElem?_eq_some_iff.1 h
  rw [List.drop_eq_getElem_cons hk]
def CatPost (wr : World) (xs : List (List UInt8)) (e : Ending) (w' : World) : Prop := ∃ v, e = .returned v ∧ StrRow w'.heap.size w' v xs ∧ Below wr.heap.size wr w'
theorem prd_cat (wr : World) (lf : List UInt8) (ar : Option Addr) (cr : Nat) (ys : List (List UInt8)) (hy : StrRow wr.heap.size wr (.slice ar ys.length cr) ys) (hn : ys.length ≤ 1000) :
    Calls Tryz.prog 18 #[.slice (some ⟨wr.heap.size + 1 + 1, 0, none⟩) 2 2] (((wr.alloc (.cells #[.string ⟨⟨lf⟩⟩, .slice ar ys.length cr] 42)).alloc (.cells #[.string ⟨#[114, 117, 108, 101]⟩, .string ⟨⟨lf⟩⟩, .string ⟨#[58]⟩] 9)).alloc (.cells #[.slice (some ⟨wr.heap.size + 1, 0, none⟩) 3 3, .slice ar ys.length cr] 40)) (CatPost wr ([wRule, lf, [58]] ++ ys)) := by
  have b1 := (Below.refl wr.heap.size wr).alloc (Nat.le_refl _) (.cells #[.string ⟨⟨lf⟩⟩, .slice ar ys.length cr] 42)
  generalize hw1 : wr.alloc (.cells #[.string ⟨⟨lf⟩⟩, .slice ar ys.length cr] 42) = w1 at *
  have z1 : w1.heap.size = wr.heap.size + 1 := by rw [← hw1, al_size]
  have b2 := (Below.refl w1.heap.size w1).alloc (Nat.le_refl _) (.cells #[.string ⟨#[114, 117, 108, 101]⟩, .string ⟨⟨lf⟩⟩, .string ⟨#[58]⟩] 9)
  have r1 : StrRow (w1.alloc (.cells #[.string ⟨#[114, 117, 108, 101]⟩, .string ⟨⟨lf⟩⟩, .string ⟨#[58]⟩] 9)).heap.size (w1.alloc (.cells #[.string ⟨#[114, 117, 108, 101]⟩, .string ⟨⟨lf⟩⟩, .string ⟨#[58]⟩] 9)) (.slice (some ⟨w1.heap.size, 0, none⟩) 3 3) [wRule, lf, [58]] := row3 w1 wRule lf [58]
  generalize hw2 : w1.alloc (.cells #[.string ⟨#[114, 117, 108, 101]⟩, .string ⟨⟨lf⟩⟩, .string ⟨#[58]⟩] 9) = w2 at *
  have z2 : w2.heap.size = wr.heap.size + 1 + 1 := by rw [← hw2, al_size, z1]
  have b3 := (Below.refl w2.heap.size w2).alloc (Nat.le_refl _) (.cells #[.slice (some ⟨wr.heap.size + 1, 0, none⟩) 3 3, .slice ar ys.length cr] 40)
  have n3 := heap_alloc_new w2 (.cells #[.slice (some ⟨wr.heap.size + 1, 0, none⟩) 3 3, .slice ar ys.length cr] 40)
  generalize hw3 : w2.alloc (.cells #[.slice (some ⟨wr.heap.size + 1, 0, none⟩) 3 3, .slice ar ys.length cr] 40) = w3 at *
  have z3 : w3.heap.size = wr.heap.size + 1 + 1 + 1 := by rw [← hw3, al_size, z2]
  rw [z1] at r1
  have bb : Below wr.heap.size wr w3 := b1.trans ((b2.mono (by omega)).trans (b3.mono (by omega)))
  refine (concat_is (wr.heap.size + 1 + 1) (some ⟨wr.heap.size + 1, 0, none⟩) ar 3 cr [wRule, lf, [58]] ys w3 ?_ ?_ ?_ ?_ (by simp) (by simp; omega)).mono ?_
  · rw [← z2, Lib.cell_of_heap n3]; rfl
  · rw [← z2, Lib.cell_of_heap n3]; rfl
  · obtain ⟨a, c, k1, k2, k3⟩ := r1.below b3 (Nat.le_refl _)
    exact ⟨a, c, k1, k2, fun j x hx => by obtain ⟨b, off, q1, q2, q3⟩ := k3 j x hx; exact ⟨b, off, q1, by omega, q3⟩⟩
  · obtain ⟨a, c, k1, k2, k3⟩ := hy.below bb (Nat.le_refl _)
    exact ⟨a, c, k1, k2, fun j x hx => by obtain ⟨b, off, q1, q2, q3⟩ := k3 j x hx; exact ⟨b, off, q1, by omega, q3⟩⟩
  · rintro e w' ⟨v, rfl, h1, h2⟩
    exact ⟨v, rfl, h1, bb.trans (h2.mono (by omega))⟩
def resV (r : Bool) (t : List UInt8) : Value := match r with
  | true => if t.length > 4000 then .tuple #[.string ⟨#[]⟩, .int .i64 4] else .tuple #[.string ⟨⟨t⟩⟩, .int .i64 0]
  | false => .tuple #[.string ⟨#[]⟩, .int .i64 1]
abbrev cK : Obj := .cells #[.string ⟨#[]⟩, .string ⟨#[108, 105, 115, 116]⟩, .string ⟨#[100, 101, 108, 105, 109]⟩, .string ⟨#[104, 111, 108, 101]⟩] 9
theorem nt_own (wr : World) (C45 : Obj) (kd : ByteArray) : ((((wr.alloc C45).drew).alloc cK).alloc (.cells #[.string kd] 9)).ownsRow wr.heap.size 9 1 (.slice (some ⟨wr.heap.size + 1 + 1, 0, none⟩) 1 1) 1 [.string kd] := by
  have n := heap_alloc_new (((wr.alloc C45).drew).alloc cK) (.cells #[.string kd] 9)
  have hz : (((wr.alloc C45).drew).alloc cK).heap.size = wr.heap.size + 1 + 1 := by rw [al_size]; show (wr.alloc C45).heap.size + 1 = _; rw [al_size]
  rw [hz] at n
  exact ⟨rfl, .inr ⟨wr.heap.size + 1 + 1, 1, _, rfl, by omega, n, Nat.le_refl _, by decide, rfl, rfl⟩⟩
theorem nt_below (wr : World) (C45 C1 : Obj) : Below wr.heap.size wr ((((wr.alloc C45).drew).alloc cK).alloc C1) := by
  have h1 := ((Below.refl wr.heap.size wr).alloc (Nat.le_refl _) C45).drew
  have h2 := h1.alloc (by show wr.heap.size ≤ (wr.alloc C45).heap.size; rw [al_size]; omega) cK
  exact h2.alloc (by rw [al_size]; show wr.heap.size ≤ (wr.alloc C45).heap.size + 1; rw [al_size]; omega) C1
theorem nt_size (wr : World) (C45 C1 : Obj) : ((((wr.alloc C45).drew).alloc cK).alloc C1).heap.size = wr.heap.size + 1 + 1 + 1 := by
  rw [al_size, al_size]; show (wr.alloc C45).heap.size + 1 + 1 = _; rw [al_size]
def PutPost (B b : Nat) (l : List UInt8) (wr : World) (cs : Array Value) (e : Ending) (w' : World) : Prop := e = .returned (.tuple #[]) ∧ Lib.IsBuilder 52 5 B b (Lib.byteCells l) w' ∧ Below B wr w' ∧ w'.heap[wr.heap.size]? = some (.cells cs 45 (0, 0))
theorem nt_put (B b : Nat) (l kd : List UInt8) (ys : List (List UInt8)) (wr w6 : World) (cs : Array Value) (C1 : Obj) (g cap : Nat) (h : Lib.IsBuilder 52 5 B b (Lib.byteCells l) wr) (hBw : B ≤ wr.heap.size) (hn : ys.length ≤ 1000) (hl : l.length + (ln (kd :: ys)).length ≤ 1000000000)
    (hgrow : ((((wr.alloc (.cells cs 45)).drew).alloc cK).alloc C1).grownBy w6 (some (wr.heap.size + 1 + 1)))
    (hown : w6.ownsRow wr.heap.size 9 1 (.slice (some ⟨g, 0, none⟩) (1 + ys.length) cap) (1 + ys.length) ([.string ⟨⟨kd⟩⟩] ++ ys.map fun x => Value.string ⟨⟨x⟩⟩)) :
    Calls Tryz.prog 17 #[.pointer (some ⟨b, 0, none⟩), .slice (some ⟨g, 0, none⟩) (1 + ys.length) cap] w6 (PutPost B b (l ++ ln (kd :: ys)) wr cs) := by
  have h5 := nt_below wr (.cells cs 45) C1
  have hz := h5.size
  have h6 : Below wr.heap.size wr w6 := h5.grown hgrow hz (fun k hk => by cases hk; omega)
  have hrow : StrRow w6.heap.size w6 (.slice (some ⟨g, 0, none⟩) (1 + ys.length) cap) (kd :: ys) := by
    refine StrRow.own (B := wr.heap.size) ?_
    have e : (kd :: ys).length = 1 + ys.length := by simp; omega
    rw [e]; exact hown
  have hbl : b < wr.heap.size := h.elim (·.lt) (·.lt)
  have n1 := heap_alloc_new wr (.cells cs 45)
  have z1 : (wr.alloc (.cells cs 45)).drew.heap.size = wr.heap.size + 1 := al_size _ _
  have n2 : (((wr.alloc (.cells cs 45)).drew).alloc cK).heap[wr.heap.size]? = some (.cells cs 45 (0, 0)) := (Below.heap_alloc _ _ _ (by rw [z1]; omega)).trans n1
  have n3 : ((((wr.alloc (.cells cs 45)).drew).alloc cK).alloc C1).heap[wr.heap.size]? = some (.cells cs 45 (0, 0)) := (Below.heap_alloc _ _ _ (by rw [al_size, z1]; omega)).trans n2
  have n4 : w6.heap[wr.heap.size]? = some (.cells cs 45 (0, 0)) := (hgrow.block _ (by rw [nt_size]; omega) (fun e => by have := Option.some.inj e; omega)).trans n3
  refine (put_is B b l _ (kd :: ys) w6 (IsBuilder_below h h6) hrow (by simp; omega) hl (Nat.le_trans hBw h6.size)).mono ?_
  rintro e w' ⟨h1, h2, h3, h4⟩
  exact ⟨h1, h2, (h6.mono hBw).trans h3, h4 _ _ _ _ n4 (by decide) (by omega)⟩
def StrPost (B : Nat) (t : List UInt8) (w : World) (e : Ending) (w' : World) : Prop := e = .returned (.string ⟨⟨t⟩⟩) ∧ Below B w w'
theorem string_post (B b : Nat) (l : List UInt8) (w : World) (h : Lib.IsBuilder 52 5 B b (Lib.byteCells l) w) (hBw : B ≤ w.heap.size) : Calls Tryz.prog 21 #[.pointer (some ⟨b, 0, none⟩)] w (StrPost B l w) := string_any B b l w h hBw
def LenPost (n : Nat) (w : World) (e : Ending) (w' : World) : Prop := e = .returned (.int .i64 n) ∧ w' = w
theorem len_post (B b : Nat) (l : List UInt8) (w : World) (h : Lib.IsBuilder 52 5 B b (Lib.byteCells l) w) : Calls Tryz.prog 20 #[.pointer (some ⟨b, 0, none⟩)] w (LenPost l.length w) := by
  have := len_is B b (Lib.byteCells l) w h
  rw [Lib.byteCells_length] at this
  exact this
theorem start_put (B b : Nat) (l s : List UInt8) (wr : World) (h : Lib.IsBuilder 52 5 B b (Lib.byteCells l) wr) (hl : l.length + (ln [wStart, s]).length ≤ 1000000000) (hBw : B ≤ wr.heap.size) :
    Calls Tryz.prog 17 #[.pointer (some ⟨b, 0, none⟩), .slice (some ⟨wr.heap.size, 0, none⟩) 2 2] (wr.alloc (.cells #[.string ⟨#[115, 116, 97, 114, 116]⟩, .string ⟨⟨s⟩⟩] 9)) (PostW B b (l ++ ln [wStart, s]) wr) := by
  have hb := (Below.refl wr.heap.size wr).alloc (Nat.le_refl _) (.cells #[.string ⟨#[115, 116, 97, 114, 116]⟩, .string ⟨⟨s⟩⟩] 9)
  have hh := Lib.cell_of_heap (heap_alloc_new wr (.cells #[.string ⟨#[115, 116, 97, 114, 116]⟩, .string ⟨⟨s⟩⟩] 9))
  refine (put_any B b l _ [wStart, s] _ (IsBuilder_below h hb) ⟨_, _, rfl, by simp, fun j x hj => ⟨wr.heap.size, 0, rfl, by rw [al_size]; omega, ?_⟩⟩ (by simp) hl (Nat.le_trans hBw hb.size)).mono ?_
  · rw [hh]
    match j, hj with
    | 0, hj => cases hj; rfl
    | 1, hj => cases hj; rfl
    | _ + 2, hj => simp at hj
  · rintro e w' ⟨h1, h2, h3⟩
    exact ⟨h1, h2, (hb.mono hBw).trans h3⟩
end Go.Proofs.Wr
namespace Go.Proofs.Wr
open Go.RowKit
set_option linter.unusedVariables false
set_option maxRecDepth 100000
set_option maxHeartbeats 4000000 in
theorem text_is (aT aP aN : Option Addr) (cT cP cN : Nat) (ts : List Tok) (s : List UInt8) (ps : List Prd) (ns : List Nte) (w : World) (hT : TokRow w.heap.size w (.slice aT ts.length cT) ts) (hP : PrdRow w.heap.size w (.slice aP ps.length cP) ps) (hN : NteRow w.heap.size w (.slice aN ns.length cN) ns)
    (r : Bool) (hok : r = true → okIn ts s ps ns = true)
    (hR : ∀ w1, Below w.heap.size w w1 → Calls Tryz.prog 8 #[.agg #[.slice aT ts.length cT, .string ⟨⟨s⟩⟩, .slice aP ps.length cP, .slice aN ns.length cN]] w1 fun e w' => e = .returned (.bool r) ∧ Below w1.heap.size w1 w') :
    Calls Tryz.prog 7 #[.agg #[.slice aT ts.length cT, .string ⟨⟨s⟩⟩, .slice aP ps.length cP, .slice aN ns.length cN]] w fun e w' =>
      e = .returned (resV r (txS ts s ps ns)) ∧ Below w.heap.size w w' := by
  have b1 := (Below.refl w.heap.size w).alloc (Nat.le_refl _) (.cells #[.slice aT ts.length cT, .string ⟨⟨s⟩⟩, .slice aP ps.length cP, .slice aN ns.length cN] 26)
  have n1 := heap_alloc_new w (.cells #[.slice aT ts.length cT, .string ⟨⟨s⟩⟩, .slice aP ps.length cP, .slice aN ns.length cN] 26)
  have q1 := hR _ b1
  have s1 : w.heap.size < (w.alloc (.cells #[.slice aT ts.length cT, .string ⟨⟨s⟩⟩, .slice aP ps.length cP, .slice aN ns.length cN] 26)).heap.size := by rw [al_size]; omega
  replace q1 := Any.hidU q1
  replace n1 := Any.hidU n1
  replace b1 := Any.hidU b1
  replace s1 := Any.hidU s1
  replace hT := Any.hidU hT
  replace hP := Any.hidU hP
  replace hN := Any.hidU hN
  clear hR
  cases r with
  | false =>
    clear hok hT hP hN
    go_enter Tryz.func7, Tryz.ntmps7
    go_wp2_with (go_at_call 8; refine q1.out.mono ?_)
    rintro e w2 ⟨rfl, hb2⟩
    go_wp2
    go_ret2
    exact ⟨rfl, b1.out.trans (hb2.mono (Nat.le_of_lt s1.out))⟩
  | true =>
    replace hok := Any.hidU (hok rfl)
    cases hs : s.isEmpty with
    | true =>
      go_enter Tryz.func7, Tryz.ntmps7
      go_wp2_with (go_at_call 8; refine q1.out.mono ?_)
      rintro e w2 ⟨rfl, hb2⟩
      have n2 : w2.heap[w.heap.size]? = some (.cells #[.slice aT ts.length cT, .string ⟨⟨s⟩⟩, .slice aP ps.length cP, .slice aN ns.length cN] 26 (0, 0)) := by rw [hb2.block _ s1.out]; exact n1.out
      have hw2 : Below w.heap.size w w2 := b1.out.trans (hb2.mono (Nat.le_of_lt s1.out))
      have l2 := lt_of_heap n2
      have hB := Lib.fresh_isBuilder 52 5 w2
      have b3 := (Below.refl w2.heap.size w2).alloc (Nat.le_refl _) (.cells #[.pointer none, .slice none 0 0] 52)
      replace hB := Any.hidU hB
      replace b3 := Any.hidU b3
      replace n2 := Any.hidU n2
      replace hb2 := Any.hidU hb2
      replace hw2 := Any.hidU hw2
      replace l2 := Any.hidU l2
      have hokT : ∀ t ∈ ts, 0 ≤ t.2.2.2 ∧ t.2.2.2 < 10 := fun t ht => by
        have h := hok.out
        simp only [okIn, Bool.and_eq_true, List.all_eq_true, decide_eq_true_eq] at h
        exact h.1.1.1.1.1.1 t ht
      have hlT : (tksS ts).length ≤ 1000000 := by
        have h := hok.out
        simp only [okIn, Bool.and_eq_true, List.all_eq_true, decide_eq_true_eq] at h
        have h2 := h.1.1.1.2
        simp only [txS, List.length_append] at h2
        omega
      have hszs : ts.length ≤ 1000 ∧ ps.length ≤ 1000 ∧ ns.length ≤ 1000 := by
        have h := hok.out
        simp only [okIn, Bool.and_eq_true, List.all_eq_true, decide_eq_true_eq] at h
        exact ⟨h.1.1.2, h.1.2, h.2⟩
      obtain ⟨hszT, hszP, hszN⟩ := hszs
      have hokP : ∀ p ∈ ps, p.2.length ≤ 1000 := fun t ht => by
        have h := hok.out
        simp only [okIn, Bool.and_eq_true, List.all_eq_true, decide_eq_true_eq] at h
        exact h.1.1.1.1.1.2 t ht
      have hokN : ∀ n ∈ ns, (1 ≤ n.1 ∧ n.1 ≤ 3) ∧ 1 ≤ n.2.length ∧ n.2.length ≤ 1000 := fun t ht => by
        have h := hok.out
        simp only [okIn, Bool.and_eq_true, List.all_eq_true, decide_eq_true_eq] at h
        have := h.1.1.1.1.2 t ht
        exact ⟨this.1.1, this.1.2, this.2⟩
      have hlAll : (tksS ts ++ stS s).length + (prdsS ps).length + (ntsS ns).length ≤ 1000000 := by
        have h := hok.out
        simp only [okIn, Bool.and_eq_true, List.all_eq_true, decide_eq_true_eq] at h
        have h2 := h.1.1.1.2
        simp only [txS, List.length_append] at h2 ⊢
        omega
      have hlAll2 : (txS ts s ps ns).length ≤ 1000000 := by
        have h := hok.out
        simp only [okIn, Bool.and_eq_true, List.all_eq_true, decide_eq_true_eq] at h
        exact h.1.1.1.2
      replace hlAll := Any.hidU hlAll
      replace hlAll2 := Any.hidU hlAll2
      replace hokP := Any.hidU hokP
      replace hokN := Any.hidU hokN
      replace hokT := Any.hidU hokT
      replace hlT := Any.hidU hlT
      have m0 : (w2.alloc (.cells #[.pointer none, .slice none 0 0] 52)).cell? ⟨w.heap.size, 0, none⟩ = some (.slice aT ts.length cT) := by
        rw [b3.out.cell (p := ⟨w.heap.size, 0, none⟩) l2.out, Lib.cell_of_heap n2.out]; rfl
      go_wp2
      go_loopw [19] (fun i wr => ∃ (k : Nat) (l : List UInt8), i = .int .i64 k ∧ k ≤ ts.length ∧ Hid (Lib.IsBuilder 52 5 w2.heap.size w2.heap.size (Lib.byteCells l) wr) ∧ Hid (Below w2.heap.size w2 wr) ∧ Hid (l ++ tksS (ts.drop k) = tksS ts)) (fun i _ => ts.length - (intOf i).toNat)
      case atStart => exact ⟨0, [], rfl, Nat.zero_le _, hB, b3, Any.hidU (by simp)⟩
      case round =>
        obtain ⟨k, l, rfl, hk, HB, HW, HL⟩ := hrel
        by_cases hlt : k < ts.length
        · have hi0 : (0 : Int) ≤ (k : Int) := Int.natCast_nonneg _
          have hi1 : (k : Int) < (ts.length : Int) := by omega
          obtain ⟨tb, toff, nm, rx, sk, z, rfl, htb, ht, c0, c1, c2, c3⟩ : ∃ tb toff nm rx sk z, aT = some ⟨tb, toff, none⟩ ∧ tb < w2.heap.size ∧ ts[k]? = some (nm, rx, sk, z) ∧ wr.cell? ⟨tb, toff + k * 4, none⟩ = some (.string ⟨⟨nm⟩⟩) ∧ wr.cell? ⟨tb, toff + k * 4 + 1, none⟩ = some (.string ⟨⟨rx⟩⟩) ∧ wr.cell? ⟨tb, toff + k * 4 + 2, none⟩ = some (.bool sk) ∧ wr.cell? ⟨tb, toff + k * 4 + 3, none⟩ = some (.int .i64 z) := by
            obtain ⟨a, c, e1, e2⟩ := hT.out
            injection e1 with e1 _ _
            obtain ⟨tb, toff, k1, k2, k3, k4, k5, k6⟩ := e2 k ts[k] (List.getElem?_eq_getElem hlt)
            have hlow : w.heap.size ≤ w2.heap.size := Nat.le_of_lt l2.out
            have hww : Below w.heap.size w wr := hw2.out.trans (HW.out.mono hlow)
            have hc : ∀ o v, w.cell? ⟨tb, o, none⟩ = some v → wr.cell? ⟨tb, o, none⟩ = some v := fun o v h => by rw [hww.cell (p := ⟨tb, o, none⟩) k2]; exact h
            exact ⟨tb, toff, _, _, _, _, e1.trans k1, by omega, List.getElem?_eq_getElem hlt, hc _ _ k3, hc _ _ k4, hc _ _ k5, hc _ _ k6⟩
          have hd := drop_one ht
          have hl1 : l ++ (tokS nm rx sk z.toNat ++ tksS (ts.drop (k + 1))) = tksS ts := by rw [← HL.out, hd]; rfl
          have hlen : l.length + (tokS nm rx sk z.toNat).length ≤ 1000000000 := by
            have h1 := hlT.out
            rw [← hl1] at h1
            simp only [List.length_append] at h1
            omega
          obtain ⟨hz0, hz9⟩ := hokT.out _ (List.mem_of_getElem? ht)
          have hfr := (Below.refl wr.heap.size wr).alloc (Nat.le_refl _) (.cells #[.string ⟨⟨nm⟩⟩, .string ⟨⟨rx⟩⟩, .bool sk, .int .i64 z] 36)
          have hlow := Nat.le_trans HW.out.size hfr.size
          have hq := token_any w2.heap.size w2.heap.size l nm rx sk z _ (IsBuilder_below HB.out hfr) hz0 hz9 hlen hlow
          have hwq := HW.out.trans (hfr.mono HW.out.size)
          have hL2 := (List.append_assoc l (tokS nm rx sk z.toNat) (tksS (ts.drop (k + 1)))).trans hl1
          replace hq := Any.hidU hq
          replace hwq := Any.hidU hwq
          replace hL2 := Any.hidU hL2
          clear hd hl1 hlen hfr hlow ht hz0 hz9 HL HB HW
          go_wp2_with (go_at_call 16; refine hq.out.mono ?_)
          intro e w4 hpost
          obtain ⟨rfl, h4, k4⟩ := hpost
          have k5 := hwq.out.trans k4
          replace h4 := Any.hidU h4
          replace k5 := Any.hidU k5
          go_wp2
          refine ⟨⟨k + 1, _, by go_num, by omega, h4, k5, hL2⟩, ?_⟩
          simp [intOf]; omega
        · have hke : k = ts.length := by omega
          subst hke
          have hl0 : l = tksS ts := by
            have := HL.out
            rw [List.drop_length] at this
            rw [← this]; exact (List.append_nil l).symm
          subst hl0
          clear HL
          have n4 : wr.heap[w.heap.size]? = some (.cells #[.slice aT ts.length cT, .string ⟨⟨s⟩⟩, .slice aP ps.length cP, .slice aN ns.length cN] 26 (0, 0)) := by rw [HW.out.block _ l2.out]; exact n2.out
          have m1 : wr.cell? ⟨w.heap.size, 1, none⟩ = some (.string ⟨⟨s⟩⟩) := by rw [Lib.cell_of_heap n4]; rfl
          have m2 : wr.cell? ⟨w.heap.size, 2, none⟩ = some (.slice aP ps.length cP) := by rw [Lib.cell_of_heap n4]; rfl
          replace n4 := Any.hidU n4
          have hst : tksS ts = tksS ts ++ stS s := by rw [List.isEmpty_iff.1 hs]; exact (List.append_nil _).symm
          rw [hst] at HB
          clear hst
          have hlp : (tksS ts ++ stS s).length + (prdsS ps).length + (ntsS ns).length ≤ 1000000 := hlAll.out
          replace hlp := Any.hidU hlp
          go_wp2
          go_loopw [38] (fun i wr => ∃ (k : Nat) (l : List UInt8), i = .int .i64 k ∧ k ≤ ps.length ∧ Hid (Lib.IsBuilder 52 5 w2.heap.size w2.heap.size (Lib.byteCells l) wr) ∧ Hid (Below w2.heap.size w2 wr) ∧ Hid (l ++ prdsS (ps.drop k) = tksS ts ++ stS s ++ prdsS ps)) (fun i _ => ps.length - (intOf i).toNat)
          case atStart => exact ⟨0, tksS ts ++ stS s, rfl, Nat.zero_le _, HB, HW, Any.hidU rfl⟩
          case round =>
            clear HB HW m1 m2
            obtain ⟨k, l, rfl, hk, HB, HW, HL⟩ := hrel
            by_cases hlt : k < ps.length
            · have hi0 : (0 : Int) ≤ (k : Int) := Int.natCast_nonneg _
              have hi1 : (k : Int) < (ps.length : Int) := by omega
              obtain ⟨tb, toff, lf, ys, ar, cr, rfl, htb, ht, c0, c1, hy⟩ : ∃ tb toff lf ys ar cr, aP = some ⟨tb, toff, none⟩ ∧ tb < w2.heap.size ∧ ps[k]? = some (lf, ys) ∧ wr.cell? ⟨tb, toff + k * 2, none⟩ = some (.string ⟨⟨lf⟩⟩) ∧ wr.cell? ⟨tb, toff + k * 2 + 1, none⟩ = some (.slice ar ys.length cr) ∧ StrRow wr.heap.size wr (.slice ar ys.length cr) ys := by
                obtain ⟨a, c, e1, e2⟩ := hP.out
                injection e1 with e1 _ _
                obtain ⟨tb, toff, ar, cr, k1, k2, k3, k4, k5⟩ := e2 k ps[k] (List.getElem?_eq_getElem hlt)
                have hlow : w.heap.size ≤ w2.heap.size := Nat.le_of_lt l2.out
                have hww : Below w.heap.size w wr := hw2.out.trans (HW.out.mono hlow)
                have hc : ∀ o v, w.cell? ⟨tb, o, none⟩ = some v → wr.cell? ⟨tb, o, none⟩ = some v := fun o v h => by rw [hww.cell (p := ⟨tb, o, none⟩) k2]; exact h
                have k6 := k5.below hww (Nat.le_refl _)
                obtain ⟨a', c', r1, r2, r3⟩ := k6
                exact ⟨tb, toff, _, _, ar, cr, e1.trans k1, by omega, List.getElem?_eq_getElem hlt, hc _ _ k3, hc _ _ k4, a', c', r1, r2, fun j x hx => by obtain ⟨b, off, q1, q2, q3⟩ := r3 j x hx; exact ⟨b, off, q1, Nat.lt_of_lt_of_le q2 hww.size, q3⟩⟩
              have hd := drop_one ht
              have hl1 : l ++ (ln ([wRule, lf, [58]] ++ ys) ++ prdsS (ps.drop (k + 1))) = tksS ts ++ stS s ++ prdsS ps := by rw [← HL.out, hd]; rfl
              have hlen : l.length + (ln ([wRule, lf, [58]] ++ ys)).length ≤ 1000000000 := by
                have h1 := hlp.out
                have h2 := congrArg List.length hl1
                simp only [List.length_append] at h1 h2
                omega
              have hyn := hokP.out _ (List.mem_of_getElem? ht)
              have hcat := prd_cat wr lf ar cr ys hy hyn
              have hL2 := (List.append_assoc l (ln ([wRule, lf, [58]] ++ ys)) (prdsS (ps.drop (k + 1)))).trans hl1
              have hyn2 : ([wRule, lf, [58]] ++ ys).length ≤ 1000000 := by
                have : ys.length ≤ 1000 := hyn
                simp only [List.length_append, List.length_cons, List.length_nil]; omega
              replace hcat := Any.hidU hcat
              replace hL2 := Any.hidU hL2
              replace hlen := Any.hidU hlen
              replace hyn2 := Any.hidU hyn2
              clear hd hl1 hy ht HL hyn
              go_wp2_with (go_at_call 18; refine hcat.out.mono ?_)
              intro e w4 hpost
              obtain ⟨v, rfl, hrow, hb4⟩ := hpost
              have hq := put_any w2.heap.size w2.heap.size l v _ w4 (IsBuilder_below HB.out hb4) hrow hyn2.out hlen.out (Nat.le_trans HW.out.size hb4.size)
              have hwq := HW.out.trans (hb4.mono HW.out.size)
              replace hq := Any.hidU hq
              replace hwq := Any.hidU hwq
              clear hrow hb4 HB HW
              go_wp2_with (go_at_call 17; refine hq.out.mono ?_)
              intro e w5 hpost
              obtain ⟨rfl, h4, k4⟩ := hpost
              have k5 := hwq.out.trans k4
              replace h4 := Any.hidU h4
              replace k5 := Any.hidU k5
              clear k4
              go_wp2
              refine ⟨⟨k + 1, _, by go_num, by omega, h4, k5, hL2⟩, ?_⟩
              simp [intOf]; omega
            · have hke : k = ps.length := by omega
              subst hke
              have hl0 : l = tksS ts ++ stS s ++ prdsS ps := by
                have := HL.out
                rw [List.drop_length] at this
                rw [← this]; exact (List.append_nil l).symm
              subst hl0
              clear HL
              have n4 : wr.heap[w.heap.size]? = some (.cells #[.slice aT ts.length cT, .string ⟨⟨s⟩⟩, .slice aP ps.length cP, .slice aN ns.length cN] 26 (0, 0)) := by rw [HW.out.block _ l2.out]; exact n2.out
              have m3 : wr.cell? ⟨w.heap.size, 3, none⟩ = some (.slice aN ns.length cN) := by rw [Lib.cell_of_heap n4]; rfl
              replace n4 := Any.hidU n4
              have hdone : tksS ts ++ stS s ++ prdsS ps ++ ntsS ns = txS ts s ps ns := rfl
              replace hdone := Any.hidU hdone
              generalize tksS ts ++ stS s ++ prdsS ps = L3 at *
              go_wp2
              go_loopw [55] (fun i wr => ∃ (k : Nat) (l : List UInt8), i = .int .i64 k ∧ k ≤ ns.length ∧ Hid (Lib.IsBuilder 52 5 w2.heap.size w2.heap.size (Lib.byteCells l) wr) ∧ Hid (Below w2.heap.size w2 wr) ∧ Hid (l ++ ntsS (ns.drop k) = L3 ++ ntsS ns)) (fun i _ => ns.length - (intOf i).toNat)
              case atStart => exact ⟨0, L3, rfl, Nat.zero_le _, HB, HW, Any.hidU rfl⟩
              case round =>
                clear HB HW m3
                obtain ⟨k, l, rfl, hk, HB, HW, HL⟩ := hrel
                by_cases hlt : k < ns.length
                · have hi0 : (0 : Int) ≤ (k : Int) := Int.natCast_nonneg _
                  have hi1 : (k : Int) < (ns.length : Int) := by omega
                  obtain ⟨tb, toff, z, ys, ba, oa, cr, rfl, htb, ht, c0, c1, hcell, hyn⟩ : ∃ tb toff z ys ba oa cr, aN = some ⟨tb, toff, none⟩ ∧ tb < w2.heap.size ∧ ns[k]? = some (z, ys) ∧ wr.cell? ⟨tb, toff + k * 2, none⟩ = some (.int .u8 z) ∧ wr.cell? ⟨tb, toff + k * 2 + 1, none⟩ = some (.slice (some ⟨ba, oa, none⟩) ys.length cr) ∧ Hid (∀ w', Below wr.heap.size wr w' → ∀ j u, (ys.map fun x => Value.string ⟨⟨x⟩⟩)[j]? = some u → w'.cell? ((⟨ba, oa, none⟩ : Addr).add j) = some u) ∧ ((1 ≤ z ∧ z ≤ 3) ∧ 1 ≤ ys.length ∧ ys.length ≤ 1000) := by
                    obtain ⟨a, c, e1, e2⟩ := hN.out
                    injection e1 with e1 _ _
                    obtain ⟨tb, toff, ar, cr, k1, k2, k3, k4, k5⟩ := e2 k ns[k] (List.getElem?_eq_getElem hlt)
                    have hlow : w.heap.size ≤ w2.heap.size := Nat.le_of_lt l2.out
                    have hww : Below w.heap.size w wr := hw2.out.trans (HW.out.mono hlow)
                    have hc : ∀ o v, w.cell? ⟨tb, o, none⟩ = some v → wr.cell? ⟨tb, o, none⟩ = some v := fun o v h => by rw [hww.cell (p := ⟨tb, o, none⟩) k2]; exact h
                    have hyn := hokN.out _ (List.mem_of_getElem? (List.getElem?_eq_getElem hlt))
                    obtain ⟨ba, oa, rfl, q2, _, q3⟩ := k5.cells (by have := hyn.2.1; omega)
                    refine ⟨tb, toff, _, _, ba, oa, cr, e1.trans k1, by omega, List.getElem?_eq_getElem hlt, hc _ _ k3, hc _ _ k4, Any.hidU ?_, hyn⟩
                    intro w' hw' j u hu
                    have hw3 := hww.trans (hw'.mono hww.size)
                    rw [hw3.cell (p := (⟨ba, oa, none⟩ : Addr).add j) (by rw [addr_add]; exact q2)]
                    exact q3 j u hu
                  have hd := drop_one ht
                  have hl1 : l ++ (ln (kdS z :: ys) ++ ntsS (ns.drop (k + 1))) = L3 ++ ntsS ns := by rw [← HL.out, hd]; rfl
                  have hlen : l.length + (ln (kdS z :: ys)).length ≤ 1000000000 := by
                    have h1 := hlAll2.out
                    rw [← hdone.out] at h1
                    have h2 := congrArg List.length hl1
                    simp only [List.length_append] at h1 h2
                    omega
                  have hL2 := (List.append_assoc l (ln (kdS z :: ys)) (ntsS (ns.drop (k + 1)))).trans hl1
                  obtain ⟨⟨hz1, hz3⟩, hy1, hy2⟩ := hyn
                  have hA : (ys.map fun x => Value.string ⟨⟨x⟩⟩).length = ys.length * 1 := by simp
                  have hA1 : ∀ u ∈ ys.map (fun x => Value.string ⟨⟨x⟩⟩), u.oneCell' = true := by
                    intro u hu; obtain ⟨x, _, rfl⟩ := List.mem_map.1 hu; rfl
                  obtain ⟨i0, hi, hz0, hzz, hz2⟩ := info_parts sInfo
                  have hBB := HB.out
                  have hBl := HW.out.size
                  have hput := fun kd w6 C45 C1 g cap => nt_put w2.heap.size w2.heap.size l kd ys wr w6 C45 C1 g cap hBB hBl hy2
                  have hy63 : 1 + ys.length ≤ maxLen := by unfold maxLen; omega
                  have hy16 : (1 + ys.length) * 16 ≤ 140737488355328 := by omega
                  have e2 := World.new_ne wr ⟨tb, toff + k * 2, none⟩ c0
                  replace hput := Any.hidU hput
                  replace hL2 := Any.hidU hL2
                  replace hlen := Any.hidU hlen
                  replace hA := Any.hidU hA
                  replace hA1 := Any.hidU hA1
                  clear hd hl1 ht HL hBB
                  have hz0' : (0 : Int) ≤ z := by omega
                  have hz4 : z < 4 := by omega
                  have hkc : ∀ W : World, W.heap[wr.heap.size + 1]? = some (.cells #[.string ⟨#[]⟩, .string ⟨#[108, 105, 115, 116]⟩, .string ⟨#[100, 101, 108, 105, 109]⟩, .string ⟨#[104, 111, 108, 101]⟩] 9 (0, 0)) → W.cell? ⟨wr.heap.size + 1, z.toNat, none⟩ = some (.string ⟨⟨kdS z⟩⟩) := fun W hW => by
                    rw [Lib.cell_of_heap hW]
                    have : z = 1 ∨ z = 2 ∨ z = 3 := by omega
                    rcases this with rfl | rfl | rfl <;> rfl
                  have hkc1 := hkc (((wr.alloc (.cells #[.int .u8 z, .slice (some ⟨ba, oa, none⟩) ys.length cr] 45)).drew).alloc cK) (by have := heap_alloc_new ((wr.alloc (.cells #[.int .u8 z, .slice (some ⟨ba, oa, none⟩) ys.length cr] 45)).drew) cK; rwa [show ((wr.alloc (.cells #[.int .u8 z, .slice (some ⟨ba, oa, none⟩) ys.length cr] 45)).drew).heap.size = wr.heap.size + 1 from al_size _ _] at this)
                  have hkc2 : (((wr.alloc (.cells #[.int .u8 z, .slice (some ⟨ba, oa, none⟩) ys.length cr] 45)).alloc cK).drew).cell? ⟨wr.heap.size + 1, z.toNat, none⟩ = some (.string ⟨⟨kdS z⟩⟩) := hkc1
                  have hkc3 : ((wr.alloc (.cells #[.int .u8 z, .slice (some ⟨ba, oa, none⟩) ys.length cr] 45)).alloc cK).cell? ⟨wr.heap.size + 1, z.toNat, none⟩ = some (.string ⟨⟨kdS z⟩⟩) := hkc1
                  clear hkc
                  have hlen1 : l.length + (ln (kdS z :: ys)).length ≤ 1000000000 := hlen.out
                  replace hlen1 := Any.hidU hlen1
                  go_wp2
                  go_region_law (first | (go_simp; go_at_call 19; refine (Go.Proofs.YtogipciicekmoaaGreatDoor.Vm.Gz.kinds_walk _).mono ?_; rintro e w' ⟨rfl, rfl⟩) | ((refine step_append_lies _ (by rfl) _ _ _ (by rfl) wr.heap.size 9 i0 _ 1 16 Tryz.underlying40 hi hz0 hzz hz2 rfl (by decide) _ 1 [.string ⟨⟨kdS z⟩⟩] (by rfl) (nt_own wr _ _) ⟨ba, oa, none⟩ ys.length cr _ (by rfl) hA.out (hcell.out _ (nt_below wr _ _)) hA1.out hy1 hy63 hy16 (nt_below wr _ _).size (wr.heap.size + 1 + 1 + 1) (nt_size wr _ _) ?_; intro g cap w6 hown hgrow hat hlt)) | (go_simp; go_at_call 17; refine (hput.out (kdS z) w6 _ _ g cap hlen1.out hgrow hown).mono ?_; intro e w7 hpost; obtain ⟨rfl, h4, k4, n7⟩ := hpost; have s0 : w7.cell? ⟨wr.heap.size, 0, none⟩ = some (.int .u8 z) := (by rw [Lib.cell_of_heap n7]; rfl); have s1 : w7.cell? ⟨wr.heap.size, 1, none⟩ = some (.slice (some ⟨ba, oa, none⟩) ys.length cr) := (by rw [Lib.cell_of_heap n7]; rfl)))
                  all_goals
                    have k5 := HW.out.trans k4
                    replace h4 := Any.hidU h4
                    replace k5 := Any.hidU k5
                    clear hown hgrow hat hlt n7 s0 s1
                    go_wp2
                    refine ⟨⟨k + 1, _, by go_num, by omega, h4, k5, hL2⟩, ?_⟩
                    simp [intOf]; omega
                · have hke : k = ns.length := by omega
                  subst hke
                  have hl0 : l = txS ts s ps ns := by
                    have := HL.out
                    rw [List.drop_length] at this
                    rw [← hdone.out, ← this]; exact (List.append_nil l).symm
                  subst hl0
                  clear HL
                  have hlen := len_post w2.heap.size w2.heap.size _ _ HB.out
                  have hstr := string_post w2.heap.size w2.heap.size _ _ HB.out HW.out.size
                  have hww : Below w.heap.size w wr := hw2.out.trans (HW.out.mono (Nat.le_of_lt l2.out))
                  have hlow : w.heap.size ≤ w2.heap.size := Nat.le_of_lt l2.out
                  replace hlen := Any.hidU hlen
                  replace hstr := Any.hidU hstr
                  replace hww := Any.hidU hww
                  replace hlow := Any.hidU hlow
                  clear HB HW
                  by_cases hb : (txS ts s ps ns).length > 4000
                  · have hb' : ((txS ts s ps ns).length : Int) > 4000 := by omega
                    have hres : resV true (txS ts s ps ns) = .tuple #[.string ⟨#[]⟩, .int .i64 4] := if_pos hb
                    replace hres := Any.hidU hres
                    go_wp2_with (go_at_call 20; refine hlen.out.mono ?_)
                    intro e w8 hpost
                    obtain ⟨rfl, rfl⟩ := hpost
                    go_wp2
                    go_ret2
                    refine ⟨?_, hww.out⟩
                    rw [hres.out]
                    rfl
                  · have hb' : ¬ (((txS ts s ps ns).length : Int) > 4000) := by omega
                    have hres : resV true (txS ts s ps ns) = .tuple #[.string ⟨⟨txS ts s ps ns⟩⟩, .int .i64 0] := if_neg hb
                    replace hres := Any.hidU hres
                    go_wp2_with (go_at_call 20; refine hlen.out.mono ?_)
                    intro e w8 hpost
                    obtain ⟨rfl, rfl⟩ := hpost
                    go_wp2_with (go_at_call 21; refine hstr.out.mono ?_)
                    intro e w9 hpost
                    obtain ⟨rfl, hb9⟩ := hpost
                    go_wp2
                    go_ret2
                    refine ⟨?_, hww.out.trans (hb9.mono hlow.out)⟩
                    rw [hres.out]
                    rfl
    | false =>
      go_enter Tryz.func7, Tryz.ntmps7
      go_wp2_with (go_at_call 8; refine q1.out.mono ?_)
      rintro e w2 ⟨rfl, hb2⟩
      have n2 : w2.heap[w.heap.size]? = some (.cells #[.slice aT ts.length cT, .string ⟨⟨s⟩⟩, .slice aP ps.length cP, .slice aN ns.length cN] 26 (0, 0)) := by rw [hb2.block _ s1.out]; exact n1.out
      have hw2 : Below w.heap.size w w2 := b1.out.trans (hb2.mono (Nat.le_of_lt s1.out))
      have l2 := lt_of_heap n2
      have hB := Lib.fresh_isBuilder 52 5 w2
      have b3 := (Below.refl w2.heap.size w2).alloc (Nat.le_refl _) (.cells #[.pointer none, .slice none 0 0] 52)
      replace hB := Any.hidU hB
      replace b3 := Any.hidU b3
      replace n2 := Any.hidU n2
      replace hb2 := Any.hidU hb2
      replace hw2 := Any.hidU hw2
      replace l2 := Any.hidU l2
      have hokT : ∀ t ∈ ts, 0 ≤ t.2.2.2 ∧ t.2.2.2 < 10 := fun t ht => by
        have h := hok.out
        simp only [okIn, Bool.and_eq_true, List.all_eq_true, decide_eq_true_eq] at h
        exact h.1.1.1.1.1.1 t ht
      have hlT : (tksS ts).length ≤ 1000000 := by
        have h := hok.out
        simp only [okIn, Bool.and_eq_true, List.all_eq_true, decide_eq_true_eq] at h
        have h2 := h.1.1.1.2
        simp only [txS, List.length_append] at h2
        omega
      have hszs : ts.length ≤ 1000 ∧ ps.length ≤ 1000 ∧ ns.length ≤ 1000 := by
        have h := hok.out
        simp only [okIn, Bool.and_eq_true, List.all_eq_true, decide_eq_true_eq] at h
        exact ⟨h.1.1.2, h.1.2, h.2⟩
      obtain ⟨hszT, hszP, hszN⟩ := hszs
      have hokP : ∀ p ∈ ps, p.2.length ≤ 1000 := fun t ht => by
        have h := hok.out
        simp only [okIn, Bool.and_eq_true, List.all_eq_true, decide_eq_true_eq] at h
        exact h.1.1.1.1.1.2 t ht
      have hokN : ∀ n ∈ ns, (1 ≤ n.1 ∧ n.1 ≤ 3) ∧ 1 ≤ n.2.length ∧ n.2.length ≤ 1000 := fun t ht => by
        have h := hok.out
        simp only [okIn, Bool.and_eq_true, List.all_eq_true, decide_eq_true_eq] at h
        have := h.1.1.1.1.2 t ht
        exact ⟨this.1.1, this.1.2, this.2⟩
      have hlAll : (tksS ts ++ stS s).length + (prdsS ps).length + (ntsS ns).length ≤ 1000000 := by
        have h := hok.out
        simp only [okIn, Bool.and_eq_true, List.all_eq_true, decide_eq_true_eq] at h
        have h2 := h.1.1.1.2
        simp only [txS, List.length_append] at h2 ⊢
        omega
      have hlAll2 : (txS ts s ps ns).length ≤ 1000000 := by
        have h := hok.out
        simp only [okIn, Bool.and_eq_true, List.all_eq_true, decide_eq_true_eq] at h
        exact h.1.1.1.2
      replace hlAll := Any.hidU hlAll
      replace hlAll2 := Any.hidU hlAll2
      replace hokP := Any.hidU hokP
      replace hokN := Any.hidU hokN
      replace hokT := Any.hidU hokT
      replace hlT := Any.hidU hlT
      have m0 : (w2.alloc (.cells #[.pointer none, .slice none 0 0] 52)).cell? ⟨w.heap.size, 0, none⟩ = some (.slice aT ts.length cT) := by
        rw [b3.out.cell (p := ⟨w.heap.size, 0, none⟩) l2.out, Lib.cell_of_heap n2.out]; rfl
      go_wp2
      go_loopw [19] (fun i wr => ∃ (k : Nat) (l : List UInt8), i = .int .i64 k ∧ k ≤ ts.length ∧ Hid (Lib.IsBuilder 52 5 w2.heap.size w2.heap.size (Lib.byteCells l) wr) ∧ Hid (Below w2.heap.size w2 wr) ∧ Hid (l ++ tksS (ts.drop k) = tksS ts)) (fun i _ => ts.length - (intOf i).toNat)
      case atStart => exact ⟨0, [], rfl, Nat.zero_le _, hB, b3, Any.hidU (by simp)⟩
      case round =>
        obtain ⟨k, l, rfl, hk, HB, HW, HL⟩ := hrel
        by_cases hlt : k < ts.length
        · have hi0 : (0 : Int) ≤ (k : Int) := Int.natCast_nonneg _
          have hi1 : (k : Int) < (ts.length : Int) := by omega
          obtain ⟨tb, toff, nm, rx, sk, z, rfl, htb, ht, c0, c1, c2, c3⟩ : ∃ tb toff nm rx sk z, aT = some ⟨tb, toff, none⟩ ∧ tb < w2.heap.size ∧ ts[k]? = some (nm, rx, sk, z) ∧ wr.cell? ⟨tb, toff + k * 4, none⟩ = some (.string ⟨⟨nm⟩⟩) ∧ wr.cell? ⟨tb, toff + k * 4 + 1, none⟩ = some (.string ⟨⟨rx⟩⟩) ∧ wr.cell? ⟨tb, toff + k * 4 + 2, none⟩ = some (.bool sk) ∧ wr.cell? ⟨tb, toff + k * 4 + 3, none⟩ = some (.int .i64 z) := by
            obtain ⟨a, c, e1, e2⟩ := hT.out
            injection e1 with e1 _ _
            obtain ⟨tb, toff, k1, k2, k3, k4, k5, k6⟩ := e2 k ts[k] (List.getElem?_eq_getElem hlt)
            have hlow : w.heap.size ≤ w2.heap.size := Nat.le_of_lt l2.out
            have hww : Below w.heap.size w wr := hw2.out.trans (HW.out.mono hlow)
            have hc : ∀ o v, w.cell? ⟨tb, o, none⟩ = some v → wr.cell? ⟨tb, o, none⟩ = some v := fun o v h => by rw [hww.cell (p := ⟨tb, o, none⟩) k2]; exact h
            exact ⟨tb, toff, _, _, _, _, e1.trans k1, by omega, List.getElem?_eq_getElem hlt, hc _ _ k3, hc _ _ k4, hc _ _ k5, hc _ _ k6⟩
          have hd := drop_one ht
          have hl1 : l ++ (tokS nm rx sk z.toNat ++ tksS (ts.drop (k + 1))) = tksS ts := by rw [← HL.out, hd]; rfl
          have hlen : l.length + (tokS nm rx sk z.toNat).length ≤ 1000000000 := by
            have h1 := hlT.out
            rw [← hl1] at h1
            simp only [List.length_append] at h1
            omega
          obtain ⟨hz0, hz9⟩ := hokT.out _ (List.mem_of_getElem? ht)
          have hfr := (Below.refl wr.heap.size wr).alloc (Nat.le_refl _) (.cells #[.string ⟨⟨nm⟩⟩, .string ⟨⟨rx⟩⟩, .bool sk, .int .i64 z] 36)
          have hlow := Nat.le_trans HW.out.size hfr.size
          have hq := token_any w2.heap.size w2.heap.size l nm rx sk z _ (IsBuilder_below HB.out hfr) hz0 hz9 hlen hlow
          have hwq := HW.out.trans (hfr.mono HW.out.size)
          have hL2 := (List.append_assoc l (tokS nm rx sk z.toNat) (tksS (ts.drop (k + 1)))).trans hl1
          replace hq := Any.hidU hq
          replace hwq := Any.hidU hwq
          replace hL2 := Any.hidU hL2
          clear hd hl1 hlen hfr hlow ht hz0 hz9 HL HB HW
          go_wp2_with (go_at_call 16; refine hq.out.mono ?_)
          intro e w4 hpost
          obtain ⟨rfl, h4, k4⟩ := hpost
          have k5 := hwq.out.trans k4
          replace h4 := Any.hidU h4
          replace k5 := Any.hidU k5
          go_wp2
          refine ⟨⟨k + 1, _, by go_num, by omega, h4, k5, hL2⟩, ?_⟩
          simp [intOf]; omega
        · have hke : k = ts.length := by omega
          subst hke
          have hl0 : l = tksS ts := by
            have := HL.out
            rw [List.drop_length] at this
            rw [← this]; exact (List.append_nil l).symm
          subst hl0
          clear HL
          have n4 : wr.heap[w.heap.size]? = some (.cells #[.slice aT ts.length cT, .string ⟨⟨s⟩⟩, .slice aP ps.length cP, .slice aN ns.length cN] 26 (0, 0)) := by rw [HW.out.block _ l2.out]; exact n2.out
          have m1 : wr.cell? ⟨w.heap.size, 1, none⟩ = some (.string ⟨⟨s⟩⟩) := by rw [Lib.cell_of_heap n4]; rfl
          have m2 : wr.cell? ⟨w.heap.size, 2, none⟩ = some (.slice aP ps.length cP) := by rw [Lib.cell_of_heap n4]; rfl
          replace n4 := Any.hidU n4
          have hst : stS s = ln [wStart, s] := by
            cases s with
            | nil => cases hs
            | cons x l => rfl
          have hlen : (tksS ts).length + (ln [wStart, s]).length ≤ 1000000000 := by
            have := hlAll.out
            rw [hst, List.length_append] at this
            omega
          have hq := start_put w2.heap.size w2.heap.size _ s wr HB.out hlen HW.out.size
          rw [← hst] at hq
          replace hq := Any.hidU hq
          replace hst := Any.hidU hst
          clear hlen
          go_wp2_with (go_at_call 17; refine hq.out.mono ?_)
          intro e w5 hpost
          obtain ⟨rfl, h5, k5⟩ := hpost
          replace h5 := Any.hidU h5
          have hwr := HW
          clear HB HW m1 m2 hq
          have HB := h5
          have HW := Any.hidU (hwr.out.trans k5)
          clear h5 k5 hwr
          have n5 : w5.heap[w.heap.size]? = some (.cells #[.slice aT ts.length cT, .string ⟨⟨s⟩⟩, .slice aP ps.length cP, .slice aN ns.length cN] 26 (0, 0)) := by rw [HW.out.block _ l2.out]; exact n2.out
          have m1 : w5.cell? ⟨w.heap.size, 1, none⟩ = some (.string ⟨⟨s⟩⟩) := by rw [Lib.cell_of_heap n5]; rfl
          have m2 : w5.cell? ⟨w.heap.size, 2, none⟩ = some (.slice aP ps.length cP) := by rw [Lib.cell_of_heap n5]; rfl
          replace n5 := Any.hidU n5
          have hlp : (tksS ts ++ stS s).length + (prdsS ps).length + (ntsS ns).length ≤ 1000000 := hlAll.out
          replace hlp := Any.hidU hlp
          go_wp2
          go_loopw [38] (fun i wr => ∃ (k : Nat) (l : List UInt8), i = .int .i64 k ∧ k ≤ ps.length ∧ Hid (Lib.IsBuilder 52 5 w2.heap.size w2.heap.size (Lib.byteCells l) wr) ∧ Hid (Below w2.heap.size w2 wr) ∧ Hid (l ++ prdsS (ps.drop k) = tksS ts ++ stS s ++ prdsS ps)) (fun i _ => ps.length - (intOf i).toNat)
          case atStart => exact ⟨0, tksS ts ++ stS s, rfl, Nat.zero_le _, HB, HW, Any.hidU rfl⟩
          case round =>
            clear HB HW m1 m2
            obtain ⟨k, l, rfl, hk, HB, HW, HL⟩ := hrel
            by_cases hlt : k < ps.length
            · have hi0 : (0 : Int) ≤ (k : Int) := Int.natCast_nonneg _
              have hi1 : (k : Int) < (ps.length : Int) := by omega
              obtain ⟨tb, toff, lf, ys, ar, cr, rfl, htb, ht, c0, c1, hy⟩ : ∃ tb toff lf ys ar cr, aP = some ⟨tb, toff, none⟩ ∧ tb < w2.heap.size ∧ ps[k]? = some (lf, ys) ∧ wr.cell? ⟨tb, toff + k * 2, none⟩ = some (.string ⟨⟨lf⟩⟩) ∧ wr.cell? ⟨tb, toff + k * 2 + 1, none⟩ = some (.slice ar ys.length cr) ∧ StrRow wr.heap.size wr (.slice ar ys.length cr) ys := by
                obtain ⟨a, c, e1, e2⟩ := hP.out
                injection e1 with e1 _ _
                obtain ⟨tb, toff, ar, cr, k1, k2, k3, k4, k5⟩ := e2 k ps[k] (List.getElem?_eq_getElem hlt)
                have hlow : w.heap.size ≤ w2.heap.size := Nat.le_of_lt l2.out
                have hww : Below w.heap.size w wr := hw2.out.trans (HW.out.mono hlow)
                have hc : ∀ o v, w.cell? ⟨tb, o, none⟩ = some v → wr.cell? ⟨tb, o, none⟩ = some v := fun o v h => by rw [hww.cell (p := ⟨tb, o, none⟩) k2]; exact h
                have k6 := k5.below hww (Nat.le_refl _)
                obtain ⟨a', c', r1, r2, r3⟩ := k6
                exact ⟨tb, toff, _, _, ar, cr, e1.trans k1, by omega, List.getElem?_eq_getElem hlt, hc _ _ k3, hc _ _ k4, a', c', r1, r2, fun j x hx => by obtain ⟨b, off, q1, q2, q3⟩ := r3 j x hx; exact ⟨b, off, q1, Nat.lt_of_lt_of_le q2 hww.size, q3⟩⟩
              have hd := drop_one ht
              have hl1 : l ++ (ln ([wRule, lf, [58]] ++ ys) ++ prdsS (ps.drop (k + 1))) = tksS ts ++ stS s ++ prdsS ps := by rw [← HL.out, hd]; rfl
              have hlen : l.length + (ln ([wRule, lf, [58]] ++ ys)).length ≤ 1000000000 := by
                have h1 := hlp.out
                have h2 := congrArg List.length hl1
                simp only [List.length_append] at h1 h2
                omega
              have hyn := hokP.out _ (List.mem_of_getElem? ht)
              have hcat := prd_cat wr lf ar cr ys hy hyn
              have hL2 := (List.append_assoc l (ln ([wRule, lf, [58]] ++ ys)) (prdsS (ps.drop (k + 1)))).trans hl1
              have hyn2 : ([wRule, lf, [58]] ++ ys).length ≤ 1000000 := by
                have : ys.length ≤ 1000 := hyn
                simp only [List.length_append, List.length_cons, List.length_nil]; omega
              replace hcat := Any.hidU hcat
              replace hL2 := Any.hidU hL2
              replace hlen := Any.hidU hlen
              replace hyn2 := Any.hidU hyn2
              clear hd hl1 hy ht HL hyn
              go_wp2_with (go_at_call 18; refine hcat.out.mono ?_)
              intro e w4 hpost
              obtain ⟨v, rfl, hrow, hb4⟩ := hpost
              have hq := put_any w2.heap.size w2.heap.size l v _ w4 (IsBuilder_below HB.out hb4) hrow hyn2.out hlen.out (Nat.le_trans HW.out.size hb4.size)
              have hwq := HW.out.trans (hb4.mono HW.out.size)
              replace hq := Any.hidU hq
              replace hwq := Any.hidU hwq
              clear hrow hb4 HB HW
              go_wp2_with (go_at_call 17; refine hq.out.mono ?_)
              intro e w5 hpost
              obtain ⟨rfl, h4, k4⟩ := hpost
              have k5 := hwq.out.trans k4
              replace h4 := Any.hidU h4
              replace k5 := Any.hidU k5
              clear k4
              go_wp2
              refine ⟨⟨k + 1, _, by go_num, by omega, h4, k5, hL2⟩, ?_⟩
              simp [intOf]; omega
            · have hke : k = ps.length := by omega
              subst hke
              have hl0 : l = tksS ts ++ stS s ++ prdsS ps := by
                have := HL.out
                rw [List.drop_length] at this
                rw [← this]; exact (List.append_nil l).symm
              subst hl0
              clear HL
              have n4 : wr.heap[w.heap.size]? = some (.cells #[.slice aT ts.length cT, .string ⟨⟨s⟩⟩, .slice aP ps.length cP, .slice aN ns.length cN] 26 (0, 0)) := by rw [HW.out.block _ l2.out]; exact n2.out
              have m3 : wr.cell? ⟨w.heap.size, 3, none⟩ = some (.slice aN ns.length cN) := by rw [Lib.cell_of_heap n4]; rfl
              replace n4 := Any.hidU n4
              have hdone : tksS ts ++ stS s ++ prdsS ps ++ ntsS ns = txS ts s ps ns := rfl
              replace hdone := Any.hidU hdone
              generalize tksS ts ++ stS s ++ prdsS ps = L3 at *
              go_wp2
              go_loopw [55] (fun i wr => ∃ (k : Nat) (l : List UInt8), i = .int .i64 k ∧ k ≤ ns.length ∧ Hid (Lib.IsBuilder 52 5 w2.heap.size w2.heap.size (Lib.byteCells l) wr) ∧ Hid (Below w2.heap.size w2 wr) ∧ Hid (l ++ ntsS (ns.drop k) = L3 ++ ntsS ns)) (fun i _ => ns.length - (intOf i).toNat)
              case atStart => exact ⟨0, L3, rfl, Nat.zero_le _, HB, HW, Any.hidU rfl⟩
              case round =>
                clear HB HW m3
                obtain ⟨k, l, rfl, hk, HB, HW, HL⟩ := hrel
                by_cases hlt : k < ns.length
                · have hi0 : (0 : Int) ≤ (k : Int) := Int.natCast_nonneg _
                  have hi1 : (k : Int) < (ns.length : Int) := by omega
                  obtain ⟨tb, toff, z, ys, ba, oa, cr, rfl, htb, ht, c0, c1, hcell, hyn⟩ : ∃ tb toff z ys ba oa cr, aN = some ⟨tb, toff, none⟩ ∧ tb < w2.heap.size ∧ ns[k]? = some (z, ys) ∧ wr.cell? ⟨tb, toff + k * 2, none⟩ = some (.int .u8 z) ∧ wr.cell? ⟨tb, toff + k * 2 + 1, none⟩ = some (.slice (some ⟨ba, oa, none⟩) ys.length cr) ∧ Hid (∀ w', Below wr.heap.size wr w' → ∀ j u, (ys.map fun x => Value.string ⟨⟨x⟩⟩)[j]? = some u → w'.cell? ((⟨ba, oa, none⟩ : Addr).add j) = some u) ∧ ((1 ≤ z ∧ z ≤ 3) ∧ 1 ≤ ys.length ∧ ys.length ≤ 1000) := by
                    obtain ⟨a, c, e1, e2⟩ := hN.out
                    injection e1 with e1 _ _
                    obtain ⟨tb, toff, ar, cr, k1, k2, k3, k4, k5⟩ := e2 k ns[k] (List.getElem?_eq_getElem hlt)
                    have hlow : w.heap.size ≤ w2.heap.size := Nat.le_of_lt l2.out
                    have hww : Below w.heap.size w wr := hw2.out.trans (HW.out.mono hlow)
                    have hc : ∀ o v, w.cell? ⟨tb, o, none⟩ = some v → wr.cell? ⟨tb, o, none⟩ = some v := fun o v h => by rw [hww.cell (p := ⟨tb, o, none⟩) k2]; exact h
                    have hyn := hokN.out _ (List.mem_of_getElem? (List.getElem?_eq_getElem hlt))
                    obtain ⟨ba, oa, rfl, q2, _, q3⟩ := k5.cells (by have := hyn.2.1; omega)
                    refine ⟨tb, toff, _, _, ba, oa, cr, e1.trans k1, by omega, List.getElem?_eq_getElem hlt, hc _ _ k3, hc _ _ k4, Any.hidU ?_, hyn⟩
                    intro w' hw' j u hu
                    have hw3 := hww.trans (hw'.mono hww.size)
                    rw [hw3.cell (p := (⟨ba, oa, none⟩ : Addr).add j) (by rw [addr_add]; exact q2)]
                    exact q3 j u hu
                  have hd := drop_one ht
                  have hl1 : l ++ (ln (kdS z :: ys) ++ ntsS (ns.drop (k + 1))) = L3 ++ ntsS ns := by rw [← HL.out, hd]; rfl
                  have hlen : l.length + (ln (kdS z :: ys)).length ≤ 1000000000 := by
                    have h1 := hlAll2.out
                    rw [← hdone.out] at h1
                    have h2 := congrArg List.length hl1
                    simp only [List.length_append] at h1 h2
                    omega
                  have hL2 := (List.append_assoc l (ln (kdS z :: ys)) (ntsS (ns.drop (k + 1)))).trans hl1
                  obtain ⟨⟨hz1, hz3⟩, hy1, hy2⟩ := hyn
                  have hA : (ys.map fun x => Value.string ⟨⟨x⟩⟩).length = ys.length * 1 := by simp
                  have hA1 : ∀ u ∈ ys.map (fun x => Value.string ⟨⟨x⟩⟩), u.oneCell' = true := by
                    intro u hu; obtain ⟨x, _, rfl⟩ := List.mem_map.1 hu; rfl
                  obtain ⟨i0, hi, hz0, hzz, hz2⟩ := info_parts sInfo
                  have hBB := HB.out
                  have hBl := HW.out.size
                  have hput := fun kd w6 C45 C1 g cap => nt_put w2.heap.size w2.heap.size l kd ys wr w6 C45 C1 g cap hBB hBl hy2
                  have hy63 : 1 + ys.length ≤ maxLen := by unfold maxLen; omega
                  have hy16 : (1 + ys.length) * 16 ≤ 140737488355328 := by omega
                  have e2 := World.new_ne wr ⟨tb, toff + k * 2, none⟩ c0
                  replace hput := Any.hidU hput
                  replace hL2 := Any.hidU hL2
                  replace hlen := Any.hidU hlen
                  replace hA := Any.hidU hA
                  replace hA1 := Any.hidU hA1
                  clear hd hl1 ht HL hBB
                  have hz0' : (0 : Int) ≤ z := by omega
                  have hz4 : z < 4 := by omega
                  have hkc : ∀ W : World, W.heap[wr.heap.size + 1]? = some (.cells #[.string ⟨#[]⟩, .string ⟨#[108, 105, 115, 116]⟩, .string ⟨#[100, 101, 108, 105, 109]⟩, .string ⟨#[104, 111, 108, 101]⟩] 9 (0, 0)) → W.cell? ⟨wr.heap.size + 1, z.toNat, none⟩ = some (.string ⟨⟨kdS z⟩⟩) := fun W hW => by
                    rw [Lib.cell_of_heap hW]
                    have : z = 1 ∨ z = 2 ∨ z = 3 := by omega
                    rcases this with rfl | rfl | rfl <;> rfl
                  have hkc1 := hkc (((wr.alloc (.cells #[.int .u8 z, .slice (some ⟨ba, oa, none⟩) ys.length cr] 45)).drew).alloc cK) (by have := heap_alloc_new ((wr.alloc (.cells #[.int .u8 z, .slice (some ⟨ba, oa, none⟩) ys.length cr] 45)).drew) cK; rwa [show ((wr.alloc (.cells #[.int .u8 z, .slice (some ⟨ba, oa, none⟩) ys.length cr] 45)).drew).heap.size = wr.heap.size + 1 from al_size _ _] at this)
                  have hkc2 : (((wr.alloc (.cells #[.int .u8 z, .slice (some ⟨ba, oa, none⟩) ys.length cr] 45)).alloc cK).drew).cell? ⟨wr.heap.size + 1, z.toNat, none⟩ = some (.string ⟨⟨kdS z⟩⟩) := hkc1
                  have hkc3 : ((wr.alloc (.cells #[.int .u8 z, .slice (some ⟨ba, oa, none⟩) ys.length cr] 45)).alloc cK).cell? ⟨wr.heap.size + 1, z.toNat, none⟩ = some (.string ⟨⟨kdS z⟩⟩) := hkc1
                  clear hkc
                  have hlen1 : l.length + (ln (kdS z :: ys)).length ≤ 1000000000 := hlen.out
                  replace hlen1 := Any.hidU hlen1
                  go_wp2
                  go_region_law (first | (go_simp; go_at_call 19; refine (Go.Proofs.YtogipciicekmoaaGreatDoor.Vm.Gz.kinds_walk _).mono ?_; rintro e w' ⟨rfl, rfl⟩) | ((refine step_append_lies _ (by rfl) _ _ _ (by rfl) wr.heap.size 9 i0 _ 1 16 Tryz.underlying40 hi hz0 hzz hz2 rfl (by decide) _ 1 [.string ⟨⟨kdS z⟩⟩] (by rfl) (nt_own wr _ _) ⟨ba, oa, none⟩ ys.length cr _ (by rfl) hA.out (hcell.out _ (nt_below wr _ _)) hA1.out hy1 hy63 hy16 (nt_below wr _ _).size (wr.heap.size + 1 + 1 + 1) (nt_size wr _ _) ?_; intro g cap w6 hown hgrow hat hlt)) | (go_simp; go_at_call 17; refine (hput.out (kdS z) w6 _ _ g cap hlen1.out hgrow hown).mono ?_; intro e w7 hpost; obtain ⟨rfl, h4, k4, n7⟩ := hpost; have s0 : w7.cell? ⟨wr.heap.size, 0, none⟩ = some (.int .u8 z) := (by rw [Lib.cell_of_heap n7]; rfl); have s1 : w7.cell? ⟨wr.heap.size, 1, none⟩ = some (.slice (some ⟨ba, oa, none⟩) ys.length cr) := (by rw [Lib.cell_of_heap n7]; rfl)))
                  all_goals
                    have k5 := HW.out.trans k4
                    replace h4 := Any.hidU h4
                    replace k5 := Any.hidU k5
                    clear hown hgrow hat hlt n7 s0 s1
                    go_wp2
                    refine ⟨⟨k + 1, _, by go_num, by omega, h4, k5, hL2⟩, ?_⟩
                    simp [intOf]; omega
                · have hke : k = ns.length := by omega
                  subst hke
                  have hl0 : l = txS ts s ps ns := by
                    have := HL.out
                    rw [List.drop_length] at this
                    rw [← hdone.out, ← this]; exact (List.append_nil l).symm
                  subst hl0
                  clear HL
                  have hlen := len_post w2.heap.size w2.heap.size _ _ HB.out
                  have hstr := string_post w2.heap.size w2.heap.size _ _ HB.out HW.out.size
                  have hww : Below w.heap.size w wr := hw2.out.trans (HW.out.mono (Nat.le_of_lt l2.out))
                  have hlow : w.heap.size ≤ w2.heap.size := Nat.le_of_lt l2.out
                  replace hlen := Any.hidU hlen
                  replace hstr := Any.hidU hstr
                  replace hww := Any.hidU hww
                  replace hlow := Any.hidU hlow
                  clear HB HW
                  by_cases hb : (txS ts s ps ns).length > 4000
                  · have hb' : ((txS ts s ps ns).length : Int) > 4000 := by omega
                    have hres : resV true (txS ts s ps ns) = .tuple #[.string ⟨#[]⟩, .int .i64 4] := if_pos hb
                    replace hres := Any.hidU hres
                    go_wp2_with (go_at_call 20; refine hlen.out.mono ?_)
                    intro e w8 hpost
                    obtain ⟨rfl, rfl⟩ := hpost
                    go_wp2
                    go_ret2
                    refine ⟨?_, hww.out⟩
                    rw [hres.out]
                    rfl
                  · have hb' : ¬ (((txS ts s ps ns).length : Int) > 4000) := by omega
                    have hres : resV true (txS ts s ps ns) = .tuple #[.string ⟨⟨txS ts s ps ns⟩⟩, .int .i64 0] := if_neg hb
                    replace hres := Any.hidU hres
                    go_wp2_with (go_at_call 20; refine hlen.out.mono ?_)
                    intro e w8 hpost
                    obtain ⟨rfl, rfl⟩ := hpost
                    go_wp2_with (go_at_call 21; refine hstr.out.mono ?_)
                    intro e w9 hpost
                    obtain ⟨rfl, hb9⟩ := hpost
                    go_wp2
                    go_ret2
                    refine ⟨?_, hww.out.trans (hb9.mono hlow.out)⟩
                    rw [hres.out]
                    rfl
end Go.Proofs.Wr
namespace Go.Proofs.YtogipciicekmoaaGreatDoor.Vm.Gz
open Go Go.Proofs.YtogipciicekmoaaGreatDoor.Vm Go.Proofs Go.RowKit
open Go.Proofs.Wr (TokRow PrdRow NteRow StrRow txS okIn resV text_is)
set_option linter.unusedVariables false
set_option maxRecDepth 100000
noncomputable section
def txV (t : List UInt8) : List UInt8 × Int := match decide (t.length > 4000) with
  | true => ([], 4)
  | false => (t, 0)
noncomputable def s_Text (a : D21) : Option ((List UInt8 × Int) × Unit) :=
  bindR (s_gram_Right a) fun q => iteB q.1 (mustR (okIn a.1.1 a.1.2.1 a.1.2.2.1 a.1.2.2.2) (some (txV (txS a.1.1 a.1.2.1 a.1.2.2.1 a.1.2.2.2), ()))) (some (([], 1), ()))
noncomputable def F_Text : FSpec cx.toNm := { ps := [.val t15], nres := 2, rt := .pair .str (.int .i64), rm := .ro, f := s_Text }
theorem nth_of {α : Type} {l : List α} {i : Nat} {y : α} (h : l[i]? = some y) : nth l i = some y := by
  simpa [nth] using h
theorem str_row {w : World} {Z : Nat → Prop} (hZ : ∀ b, Z b → b < w.heap.size) {cs : List Value} {l : List (List UInt8)} (h : cx.R w Z t5 cs l) : ∃ a c, cs = [.slice a l.length c] ∧ StrRow w.heap.size w (.slice a l.length c) l := by
  obtain ⟨a, c, e1, e2, e3⟩ := Cx.R_slice.1 h
  refine ⟨a, c, e1, a, c, rfl, e2, fun j x hx => ?_⟩
  obtain ⟨b, off, cs', f1, f2, f3, f4⟩ := e3 j x (nth_of hx)
  have f4 := Cx.R_str.1 f4
  subst f4
  have hs : cx.size .str = 1 := rfl
  rw [hs, Nat.mul_one] at f3
  have := cell_of f3 0 _ rfl
  rw [add_off] at this
  exact ⟨b, off, f1, hZ b f2, this⟩
theorem tok_row {w : World} {Z : Nat → Prop} (hZ : ∀ b, Z b → b < w.heap.size) {cs : List Value} {l : D3} (h : cx.R w Z t4 cs l) : ∃ a c, cs = [.slice a l.length c] ∧ TokRow w.heap.size w (.slice a l.length c) l := by
  obtain ⟨a, c, e1, e2, e3⟩ := Cx.R_slice.1 h
  refine ⟨a, c, e1, a, c, rfl, fun j x hx => ?_⟩
  obtain ⟨b, off, cs', f1, f2, f3, f4⟩ := e3 j x (nth_of hx)
  obtain ⟨x0, x1, x2, x3⟩ := x
  obtain ⟨c1, c2, g1, g2, g3, g4⟩ := Cx.R_pair.1 (Cx.R_agg.1 f4)
  obtain ⟨d1, d2, k1, k2, k3, k4⟩ := Cx.R_pair.1 g4
  obtain ⟨m1, m2, n1, n2, n3, n4⟩ := Cx.R_pair.1 k4
  have g3 := Cx.R_str.1 g3
  have k3 := Cx.R_str.1 k3
  have n3 := Cx.R_bool.1 n3
  have n4 := Cx.R_int.1 n4
  subst g3; subst k3; subst n3; subst n4; subst n1; subst k1; subst g1
  have hs : cx.size t3 = 4 := rfl
  rw [hs] at f3
  have q0 := cell_of f3 0 _ rfl
  have q1 := cell_of f3 1 _ rfl
  have q2 := cell_of f3 2 _ rfl
  have q3 := cell_of f3 3 _ rfl
  rw [add_off] at q0 q1 q2 q3
  exact ⟨b, off, f1, hZ b f2, q0, q1, q2, q3⟩
theorem prd_row {w : World} {Z : Nat → Prop} (hZ : ∀ b, Z b → b < w.heap.size) {cs : List Value} {l : D6} (h : cx.R w Z t8 cs l) : ∃ a c, cs = [.slice a l.length c] ∧ PrdRow w.heap.size w (.slice a l.length c) l := by
  obtain ⟨a, c, e1, e2, e3⟩ := Cx.R_slice.1 h
  refine ⟨a, c, e1, a, c, rfl, fun j x hx => ?_⟩
  obtain ⟨b, off, cs', f1, f2, f3, f4⟩ := e3 j x (nth_of hx)
  obtain ⟨x0, x1⟩ := x
  obtain ⟨c1, c2, g1, g2, g3, g4⟩ := Cx.R_pair.1 (Cx.R_agg.1 f4)
  have g3 := Cx.R_str.1 g3
  obtain ⟨ar, cr, k1, k2⟩ := str_row hZ g4
  subst g3; subst k1; subst g1
  have hs : cx.size t7 = 2 := rfl
  rw [hs] at f3
  have q0 := cell_of f3 0 _ rfl
  have q1 := cell_of f3 1 _ rfl
  rw [add_off] at q0 q1
  exact ⟨b, off, ar, cr, f1, hZ b f2, q0, q1, k2⟩
theorem nte_row {w : World} {Z : Nat → Prop} (hZ : ∀ b, Z b → b < w.heap.size) {cs : List Value} {l : D8} (h : cx.R w Z t11 cs l) : ∃ a c, cs = [.slice a l.length c] ∧ NteRow w.heap.size w (.slice a l.length c) l := by
  obtain ⟨a, c, e1, e2, e3⟩ := Cx.R_slice.1 h
  refine ⟨a, c, e1, a, c, rfl, fun j x hx => ?_⟩
  obtain ⟨b, off, cs', f1, f2, f3, f4⟩ := e3 j x (nth_of hx)
  obtain ⟨x0, x1⟩ := x
  obtain ⟨c1, c2, g1, g2, g3, g4⟩ := Cx.R_pair.1 (Cx.R_agg.1 f4)
  have g3 := Cx.R_int.1 g3
  obtain ⟨ar, cr, k1, k2⟩ := str_row hZ g4
  subst g3; subst k1; subst g1
  have hs : cx.size t10 = 2 := rfl
  rw [hs] at f3
  have q0 := cell_of f3 0 _ rfl
  have q1 := cell_of f3 1 _ rfl
  rw [add_off] at q0 q1
  exact ⟨b, off, ar, cr, f1, hZ b f2, q0, q1, k2⟩
theorem enters8 (vs : Array Value) (w : World) : (callFunc 8 vs).run Tryz.prog w = .ok (.enter 8 vs) w := enters_at (c := bodyC Tryz.f8) Tryz.func8 (by kernel_rfl) (by kernel_rfl) vs w
theorem ok_Text : FnOk Tryz.prog F_Text 7 := by
  refine .of rfl ?_
  intro w Z own vs x r hZ hown hA hG hx
  match vs, hA with
  | [v], hA =>
    obtain ⟨⟨cs, h1, h2⟩, _⟩ := hA
    obtain ⟨⟨ts, s, ps, ns⟩, x1, rfl⟩ : ∃ (g : D11) (u : Unit), (g, u) = x := ⟨x.1, x.2, rfl⟩
    have h1 : v = .agg cs.toArray := h1
    have hZl : ∀ b, Z b → b < w.heap.size := fun b hb => (hZ b hb).1
    obtain ⟨c1, c2, g1, g2, g3, g4⟩ := Cx.R_pair.1 (Cx.R_agg.1 h2)
    obtain ⟨d1, d2, k1, k2, k3, k4⟩ := Cx.R_pair.1 g4
    obtain ⟨m1, m2, n1, n2, n3, n4⟩ := Cx.R_pair.1 k4
    obtain ⟨aT, cT, q1, hT⟩ := tok_row hZl g3
    have k3 := Cx.R_str.1 k3
    obtain ⟨aP, cP, q2, hP⟩ := prd_row hZl n3
    obtain ⟨aN, cN, q3, hN⟩ := nte_row hZl n4
    subst q1; subst k3; subst q2; subst q3; subst n1; subst k1; subst g1; subst h1
    have hx : bindR (s_gram_Right ((ts, s, ps, ns), x1)) (fun q => iteB q.1 (mustR (okIn ts s ps ns) (some (txV (txS ts s ps ns), ()))) (some (([], 1), ()))) = some r := hx
    cases hr : s_gram_Right ((ts, s, ps, ns), x1) with
    | none => rw [hr] at hx; cases hx
    | some q =>
      rw [hr] at hx
      obtain ⟨rb, u⟩ := q
      have hx : iteB rb (mustR (okIn ts s ps ns) (some (txV (txS ts s ps ns), ()))) (some (([], 1), ())) = some r := hx
      have hR : ∀ w1, Below w.heap.size w w1 → Calls Tryz.prog 8 #[.agg #[.slice aT ts.length cT, .string ⟨⟨s⟩⟩, .slice aP ps.length cP, .slice aN ns.length cN]] w1 fun e w' => e = .returned (.bool rb) ∧ Below w1.heap.size w1 w' := by
        intro w1 hw1
        have hfn := ok_gram_Right.zero rfl rfl rfl w1 Z (fun _ => none) [.agg #[.slice aT ts.length cT, .string ⟨⟨s⟩⟩, .slice aP ps.length cP, .slice aN ns.length cN]] ((ts, s, ps, ns), x1) (rb, u) (fun b hb => ⟨Nat.lt_of_lt_of_le (hZl b hb) hw1.size, rfl⟩) (fun b h => absurd rfl h)
          ⟨⟨_, rfl, h2.frame (fun _ h => h) (fun b hb => hw1.block b (hZl b hb))⟩, trivial⟩ (hG.frame (fun _ h => h) (fun b hb => hw1.block b (hZl b hb))) hr
        unfold Enters at hfn
        rw [enters8] at hfn
        refine hfn.mono ?_
        rintro e w' ⟨v, rfl, own', hl, hres, _⟩
        have hres : Res1 cx w' (zoneOf Z (fun _ => none) own' w1 w') own' .bool .ro v rb := hres
        obtain ⟨cs', e1, e2⟩ := Res1.ro hres
        have e1 : cs' = [v] := e1
        rw [e1] at e2
        have e2 := Cx.R_bool.1 (OW_ro.1 e2)
        have e3 := (List.cons.inj e2).1
        exact ⟨by rw [e3], hl.os, hl.tape, hl.output, hl.size, fun b hb => hl.block b hb rfl⟩
      have hok : rb = true → okIn ts s ps ns = true := fun h => by
        rw [h] at hx
        have hx : mustR (okIn ts s ps ns) (some (txV (txS ts s ps ns), ())) = some r := hx
        cases ho : okIn ts s ps ns with
        | true => rfl
        | false => rw [ho] at hx; cases hx
      unfold Enters
      rw [enters_at (c := bodyC Tryz.f7) Tryz.func7 (by kernel_rfl) (by kernel_rfl)]
      refine (text_is aT aP aN cT cP cN ts s ps ns w hT hP hN rb hok hR).mono ?_
      rintro e w' ⟨rfl, hb⟩
      refine ⟨_, rfl, own, left_same hown hb, ?_, trivial⟩
      cases rb with
      | false =>
        have hx : some ((([] : List UInt8), (1 : Int)), ()) = some r := hx
        cases hx
        exact ⟨_, rfl, (⟨⟨_, rfl, Cx.R_str.2 rfl⟩, _, rfl, Cx.R_int.2 rfl⟩ : TupR (S := cx) w' (zoneOf Z own own w w') (.pair .str (.int .i64)) (([] : List UInt8), (1 : Int)) [.string ⟨#[]⟩, .int .i64 1])⟩
      | true =>
        rw [hok rfl] at hx
        have hx : some (txV (txS ts s ps ns), ()) = some r := hx
        cases hx
        by_cases hl : (txS ts s ps ns).length > 4000
        · have e1 : resV true (txS ts s ps ns) = .tuple #[.string ⟨#[]⟩, .int .i64 4] := if_pos hl
          have e2 : txV (txS ts s ps ns) = ([], 4) := by unfold txV; rw [decide_eq_true hl]
          rw [e1]
          show ∃ vs, _ = Value.tuple vs ∧ TupR (S := cx) w' (zoneOf Z own own w w') (.pair .str (.int .i64)) (txV (txS ts s ps ns)) vs.toList
          rw [e2]
          exact ⟨_, rfl, (⟨⟨_, rfl, Cx.R_str.2 rfl⟩, _, rfl, Cx.R_int.2 rfl⟩ : TupR (S := cx) w' (zoneOf Z own own w w') (.pair .str (.int .i64)) (([] : List UInt8), (4 : Int)) [.string ⟨#[]⟩, .int .i64 4])⟩
        · have e1 : resV true (txS ts s ps ns) = .tuple #[.string ⟨⟨txS ts s ps ns⟩⟩, .int .i64 0] := if_neg hl
          have e2 : txV (txS ts s ps ns) = (txS ts s ps ns, 0) := by unfold txV; rw [decide_eq_false hl]
          rw [e1]
          show ∃ vs, _ = Value.tuple vs ∧ TupR (S := cx) w' (zoneOf Z own own w w') (.pair .str (.int .i64)) (txV (txS ts s ps ns)) vs.toList
          rw [e2]
          exact ⟨_, rfl, (⟨⟨_, rfl, Cx.R_str.2 rfl⟩, _, rfl, Cx.R_int.2 rfl⟩ : TupR (S := cx) w' (zoneOf Z own own w w') (.pair .str (.int .i64)) (txS ts s ps ns, (0 : Int)) [.string ⟨⟨txS ts s ps ns⟩⟩, .int .i64 0])⟩
  | [], hA => exact hA.elim
  | _ :: _ :: _, hA => exact hA.2.elim
end
end Go.Proofs.YtogipciicekmoaaGreatDoor.Vm.Gz
