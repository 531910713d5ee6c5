/- The parts of a rope as data; what counts bytes and what writes a text. -/
import Derived.Test.YtdifekkamjoepaaVm2
import Derived.Test.YtdifekkamjoepaaChecked
import Derived.KernelRfl
import Derived.Lib.CountLaws
import Derived.Shelf.Strings.Builder1
import Derived.Shelf.Strings.Count
import Derived.Test.YtdifekkamjoepaaProg
namespace Go.Proofs.Ytdifekkamjoepaa.Vm.Rp
open Go Go.Proofs.Ytdifekkamjoepaa.Vm Go.Proofs
set_option linter.unusedVariables false
set_option maxRecDepth 100000
noncomputable section
inductive N0 where
  | mk (a0 : Int) (a1 : Int) (a2 : Int) (a3 : Int) (a4 : List UInt8) (a5 : Option N0) (a6 : Option N0) : N0
def pk0 (b : ((Int) × ((Int) × ((Int) × (Int)))) × ((List UInt8) × ((Option N0) × (Option N0)))) : N0 := .mk b.1.1 b.1.2.1 b.1.2.2.1 b.1.2.2.2 b.2.1 b.2.2.1 b.2.2.2
def out0 : N0 → ((Int) × ((Int) × ((Int) × (Int)))) × ((List UInt8) × ((Option N0) × (Option N0)))
  | .mk a0 a1 a2 a3 a4 a5 a6 => ((a0, (a1, (a2, a3))), (a4, (a5, a6)))
inductive N1 where
  | mk (a0 : Int) (a1 : Int) (a2 : List ((Int) × ((Int) × (List UInt8)))) : N1
def pk1 (b : ((Int) × (Int)) × (List ((Int) × ((Int) × (List UInt8))))) : N1 := .mk b.1.1 b.1.2 b.2
def out1 : N1 → ((Int) × (Int)) × (List ((Int) × ((Int) × (List UInt8))))
  | .mk a0 a1 a2 => ((a0, a1), a2)
inductive N2 where
  | mk (a0 : List UInt8) : N2
def pk2 (b : List UInt8) : N2 := .mk b
def out2 : N2 → List UInt8
  | .mk a0 => a0
noncomputable def cx : Cx := { N := fun n => match n with | 0 => N0 | 1 => N1 | 2 => N2 | _ + 3 => Unit, body := fun n => match n with | 0 => (.agg (.pair (.agg (.pair (.int .i64) (.pair (.int .i64) (.pair (.int .i64) (.int .i64))))) (.pair .str (.pair (.ptr 0) (.ptr 0))))) | 1 => (.agg (.pair (.agg (.pair (.int .i64) (.int .i64))) (.slice 41 (.agg (.pair (.int .i64) (.pair (.int .i64) .str)))))) | 2 => (.agg .str) | _ + 3 => .unit, nsz := fun n => match n with | 0 => 7 | 1 => 3 | 2 => 1 | _ + 3 => 0, out := fun n => match n with | 0 => out0 | 1 => out1 | 2 => out2 | _ + 3 => fun _ => (), pk := fun n => match n with | 0 => pk0 | 1 => pk1 | 2 => pk2 | _ + 3 => fun _ => (), dflt := fun n => match n with | 0 => pk0 (((0 : Int), ((0 : Int), ((0 : Int), (0 : Int)))), (([] : List UInt8), (none, none))) | 1 => pk1 (((0 : Int), (0 : Int)), ([] : List ((Int) × ((Int) × (List UInt8))))) | 2 => pk2 ([] : List UInt8) | _ + 3 => () }
theorem cxOk : cx.Ok := ⟨fun n => match n with | 0 => rfl | 1 => rfl | 2 => rfl | _ + 3 => rfl, fun n x => match n, x with | 0, _ => rfl | 1, _ => rfl | 2, _ => rfl | _ + 3, _ => rfl⟩
noncomputable def tys : List (Nat × Ty) := [(3, (.int .i64)), (4, .bool), (5, (.int .u8)), (9, .str), (22, (.slice 41 (.agg (.pair (.int .i64) (.pair (.int .i64) .str))))), (26, (.slice 9 .str)), (27, (.slice 3 (.int .i64))), (41, (.agg (.pair (.int .i64) (.pair (.int .i64) .str)))), (44, (.int .i64)), (55, (.int .u16)), (56, (.ptr 0)), (58, (.agg (.ptr 0))), (59, (.slice 5 (.int .u8))), (66, (.slice 70 (.agg (.pair (.int .u8) (.pair (.int .i64) (.pair (.int .i64) .str)))))), (68, (.slice 58 (.agg (.ptr 0)))), (70, (.agg (.pair (.int .u8) (.pair (.int .i64) (.pair (.int .i64) .str))))), (76, (.int .u64)), (84, (.agg (.pair (.int .i64) (.int .i64)))), (132, (.agg (.pair (.int .i64) (.pair (.int .i64) (.pair (.int .i64) (.int .i64)))))), (149, (.agg (.pair (.int .i64) (.int .i64)))), (151, (.agg (.pair (.agg (.pair (.int .i64) (.int .i64))) (.int .i64)))), (157, (.ptr 1)), (159, (.agg (.pair (.int .i64) (.int .i64)))), (161, (.agg (.pair (.agg (.pair (.int .i64) (.int .i64))) (.slice 41 (.agg (.pair (.int .i64) (.pair (.int .i64) .str))))))), (174, (.agg (.pair (.agg (.pair (.int .i64) (.pair (.int .i64) (.pair (.int .i64) (.int .i64))))) (.pair .str (.pair (.ptr 0) (.ptr 0)))))), (181, (.ptr 2)), (183, (.agg .str)), (191, (.agg (.pair (.int .i64) (.pair (.int .i64) (.int .i64)))))]
theorem tysT (l : List (Nat × FSpec cx.toNm)) : TysOk (S := cx) Try.prog { tys := tys, fs := fsOf l } := tysOk (by kernel_rfl)
theorem follows : Try.prog.follows .mixedOrders = true := by kernel_rfl
mutual
def txt : N0 → List UInt8
  | .mk _ _ _ _ t l r => t ++ (txtO l ++ txtO r)
def txtO : Option N0 → List UInt8
  | none => []
  | some x => txt x
end
def vCount (a : (List UInt8) × ((List UInt8) × (Unit))) : Option ((Int) × (Unit)) := match a.2.1 with
  | [c] => some (((Lib.countByte a.1 c : Nat) : Int), ())
  | _ => none
theorem is_Count : ∃ f : (List UInt8) × ((List UInt8) × (Unit)) → Option ((Int) × (Unit)), f = vCount := ⟨_, rfl⟩
def s_Count : (List UInt8) × ((List UInt8) × (Unit)) → Option ((Int) × (Unit)) := Classical.choose is_Count
theorem Count_is : s_Count = vCount := Classical.choose_spec is_Count
noncomputable def F_Count : FSpec cx.toNm := { ps := [.val .str, .val .str], nres := 1, rt := (.int .i64), rm := .ro, f := s_Count }
def vText (a : (Option N0) × (Unit)) : Option ((List UInt8) × (Unit)) := mustR (decide ((txtO a.1).length ≤ 100000000)) (some (txtO a.1, ()))
theorem is_Text : ∃ f : (Option N0) × (Unit) → Option ((List UInt8) × (Unit)), f = vText := ⟨_, rfl⟩
def s_Text : (Option N0) × (Unit) → Option ((List UInt8) × (Unit)) := Classical.choose is_Text
theorem Text_is : s_Text = vText := Classical.choose_spec is_Text
noncomputable def F_Text : FSpec cx.toNm := { ps := [.val (.agg (.ptr 0))], nres := 1, rt := .str, rm := .ro, f := s_Text }
end
end Go.Proofs.Ytdifekkamjoepaa.Vm.Rp
namespace Go.Proofs
open Go.Shelf
def Try.lays169_ren : Go.Shelf.Ren := ⟨fun | 169 => 89 | n => n, fun | 70 => 134 | 9 => 9 | 0 => 0 | 72 => 136 | 37 => 59 | 127 => 180 | 3 => 3 | 5 => 5 | n => n, fun | n => n⟩
theorem Try.lays169 : Go.Proofs.Lays.n169 Try.prog Try.lays169_ren := {
  mixed := by kernel_rfl
  f169 := Try.func89.trans (congrArg some (by kernel_rfl))
  t0 := Try.underlying0
  a0 := Try.isAgg0
  z0 := Try.sizeOf0
  v0 := Try.zeroValue0
  t3 := Try.underlying3
  a3 := Try.isAgg3
  z3 := Try.sizeOf3
  v3 := Try.zeroValue3
  t9 := Try.underlying9
  a9 := Try.isAgg9
  z9 := Try.sizeOf9
  v9 := Try.zeroValue9
  t37 := Try.underlying59
  a37 := Try.isAgg59
  z37 := Try.sizeOf59
  v37 := Try.zeroValue59
  t70 := Try.underlying134
  a70 := Try.isAgg134
  z70 := Try.sizeOf134
  v70 := Try.zeroValue134
  t72 := Try.underlying136
  a72 := Try.isAgg136
  z72 := Try.sizeOf136
  v72 := Try.zeroValue136
  t127 := Try.underlying180
  a127 := Try.isAgg180
  z127 := Try.sizeOf180
  v127 := Try.zeroValue180 }
theorem Try.Builder_Extra_169 : Builder.Extra Try.prog Try.lays169_ren := {
  sizeBuilder := by kernel_rfl
  liesBuilder := by kernel_rfl
  t5 := Try.underlying5
  a5 := Try.isAgg5
  z5 := Try.sizeOf5
  v5 := Try.zeroValue5
  infoByte := by kernel_rfl
  cellsByte := by kernel_rfl
  sizeByte := by kernel_rfl
  neB5 := by decide }
open Go.RowKit in
/-- (*strings.Builder).String: "String returns the accumulated string.": WHATEVER THE BUILDER HOLDS. (LAID: no walk: one application.) -/
theorem Try.Builder_String_any (B b : Nat) (l : List UInt8) (w : World) (h : Lib.IsBuilder 136 5 B b (Lib.byteCells l) w) (hBw : B ≤ w.heap.size) :
    Calls Try.prog 89 #[.pointer (some ⟨b, 0, none⟩)] w fun e w' => e = .returned (.string ⟨l.toArray⟩) ∧ Below B w w' := Any.Builder_String_any Try.lays169 Try.Builder_Extra_169 B b l w h hBw
def Try.lays138_ren : Go.Shelf.Ren := ⟨fun | 138 => 134 | 195 => 140 | 218 => 141 | 143 => 142 | 219 => 145 | 217 => 146 | 225 => 147 | 224 => 148 | 267 => 149 | 266 => 150 | 314 => 151 | n => n, fun | 9 => 9 | 3 => 3 | 4 => 4 | 5 => 5 | 0 => 0 | 46 => 76 | 146 => 194 | 51 => 193 | n => n, fun | 1 => 0 | n => n⟩
theorem Try.lays138 : Go.Proofs.Lays.n138 Try.prog Try.lays138_ren := {
  mixed := by kernel_rfl
  f138 := Try.func134.trans (congrArg some (by kernel_rfl))
  f143 := Try.func142.trans (congrArg some (by kernel_rfl))
  f195 := Try.func140.trans (congrArg some (by kernel_rfl))
  f217 := Try.func146.trans (congrArg some (by kernel_rfl))
  f218 := Try.func141.trans (congrArg some (by kernel_rfl))
  f219 := Try.func145.trans (congrArg some (by kernel_rfl))
  f224 := Try.func148.trans (congrArg some (by kernel_rfl))
  f225 := Try.func147.trans (congrArg some (by kernel_rfl))
  f266 := Try.func150.trans (congrArg some (by kernel_rfl))
  f267 := Try.func149.trans (congrArg some (by kernel_rfl))
  f314 := Try.func151.trans (congrArg some (by kernel_rfl))
  t0 := Try.underlying0
  a0 := Try.isAgg0
  z0 := Try.sizeOf0
  v0 := Try.zeroValue0
  t3 := Try.underlying3
  a3 := Try.isAgg3
  z3 := Try.sizeOf3
  v3 := Try.zeroValue3
  t4 := Try.underlying4
  a4 := Try.isAgg4
  z4 := Try.sizeOf4
  v4 := Try.zeroValue4
  t5 := Try.underlying5
  a5 := Try.isAgg5
  z5 := Try.sizeOf5
  v5 := Try.zeroValue5
  t9 := Try.underlying9
  a9 := Try.isAgg9
  z9 := Try.sizeOf9
  v9 := Try.zeroValue9
  t46 := Try.underlying76
  a46 := Try.isAgg76
  z46 := Try.sizeOf76
  v46 := Try.zeroValue76
  t51 := Try.underlying193
  a51 := Try.isAgg193
  z51 := Try.sizeOf193
  v51 := Try.zeroValue193
  t146 := Try.underlying194
  a146 := Try.isAgg194
  z146 := Try.sizeOf194
  v146 := Try.zeroValue194
  g1 := by kernel_rfl }
open Go.RowKit Go.Lib in
/-- strings.Count AT A substr OF ONE BYTE ('hp'): "Count counts the number of non-overlapping instances of substr in s.": IT RETURNS 'Lib.countByte s (that byte)'; the world is as it was. ✋ NO CONTRACT HERE YET at an empty substr (utf8.RuneCountInString) or at a longer one (a loop over strings.Index). (LAID: no walk: one application.) -/
theorem Try.strings_Count_one (s : ByteArray) (c : UInt8) (w : World) :
    Calls Try.prog 134 #[.string s, .string ⟨#[c]⟩] w fun e w' => e = .returned (.int .i64 (Lib.countByte s.data.toList c)) ∧ w' = w := Any.strings_Count_one Try.lays138 s c w
end Go.Proofs
namespace Go.Proofs
open Go.RowKit
set_option linter.unusedVariables false

theorem bX : (Try.prog.info? 136).map (·.size) = some 2 := by kernel_rfl
theorem bLies : liesAt Try.prog Try.prog.depth 136 (2 / Try.prog.cellsOf 136) 0 136 1 = true := by kernel_rfl
theorem bByte : (Try.prog.info? 5).map (fun i => (i.zero, i.size, i.bytes)) = some (some (.int .u8 0), 1, 1) := by kernel_rfl

set_option maxHeartbeats 1000000 in
set_option maxRecDepth 100000 in
theorem copyCheck_used (b : Nat) (w : World) (h0 : w.cell? ⟨b, 0, none⟩ = some (.pointer (some ⟨b, 0, none⟩))) :
    Calls Try.prog 133 #[.pointer (some ⟨b, 0, none⟩)] w fun e w' => e = .returned (.tuple #[]) ∧ w' = w := by
  obtain ⟨j, hj, _⟩ := Option.map_eq_some_iff.1 bX
  go_enter Try.func133, Try.ntmps133
  go_wp2
  rw [Lib.run_neq_ptr_same w _ Try.underlying134 hj]
  go_wp2
  go_end0
  exact ⟨rfl, rfl⟩

set_option maxHeartbeats 1000000 in
set_option maxRecDepth 100000 in
theorem copyCheck_fresh (b : Nat) (w : World) (h0 : w.cell? ⟨b, 0, none⟩ = some (.pointer none)) (hsh : w.shape? b = some (136, 2)) (hfz : w.frozen? ⟨b, 0, none⟩ = false) :
    Calls Try.prog 133 #[.pointer (some ⟨b, 0, none⟩)] w fun e w' => e = .returned (.tuple #[]) ∧ w' = w.setCell ⟨b, 0, none⟩ (.pointer (some ⟨b, 0, none⟩)) := by
  obtain ⟨j, hj, hjs⟩ := Option.map_eq_some_iff.1 bX
  go_enter Try.func133, Try.ntmps133
  go_wp2
  rw [Lib.run_to_unsafe w ⟨b, 0, none⟩ Try.underlying134 Try.underlying187 hj (by rw [hjs]; decide) hsh (Nat.zero_lt_succ 1)]
  simp only [Result.andThen]
  rw [Oper.upon_value]
  go_wp2
  rw [run_callFunc_extern Try.func139 (by kernel_rfl) (by kernel_rfl) (by kernel_rfl) (e := Extern.AbiNoEscape.same) (by kernel_rfl)]
  rw [Lib.run_noEscape]
  simp only [Result.andThen]
  rw [Oper.upon_value]
  go_wp2
  rw [Lib.run_from_unsafe w ⟨b, 0, none⟩ Try.underlying187 Try.underlying134 hj hsh bLies]
  simp only [Result.andThen]
  rw [Oper.upon_value]
  go_wp2
  go_end0
  exact ⟨rfl, rfl⟩

theorem copyCheck_is (B b : Nat) (bs : List Value) (w : World) (h : Lib.IsBuilder 136 5 B b bs w) :
    Calls Try.prog 133 #[.pointer (some ⟨b, 0, none⟩)] w fun e w' => e = .returned (.tuple #[]) ∧ (Lib.BuilderAt 136 5 B b (.pointer (some ⟨b, 0, none⟩)) bs w' ∧ Below B w w') := by
  rcases h with h | h
  · refine (copyCheck_fresh b w h.cell0 h.shape h.frozen0).mono ?_
    rintro e w' ⟨rfl, rfl⟩
    exact ⟨rfl, h.used _, (Below.refl B w).setCell (p := ⟨b, 0, none⟩) h.1 _⟩
  · refine (copyCheck_used b w h.cell0).mono ?_
    rintro e w' ⟨rfl, rfl⟩
    exact ⟨rfl, h, Below.refl B _⟩

set_option maxHeartbeats 2000000 in
set_option maxRecDepth 100000 in
theorem writeString_is (B b : Nat) (bs : List Value) (s : ByteArray) (w : World) (h : Lib.IsBuilder 136 5 B b bs w) (hlen : bs.length + s.size ≤ 140737488355328) (hBw : B ≤ w.heap.size) :
    Calls Try.prog 123 #[.pointer (some ⟨b, 0, none⟩), .string s] w fun e w' => e = .returned (.tuple #[.int .i64 s.size, .nilIface]) ∧ (Lib.BuilderAt 136 5 B b (.pointer (some ⟨b, 0, none⟩)) (bs ++ Lib.strCells s) w' ∧ Below B w w') := by
  obtain ⟨i0, hi, hz0, hz1, hz2⟩ := info_parts bByte
  go_enter Try.func123, Try.ntmps123
  go_wp2_with (go_at_call 133; refine (copyCheck_is B b bs _ h).mono ?_)
  rintro e w1 ⟨rfl, h1, hb1⟩
  obtain ⟨hB, v, hbk, hown, hne⟩ := h1
  have c0 : w1.cell? ⟨b, 0, none⟩ = some (.pointer (some ⟨b, 0, none⟩)) := by rw [Lib.cell_of_heap hbk]; rfl
  have c1 : w1.cell? ⟨b, 1, none⟩ = some v := by rw [Lib.cell_of_heap hbk]; rfl
  go_wp2_with (at_builtin; refine Lib.wpList_append_own_string _ rfl _ _ 59 9 rfl B 5 i0 Try.underlying59 Try.underlying9 hi hz0 hz1 hz2 _ _ _ rfl hown s rfl ?c3 ?c4 ?c5 ?_)
  case c3 => unfold maxLen; omega
  case c4 => omega
  case c5 => have := hb1.size; omega
  intro v' w2 hown' hgrow _
  have hlt : b < w1.heap.size := by
    rcases Nat.lt_or_ge b w1.heap.size with h' | h'
    · exact h'
    · simp [Array.getElem?_eq_none h'] at hbk
  have hb2 : w2.heap[b]? = some (.cells #[.pointer (some ⟨b, 0, none⟩), v] 136 (0, 0)) := by
    rw [hgrow.block b hlt (fun e => hne e.symm)]
    exact hbk
  have d0 : w2.cell? ⟨b, 0, none⟩ = some (.pointer (some ⟨b, 0, none⟩)) := by rw [Lib.cell_of_heap hb2]; rfl
  have d1 : w2.cell? ⟨b, 1, none⟩ = some v := by rw [Lib.cell_of_heap hb2]; rfl
  have f1 : w2.frozen? ⟨b, 1, none⟩ = false := Lib.frozen_of_heap hb2 1
  obtain ⟨ao, n', cap, rfl⟩ : ∃ ao n' cap, v' = .slice ao n' cap := by
    rcases hown'.2 with ⟨hv, _⟩ | ⟨g, cap, cur, hv, _⟩
    · exact ⟨_, _, _, hv⟩
    · exact ⟨_, _, _, hv⟩
  go_wp2
  go_ret2
  refine ⟨rfl, ?_, ?_⟩
  · exact Lib.BuilderAt.put (T := 136) (e := 5) hB hb2 (bs' := bs ++ Lib.strCells s) (by simpa [Lib.strCells_length] using hown') (by decide)
  · exact (hb1.grown hgrow (by have := hb1.size; omega) (fun k hk => (hown.lt k hk).1)).setCell (p := ⟨b, 1, none⟩) hB _
end Go.Proofs
namespace Go.Proofs.Ytdifekkamjoepaa.Vm.Rp
open Go Go.Proofs.Ytdifekkamjoepaa.Vm Go.Proofs Go.RowKit
set_option linter.unusedVariables false
mutual
def dep : N0 → Nat
  | .mk _ _ _ _ _ l r => 1 + max (depO l) (depO r)
def depO : Option N0 → Nat
  | none => 0
  | some x => dep x
end

theorem part_cells {w : World} {Z : Nat → Prop} {v : Value} {a0 a1 a2 a3 : Int} {t : List UInt8} {l r : Option N0} (h : cx.R w Z (.ptr 0) [v] (some (N0.mk a0 a1 a2 a3 t l r))) :
    ∃ b vl vr, v = .pointer (some ⟨b, 0, none⟩) ∧ Z b ∧ w.cell? ⟨b, 4, none⟩ = some (.string ⟨⟨t⟩⟩) ∧ w.cell? ⟨b, 5, none⟩ = some vl ∧ w.cell? ⟨b, 6, none⟩ = some vr ∧
      cx.R w Z (.ptr 0) [vl] l ∧ cx.R w Z (.ptr 0) [vr] r := by
  rcases Cx.R_ptr.1 h with ⟨_, h⟩ | ⟨b, z, cs, h1, h2, h3, h4, h5⟩
  · cases h
  · cases h2
    have h5 : cx.R w Z (.pair (.agg (.pair (.int .i64) (.pair (.int .i64) (.pair (.int .i64) (.int .i64))))) (.pair .str (.pair (.ptr 0) (.ptr 0)))) cs ((a0, a1, a2, a3), t, l, r) := Cx.R_agg.1 h5
    obtain ⟨c1, c2, e1, e2, e3, e4⟩ := Cx.R_pair.1 h5
    obtain ⟨d1, d2, f1, f2, f3, f4⟩ := Cx.R_pair.1 e4
    obtain ⟨k1, k2, m1, m2, m3, m4⟩ := Cx.R_pair.1 f4
    have f3 := Cx.R_str.1 f3
    have e2 : c1.length = 4 := e2
    have one : ∀ {cs : List Value} {p : Option N0}, cx.R w Z (.ptr 0) cs p → ∃ u, cs = [u] := fun h => by
      rcases Cx.R_ptr.1 h with ⟨h, _⟩ | ⟨_, _, _, h, _⟩ <;> exact ⟨_, h⟩
    obtain ⟨vl, rfl⟩ := one m3
    obtain ⟨vr, rfl⟩ := one m4
    subst f3; subst m1; subst f1
    refine ⟨b, vl, vr, (List.cons.inj h1).1, h3, ?_, ?_, ?_, m3, m4⟩ <;>
    · unfold cellsAt at h4
      split at h4
      · rename_i c e fr hb
        split at h4
        · rename_i hs
          have h4 := Option.some.inj h4
          have hnz : cx.nsz 0 = 7 := rfl
          rw [hnz] at h4 hs
          simp only [World.cell?, hb]
          rw [e1] at h4
          match c1, e2 with
          | [x0, x1, x2, x3], _ =>
            have h6 : c.toList = (c.toList.take 7) ++ c.toList.drop 7 := (List.take_append_drop 7 _).symm
            rw [List.drop_zero] at h4
            rw [h4] at h6
            rw [← Array.getElem?_toList, h6]; rfl
        · cases h4
      · cases h4

set_option maxHeartbeats 2000000 in
set_option maxRecDepth 100000 in
theorem write_is {Z : Nat → Prop} {B b : Nat} (hZ : ∀ x, Z x → x < B) : ∀ (k : Nat) (p : Option N0), depO p ≤ k → ∀ (v : Value) (bs : List Value) (w : World), cx.R w Z (.ptr 0) [v] p → Lib.IsBuilder 136 5 B b bs w →
    bs.length + (txtO p).length ≤ 140737488355328 → B ≤ w.heap.size →
    Calls Try.prog 88 #[v, .pointer (some ⟨b, 0, none⟩)] w fun e w' => e = .returned (.tuple #[]) ∧ Lib.IsBuilder 136 5 B b (bs ++ Lib.byteCells (txtO p)) w' ∧ Below B w w' := by
  intro k
  induction k with
  | zero =>
    intro p hk v bs w hR hB hl hw
    cases p with
    | none =>
      rcases Cx.R_ptr.1 hR with ⟨h, _⟩ | ⟨_, _, _, _, h, _⟩
      · have h := (List.cons.inj h).1
        subst h
        go_enter Try.func88, Try.ntmps88
        go_wp2
        ((try simp only [Exit.inBlock, Exit.then]); refine bodyPost_ret (results_none rfl _ _ _) rfl ?_)
        exact ⟨rfl, by simpa [txtO, Lib.byteCells] using hB, Below.refl _ _⟩
      · cases h
    | some n => cases n; simp [depO, dep] at hk
  | succ k ih =>
    intro p hk v bs w hR hB hl hw
    cases p with
    | none =>
      rcases Cx.R_ptr.1 hR with ⟨h, _⟩ | ⟨_, _, _, _, h, _⟩
      · have h := (List.cons.inj h).1
        subst h
        go_enter Try.func88, Try.ntmps88
        go_wp2
        ((try simp only [Exit.inBlock, Exit.then]); refine bodyPost_ret (results_none rfl _ _ _) rfl ?_)
        exact ⟨rfl, by simpa [txtO, Lib.byteCells] using hB, Below.refl _ _⟩
      · cases h
    | some n =>
      cases n with
      | mk a0 a1 a2 a3 t l r =>
        obtain ⟨q, vl, vr, rfl, hq, c4, c5, c6, hRl, hRr⟩ := part_cells hR
        have hql := hZ q hq
        simp only [depO, dep] at hk
        simp only [txtO, txt, List.length_append] at hl
        have kl : depO l ≤ k := by omega
        have kr : depO r ≤ k := by omega
        have hcell : ∀ {w' : World} (o : Nat) (u : Value), Below B w w' → w.cell? ⟨q, o, none⟩ = some u → w'.cell? ⟨q, o, none⟩ = some u := fun o u hb hc => by
          simp only [World.cell?] at hc ⊢
          rw [hb.block q hql]; exact hc
        go_enter Try.func88, Try.ntmps88
        go_wp2_with (go_at_call 123; refine (writeString_is B b bs _ _ hB ?_ hw).mono ?_)
        · have : (ByteArray.mk (Array.mk t)).size = t.length := rfl
          omega
        rintro e w1 ⟨rfl, h1, b1⟩
        have s1 := b1.size
        have c51 := hcell 5 vl b1 c5
        have hRl1 : cx.R w1 Z (.ptr 0) [vl] l := hRl.frame (fun _ h => h) (fun x hx => b1.block x (hZ x hx))
        go_wp2_with (go_at_call 88; refine (ih l kl vl _ _ hRl1 (.inr h1) ?_ ?_).mono ?_)
        · rw [List.length_append, Lib.strCells_length]
          have : (ByteArray.mk (Array.mk t)).size = t.length := rfl
          omega
        · omega
        rintro e w2 ⟨rfl, h2, b2⟩
        have s2 := b2.size
        have b12 := b1.trans b2
        have c62 := hcell 6 vr b12 c6
        have hRr1 : cx.R w2 Z (.ptr 0) [vr] r := hRr.frame (fun _ h => h) (fun x hx => b12.block x (hZ x hx))
        go_wp2_with (go_at_call 88; refine (ih r kr vr _ _ hRr1 h2 ?_ ?_).mono ?_)
        · rw [List.length_append, List.length_append, Lib.strCells_length, Lib.byteCells_length]
          have : (ByteArray.mk (Array.mk t)).size = t.length := rfl
          omega
        · omega
        rintro e w3 ⟨rfl, h3, b3⟩
        go_wp2
        go_end0
        refine ⟨rfl, ?_, b12.trans b3⟩
        have e : bs ++ Lib.strCells ⟨⟨t⟩⟩ ++ Lib.byteCells (txtO l) ++ Lib.byteCells (txtO r) = bs ++ Lib.byteCells (txtO (some (N0.mk a0 a1 a2 a3 t l r))) := by
          simp only [txtO, txt, Lib.byteCells_append, List.append_assoc]
          rfl
        rw [← e]; exact h3

theorem enters_at {f : Nat} {fn : Func} {c : Code} (hf : Try.prog.funcs[f]? = some fn) (hb : fn.body = some c) (hname : (fn.name == "runtime.NumGoroutine") = false) (vs : Array Value) (w : World) : (callFunc f vs).run Try.prog w = .ok (.enter f vs) w := by
  simp only [callFunc, Sem.run_bind, run_program, Result.andThen_ok, hf, hname, Bool.false_eq_true, if_false, hb, Option.isNone]
  rfl

set_option maxHeartbeats 2000000 in
set_option maxRecDepth 100000 in
theorem text_is {Z : Nat → Prop} (p : Option N0) (v : Value) (w : World) (hZ : ∀ x, Z x → x < w.heap.size) (hR : cx.R w Z (.ptr 0) [v] p) (hl : (txtO p).length ≤ 140737488355328) :
    Calls Try.prog 39 #[.agg #[v]] w fun e w' => e = .returned (.string ⟨⟨txtO p⟩⟩) ∧ Below w.heap.size w w' := by
  have b1 : Below w.heap.size w (w.alloc (.cells #[v] 58)) := (Below.refl _ w).alloc (Nat.le_refl _) _
  have h0 := Lib.fresh_isBuilder 136 5 (w.alloc (.cells #[v] 58))
  have hs : (w.alloc (.cells #[v] 58)).heap.size = w.heap.size + 1 := by rw [alloc_size]
  rw [hs] at h0
  have b2 : Below w.heap.size w ((w.alloc (.cells #[v] 58)).alloc (.cells #[.pointer none, .slice none 0 0] 136)) := b1.alloc (by omega) _
  have hR2 : cx.R ((w.alloc (.cells #[v] 58)).alloc (.cells #[.pointer none, .slice none 0 0] 136)) Z (.ptr 0) [v] p := hR.frame (fun _ h => h) (fun x hx => b2.block x (hZ x hx))
  go_enter Try.func39, Try.ntmps39
  go_wp2_with (go_at_call 88; refine (write_is (Z := Z) (B := w.heap.size + 1) (b := w.heap.size + 1) (fun x hx => by have := hZ x hx; omega) (depO p) p (Nat.le_refl _) v [] _ hR2 h0 (by simpa using hl) ?_).mono ?_)
  · rw [alloc_size, alloc_size]; omega
  rintro e w1 ⟨rfl, h1, k1⟩
  rw [List.nil_append] at h1
  have k1' : Below w.heap.size w w1 := b2.trans (k1.mono (by omega))
  have hs1 : w.heap.size + 1 ≤ w1.heap.size := by have := k1.size; rw [alloc_size, alloc_size] at this; omega
  go_wp2_with (go_at_call 89; refine (Try.Builder_String_any (w.heap.size + 1) (w.heap.size + 1) (txtO p) _ h1 hs1).mono ?_)
  rintro e w2 ⟨rfl, k2⟩
  go_wp2
  go_ret
  exact ⟨rfl, k1'.trans (k2.mono (by omega))⟩

set_option maxRecDepth 100000 in
theorem enters39 (vs : Array Value) (w : World) : (callFunc 39 vs).run Try.prog w = .ok (.enter 39 vs) w := enters_at (c := bodyC Try.f39) Try.func39 (by kernel_rfl) (by kernel_rfl) vs w
set_option maxRecDepth 100000 in
theorem enters134 (vs : Array Value) (w : World) : (callFunc 134 vs).run Try.prog w = .ok (.enter 134 vs) w := enters_at (c := bodyC Try.f134) Try.func134 (by kernel_rfl) (by kernel_rfl) vs w
theorem left_same {own : Nat → Option Own} {w w' : World} (hown : ∀ b, own b ≠ none → b < w.heap.size) (hb : Below w.heap.size w w') : Left own own w w' :=
  ⟨hb.os, hb.tape, hb.output, hb.size, fun b h _ => hb.block b h, fun b h => ⟨Nat.lt_of_lt_of_le (hown b h) hb.size, .inr h⟩⟩

set_option maxRecDepth 100000 in
theorem ok_Text : FnOk Try.prog F_Text 39 := by
  intro w Z own vs x r hZ hown hA hx
  match vs, hA with
  | [v], hA =>
    obtain ⟨⟨cs, h1, h2⟩, _⟩ := hA
    have h1 : v = .agg cs.toArray := h1
    have h2 : cx.R w Z (.ptr 0) cs x.1 := Cx.R_agg.1 h2
    obtain ⟨u, rfl⟩ : ∃ u, cs = [u] := by rcases Cx.R_ptr.1 h2 with ⟨h, _⟩ | ⟨_, _, _, h, _⟩ <;> exact ⟨_, h⟩
    subst h1
    have hx : s_Text x = some r := hx
    rw [Text_is] at hx
    have hx : mustR (decide ((txtO x.1).length ≤ 100000000)) (some (txtO x.1, ())) = some r := hx
    cases hd : decide ((txtO x.1).length ≤ 100000000) with
    | false => rw [hd] at hx; cases hx
    | true =>
      rw [hd] at hx
      cases hx
      have hd := of_decide_eq_true hd
      unfold Enters
      rw [enters39]
      refine (text_is x.1 u w (fun b hb => (hZ b hb).1) h2 (by omega)).mono ?_
      rintro e w' ⟨rfl, hb⟩
      exact ⟨_, rfl, own, left_same hown hb, ⟨_, rfl, OW_ro.2 (Cx.R_str.2 rfl)⟩, trivial⟩
  | [], hA => exact hA.elim
  | _ :: _ :: _, hA => exact hA.2.elim

set_option maxRecDepth 100000 in
theorem ok_Count : FnOk Try.prog F_Count 134 := by
  intro w Z own vs x r hZ hown hA hx
  match vs, hA with
  | [v, u], hA =>
    obtain ⟨⟨cs, h1, h2⟩, ⟨ds, g1, g2⟩, _⟩ := hA
    have h2 := Cx.R_str.1 h2
    have g2 := Cx.R_str.1 g2
    have h1 : cs = [v] := h1
    have g1 : ds = [u] := g1
    rw [h1] at h2; rw [g1] at g2
    obtain ⟨x0, x1, x2⟩ := x
    cases (List.cons.inj h2).1
    cases (List.cons.inj g2).1
    have hx : s_Count (x0, x1, x2) = some r := hx
    rw [Count_is] at hx
    match x1, hx with
    | [c], hx =>
      have hx : some (((Lib.countByte x0 c : Nat) : Int), ()) = some r := hx
      cases hx
      unfold Enters
      rw [enters134]
      refine (Try.strings_Count_one ⟨⟨x0⟩⟩ c w).mono ?_
      rintro e w' ⟨rfl, rfl⟩
      exact ⟨_, rfl, own, left_same hown (Below.refl _ _), ⟨_, rfl, OW_ro.2 (Cx.R_int.2 rfl)⟩, trivial⟩
    | [], hx => cases hx
    | _ :: _ :: _, hx => cases hx
  | [], hA => exact hA.elim
  | [_], hA => exact hA.2.elim
  | _ :: _ :: _ :: _, hA => exact hA.2.2.elim
end Go.Proofs.Ytdifekkamjoepaa.Vm.Rp
