/- Data, and how many zeros a number ends in, by its table. -/
import Derived.Test.YtpmlimdilajidaaDoorVm2
import Derived.Test.YtpmlimdilajidaaDoorChecked
import Derived.KernelRfl
import Derived.Lib.TrailingZeros
import Derived.Shelf.Spec.TrailingZeros
import Derived.Test.YtpmlimdilajidaaDoorProg
namespace Go.Proofs.YtpmlimdilajidaaDoor.Vm.Bs
open Go Go.Proofs.YtpmlimdilajidaaDoor.Vm Go.Proofs
set_option linter.unusedVariables false
set_option maxRecDepth 100000
noncomputable section
def glob0 : List Int := [0, 1, 56, 2, 57, 49, 28, 3, 61, 58, 42, 50, 38, 29, 17, 4, 62, 47, 59, 36, 45, 43, 51, 22, 53, 39, 33, 30, 24, 18, 12, 5, 63, 55, 48, 27, 60, 41, 37, 16, 46, 35, 44, 21, 52, 32, 23, 11, 54, 26, 40, 15, 34, 20, 31, 10, 25, 14, 19, 9, 13, 8, 7, 6]
noncomputable def cx : Cx := { N := fun _ => Unit, body := fun _ => .unit, nsz := fun _ => 0, out := fun _ _ => (), pk := fun _ _ => (), dflt := fun _ => (), globs := [(0, ⟨.agg (.arr 64 (.int .u8)), glob0⟩)] }
theorem cxOk : cx.Ok := ⟨fun _ => rfl, fun _ _ => rfl⟩
noncomputable def tys : List (Nat × Ty) := [(3, (.int .i64)), (4, .bool), (5, (.int .u8)), (9, .str), (22, (.slice 5 (.int .u8))), (24, (.int .u64)), (26, (.agg (.arr 4 (.int .u64)))), (37, (.agg (.arr 256 (.int .u8)))), (46, (.slice 26 (.agg (.arr 4 (.int .u64))))), (48, (.map (.agg (.arr 4 (.int .u64))) (.int .u8))), (50, (.int .u64)), (52, (.agg (.arr 2 (.agg (.arr 4 (.int .u64))))))]
theorem tysT (l : List (Nat × FSpec cx.toNm)) : TysOk (S := cx) Tryd.prog { tys := tys, fs := fsOf l } := tysOk (by kernel_rfl)
theorem follows : Tryd.prog.follows .mixedOrders = true := by kernel_rfl
def vTz (a : (Int) × (Unit)) : Option ((Int) × (Unit)) := mustR (decide (0 ≤ a.1 ∧ a.1 < 18446744073709551616)) (some (((Lib.ctz 64 a.1.toNat : Nat) : Int), ()))
theorem is_Tz : ∃ f : (Int) × (Unit) → Option ((Int) × (Unit)), f = vTz := ⟨_, rfl⟩
def s_Tz : (Int) × (Unit) → Option ((Int) × (Unit)) := Classical.choose is_Tz
theorem Tz_is : s_Tz = vTz := Classical.choose_spec is_Tz
noncomputable def F_Tz : FSpec cx.toNm := { ps := [.val (.int .u64)], nres := 1, rt := (.int .i64), rm := .ro, f := s_Tz }
end
end Go.Proofs.YtpmlimdilajidaaDoor.Vm.Bs
namespace Go.Proofs
open Go.Shelf
def Tryd.lays29_ren : Go.Shelf.Ren := ⟨fun | 29 => 20 | n => n, fun | 22 => 24 | 3 => 3 | 4 => 4 | 25 => 50 | 54 => 49 | 0 => 0 | 5 => 5 | n => n, fun | 1 => 0 | n => n⟩
theorem Tryd.lays29 : Go.Proofs.Lays7.n29 Tryd.prog Tryd.lays29_ren := {
  mixed := by kernel_rfl
  f29 := Tryd.func20.trans (congrArg some (by kernel_rfl))
  t0 := Tryd.underlying0
  a0 := Tryd.isAgg0
  z0 := Tryd.sizeOf0
  v0 := Tryd.zeroValue0
  i0 := by kernel_rfl
  t3 := Tryd.underlying3
  a3 := Tryd.isAgg3
  z3 := Tryd.sizeOf3
  v3 := Tryd.zeroValue3
  i3 := by kernel_rfl
  t4 := Tryd.underlying4
  a4 := Tryd.isAgg4
  z4 := Tryd.sizeOf4
  v4 := Tryd.zeroValue4
  i4 := by kernel_rfl
  t5 := Tryd.underlying5
  a5 := Tryd.isAgg5
  z5 := Tryd.sizeOf5
  v5 := Tryd.zeroValue5
  i5 := by kernel_rfl
  t22 := Tryd.underlying24
  a22 := Tryd.isAgg24
  z22 := Tryd.sizeOf24
  v22 := Tryd.zeroValue24
  i22 := by kernel_rfl
  t25 := Tryd.underlying50
  a25 := Tryd.isAgg50
  z25 := Tryd.sizeOf50
  v25 := Tryd.zeroValue50
  i25 := by kernel_rfl
  t54 := Tryd.underlying49
  a54 := Tryd.isAgg49
  z54 := Tryd.sizeOf49
  g1 := by kernel_rfl }
open Go.RowKit Go.Lib in
/-- math/bits.TrailingZeros64. (LAID: no walk: one application.) -/
theorem Tryd.bits_TrailingZeros64 (x : Nat) (hx : x < 18446744073709551616) (w : World) (hT : x ≠ 0 → TabAt 0 Lib.deBruijn64tab w) :
    Calls Tryd.prog 20 #[.int .u64 x] w fun e w' => e = .returned (.int .i64 (Lib.ctz 64 x)) ∧ w' = w := Any7.bits_TrailingZeros64 Tryd.lays29 x hx w hT
end Go.Proofs
namespace Go.Proofs.YtpmlimdilajidaaDoor.Vm.Bs
open Go Go.Proofs.YtpmlimdilajidaaDoor.Vm Go.Proofs Go.RowKit
set_option linter.unusedVariables false
theorem enters_at {f : Nat} {fn : Func} {c : Code} (hf : Tryd.prog.funcs[f]? = some fn) (hb : fn.body = some c) (hname : (fn.name == "runtime.NumGoroutine") = false) (vs : Array Value) (w : World) : (callFunc f vs).run Tryd.prog w = .ok (.enter f vs) w := by
  simp only [callFunc, Sem.run_bind, run_program, Result.andThen_ok, hf, hname, Bool.false_eq_true, if_false, hb, Option.isNone]
  rfl
set_option maxRecDepth 100000 in
theorem enters20 (vs : Array Value) (w : World) : (callFunc 20 vs).run Tryd.prog w = .ok (.enter 20 vs) w := enters_at (c := bodyC Tryd.f20) Tryd.func20 (by kernel_rfl) (by kernel_rfl) vs w
theorem left_same {own : Nat → Option Own} {w w' : World} (hown : ∀ b, own b ≠ none → b < w.heap.size) (hb : Below w.heap.size w w') : Left own own w w' :=
  ⟨hb.os, hb.tape, hb.output, hb.size, fun b h _ => hb.block b h, fun b h => ⟨Nat.lt_of_lt_of_le (hown b h) hb.size, .inr h⟩⟩
theorem tab_is : glob0 = Lib.deBruijn64tab.map (fun n : Nat => (n : Int)) := by decide +kernel
theorem cells_tab {w : World} {Z : Nat → Prop} {cs : List Value} (h1 : cellsAt w 0 0 64 = some cs) (h2 : cx.R w Z (.arr 64 (.int .u8)) cs glob0) : TabAt 0 Lib.deBruijn64tab w := by
  intro j hj
  have hj : j < 64 := hj
  obtain ⟨_, h3, h4⟩ := Cx.R_arr.1 h2
  have hn : nth glob0 j = some ((Lib.deBruijn64tab.getD j 0 : Nat) : Int) := by
    show glob0[j]? = _
    rw [tab_is, List.getElem?_map, List.getD_eq_getElem?_getD, List.getElem?_eq_getElem (show j < Lib.deBruijn64tab.length from hj)]; rfl
  have h5 := Cx.R_int.1 (h4 j _ hn)
  have h6 : (cs.drop (j * 1)).take 1 = [.int .u8 ((Lib.deBruijn64tab.getD j 0 : Nat) : Int)] := h5
  rw [Nat.mul_one] at h6
  have h7 : cs[j]? = some (.int .u8 ((Lib.deBruijn64tab.getD j 0 : Nat) : Int)) := by
    have := congrArg (·[0]?) h6
    simpa [List.getElem?_take, List.getElem?_drop] using this
  unfold cellsAt at h1
  split at h1
  · rename_i c e f hb
    split at h1
    · cases h1
      have : w.cell? ⟨0, j, none⟩ = c.toList[j]? := by simp [World.cell?, hb]
      rw [this, ← h7, List.getElem?_take, if_pos hj, List.drop_zero]
    · cases h1
  · cases h1
theorem ok_Tz : FnOk Tryd.prog F_Tz 20 := by
  intro w Z own vs x r hZ hown hA hG hx
  match vs, hA with
  | [v], hA =>
    obtain ⟨⟨cs, h1, h2⟩, _⟩ := hA
    have h2 := Cx.R_int.1 h2
    have h1 : cs = [v] := h1
    rw [h1] at h2
    obtain ⟨x0, x1, rfl⟩ : ∃ (x0 : Int) (x1 : Unit), (x0, x1) = x := ⟨x.1, x.2, rfl⟩
    cases (List.cons.inj h2).1
    have hx : s_Tz (x0, x1) = some r := hx
    rw [Tz_is] at hx
    have hx : mustR (decide (0 ≤ x0 ∧ x0 < 18446744073709551616)) (some (((Lib.ctz 64 x0.toNat : Nat) : Int), ())) = some r := hx
    cases hd : decide (0 ≤ x0 ∧ x0 < 18446744073709551616) with
    | false => rw [hd] at hx; cases hx
    | true =>
      rw [hd] at hx
      cases hx
      have hd := of_decide_eq_true hd
      obtain ⟨n, rfl⟩ : ∃ n : Nat, x0 = n := ⟨x0.toNat, by omega⟩
      obtain ⟨_, cs, g1, g2⟩ := hG 0 ⟨.agg (.arr 64 (.int .u8)), glob0⟩ (List.mem_singleton.2 rfl)
      have g3 := cells_tab g1 (Cx.R_agg.1 g2)
      unfold Enters
      rw [enters20]
      refine (Tryd.bits_TrailingZeros64 n (by omega) w (fun _ => g3)).mono ?_
      rintro e w' ⟨rfl, rfl⟩
      exact ⟨_, rfl, own, left_same hown (Below.refl _ _), ⟨_, rfl, OW_ro.2 (Cx.R_int.2 rfl)⟩, trivial⟩
  | [], hA => exact hA.elim
  | _ :: _ :: _, hA => exact hA.2.elim
end Go.Proofs.YtpmlimdilajidaaDoor.Vm.Bs
