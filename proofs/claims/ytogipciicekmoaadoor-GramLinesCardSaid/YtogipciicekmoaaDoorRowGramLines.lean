/- GramLines: for every input the law returns true, and each argument reads behind the call as it read before; the tables that the row lists are tied to the text, or pinned. -/
import Derived.Test.YtogipciicekmoaaDoorRows
import Derived.Test.YtogipciicekmoaaDoorCards
import Derived.Test.YtogipciicekmoaaDoorTie
import Derived.Test.YtogipciicekmoaaDoorVm3
import Derived.Test.YtogipciicekmoaaDoorLaw
import Derived.LaidMore
import Derived.Lay
import Derived.OpenShut
import Derived.Stop.Joined
import Derived.SevenTiedAt
import Derived.MakeChecks
import Derived.SizedLaws
import Derived.ChangeMaps
/- GramLines: for every input the law returns true, and each argument reads behind the call as it read before. No condition. -/
namespace Go.Proofs.YtogipciicekmoaaDoor.gramLinesRow
open Go Go.Proofs.YtogipciicekmoaaDoor.Vm Go.ChangeShapes Go.WideShapes Go.ChangeAt Go.RowKit
set_option linter.unusedVariables false
theorem own : ownKnob Tryd.prog.godebug = none := by kernel_rfl
theorem laidOut : laidOutB Tryd.prog = true := by kernel_rfl
set_option maxRecDepth 100000 in
theorem lifted (os : Os) (started : os.Started) (H : Type) (enc : TypeId × Value → H) :
    ReturnsInHanded {} Tryd.checked os 3 .any (fun w args => (Rows.gramLinesSpec.pre enc Tryd.prog Tryd.f3 [] false w args ∧ laidMetH Tryd.prog Rows.gramLinesRow.laid w) ∧ sizedMet enc Tryd.prog Tryd.f3 (OpenSpec.ofChange Rows.gramLinesSpec) false w args) (Rows.gramLinesSpec.post enc Tryd.prog Tryd.f3 false true false false) := by
  refine returnsInHanded_of_change_and (C := Tryd.checked) (X := fun w _ => laidMetH Tryd.prog Rows.gramLinesRow.laid w) (fun _ _ _ hh h => h.of_heap hh) own started (by kernel_rfl) Tryd.func3
    (ChangeSpec.witness_shaped (enc := enc) (C := Tryd.checked) (os := os) (X := fun w _ => laidMetH Tryd.prog Rows.gramLinesRow.laid w) false (World.laidAll Tryd.prog os Rows.gramLinesRow.laid) #[.string ByteArray.empty, .string ByteArray.empty, .string ByteArray.empty] 8 (World.laidAll_os _ _ _)
      (World.shaped_of_ZipB (by kernel_rfl) (by kernel_rfl)) (by kernel_rfl) (by kernel_rfl) (by kernel_rfl)
      (by rw [MakeChecks.laidMetH_plain _ _ _ (by kernel_rfl)]; exact laidMet_laidAll _ (by kernel_rfl) (by kernel_rfl))) ?_
  intro W base args ds gs before hval0 hW hcnd hsz0 hL _
  have hval : ∀ (j : Nat) t v, Tryd.f3.params[j]? = some t → args[j]? = some v → Value.okWide Tryd.prog W .any base t v := hval0
  have hW' := hW
  obtain ⟨p, q, hA0, hV, rfl, hfz, hnd⟩ := hW
  have hA : DataW.TrodAll enc Tryd.prog W 0 (fun _ => true) true Tryd.f3.params.toList args.toList ds p := hA0
  rw [Tryd.params3] at hA hval
  obtain ⟨v0, vs0, d0, ds0, p0, q0, hargs, rfl, rfl, h0, r0⟩ := trodAll_cons hA
  obtain ⟨v1, vs1, d1, ds1, p1, q1, rfl, rfl, rfl, h1, r1⟩ := trodAll_cons r0
  obtain ⟨v2, vs2, d2, ds2, p2, q2, rfl, rfl, rfl, h2, r2⟩ := trodAll_cons r1
  obtain ⟨rfl, rfl, rfl⟩ := trodAll_nil r2
  obtain rfl : args = #[v0, v1, v2] := by cases args; simp_all
  obtain ⟨rfl, rfl⟩ := trodVars_none hV
  have lt0 : ∀ x ∈ p0, x.block < W.heap.size := by obtain ⟨m, hm⟩ := h0; exact DataW.trod_lt m _ _ _ hm
  obtain ⟨s0, ev0, ed0, ep0, es0⟩ := ChangeMaps.open_string Tryd.underlying9 (hval 0 9 v0 rfl rfl) h0
  have w0 : s0.data.toList.length ≤ 140737488355328 := Nat.le_of_lt (Nat.lt_of_le_of_lt (sized_string hsz0 (j := 0) (t := 9) (by rw [Tryd.params3]; rfl) (by rw [ed0]; rfl)) reachBytes_lt)
  have k0 : ∃ cs, VS .str v0 cs ∧ Go.Proofs.YtogipciicekmoaaDoor.Vm.Gr.cx.R W (fun b => b < W.heap.size) .str cs s0.data.toList := ⟨[v0], rfl, Cx.R_str.2 (by rw [ev0])⟩
  have lt1 : ∀ x ∈ p1, x.block < W.heap.size := by obtain ⟨m, hm⟩ := h1; exact DataW.trod_lt m _ _ _ hm
  obtain ⟨s1, ev1, ed1, ep1, es1⟩ := ChangeMaps.open_string Tryd.underlying9 (hval 1 9 v1 rfl rfl) h1
  have w1 : s1.data.toList.length ≤ 140737488355328 := Nat.le_of_lt (Nat.lt_of_le_of_lt (sized_string hsz0 (j := 1) (t := 9) (by rw [Tryd.params3]; rfl) (by rw [ed1]; rfl)) reachBytes_lt)
  have k1 : ∃ cs, VS .str v1 cs ∧ Go.Proofs.YtogipciicekmoaaDoor.Vm.Gr.cx.R W (fun b => b < W.heap.size) .str cs s1.data.toList := ⟨[v1], rfl, Cx.R_str.2 (by rw [ev1])⟩
  have lt2 : ∀ x ∈ p2, x.block < W.heap.size := by obtain ⟨m, hm⟩ := h2; exact DataW.trod_lt m _ _ _ hm
  obtain ⟨s2, ev2, ed2, ep2, es2⟩ := ChangeMaps.open_string Tryd.underlying9 (hval 2 9 v2 rfl rfl) h2
  have w2 : s2.data.toList.length ≤ 140737488355328 := Nat.le_of_lt (Nat.lt_of_le_of_lt (sized_string hsz0 (j := 2) (t := 9) (by rw [Tryd.params3]; rfl) (by rw [ed2]; rfl)) reachBytes_lt)
  have k2 : ∃ cs, VS .str v2 cs ∧ Go.Proofs.YtogipciicekmoaaDoor.Vm.Gr.cx.R W (fun b => b < W.heap.size) .str cs s2.data.toList := ⟨[v2], rfl, Cx.R_str.2 (by rw [ev2])⟩
  clear hA0 hval0 hsz0
  have hr : Go.Proofs.YtogipciicekmoaaDoor.Vm.Gr.F_law10_GramLines.f (s0.data.toList, (s1.data.toList, (s2.data.toList, ()))) = some (true, ()) := (congrFun Go.Proofs.YtogipciicekmoaaDoor.Vm.Gr.F_lines _).trans (Go.Proofs.YtogipciicekmoaaDoor.Vm.Gr.gramLines_law s0.data.toList s1.data.toList s2.data.toList w0 w1 w2)
  refine (calls_true (S := Go.Proofs.YtogipciicekmoaaDoor.Vm.Gr.cx) (F := Go.Proofs.YtogipciicekmoaaDoor.Vm.Gr.F_law10_GramLines) (x := (s0.data.toList, (s1.data.toList, (s2.data.toList, ())))) Go.Proofs.YtogipciicekmoaaDoor.Vm.Gr.ok_law10_GramLines Tryd.func3 (by kernel_rfl) (by kernel_rfl) (vs := [v0, v1, v2]) ⟨k0, ⟨k1, ⟨k2, trivial⟩⟩⟩ hr (fun v => v = .bool true) (fun v w' Z own h => ?_)).mono fun e W' ⟨v, he, hv, bel⟩ => ?_
  · obtain ⟨cs, h1, h2⟩ := h
    have h3 : cs = [.bool true] := Cx.R_bool.1 (OW_ro.1 h2)
    have h4 : cs = [v] := h1
    rw [h3] at h4; exact (List.cons.inj h4).1.symm
  subst he; subst hv
  exact ⟨_, rfl, _, _, _, [], _, [], hW', trodAll_mk1 (shut_bool Tryd.underlying4 _), (trodAll_cons_mk (Below.trod laidOut (by kernel_rfl) (of_decide_eq_true (by kernel_rfl)) h0 bel lt0) (trodAll_cons_mk (Below.trod laidOut (by kernel_rfl) (of_decide_eq_true (by kernel_rfl)) h1 bel lt1) (trodAll_cons_mk (Below.trod laidOut (by kernel_rfl) (of_decide_eq_true (by kernel_rfl)) h2 bel lt2) trodAll_mk0))), rfl, bel.frame _, fun h => by cases h⟩
theorem over : Rows.gramLinesRow.holds Tryd.pinned (OpenSpec.ofChange Rows.gramLinesSpec) :=
  OpenClaim.holds_of_wide 3 Tryd.f3 rfl rfl rfl rfl rfl rfl rfl ⟨rfl, rfl, rfl, rfl, rfl⟩ rfl rfl rfl rfl rfl (by kernel_rfl) Tryd.func3 (by kernel_rfl)
    (of_decide_eq_true (by kernel_rfl)) (by unfold Func.isWrapper; first | (rw [if_pos (by decide +kernel)]; kernel_rfl) | (rw [if_neg (by decide +kernel)]; exact ⟨rfl, rfl⟩))
    (fun os started H enc _ => lifted os started H enc)
end Go.Proofs.YtogipciicekmoaaDoor.gramLinesRow
namespace Go.Proofs.YtogipciicekmoaaDoor
theorem gramLines_holds : Rows.GramLinesSaid := gramLinesRow.over
theorem gramLines_card : Rows.GramLinesCardSaid :=
  Claim7.holds_tied_plain_at .later [] [.data, .pinned] true (true, "d64a0f6f596704035e547151508ce5b9db19ee0495ccb0982d7d8da466a1aead") false
    gramLines_holds (fun _ h => by cases h) (by kernel_rfl) (fun _ h => by cases h) gramLines_row_tie rfl ⟨rfl, rfl⟩ (by kernel_rfl) rfl
    (fun f fn hf hfn => by
      obtain rfl : f = 3 := Option.some.inj ((show Tryd.prog.funcNamed "pleacher/pleacherlaw10.GramLines" = some 3 by kernel_rfl).symm.trans hf) |>.symm
      obtain rfl : fn = Tryd.f3 := (Option.some.inj (Tryd.func3.symm.trans hfn)).symm
      exact ⟨by kernel_rfl, fun j t ht => by
        rw [Tryd.params3] at ht
        have hm : t ∈ [9, 9, 9] := by simpa using Array.mem_of_getElem? ht
        have hall : ([9, 9, 9].all fun u => !Tryd.prog.wantsStandIn u) = true := by kernel_rfl
        exact (show Tryd.prog.wantsStandIn t = false by simpa using List.all_eq_true.1 hall t hm)⟩)
    (by kernel_rfl)
#print axioms gramLines_holds
#print axioms gramLines_card
end Go.Proofs.YtogipciicekmoaaDoor
