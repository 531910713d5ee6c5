/- GramReads: for every input the law returns true, and each argument reads behind the call as it read before; the tables that the row lists are tied to the text, or pinned. -/
import Derived.Test.YtogipciicekmoaaDoorRows
import Derived.Test.YtogipciicekmoaaDoorCards
import Derived.Test.YtogipciicekmoaaDoorTie
import Derived.Test.YtogipciicekmoaaDoorVm3
import Derived.Test.YtogipciicekmoaaDoorLaw
import Derived.LaidMore
import Derived.Lay
import Derived.OpenShut
import Derived.Stop.Joined
import Derived.SevenTiedAt
import Derived.MakeChecks
/- GramReads: for every input the law returns true, and each argument reads behind the call as it read before. No condition. -/
namespace Go.Proofs.YtogipciicekmoaaDoor.gramReadsRow
open Go Go.Proofs.YtogipciicekmoaaDoor.Vm Go.ChangeShapes Go.WideShapes Go.ChangeAt Go.RowKit
set_option linter.unusedVariables false
theorem own : ownKnob Tryd.prog.godebug = none := by kernel_rfl
theorem laidOut : laidOutB Tryd.prog = true := by kernel_rfl
set_option maxRecDepth 100000 in
theorem lifted (os : Os) (started : os.Started) (H : Type) (enc : TypeId × Value → H) :
    ReturnsInHanded {} Tryd.checked os 4 .any (fun w args => (Rows.gramReadsSpec.pre enc Tryd.prog Tryd.f4 [] false w args ∧ laidMetH Tryd.prog Rows.gramReadsRow.laid w) ∧ sizedMet enc Tryd.prog Tryd.f4 (OpenSpec.ofChange Rows.gramReadsSpec) false w args) (Rows.gramReadsSpec.post enc Tryd.prog Tryd.f4 false true false false) := by
  refine returnsInHanded_of_change_and (C := Tryd.checked) (X := fun w _ => laidMetH Tryd.prog Rows.gramReadsRow.laid w) (fun _ _ _ hh h => h.of_heap hh) own started (by kernel_rfl) Tryd.func4
    (ChangeSpec.witness_shaped (enc := enc) (C := Tryd.checked) (os := os) (X := fun w _ => laidMetH Tryd.prog Rows.gramReadsRow.laid w) false (World.laidAll Tryd.prog os Rows.gramReadsRow.laid) #[.string ByteArray.empty] 8 (World.laidAll_os _ _ _)
      (World.shaped_of_ZipB (by kernel_rfl) (by kernel_rfl)) (by kernel_rfl) (by kernel_rfl) (by kernel_rfl)
      (by rw [MakeChecks.laidMetH_plain _ _ _ (by kernel_rfl)]; exact laidMet_laidAll _ (by kernel_rfl) (by kernel_rfl))) ?_
  intro W base args ds gs before hval0 hW hcnd hsz0 hL _
  have hval : ∀ (j : Nat) t v, Tryd.f4.params[j]? = some t → args[j]? = some v → Value.okWide Tryd.prog W .any base t v := hval0
  have hW' := hW
  obtain ⟨p, q, hA0, hV, rfl, hfz, hnd⟩ := hW
  have hA : DataW.TrodAll enc Tryd.prog W 0 (fun _ => true) true Tryd.f4.params.toList args.toList ds p := hA0
  rw [Tryd.params4] at hA hval
  obtain ⟨v0, vs0, d0, ds0, p0, q0, hargs, rfl, rfl, h0, r0⟩ := trodAll_cons hA
  obtain ⟨rfl, rfl, rfl⟩ := trodAll_nil r0
  obtain rfl : args = #[v0] := by cases args; simp_all
  obtain ⟨rfl, rfl⟩ := trodVars_none hV
  have lt0 : ∀ x ∈ p0, x.block < W.heap.size := by obtain ⟨m, hm⟩ := h0; exact DataW.trod_lt m _ _ _ hm
  obtain ⟨x0, k0, w0⟩ := arg_in (S := Go.Proofs.YtogipciicekmoaaDoor.Vm.Gr.cx) (ty := .str) (Go.Proofs.YtogipciicekmoaaDoor.Vm.Gr.tysT [] false 0) (t := 9) (by kernel_rfl) (by kernel_rfl) (hval 0 9 v0 rfl rfl) h0
  clear hA0 hval0 hsz0
  have hr : Go.Proofs.YtogipciicekmoaaDoor.Vm.Gr.F_law10_GramReads.f (x0, ()) = some (true, ()) := (congrFun Go.Proofs.YtogipciicekmoaaDoor.Vm.Gr.F_reads _).trans (Go.Proofs.YtogipciicekmoaaDoor.Vm.Gr.gramReads_law x0)
  refine (calls_true (S := Go.Proofs.YtogipciicekmoaaDoor.Vm.Gr.cx) (F := Go.Proofs.YtogipciicekmoaaDoor.Vm.Gr.F_law10_GramReads) (x := (x0, ())) Go.Proofs.YtogipciicekmoaaDoor.Vm.Gr.ok_law10_GramReads Tryd.func4 (by kernel_rfl) (by kernel_rfl) (vs := [v0]) ⟨k0, trivial⟩ hr (fun v => v = .bool true) (fun v w' Z own h => ?_)).mono fun e W' ⟨v, he, hv, bel⟩ => ?_
  · obtain ⟨cs, h1, h2⟩ := h
    have h3 : cs = [.bool true] := Cx.R_bool.1 (OW_ro.1 h2)
    have h4 : cs = [v] := h1
    rw [h3] at h4; exact (List.cons.inj h4).1.symm
  subst he; subst hv
  exact ⟨_, rfl, _, _, _, [], _, [], hW', trodAll_mk1 (shut_bool Tryd.underlying4 _), (trodAll_cons_mk (Below.trod laidOut (by kernel_rfl) (of_decide_eq_true (by kernel_rfl)) h0 bel lt0) trodAll_mk0), rfl, bel.frame _, fun h => by cases h⟩
theorem over : Rows.gramReadsRow.holds Tryd.pinned (OpenSpec.ofChange Rows.gramReadsSpec) :=
  OpenClaim.holds_of_wide 4 Tryd.f4 rfl rfl rfl rfl rfl rfl rfl ⟨rfl, rfl, rfl, rfl, rfl⟩ rfl rfl rfl rfl rfl (by kernel_rfl) Tryd.func4 (by kernel_rfl)
    (of_decide_eq_true (by kernel_rfl)) (by unfold Func.isWrapper; first | (rw [if_pos (by decide +kernel)]; kernel_rfl) | (rw [if_neg (by decide +kernel)]; exact ⟨rfl, rfl⟩))
    (fun os started H enc _ => lifted os started H enc)
end Go.Proofs.YtogipciicekmoaaDoor.gramReadsRow
namespace Go.Proofs.YtogipciicekmoaaDoor
theorem gramReads_holds : Rows.GramReadsSaid := gramReadsRow.over
theorem gramReads_card : Rows.GramReadsCardSaid :=
  Claim7.holds_tied_plain_at .later [] [.data, .pinned] true (true, "d64a0f6f596704035e547151508ce5b9db19ee0495ccb0982d7d8da466a1aead") false
    gramReads_holds (fun _ h => by cases h) (by kernel_rfl) (fun _ h => by cases h) gramReads_row_tie rfl ⟨rfl, rfl⟩ (by kernel_rfl) rfl
    (fun f fn hf hfn => by
      obtain rfl : f = 4 := Option.some.inj ((show Tryd.prog.funcNamed "pleacher/pleacherlaw10.GramReads" = some 4 by kernel_rfl).symm.trans hf) |>.symm
      obtain rfl : fn = Tryd.f4 := (Option.some.inj (Tryd.func4.symm.trans hfn)).symm
      exact ⟨by kernel_rfl, fun j t ht => by
        rw [Tryd.params4] at ht
        have hm : t ∈ [9] := by simpa using Array.mem_of_getElem? ht
        have hall : ([9].all fun u => !Tryd.prog.wantsStandIn u) = true := by kernel_rfl
        exact (show Tryd.prog.wantsStandIn t = false by simpa using List.all_eq_true.1 hall t hm)⟩)
    (by kernel_rfl)
#print axioms gramReads_holds
#print axioms gramReads_card
end Go.Proofs.YtogipciicekmoaaDoor
