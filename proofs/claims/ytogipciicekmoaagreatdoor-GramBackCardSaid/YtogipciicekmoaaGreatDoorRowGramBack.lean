/- GramBack: for every input the law returns true, and each argument reads behind the call as it read before; the tables that the row lists are tied to the text, or pinned. -/
import Derived.Test.YtogipciicekmoaaGreatDoorRows
import Derived.Test.YtogipciicekmoaaGreatDoorCards
import Derived.Test.YtogipciicekmoaaGreatDoorTie
import Derived.Test.YtogipciicekmoaaGreatDoorVm3
import Derived.Test.YtogipciicekmoaaGreatDoorLaw
import Derived.LaidMore
import Derived.Lay
import Derived.OpenShut
import Derived.Stop.Joined
import Derived.SevenTiedAt
import Derived.MakeChecks
/- GramBack: for every input the law returns true, and each argument reads behind the call as it read before. No condition. -/
namespace Go.Proofs.YtogipciicekmoaaGreatDoor.gramBackRow
open Go Go.Proofs.YtogipciicekmoaaGreatDoor.Vm Go.ChangeShapes Go.WideShapes Go.ChangeAt Go.RowKit
set_option linter.unusedVariables false
theorem own : ownKnob Tryz.prog.godebug = none := by kernel_rfl
theorem laidOut : laidOutB Tryz.prog = true := by kernel_rfl
set_option maxRecDepth 100000 in
theorem lifted (os : Os) (started : os.Started) (H : Type) (enc : TypeId × Value → H) :
    ReturnsInHanded {} Tryz.checked os 4 .any (fun w args => (Rows.gramBackSpec.pre enc Tryz.prog Tryz.f4 [] false w args ∧ laidMetH Tryz.prog Rows.gramBackRow.laid w) ∧ sizedMet enc Tryz.prog Tryz.f4 (OpenSpec.ofChange Rows.gramBackSpec) false w args) (Rows.gramBackSpec.post enc Tryz.prog Tryz.f4 false true false false) := by
  refine returnsInHanded_of_change_and (C := Tryz.checked) (X := fun w _ => laidMetH Tryz.prog Rows.gramBackRow.laid w) (fun _ _ _ hh h => h.of_heap hh) own started (by kernel_rfl) Tryz.func4
    (ChangeSpec.witness_shaped (enc := enc) (C := Tryz.checked) (os := os) (X := fun w _ => laidMetH Tryz.prog Rows.gramBackRow.laid w) false (World.laidAll Tryz.prog os Rows.gramBackRow.laid) #[.agg #[.slice none 0 0, .string ByteArray.empty, .slice none 0 0, .slice none 0 0]] 8 (World.laidAll_os _ _ _)
      (World.shaped_of_ZipB (by kernel_rfl) (by kernel_rfl)) (by kernel_rfl) (by kernel_rfl) (by kernel_rfl)
      (by rw [MakeChecks.laidMetH_plain _ _ _ (by kernel_rfl)]; exact laidMet_laidAll _ (by kernel_rfl) (by kernel_rfl))) ?_
  intro W base args ds gs before hval0 hW hcnd hsz0 hL _
  have hval : ∀ (j : Nat) t v, Tryz.f4.params[j]? = some t → args[j]? = some v → Value.okWide Tryz.prog W .any base t v := hval0
  have hW' := hW
  obtain ⟨p, q, hA0, hV, rfl, hfz, hnd⟩ := hW
  have hA : DataW.TrodAll enc Tryz.prog W 0 (fun _ => true) true Tryz.f4.params.toList args.toList ds p := hA0
  rw [Tryz.params4] at hA hval
  obtain ⟨v0, vs0, d0, ds0, p0, q0, hargs, rfl, rfl, h0, r0⟩ := trodAll_cons hA
  obtain ⟨rfl, rfl, rfl⟩ := trodAll_nil r0
  obtain rfl : args = #[v0] := by cases args; simp_all
  obtain ⟨rfl, rfl⟩ := trodVars_none hV
  have lt0 : ∀ x ∈ p0, x.block < W.heap.size := by obtain ⟨m, hm⟩ := h0; exact DataW.trod_lt m _ _ _ hm
  obtain ⟨x0, k0, w0⟩ := arg_in (S := Go.Proofs.YtogipciicekmoaaGreatDoor.Vm.Gz.cx) (ty := Go.Proofs.YtogipciicekmoaaGreatDoor.Vm.Gz.t15) (Go.Proofs.YtogipciicekmoaaGreatDoor.Vm.Gz.tysT [] false 0) (t := 26) (by kernel_rfl) (by kernel_rfl) (hval 0 26 v0 rfl rfl) h0
  clear hA0 hval0 hsz0
  have hr : Go.Proofs.YtogipciicekmoaaGreatDoor.Vm.Gz.F_law10_GramBack.f (x0, ()) = some (true, ()) := (congrFun Go.Proofs.YtogipciicekmoaaGreatDoor.Vm.Gz.F_back _).trans (Go.Proofs.YtogipciicekmoaaGreatDoor.Vm.Gz.gramBack_law x0)
  refine (calls_true (S := Go.Proofs.YtogipciicekmoaaGreatDoor.Vm.Gz.cx) (F := Go.Proofs.YtogipciicekmoaaGreatDoor.Vm.Gz.F_law10_GramBack) (x := (x0, ())) Go.Proofs.YtogipciicekmoaaGreatDoor.Vm.Gz.ok_law10_GramBack Tryz.func4 (by kernel_rfl) (by kernel_rfl) (vs := [v0]) ⟨k0, trivial⟩ hr (fun v => v = .bool true) (fun v w' Z own h => ?_)).mono fun e W' ⟨v, he, hv, bel⟩ => ?_
  · obtain ⟨cs, h1, h2⟩ := h
    have h3 : cs = [.bool true] := Cx.R_bool.1 (OW_ro.1 h2)
    have h4 : cs = [v] := h1
    rw [h3] at h4; exact (List.cons.inj h4).1.symm
  subst he; subst hv
  exact ⟨_, rfl, _, _, _, [], _, [], hW', trodAll_mk1 (shut_bool Tryz.underlying4 _), (trodAll_cons_mk (Below.trod laidOut (by kernel_rfl) (of_decide_eq_true (by kernel_rfl)) h0 bel lt0) trodAll_mk0), rfl, bel.frame _, fun h => by cases h⟩
theorem over : Rows.gramBackRow.holds Tryz.pinned (OpenSpec.ofChange Rows.gramBackSpec) :=
  OpenClaim.holds_of_wide 4 Tryz.f4 rfl rfl rfl rfl rfl rfl rfl ⟨rfl, rfl, rfl, rfl, rfl⟩ rfl rfl rfl rfl rfl (by kernel_rfl) Tryz.func4 (by kernel_rfl)
    (of_decide_eq_true (by kernel_rfl)) (by unfold Func.isWrapper; first | (rw [if_pos (by decide +kernel)]; kernel_rfl) | (rw [if_neg (by decide +kernel)]; exact ⟨rfl, rfl⟩))
    (fun os started H enc _ => lifted os started H enc)
end Go.Proofs.YtogipciicekmoaaGreatDoor.gramBackRow
namespace Go.Proofs.YtogipciicekmoaaGreatDoor
theorem gramBack_holds : Rows.GramBackSaid := gramBackRow.over
theorem gramBack_card : Rows.GramBackCardSaid :=
  Claim7.holds_tied_plain_at .later [] [.data, .data, .data, .data, .pinned] true (true, "136f599b05ac8852f6a959830d3dfa438c1ce7b303e6a516b343f09da0c34e56") false
    gramBack_holds (fun _ h => by cases h) (by kernel_rfl) (fun _ h => by cases h) gramBack_row_tie rfl ⟨rfl, rfl⟩ (by kernel_rfl) rfl
    (fun f fn hf hfn => by
      obtain rfl : f = 4 := Option.some.inj ((show Tryz.prog.funcNamed "pleacher/pleacherlaw10.GramBack" = some 4 by kernel_rfl).symm.trans hf) |>.symm
      obtain rfl : fn = Tryz.f4 := (Option.some.inj (Tryz.func4.symm.trans hfn)).symm
      exact ⟨by kernel_rfl, fun j t ht => by
        rw [Tryz.params4] at ht
        have hm : t ∈ [26] := by simpa using Array.mem_of_getElem? ht
        have hall : ([26].all fun u => !Tryz.prog.wantsStandIn u) = true := by kernel_rfl
        exact (show Tryz.prog.wantsStandIn t = false by simpa using List.all_eq_true.1 hall t hm)⟩)
    (by kernel_rfl)
#print axioms gramBack_holds
#print axioms gramBack_card
end Go.Proofs.YtogipciicekmoaaGreatDoor
