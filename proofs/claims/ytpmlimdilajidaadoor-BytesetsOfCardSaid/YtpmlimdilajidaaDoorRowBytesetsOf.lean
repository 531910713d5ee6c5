/- BytesetsOf: for every input the law returns true, and each argument reads behind the call as it read before; the table that it reads is tied to the text. -/
import Derived.Test.YtpmlimdilajidaaDoorRows
import Derived.Test.YtpmlimdilajidaaDoorCards
import Derived.Test.YtpmlimdilajidaaDoorTie
import Derived.Test.YtpmlimdilajidaaDoorVm2
import Derived.Test.YtpmlimdilajidaaDoorLaw
import Derived.LaidMore
import Derived.OpenShut
import Derived.Stop.Joined
import Derived.SevenTiedAt
/- BytesetsOf: for every input the law returns true, and each argument reads behind the call as it read before. No condition. -/
namespace Go.Proofs.YtpmlimdilajidaaDoor.bytesetsOfRow
open Go Go.Proofs.YtpmlimdilajidaaDoor.Vm Go.ChangeShapes Go.WideShapes Go.ChangeAt Go.RowKit
set_option linter.unusedVariables false
theorem own : ownKnob Tryd.prog.godebug = none := by kernel_rfl
theorem laidOut : laidOutB Tryd.prog = true := by kernel_rfl
theorem door_met (os : Os) (args : Array Value) : laidMetH Tryd.prog Go.Proofs.YtpmlimdilajidaaDoor.Vm.Bs.lst ((World.doorLaid Tryd.prog 14 os).forCall (fun _ _ => 0) ⟨#[], args, []⟩).memory :=
  laidMetH_of_parts3 (fuel := 8) (laidMet_of_run' 8 (by kernel_rfl) (by kernel_rfl)) (by kernel_rfl) (by kernel_rfl)

set_option maxRecDepth 100000 in
theorem lifted (os : Os) (started : os.Started) (H : Type) (enc : TypeId × Value → H) :
    ReturnsInHanded {} Tryd.checked os 3 .any (fun w args => (Rows.bytesetsOfSpec.pre enc Tryd.prog Tryd.f3 [] false w args ∧ laidMetH Tryd.prog Go.Proofs.YtpmlimdilajidaaDoor.Vm.Bs.lst w) ∧ sizedMet enc Tryd.prog Tryd.f3 (OpenSpec.ofChange Rows.bytesetsOfSpec) false w args) (Rows.bytesetsOfSpec.post enc Tryd.prog Tryd.f3 false true false false) := by
  refine returnsInHanded_of_change_and (C := Tryd.checked) (X := fun w _ => laidMetH Tryd.prog Go.Proofs.YtpmlimdilajidaaDoor.Vm.Bs.lst w) (fun _ _ _ hh h => h.of_heap hh) own started (by kernel_rfl) Tryd.func3
    (ChangeSpec.witness_shaped (enc := enc) (C := Tryd.checked) (os := os) (X := fun w _ => laidMetH Tryd.prog Go.Proofs.YtpmlimdilajidaaDoor.Vm.Bs.lst w) false (World.doorLaid Tryd.prog 14 os) #[.slice none 0 0, .int .u8 0, .int .u8 0, .int .u8 0] 20 rfl (World.shaped_of_RefB (by kernel_rfl) (by kernel_rfl)) (by kernel_rfl) (by kernel_rfl) (by kernel_rfl) (door_met os _)) ?_
  intro W base args ds gs before hval0 hW hcnd hsz0 hL _
  have hval : ∀ (j : Nat) t v, Tryd.f3.params[j]? = some t → args[j]? = some v → Value.okWide Tryd.prog W .any base t v := hval0
  have hW' := hW
  obtain ⟨p, q, hA0, hV, rfl, hfz, hnd⟩ := hW
  have hA : DataW.TrodAll enc Tryd.prog W 0 (fun _ => true) true Tryd.f3.params.toList args.toList ds p := hA0
  rw [Tryd.params3] at hA hval
  obtain ⟨v0, vs0, d0, ds0, p0, q0, hargs, rfl, rfl, h0, r0⟩ := trodAll_cons hA
  obtain ⟨v1, vs1, d1, ds1, p1, q1, rfl, rfl, rfl, h1, r1⟩ := trodAll_cons r0
  obtain ⟨v2, vs2, d2, ds2, p2, q2, rfl, rfl, rfl, h2, r2⟩ := trodAll_cons r1
  obtain ⟨v3, vs3, d3, ds3, p3, q3, rfl, rfl, rfl, h3, r3⟩ := trodAll_cons r2
  obtain ⟨rfl, rfl, rfl⟩ := trodAll_nil r3
  obtain rfl : args = #[v0, v1, v2, v3] := by cases args; simp_all
  obtain ⟨rfl, rfl⟩ := trodVars_none hV
  have lt0 : ∀ x ∈ p0, x.block < W.heap.size := by obtain ⟨m, hm⟩ := h0; exact DataW.trod_lt m _ _ _ hm
  obtain ⟨x0, k0, w0⟩ := arg_in (S := Go.Proofs.YtpmlimdilajidaaDoor.Vm.Bs.cx) (ty := (.slice 5 (.int .u8))) (Go.Proofs.YtpmlimdilajidaaDoor.Vm.Bs.tysT []) (t := 22) (by kernel_rfl) (by kernel_rfl) (hval 0 22 v0 rfl rfl) h0
  have lt1 : ∀ x ∈ p1, x.block < W.heap.size := by obtain ⟨m, hm⟩ := h1; exact DataW.trod_lt m _ _ _ hm
  obtain ⟨x1, k1, w1⟩ := arg_in (S := Go.Proofs.YtpmlimdilajidaaDoor.Vm.Bs.cx) (ty := (.int .u8)) (Go.Proofs.YtpmlimdilajidaaDoor.Vm.Bs.tysT []) (t := 5) (by kernel_rfl) (by kernel_rfl) (hval 1 5 v1 rfl rfl) h1
  have lt2 : ∀ x ∈ p2, x.block < W.heap.size := by obtain ⟨m, hm⟩ := h2; exact DataW.trod_lt m _ _ _ hm
  obtain ⟨x2, k2, w2⟩ := arg_in (S := Go.Proofs.YtpmlimdilajidaaDoor.Vm.Bs.cx) (ty := (.int .u8)) (Go.Proofs.YtpmlimdilajidaaDoor.Vm.Bs.tysT []) (t := 5) (by kernel_rfl) (by kernel_rfl) (hval 2 5 v2 rfl rfl) h2
  have lt3 : ∀ x ∈ p3, x.block < W.heap.size := by obtain ⟨m, hm⟩ := h3; exact DataW.trod_lt m _ _ _ hm
  obtain ⟨x3, k3, w3⟩ := arg_in (S := Go.Proofs.YtpmlimdilajidaaDoor.Vm.Bs.cx) (ty := (.int .u8)) (Go.Proofs.YtpmlimdilajidaaDoor.Vm.Bs.tysT []) (t := 5) (by kernel_rfl) (by kernel_rfl) (hval 3 5 v3 rfl rfl) h3
  clear hA0 hval0 hsz0
  have hr : Go.Proofs.YtpmlimdilajidaaDoor.Vm.Bs.F_law05_BytesetsOf.f (x0, (x1, (x2, (x3, ())))) = some (true, ()) := by rw [Go.Proofs.YtpmlimdilajidaaDoor.Vm.Bs.f_of]; exact Go.Proofs.YtpmlimdilajidaaDoor.Vm.Bs.ofLaw x0 x1 x2 x3 (Go.Proofs.YtpmlimdilajidaaDoor.Vm.Bs.by_of w0) (wf_u8 w1) (wf_u8 w2) (wf_u8 w3)
  refine (calls_true (hG := Go.Proofs.YtpmlimdilajidaaDoor.Vm.Bs.glob_of hL) (S := Go.Proofs.YtpmlimdilajidaaDoor.Vm.Bs.cx) (F := Go.Proofs.YtpmlimdilajidaaDoor.Vm.Bs.F_law05_BytesetsOf) (x := (x0, (x1, (x2, (x3, ()))))) Go.Proofs.YtpmlimdilajidaaDoor.Vm.Bs.ok_law05_BytesetsOf Tryd.func3 (by kernel_rfl) (by kernel_rfl) (vs := [v0, v1, v2, v3]) ⟨k0, ⟨k1, ⟨k2, ⟨k3, trivial⟩⟩⟩⟩ hr (fun v => v = .bool true) (fun v w' Z own h => ?_)).mono fun e W' ⟨v, he, hv, bel⟩ => ?_
  · obtain ⟨cs, h1, h2⟩ := h
    have h3 : cs = [.bool true] := Cx.R_bool.1 (OW_ro.1 h2)
    have h4 : cs = [v] := h1
    rw [h3] at h4; exact (List.cons.inj h4).1.symm
  subst he; subst hv
  exact ⟨_, rfl, _, _, _, [], _, [], hW', trodAll_mk1 (shut_bool Tryd.underlying4 _), (trodAll_cons_mk (Below.trod laidOut (by kernel_rfl) (of_decide_eq_true (by kernel_rfl)) h0 bel lt0) (trodAll_cons_mk (Below.trod laidOut (by kernel_rfl) (of_decide_eq_true (by kernel_rfl)) h1 bel lt1) (trodAll_cons_mk (Below.trod laidOut (by kernel_rfl) (of_decide_eq_true (by kernel_rfl)) h2 bel lt2) (trodAll_cons_mk (Below.trod laidOut (by kernel_rfl) (of_decide_eq_true (by kernel_rfl)) h3 bel lt3) trodAll_mk0)))), rfl, bel.frame _, fun h => by cases h⟩
theorem over : Rows.bytesetsOfRow.holds Tryd.pinned (OpenSpec.ofChange Rows.bytesetsOfSpec) :=
  OpenClaim.holds_of_wide 3 Tryd.f3 rfl rfl rfl rfl rfl rfl rfl ⟨rfl, rfl, rfl, rfl, rfl⟩ rfl rfl rfl rfl rfl (by kernel_rfl) Tryd.func3 (by kernel_rfl)
    (of_decide_eq_true (by kernel_rfl)) (by unfold Func.isWrapper; first | (rw [if_pos (by decide +kernel)]; kernel_rfl) | (rw [if_neg (by decide +kernel)]; exact ⟨rfl, rfl⟩))
    (fun os started H enc _ => lifted os started H enc)
end Go.Proofs.YtpmlimdilajidaaDoor.bytesetsOfRow
namespace Go.Proofs.YtpmlimdilajidaaDoor
theorem bytesetsOf_holds : Rows.BytesetsOfSaid := bytesetsOfRow.over
theorem bytesetsOf_card : Rows.BytesetsOfCardSaid :=
  Claim7.holds_tied_plain_at .later [] [.data] true (true, "5a92e8d31bb02c82c805e00c41c143c6d86d1705518cdd1430f8dc42d7b768a7") false
    bytesetsOf_holds (fun _ h => by cases h) (by kernel_rfl) (fun _ h => by cases h) bytesetsOf_row_tie rfl ⟨rfl, rfl⟩ (by kernel_rfl) rfl
    (fun f fn hf hfn => by
      obtain rfl : f = 3 := Option.some.inj ((show Tryd.prog.funcNamed "pleacher/pleacherlaw05.BytesetsOf" = some 3 by kernel_rfl).symm.trans hf) |>.symm
      obtain rfl : fn = Tryd.f3 := (Option.some.inj (Tryd.func3.symm.trans hfn)).symm
      exact ⟨by kernel_rfl, fun j t ht => by
        rw [Tryd.params3] at ht
        have hm : t ∈ [22, 5, 5, 5] := by simpa using Array.mem_of_getElem? ht
        have hall : ([22, 5, 5, 5].all fun u => !Tryd.prog.wantsStandIn u) = true := by kernel_rfl
        exact (show Tryd.prog.wantsStandIn t = false by simpa using List.all_eq_true.1 hall t hm)⟩)
    (by kernel_rfl)
#print axioms bytesetsOf_holds
#print axioms bytesetsOf_card
end Go.Proofs.YtpmlimdilajidaaDoor
