/- RegexTexts: for every input the law returns true, and each argument reads behind the call as it read before. No condition. -/
import Derived.Test.YtndffgpoljojaaaRows
import Derived.Test.YtndffgpoljojaaaVm3
import Derived.Test.YtndffgpoljojaaaLaw
/- RegexTexts: for every input the law returns true, and each argument reads behind the call as it read before. No condition. -/
namespace Go.Proofs.Ytndffgpoljojaaa.regexTextsRow
open Go Go.Proofs.Ytndffgpoljojaaa.Vm Go.ChangeShapes Go.WideShapes Go.ChangeAt Go.RowKit
set_option linter.unusedVariables false
theorem own : ownKnob Try.prog.godebug = none := by kernel_rfl
theorem laidOut : laidOutB Try.prog = true := by kernel_rfl
set_option maxRecDepth 100000 in
theorem lifted (os : Os) (started : os.Started) (H : Type) (enc : TypeId × Value → H) :
    ReturnsInHanded {} Try.checked os 3 .any (Rows.regexTextsSpec.pre6 enc Try.prog Try.f3 Rows.regexTextsRow.domain false) (Rows.regexTextsSpec.post enc Try.prog Try.f3 false true false false) := by
  refine returnsInHanded_of_change_sized (C := Try.checked) own started (by kernel_rfl) Try.func3
    (ChangeSpec.witness6 (enc := enc) (C := Try.checked) false ⟨#[], #[.string ByteArray.empty, .string ByteArray.empty], []⟩ 20 (by kernel_rfl) (by kernel_rfl) (by kernel_rfl) (by kernel_rfl)) ?_
  intro W base args ds gs before hval0 hW hcnd hsz0 _
  have hval : ∀ (j : Nat) t v, Try.f3.params[j]? = some t → args[j]? = some v → Value.okWide Try.prog W .any base t v := hval0
  have hW' := hW
  obtain ⟨p, q, hA0, hV, rfl, hfz, hnd⟩ := hW
  have hA : DataW.TrodAll enc Try.prog W 0 (fun _ => true) true Try.f3.params.toList args.toList ds p := hA0
  rw [Try.params3] at hA hval
  obtain ⟨v0, vs0, d0, ds0, p0, q0, hargs, rfl, rfl, h0, r0⟩ := trodAll_cons hA
  obtain ⟨v1, vs1, d1, ds1, p1, q1, rfl, rfl, rfl, h1, r1⟩ := trodAll_cons r0
  obtain ⟨rfl, rfl, rfl⟩ := trodAll_nil r1
  obtain rfl : args = #[v0, v1] := by cases args; simp_all
  obtain ⟨rfl, rfl⟩ := trodVars_none hV
  have lt0 : ∀ x ∈ p0, x.block < W.heap.size := by obtain ⟨m, hm⟩ := h0; exact DataW.trod_lt m _ _ _ hm
  obtain ⟨x0, k0, w0⟩ := arg_in (S := Go.Proofs.Ytndffgpoljojaaa.Vm.Rx.cx) (ty := .str) (Go.Proofs.Ytndffgpoljojaaa.Vm.Rx.tysT [] false 0) (t := 9) (by kernel_rfl) (by kernel_rfl) (hval 0 9 v0 rfl rfl) h0
  have lt1 : ∀ x ∈ p1, x.block < W.heap.size := by obtain ⟨m, hm⟩ := h1; exact DataW.trod_lt m _ _ _ hm
  obtain ⟨x1, k1, w1⟩ := arg_in (S := Go.Proofs.Ytndffgpoljojaaa.Vm.Rx.cx) (ty := .str) (Go.Proofs.Ytndffgpoljojaaa.Vm.Rx.tysT [] false 0) (t := 9) (by kernel_rfl) (by kernel_rfl) (hval 1 9 v1 rfl rfl) h1
  clear hA0 hval0 hsz0
  have hr : Go.Proofs.Ytndffgpoljojaaa.Vm.Rx.F_law06_RegexTexts.f (x0, (x1, ())) = some (true, ()) := (congrFun Go.Proofs.Ytndffgpoljojaaa.Vm.Rx.F_texts _).trans (Go.Proofs.Ytndffgpoljojaaa.Vm.Rx.textsLaw x0 x1)
  refine (calls_true (S := Go.Proofs.Ytndffgpoljojaaa.Vm.Rx.cx) (F := Go.Proofs.Ytndffgpoljojaaa.Vm.Rx.F_law06_RegexTexts) (x := (x0, (x1, ()))) Go.Proofs.Ytndffgpoljojaaa.Vm.Rx.ok_law06_RegexTexts Try.func3 (by kernel_rfl) (by kernel_rfl) (vs := [v0, v1]) ⟨k0, ⟨k1, trivial⟩⟩ hr (fun v => v = .bool true) (fun v w' Z own h => ?_)).mono fun e W' ⟨v, he, hv, bel⟩ => ?_
  · obtain ⟨cs, h1, h2⟩ := h
    have h3 : cs = [.bool true] := Cx.R_bool.1 (OW_ro.1 h2)
    have h4 : cs = [v] := h1
    rw [h3] at h4; exact (List.cons.inj h4).1.symm
  subst he; subst hv
  exact ⟨_, rfl, _, _, _, [], _, [], hW', trodAll_mk1 (shut_bool Try.underlying4 _), (trodAll_cons_mk (Below.trod laidOut (by kernel_rfl) (of_decide_eq_true (by kernel_rfl)) h0 bel lt0) (trodAll_cons_mk (Below.trod laidOut (by kernel_rfl) (of_decide_eq_true (by kernel_rfl)) h1 bel lt1) trodAll_mk0)), rfl, bel.frame _, fun h => by cases h⟩
theorem over : Rows.regexTextsRow.holds Try.pinned (OpenSpec.ofChange Rows.regexTextsSpec) :=
  OpenClaim.holds_of_wide 3 Try.f3 rfl rfl rfl rfl rfl rfl rfl ⟨rfl, rfl, rfl, rfl, rfl⟩ rfl rfl rfl rfl rfl (by kernel_rfl) Try.func3 (by kernel_rfl)
    (of_decide_eq_true (by kernel_rfl)) (by unfold Func.isWrapper; first | (rw [if_pos (by decide +kernel)]; kernel_rfl) | (rw [if_neg (by decide +kernel)]; exact ⟨rfl, rfl⟩))
    (fun os started H enc _ => lifted os started H enc)
end Go.Proofs.Ytndffgpoljojaaa.regexTextsRow
namespace Go.Proofs.Ytndffgpoljojaaa
theorem regexTexts_holds : Rows.RegexTextsSaid := regexTextsRow.over
#print axioms regexTexts_holds
end Go.Proofs.Ytndffgpoljojaaa
