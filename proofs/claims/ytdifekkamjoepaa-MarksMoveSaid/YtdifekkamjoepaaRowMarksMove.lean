/- MarksMove: for every input the law returns true, and each argument reads behind the call as it read before. No condition. -/
import Derived.Test.YtdifekkamjoepaaRows
import Derived.Test.YtdifekkamjoepaaVm2
import Derived.Test.YtdifekkamjoepaaLawMarks
/- MarksMove: for every input the law returns true, and each argument reads behind the call as it read before. No condition. -/
namespace Go.Proofs.Ytdifekkamjoepaa.marksMoveRow
open Go Go.Proofs.Ytdifekkamjoepaa.Vm Go.ChangeShapes Go.WideShapes Go.ChangeAt Go.RowKit
set_option linter.unusedVariables false
theorem own : ownKnob Try.prog.godebug = none := by kernel_rfl
theorem laidOut : laidOutB Try.prog = true := by kernel_rfl
set_option maxRecDepth 100000 in
theorem lifted (os : Os) (started : os.Started) (H : Type) (enc : TypeId × Value → H) :
    ReturnsInHanded {} Try.checked os 4 .any (Rows.marksMoveSpec.pre6 enc Try.prog Try.f4 Rows.marksMoveRow.domain false) (Rows.marksMoveSpec.post enc Try.prog Try.f4 false true false false) := by
  refine returnsInHanded_of_change_sized (C := Try.checked) own started (by kernel_rfl) Try.func4
    (ChangeSpec.witness6 (enc := enc) (C := Try.checked) false ⟨#[], #[.string ByteArray.empty, (((Try.prog.info? 30).bind (·.zero)).getD (.bool false)), .slice none 0 0], []⟩ 20 (by kernel_rfl) (by kernel_rfl) (by kernel_rfl) (by kernel_rfl)) ?_
  intro W base args ds gs before hval0 hW hcnd hsz0 _
  have hval : ∀ (j : Nat) t v, Try.f4.params[j]? = some t → args[j]? = some v → Value.okWide Try.prog W .any base t v := hval0
  have hW' := hW
  obtain ⟨p, q, hA0, hV, rfl, hfz, hnd⟩ := hW
  have hA : DataW.TrodAll enc Try.prog W 0 (fun _ => true) true Try.f4.params.toList args.toList ds p := hA0
  rw [Try.params4] at hA hval
  obtain ⟨v0, vs0, d0, ds0, p0, q0, hargs, rfl, rfl, h0, r0⟩ := trodAll_cons hA
  obtain ⟨v1, vs1, d1, ds1, p1, q1, rfl, rfl, rfl, h1, r1⟩ := trodAll_cons r0
  obtain ⟨v2, vs2, d2, ds2, p2, q2, rfl, rfl, rfl, h2, r2⟩ := trodAll_cons r1
  obtain ⟨rfl, rfl, rfl⟩ := trodAll_nil r2
  obtain rfl : args = #[v0, v1, v2] := by cases args; simp_all
  obtain ⟨rfl, rfl⟩ := trodVars_none hV
  have lt0 : ∀ x ∈ p0, x.block < W.heap.size := by obtain ⟨m, hm⟩ := h0; exact DataW.trod_lt m _ _ _ hm
  obtain ⟨x0, k0, w0⟩ := arg_in (S := Go.Proofs.Ytdifekkamjoepaa.Vm.Rp.cx) (ty := .str) (Go.Proofs.Ytdifekkamjoepaa.Vm.Rp.tysT []) (t := 9) (by kernel_rfl) (by kernel_rfl) (hval 0 9 v0 rfl rfl) h0
  have lt1 : ∀ x ∈ p1, x.block < W.heap.size := by obtain ⟨m, hm⟩ := h1; exact DataW.trod_lt m _ _ _ hm
  obtain ⟨x1, k1, w1⟩ := arg_in (S := Go.Proofs.Ytdifekkamjoepaa.Vm.Rp.cx) (ty := (.agg (.pair (.int .i64) (.pair (.slice 9 .str) (.pair (.slice 3 (.int .i64)) (.slice 33 (.agg (.pair (.int .i64) (.int .i64))))))))) (Go.Proofs.Ytdifekkamjoepaa.Vm.Rp.tysT []) (t := 30) (by kernel_rfl) (by kernel_rfl) (hval 1 30 v1 rfl rfl) h1
  have lt2 : ∀ x ∈ p2, x.block < W.heap.size := by obtain ⟨m, hm⟩ := h2; exact DataW.trod_lt m _ _ _ hm
  obtain ⟨x2, k2, w2⟩ := arg_in (S := Go.Proofs.Ytdifekkamjoepaa.Vm.Rp.cx) (ty := (.slice 41 (.agg (.pair (.int .i64) (.pair (.int .i64) .str))))) (Go.Proofs.Ytdifekkamjoepaa.Vm.Rp.tysT []) (t := 22) (by kernel_rfl) (by kernel_rfl) (hval 2 22 v2 rfl rfl) h2
  clear hA0 hval0 hsz0
  have hr : Go.Proofs.Ytdifekkamjoepaa.Vm.Rp.F_law25_MarksMove.f (x0, (x1, (x2, ()))) = some (true, ()) := Go.Proofs.Ytdifekkamjoepaa.Vm.Rp.moveLaw x0 x1 x2
  refine (calls_true (S := Go.Proofs.Ytdifekkamjoepaa.Vm.Rp.cx) (F := Go.Proofs.Ytdifekkamjoepaa.Vm.Rp.F_law25_MarksMove) (x := (x0, (x1, (x2, ())))) Go.Proofs.Ytdifekkamjoepaa.Vm.Rp.ok_law25_MarksMove Try.func4 (by kernel_rfl) (by kernel_rfl) (vs := [v0, v1, v2]) ⟨k0, ⟨k1, ⟨k2, trivial⟩⟩⟩ hr (fun v => v = .bool true) (fun v w' Z own h => ?_)).mono fun e W' ⟨v, he, hv, bel⟩ => ?_
  · obtain ⟨cs, h1, h2⟩ := h
    have h3 : cs = [.bool true] := Cx.R_bool.1 (OW_ro.1 h2)
    have h4 : cs = [v] := h1
    rw [h3] at h4; exact (List.cons.inj h4).1.symm
  subst he; subst hv
  exact ⟨_, rfl, _, _, _, [], _, [], hW', trodAll_mk1 (shut_bool Try.underlying4 _), (trodAll_cons_mk (Below.trod laidOut (by kernel_rfl) (of_decide_eq_true (by kernel_rfl)) h0 bel lt0) (trodAll_cons_mk (Below.trod laidOut (by kernel_rfl) (of_decide_eq_true (by kernel_rfl)) h1 bel lt1) (trodAll_cons_mk (Below.trod laidOut (by kernel_rfl) (of_decide_eq_true (by kernel_rfl)) h2 bel lt2) trodAll_mk0))), rfl, bel.frame _, fun h => by cases h⟩
theorem over : Rows.marksMoveRow.holds Try.pinned (OpenSpec.ofChange Rows.marksMoveSpec) :=
  OpenClaim.holds_of_wide 4 Try.f4 rfl rfl rfl rfl rfl rfl rfl ⟨rfl, rfl, rfl, rfl, rfl⟩ rfl rfl rfl rfl rfl (by kernel_rfl) Try.func4 (by kernel_rfl)
    (of_decide_eq_true (by kernel_rfl)) (by unfold Func.isWrapper; first | (rw [if_pos (by decide +kernel)]; kernel_rfl) | (rw [if_neg (by decide +kernel)]; exact ⟨rfl, rfl⟩))
    (fun os started H enc _ => lifted os started H enc)
end Go.Proofs.Ytdifekkamjoepaa.marksMoveRow
namespace Go.Proofs.Ytdifekkamjoepaa
theorem marksMove_holds : Rows.MarksMoveSaid := marksMoveRow.over
#print axioms marksMove_holds
end Go.Proofs.Ytdifekkamjoepaa
