/- TreeSpans: where what the arguments hold is of bulk at most 1048576 the law returns true, and each argument reads behind the call as it read before. -/
import Derived.Test.YtdnkjfmneppkoaaRows
import Derived.Test.YtdnkjfmneppkoaaVm3
import Derived.Test.YtdnkjfmneppkoaaLaw
/- TreeSpans: where what it reads is of bulk at most 1048576 the law returns true, and each argument reads behind the call as it read before. -/
namespace Go.Proofs.Ytdnkjfmneppkoaa.treeSpansRow
open Go Go.Proofs.Ytdnkjfmneppkoaa.Vm Go.ChangeShapes Go.WideShapes Go.ChangeAt Go.RowKit
set_option linter.unusedVariables false
theorem own : ownKnob Try.prog.godebug = none := by kernel_rfl
theorem laidOut : laidOutB Try.prog = true := by kernel_rfl
theorem sum_eq {H : Type} : ∀ l : List (DataW H), (l.map Rows.uptoBulk).sum = Rows.uptoBulkAll l
  | [] => by simp [Rows.uptoBulkAll]
  | d :: l => by rw [List.map_cons, List.sum_cons, sum_eq l]; simp only [Rows.uptoBulkAll]
theorem one_le {H : Type} (d : DataW H) : 1 ≤ Rows.uptoBulk d := by
  cases d with
  | lit l => cases l <;> simp [Rows.uptoBulk]
  | _ => simp [Rows.uptoBulk]
def UB (H : Type) : Ub H := { f := Rows.uptoBulk, str := fun s => by simp [Rows.uptoBulk], one := one_le, slice := fun es sp => by rw [sum_eq]; simp only [Rows.uptoBulk]; omega, agg := fun ps => by rw [sum_eq]; simp [Rows.uptoBulk] }
set_option maxRecDepth 100000 in
theorem contract (H : Type) (enc : TypeId × Value → H) (W : World) (base : Nat) (args : Array Value) (ds gs : List (DataW H)) (before : List MemPlace)
    (hval0 : ∀ (j : Nat) t v, Try.f5.params[j]? = some t → args[j]? = some v → Value.okWide Try.prog W .any base t v)
    (hW : DataW.Whole enc Try.prog Try.f5.params.toList Rows.treeSpansSpec.vars false W args.toList ds gs before) (hk : Rows.uptoSmall H (ds ++ gs) = true) :
    Calls Try.prog 5 args W fun e W' => ∃ v, e = .returned v ∧ Rows.treeSpansSpec.post enc Try.prog Try.f5 false true false false W args v W' := by
  have hval : ∀ (j : Nat) t v, Try.f5.params[j]? = some t → args[j]? = some v → Value.okWide Try.prog W .any base t v := hval0
  have hW' := hW
  obtain ⟨p, q, hA0, hV, rfl, hfz, hnd⟩ := hW
  have hA : DataW.TrodAll enc Try.prog W 0 (fun _ => true) true Try.f5.params.toList args.toList ds p := hA0
  rw [Try.params5] at hA hval
  obtain ⟨v0, vs0, d0, ds0, p0, q0, hargs, rfl, rfl, h0, r0⟩ := trodAll_cons hA
  obtain ⟨v1, vs1, d1, ds1, p1, q1, rfl, rfl, rfl, h1, r1⟩ := trodAll_cons r0
  obtain ⟨v2, vs2, d2, ds2, p2, q2, rfl, rfl, rfl, h2, r2⟩ := trodAll_cons r1
  obtain ⟨rfl, rfl, rfl⟩ := trodAll_nil r2
  obtain rfl : args = #[v0, v1, v2] := by cases args; simp_all
  obtain ⟨rfl, rfl⟩ := trodVars_none hV
  unfold Rows.uptoSmall at hk
  have hb := of_decide_eq_true hk
  simp only [List.append_nil, Rows.uptoBulkAll] at hb
  have lt0 : ∀ x ∈ p0, x.block < W.heap.size := by obtain ⟨m, hm⟩ := h0; exact DataW.trod_lt m _ _ _ hm
  obtain ⟨x0, k0, w0, b0⟩ := arg_in2 (S := Go.Proofs.Ytdnkjfmneppkoaa.Vm.Tr.cx) (N := Go.Proofs.Ytdnkjfmneppkoaa.Vm.Tr.NB) (u := UB H) (ty := Go.Proofs.Ytdnkjfmneppkoaa.Vm.Tr.ty0) (Go.Proofs.Ytdnkjfmneppkoaa.Vm.Tr.tysT [] false 0) Go.Proofs.Ytdnkjfmneppkoaa.Vm.Tr.NBok (t := 27) (by kernel_rfl) (by kernel_rfl) (hval 0 27 v0 rfl rfl) h0
  have c0 : bulkT Go.Proofs.Ytdnkjfmneppkoaa.Vm.Tr.NB Go.Proofs.Ytdnkjfmneppkoaa.Vm.Tr.ty0 x0 ≤ 1048576 := Nat.le_trans b0 (show Rows.uptoBulk d0 ≤ 1048576 by omega)
  have lt1 : ∀ x ∈ p1, x.block < W.heap.size := by obtain ⟨m, hm⟩ := h1; exact DataW.trod_lt m _ _ _ hm
  obtain ⟨x1, k1, w1, b1⟩ := arg_in2 (S := Go.Proofs.Ytdnkjfmneppkoaa.Vm.Tr.cx) (N := Go.Proofs.Ytdnkjfmneppkoaa.Vm.Tr.NB) (u := UB H) (ty := (.slice 5 (.int .u8))) (Go.Proofs.Ytdnkjfmneppkoaa.Vm.Tr.tysT [] false 0) Go.Proofs.Ytdnkjfmneppkoaa.Vm.Tr.NBok (t := 28) (by kernel_rfl) (by kernel_rfl) (hval 1 28 v1 rfl rfl) h1
  have c1 : bulkT Go.Proofs.Ytdnkjfmneppkoaa.Vm.Tr.NB (.slice 5 (.int .u8)) x1 ≤ 1048576 := Nat.le_trans b1 (show Rows.uptoBulk d1 ≤ 1048576 by omega)
  have lt2 : ∀ x ∈ p2, x.block < W.heap.size := by obtain ⟨m, hm⟩ := h2; exact DataW.trod_lt m _ _ _ hm
  obtain ⟨x2, k2, w2, b2⟩ := arg_in2 (S := Go.Proofs.Ytdnkjfmneppkoaa.Vm.Tr.cx) (N := Go.Proofs.Ytdnkjfmneppkoaa.Vm.Tr.NB) (u := UB H) (ty := (.slice 3 (.int .i64))) (Go.Proofs.Ytdnkjfmneppkoaa.Vm.Tr.tysT [] false 0) Go.Proofs.Ytdnkjfmneppkoaa.Vm.Tr.NBok (t := 24) (by kernel_rfl) (by kernel_rfl) (hval 2 24 v2 rfl rfl) h2
  have c2 : bulkT Go.Proofs.Ytdnkjfmneppkoaa.Vm.Tr.NB (.slice 3 (.int .i64)) x2 ≤ 1048576 := Nat.le_trans b2 (show Rows.uptoBulk d2 ≤ 1048576 by omega)
  clear hA0 hval0
  have hr : Go.Proofs.Ytdnkjfmneppkoaa.Vm.Tr.F_law15_TreeSpans.f (x0, (x1, (x2, ()))) = some (true, ()) := (congrFun Go.Proofs.Ytdnkjfmneppkoaa.Vm.Tr.F_spans _).trans (Go.Proofs.Ytdnkjfmneppkoaa.Vm.Tr.spansLaw x0 x1 x2 (Go.Proofs.Ytdnkjfmneppkoaa.Vm.Tr.bts_of w1) (Go.Proofs.Ytdnkjfmneppkoaa.Vm.Tr.len_of c1))
  refine (calls_true (S := Go.Proofs.Ytdnkjfmneppkoaa.Vm.Tr.cx) (F := Go.Proofs.Ytdnkjfmneppkoaa.Vm.Tr.F_law15_TreeSpans) (x := (x0, (x1, (x2, ())))) Go.Proofs.Ytdnkjfmneppkoaa.Vm.Tr.ok_law15_TreeSpans Try.func5 (by kernel_rfl) (by kernel_rfl) (vs := [v0, v1, v2]) ⟨k0, ⟨k1, ⟨k2, trivial⟩⟩⟩ hr (fun v => v = .bool true) (fun v w' Z own h => ?_)).mono fun e W' ⟨v, he, hv, bel⟩ => ?_
  · obtain ⟨cs, h1, h2⟩ := h
    have h3 : cs = [.bool true] := Cx.R_bool.1 (OW_ro.1 h2)
    have h4 : cs = [v] := h1
    rw [h3] at h4; exact (List.cons.inj h4).1.symm
  subst he; subst hv
  exact ⟨_, rfl, _, _, _, [], _, [], hW', trodAll_mk1 (shut_bool Try.underlying4 _), (trodAll_cons_mk (Below.trod laidOut (by kernel_rfl) (of_decide_eq_true (by kernel_rfl)) h0 bel lt0) (trodAll_cons_mk (Below.trod laidOut (by kernel_rfl) (of_decide_eq_true (by kernel_rfl)) h1 bel lt1) (trodAll_cons_mk (Below.trod laidOut (by kernel_rfl) (of_decide_eq_true (by kernel_rfl)) h2 bel lt2) trodAll_mk0))), rfl, bel.frame _, fun h => by cases h⟩
set_option maxRecDepth 100000 in
theorem lifted (os : Os) (started : os.Started) (H : Type) (enc : TypeId × Value → H) (F : Stop.Interp) :
    ReturnsInHanded {} Try.checked os 5 .any ((Rows.OpenSpec.upto Rows.treeSpansSpec).pre6 enc Try.prog Try.f5 Rows.treeSpansUptoRow.domain false) (((Rows.OpenSpec.upto Rows.treeSpansSpec).at F).post enc Try.prog Try.f5 false true false false) := by
  refine returnsInHanded_of_cond (C := Try.checked) (s := (Rows.OpenSpec.upto Rows.treeSpansSpec)) (k := Rows.uptoSmall) rfl own started (by kernel_rfl) Try.func5
    (OpenSpec.witness (enc := enc) (C := Try.checked) (s := (Rows.OpenSpec.upto Rows.treeSpansSpec)) (k := Rows.uptoSmall) rfl false ⟨#[], #[.agg #[.slice none 0 0, .int .i64 0, .int .i64 0, .slice none 0 0, .slice none 0 0, .slice none 0 0, .slice none 0 0, .slice none 0 0, .slice none 0 0], .slice none 0 0, .slice none 0 0], []⟩ 20 (by kernel_rfl) (by kernel_rfl) (by kernel_rfl)
      (x := ([.agg [.nil, .lit (.int .i64 0), .lit (.int .i64 0), .nil, .nil, .nil, .nil, .nil, .nil], .nil, .nil], [], [])) (by kernel_rfl) rfl (by kernel_rfl)) ?_
  intro W base args ds gs before hval hW _ hk _
  exact contract H enc W base args ds gs before hval hW hk
theorem over : Rows.treeSpansUptoRow.holds Try.pinned (Rows.OpenSpec.upto Rows.treeSpansSpec) :=
  OpenClaim.holds_of_cond 5 Try.f5 rfl rfl rfl rfl rfl rfl rfl ⟨rfl, rfl, rfl, rfl, rfl⟩ rfl rfl rfl rfl rfl (by kernel_rfl) Try.func5 (by kernel_rfl)
    (of_decide_eq_true (by kernel_rfl)) (by unfold Func.isWrapper; first | (rw [if_pos (by decide +kernel)]; kernel_rfl) | (rw [if_neg (by decide +kernel)]; exact ⟨rfl, rfl⟩))
    (fun os started H enc _ F => lifted os started H enc F)
end Go.Proofs.Ytdnkjfmneppkoaa.treeSpansRow
namespace Go.Proofs.Ytdnkjfmneppkoaa
theorem treeSpansUpto_holds : Rows.TreeSpansUptoSaid := treeSpansRow.over
#print axioms treeSpansUpto_holds
end Go.Proofs.Ytdnkjfmneppkoaa
