/- TreePuts: where what the arguments hold is of bulk at most 1048576 the law returns true, and each argument reads behind the call as it read before. -/
import Derived.Test.YtdnkjfmneppkoaaRows
import Derived.Test.YtdnkjfmneppkoaaVm3
import Derived.Test.YtdnkjfmneppkoaaLaw
/- TreePuts: where what it reads is of bulk at most 1048576 the law returns true, and each argument reads behind the call as it read before. -/
namespace Go.Proofs.Ytdnkjfmneppkoaa.treePutsRow
open Go Go.Proofs.Ytdnkjfmneppkoaa.Vm Go.ChangeShapes Go.WideShapes Go.ChangeAt Go.RowKit
set_option linter.unusedVariables false
theorem own : ownKnob Try.prog.godebug = none := by kernel_rfl
theorem laidOut : laidOutB Try.prog = true := by kernel_rfl
theorem sum_eq {H : Type} : ∀ l : List (DataW H), (l.map Rows.uptoBulk).sum = Rows.uptoBulkAll l
  | [] => by simp [Rows.uptoBulkAll]
  | d :: l => by rw [List.map_cons, List.sum_cons, sum_eq l]; simp only [Rows.uptoBulkAll]
theorem one_le {H : Type} (d : DataW H) : 1 ≤ Rows.uptoBulk d := by
  cases d with
  | lit l => cases l <;> simp [Rows.uptoBulk]
  | _ => simp [Rows.uptoBulk]
def UB (H : Type) : Ub H := { f := Rows.uptoBulk, str := fun s => by simp [Rows.uptoBulk], one := one_le, slice := fun es sp => by rw [sum_eq]; simp only [Rows.uptoBulk]; omega, agg := fun ps => by rw [sum_eq]; simp [Rows.uptoBulk] }
set_option maxRecDepth 100000 in
theorem contract (H : Type) (enc : TypeId × Value → H) (W : World) (base : Nat) (args : Array Value) (ds gs : List (DataW H)) (before : List MemPlace)
    (hval0 : ∀ (j : Nat) t v, Try.f6.params[j]? = some t → args[j]? = some v → Value.okWide Try.prog W .any base t v)
    (hW : DataW.Whole enc Try.prog Try.f6.params.toList Rows.treePutsSpec.vars false W args.toList ds gs before) (hk : Rows.uptoSmall H (ds ++ gs) = true) :
    Calls Try.prog 6 args W fun e W' => ∃ v, e = .returned v ∧ Rows.treePutsSpec.post enc Try.prog Try.f6 false true false false W args v W' := by
  have hval : ∀ (j : Nat) t v, Try.f6.params[j]? = some t → args[j]? = some v → Value.okWide Try.prog W .any base t v := hval0
  have hW' := hW
  obtain ⟨p, q, hA0, hV, rfl, hfz, hnd⟩ := hW
  have hA : DataW.TrodAll enc Try.prog W 0 (fun _ => true) true Try.f6.params.toList args.toList ds p := hA0
  rw [Try.params6] at hA hval
  obtain ⟨v0, vs0, d0, ds0, p0, q0, hargs, rfl, rfl, h0, r0⟩ := trodAll_cons hA
  obtain ⟨v1, vs1, d1, ds1, p1, q1, rfl, rfl, rfl, h1, r1⟩ := trodAll_cons r0
  obtain ⟨v2, vs2, d2, ds2, p2, q2, rfl, rfl, rfl, h2, r2⟩ := trodAll_cons r1
  obtain ⟨v3, vs3, d3, ds3, p3, q3, rfl, rfl, rfl, h3, r3⟩ := trodAll_cons r2
  obtain ⟨rfl, rfl, rfl⟩ := trodAll_nil r3
  obtain rfl : args = #[v0, v1, v2, v3] := by cases args; simp_all
  obtain ⟨rfl, rfl⟩ := trodVars_none hV
  unfold Rows.uptoSmall at hk
  have hb := of_decide_eq_true hk
  simp only [List.append_nil, Rows.uptoBulkAll] at hb
  have lt0 : ∀ x ∈ p0, x.block < W.heap.size := by obtain ⟨m, hm⟩ := h0; exact DataW.trod_lt m _ _ _ hm
  obtain ⟨x0, k0, w0, b0⟩ := arg_in2 (S := Go.Proofs.Ytdnkjfmneppkoaa.Vm.Tr.cx) (N := Go.Proofs.Ytdnkjfmneppkoaa.Vm.Tr.NB) (u := UB H) (ty := Go.Proofs.Ytdnkjfmneppkoaa.Vm.Tr.ty2) (Go.Proofs.Ytdnkjfmneppkoaa.Vm.Tr.tysT [] false 0) Go.Proofs.Ytdnkjfmneppkoaa.Vm.Tr.NBok (t := 51) (by kernel_rfl) (by kernel_rfl) (hval 0 51 v0 rfl rfl) h0
  have c0 : bulkT Go.Proofs.Ytdnkjfmneppkoaa.Vm.Tr.NB Go.Proofs.Ytdnkjfmneppkoaa.Vm.Tr.ty2 x0 ≤ 1048576 := Nat.le_trans b0 (show Rows.uptoBulk d0 ≤ 1048576 by omega)
  have lt1 : ∀ x ∈ p1, x.block < W.heap.size := by obtain ⟨m, hm⟩ := h1; exact DataW.trod_lt m _ _ _ hm
  obtain ⟨x1, k1, w1, b1⟩ := arg_in2 (S := Go.Proofs.Ytdnkjfmneppkoaa.Vm.Tr.cx) (N := Go.Proofs.Ytdnkjfmneppkoaa.Vm.Tr.NB) (u := UB H) (ty := (.slice 3 (.int .i64))) (Go.Proofs.Ytdnkjfmneppkoaa.Vm.Tr.tysT [] false 0) Go.Proofs.Ytdnkjfmneppkoaa.Vm.Tr.NBok (t := 24) (by kernel_rfl) (by kernel_rfl) (hval 1 24 v1 rfl rfl) h1
  have c1 : bulkT Go.Proofs.Ytdnkjfmneppkoaa.Vm.Tr.NB (.slice 3 (.int .i64)) x1 ≤ 1048576 := Nat.le_trans b1 (show Rows.uptoBulk d1 ≤ 1048576 by omega)
  have lt2 : ∀ x ∈ p2, x.block < W.heap.size := by obtain ⟨m, hm⟩ := h2; exact DataW.trod_lt m _ _ _ hm
  obtain ⟨x2, k2, w2, b2⟩ := arg_in2 (S := Go.Proofs.Ytdnkjfmneppkoaa.Vm.Tr.cx) (N := Go.Proofs.Ytdnkjfmneppkoaa.Vm.Tr.NB) (u := UB H) (ty := (.slice 3 (.int .i64))) (Go.Proofs.Ytdnkjfmneppkoaa.Vm.Tr.tysT [] false 0) Go.Proofs.Ytdnkjfmneppkoaa.Vm.Tr.NBok (t := 24) (by kernel_rfl) (by kernel_rfl) (hval 2 24 v2 rfl rfl) h2
  have c2 : bulkT Go.Proofs.Ytdnkjfmneppkoaa.Vm.Tr.NB (.slice 3 (.int .i64)) x2 ≤ 1048576 := Nat.le_trans b2 (show Rows.uptoBulk d2 ≤ 1048576 by omega)
  have lt3 : ∀ x ∈ p3, x.block < W.heap.size := by obtain ⟨m, hm⟩ := h3; exact DataW.trod_lt m _ _ _ hm
  obtain ⟨x3, k3, w3, b3⟩ := arg_in2 (S := Go.Proofs.Ytdnkjfmneppkoaa.Vm.Tr.cx) (N := Go.Proofs.Ytdnkjfmneppkoaa.Vm.Tr.NB) (u := UB H) (ty := Go.Proofs.Ytdnkjfmneppkoaa.Vm.Tr.ty2) (Go.Proofs.Ytdnkjfmneppkoaa.Vm.Tr.tysT [] false 0) Go.Proofs.Ytdnkjfmneppkoaa.Vm.Tr.NBok (t := 51) (by kernel_rfl) (by kernel_rfl) (hval 3 51 v3 rfl rfl) h3
  have c3 : bulkT Go.Proofs.Ytdnkjfmneppkoaa.Vm.Tr.NB Go.Proofs.Ytdnkjfmneppkoaa.Vm.Tr.ty2 x3 ≤ 1048576 := Nat.le_trans b3 (show Rows.uptoBulk d3 ≤ 1048576 by omega)
  clear hA0 hval0
  have hr : Go.Proofs.Ytdnkjfmneppkoaa.Vm.Tr.F_law15_TreePuts.f (x0, (x1, (x2, (x3, ())))) = some (true, ()) := (congrFun Go.Proofs.Ytdnkjfmneppkoaa.Vm.Tr.F_puts _).trans (Go.Proofs.Ytdnkjfmneppkoaa.Vm.Tr.putsLaw x0 x3 x1 x2 (Nat.le_trans (Go.Proofs.Ytdnkjfmneppkoaa.Vm.Tr.bulk0 x0) c0) (Nat.le_trans (Go.Proofs.Ytdnkjfmneppkoaa.Vm.Tr.bulk0 x3) c3))
  refine (calls_true (S := Go.Proofs.Ytdnkjfmneppkoaa.Vm.Tr.cx) (F := Go.Proofs.Ytdnkjfmneppkoaa.Vm.Tr.F_law15_TreePuts) (x := (x0, (x1, (x2, (x3, ()))))) Go.Proofs.Ytdnkjfmneppkoaa.Vm.Tr.ok_law15_TreePuts Try.func6 (by kernel_rfl) (by kernel_rfl) (vs := [v0, v1, v2, v3]) ⟨k0, ⟨k1, ⟨k2, ⟨k3, trivial⟩⟩⟩⟩ hr (fun v => v = .bool true) (fun v w' Z own h => ?_)).mono fun e W' ⟨v, he, hv, bel⟩ => ?_
  · obtain ⟨cs, h1, h2⟩ := h
    have h3 : cs = [.bool true] := Cx.R_bool.1 (OW_ro.1 h2)
    have h4 : cs = [v] := h1
    rw [h3] at h4; exact (List.cons.inj h4).1.symm
  subst he; subst hv
  exact ⟨_, rfl, _, _, _, [], _, [], hW', trodAll_mk1 (shut_bool Try.underlying4 _), (trodAll_cons_mk (Below.trod laidOut (by kernel_rfl) (of_decide_eq_true (by kernel_rfl)) h0 bel lt0) (trodAll_cons_mk (Below.trod laidOut (by kernel_rfl) (of_decide_eq_true (by kernel_rfl)) h1 bel lt1) (trodAll_cons_mk (Below.trod laidOut (by kernel_rfl) (of_decide_eq_true (by kernel_rfl)) h2 bel lt2) (trodAll_cons_mk (Below.trod laidOut (by kernel_rfl) (of_decide_eq_true (by kernel_rfl)) h3 bel lt3) trodAll_mk0)))), rfl, bel.frame _, fun h => by cases h⟩
set_option maxRecDepth 100000 in
theorem lifted (os : Os) (started : os.Started) (H : Type) (enc : TypeId × Value → H) (F : Stop.Interp) :
    ReturnsInHanded {} Try.checked os 6 .any ((Rows.OpenSpec.upto Rows.treePutsSpec).pre6 enc Try.prog Try.f6 Rows.treePutsUptoRow.domain false) (((Rows.OpenSpec.upto Rows.treePutsSpec).at F).post enc Try.prog Try.f6 false true false false) := by
  refine returnsInHanded_of_cond (C := Try.checked) (s := (Rows.OpenSpec.upto Rows.treePutsSpec)) (k := Rows.uptoSmall) rfl own started (by kernel_rfl) Try.func6
    (OpenSpec.witness (enc := enc) (C := Try.checked) (s := (Rows.OpenSpec.upto Rows.treePutsSpec)) (k := Rows.uptoSmall) rfl false ⟨#[], #[.agg #[.bool false, .int .i64 0, .int .i64 0, .string .empty, .slice none 0 0, .int .i64 0, .int .i64 0], .slice none 0 0, .slice none 0 0, .agg #[.bool false, .int .i64 0, .int .i64 0, .string .empty, .slice none 0 0, .int .i64 0, .int .i64 0]], []⟩ 20 (by kernel_rfl) (by kernel_rfl) (by kernel_rfl)
      (x := ([.agg [.lit (.bool false), .lit (.int .i64 0), .lit (.int .i64 0), .lit (.string []), .nil, .lit (.int .i64 0), .lit (.int .i64 0)], .nil, .nil, .agg [.lit (.bool false), .lit (.int .i64 0), .lit (.int .i64 0), .lit (.string []), .nil, .lit (.int .i64 0), .lit (.int .i64 0)]], [], [])) (by kernel_rfl) rfl (by kernel_rfl)) ?_
  intro W base args ds gs before hval hW _ hk _
  exact contract H enc W base args ds gs before hval hW hk
theorem over : Rows.treePutsUptoRow.holds Try.pinned (Rows.OpenSpec.upto Rows.treePutsSpec) :=
  OpenClaim.holds_of_cond 6 Try.f6 rfl rfl rfl rfl rfl rfl rfl ⟨rfl, rfl, rfl, rfl, rfl⟩ rfl rfl rfl rfl rfl (by kernel_rfl) Try.func6 (by kernel_rfl)
    (of_decide_eq_true (by kernel_rfl)) (by unfold Func.isWrapper; first | (rw [if_pos (by decide +kernel)]; kernel_rfl) | (rw [if_neg (by decide +kernel)]; exact ⟨rfl, rfl⟩))
    (fun os started H enc _ F => lifted os started H enc F)
end Go.Proofs.Ytdnkjfmneppkoaa.treePutsRow
namespace Go.Proofs.Ytdnkjfmneppkoaa
theorem treePutsUpto_holds : Rows.TreePutsUptoSaid := treePutsRow.over
#print axioms treePutsUpto_holds
end Go.Proofs.Ytdnkjfmneppkoaa
