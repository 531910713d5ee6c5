/- What the first functions compute, as plain functions; that they do. -/
import Derived.Test.YtdnkjfmneppkoaaLib
import Derived.KernelRfl
namespace Go.Proofs.Ytdnkjfmneppkoaa.Vm.Tr
open Go Go.Proofs.Ytdnkjfmneppkoaa.Vm Go.Proofs
set_option linter.unusedVariables false
set_option maxRecDepth 100000
noncomputable section
namespace tree_nameOf
noncomputable def E : Env cx := { tys := tys, fs := fsOf [] }
noncomputable def h : Hint := { vs := [0, 1, 2, 4], nil := [], cuts := [(2, ([1, 2, 13], [2]), ([1, 2], [2])), (3, ([1, 2], [2]), ([1, 2], [2]))], ret := ([4], [2]), ords := [] }
end tree_nameOf
def s_tree_nameOf (a : (D0) × ((Int) × (Unit))) : Option ((List UInt8) × (Unit)) := runOf (S := cx) tree_nameOf.E tree_nameOf.h fuel Try.f47 [.val ty0, .val (.int .i64)] .str .ro a
noncomputable def F_tree_nameOf : FSpec cx.toNm := { ps := [.val ty0, .val (.int .i64)], nres := 1, rt := .str, rm := .ro, f := s_tree_nameOf }
theorem ok_tree_nameOf : FnOk Try.prog F_tree_nameOf 47 := fn_of (F := F_tree_nameOf) (hn := tree_nameOf.h) (E := tree_nameOf.E) cxOk (tysT _ _ _) fs_nil follows Try.func47 (by kernel_rfl) (fun a r h => ⟨fuel, Eq.trans (b := F_tree_nameOf.f a) (by kernel_rfl) h⟩)
noncomputable def Fr_tree_Show (f : ((D0) × ((Option N1) × (Unit))) → Option ((List UInt8) × (Unit))) : FSpec cx.toNm := { ps := [.val ty0, .val (.ptr 1)], nres := 1, rt := .str, rm := .ro, f := f }
namespace tree_Show
noncomputable def E (sf_tree_Show : ((D0) × ((Option N1) × (Unit))) → Option ((List UInt8) × (Unit))) : Env cx := { tys := tys, fs := fsOf [(31, (Fr_tree_Show sf_tree_Show)), (47, F_tree_nameOf), (48, F_Join)] }
noncomputable def h : Hint := { vs := [0, 1, 2, 4, 5, 7, 30, 31, 32], nil := [(5, (.own .ro))], cuts := [(7, ([1, 2, 5, 30, 31, 32], [2]), ([1, 2, 5], [2])), (11, ([1, 2, 5], [2]), ([1, 2, 5], [2]))], ret := ([4], [2]), ords := [(4, [0, 1, 2, 3, 4, 7, 8, 9, 10, 5, 6, 11, 12]), (11, [0, 1, 2, 3, 4, 7, 5, 6, 8, 9, 10, 11])] }
end tree_Show
def r_tree_Show : Nat → ((D0) × ((Option N1) × (Unit))) → Option ((List UInt8) × (Unit))
  | 0, _ => none
  | n + 1, a => runOf (S := cx) (tree_Show.E (r_tree_Show n)) tree_Show.h fuel Try.f31 [.val ty0, .val (.ptr 1)] .str .ro a
theorem okr_tree_Show : ∀ n, FnOk Try.prog (Fr_tree_Show (r_tree_Show n)) 31
  | 0 => fn_none (fun _ => rfl)
  | n + 1 => fn_of (F := Fr_tree_Show (r_tree_Show (n + 1))) (hn := tree_Show.h) (E := tree_Show.E (r_tree_Show n)) cxOk (tysT _ _ _) (fs_cons (okr_tree_Show n) (fs_cons ok_tree_nameOf (fs_cons ok_Join fs_nil))) follows Try.func31 (by kernel_rfl) (fun a r h => ⟨fuel, Eq.trans (b := (Fr_tree_Show (r_tree_Show (n + 1))).f a) (by kernel_rfl) h⟩)
def s_tree_Show (a : (D0) × ((Option N1) × (Unit))) : Option ((List UInt8) × (Unit)) := r_tree_Show (fuel) a
noncomputable def F_tree_Show : FSpec cx.toNm := Fr_tree_Show s_tree_Show
theorem ok_tree_Show : FnOk Try.prog F_tree_Show 31 := fun w Z own vs a r h1 h2 h3 h4 => (okr_tree_Show (fuel)) w Z own vs a r h1 h2 h3 h4
namespace symbols_come_1
noncomputable def E : Env cx := { tys := tys, fs := fsOf [] }
noncomputable def h : Hint := { vs := [0, 1, 2, 3, 4, 6, 8, 9, 10], nil := [(1, (.own .ro))], cuts := [(3, ([1, 2, 4, 8, 9, 10], [2, 1000001]), ([1, 4], [1000001])), (6, ([1, 2, 4, 6, 8, 9, 10], [2, 1000001]), ([1, 2, 4, 8, 9, 10], [2, 1000001])), (7, ([1, 2, 4, 8, 9, 10], [2, 1000001]), ([1, 2, 4, 8, 9, 10], [2, 1000001])), (8, ([1, 4], [1000001]), ([1, 4], [1000001]))], ret := ([1, 3], [2, 1000001]), ords := [] }
end symbols_come_1
def s_symbols_come_1 (a : ((Int) × (List (Int))) × ((List (Bool)) × (Unit))) : Option ((Bool) × ((List (Bool)) × (Unit))) := runOf (S := cx) symbols_come_1.E symbols_come_1.h fuel Try.f79 [.val (.agg (.pair (.int .i64) (.slice 3 (.int .i64)))), .io (.slice 4 .bool) (.own .ro)] .bool .ro a
noncomputable def F_symbols_come_1 : FSpec cx.toNm := { ps := [.val (.agg (.pair (.int .i64) (.slice 3 (.int .i64)))), .io (.slice 4 .bool) (.own .ro)], nres := 1, rt := .bool, rm := .ro, f := s_symbols_come_1 }
theorem ok_symbols_come_1 : FnOk Try.prog F_symbols_come_1 79 := fn_of (F := F_symbols_come_1) (hn := symbols_come_1.h) (E := symbols_come_1.E) cxOk (tysT _ _ _) fs_nil follows Try.func79 (by kernel_rfl) (fun a r h => ⟨fuel, Eq.trans (b := F_symbols_come_1.f a) (by kernel_rfl) h⟩)
namespace symbols_till
noncomputable def E : Env cx := { tys := tys, fs := fsOf [(79, F_symbols_come_1)], wr := true }
noncomputable def h : Hint := { vs := [0, 1, 2, 4, 6, 9, 10, 11], nil := [], cuts := [(2, ([1, 2, 4], [2, 1000002]), ([], [1000002])), (5, ([1, 2, 4, 9, 10, 11], [2, 1000002]), ([1, 2, 4], [2, 1000002])), (8, ([1, 2, 4, 9, 10, 11], [2, 1000002]), ([1, 2, 4, 9, 10, 11], [2, 1000002]))], ret := ([], [2, 6, 1000002]), ords := [] }
end symbols_till
def s_symbols_till (a : (D0) × ((Unit) × ((List (Bool)) × (Unit)))) : Option ((Unit) × ((List (Bool)) × (Unit))) := runOf (S := cx) symbols_till.E symbols_till.h fuel Try.f78 [.val ty0, .fn 79 1, .io (.slice 4 .bool) (.own .ro)] .unit .ro a
noncomputable def F_symbols_till : FSpec cx.toNm := { ps := [.val ty0, .fn 79 1, .io (.slice 4 .bool) (.own .ro)], nres := 0, rt := .unit, rm := .ro, f := s_symbols_till }
theorem ok_symbols_till : FnOk Try.prog F_symbols_till 78 := fn_of (F := F_symbols_till) (hn := symbols_till.h) (E := symbols_till.E) cxOk (tysT _ _ _) (fs_cons ok_symbols_come_1 fs_nil) follows Try.func78 (by kernel_rfl) (fun a r h => ⟨fuel, Eq.trans (b := F_symbols_till.f a) (by kernel_rfl) h⟩)
namespace symbols_come
noncomputable def E : Env cx := { tys := tys, fs := fsOf [(78, F_symbols_till)], wr := true }
noncomputable def h : Hint := { vs := [0, 1, 2, 3], nil := [(3, (.own .ro))], cuts := [], ret := ([2], [1, 3]), ords := [], fns := [(13, [true])] }
end symbols_come
def s_symbols_come (a : (D0) × (Unit)) : Option ((List (Bool)) × (Unit)) := runOf (S := cx) symbols_come.E symbols_come.h fuel Try.f63 [.val ty0] (.slice 4 .bool) .ro a
noncomputable def F_symbols_come : FSpec cx.toNm := { ps := [.val ty0], nres := 1, rt := (.slice 4 .bool), rm := .ro, f := s_symbols_come }
theorem ok_symbols_come : FnOk Try.prog F_symbols_come 63 := fn_of (F := F_symbols_come) (hn := symbols_come.h) (E := symbols_come.E) cxOk (tysT _ _ _) (fs_cons ok_symbols_till fs_nil) follows Try.func63 (by kernel_rfl) (fun a r h => ⟨fuel, Eq.trans (b := F_symbols_come.f a) (by kernel_rfl) h⟩)
namespace symbols_isOther
noncomputable def E : Env cx := { tys := tys, fs := fsOf [] }
noncomputable def h : Hint := { vs := [0, 1, 2, 4], nil := [], cuts := [], ret := ([4], [2]), ords := [] }
end symbols_isOther
def s_symbols_isOther (a : (D0) × ((Int) × (Unit))) : Option ((Bool) × (Unit)) := runOf (S := cx) symbols_isOther.E symbols_isOther.h fuel Try.f56 [.val ty0, .val (.int .i64)] .bool .ro a
noncomputable def F_symbols_isOther : FSpec cx.toNm := { ps := [.val ty0, .val (.int .i64)], nres := 1, rt := .bool, rm := .ro, f := s_symbols_isOther }
theorem ok_symbols_isOther : FnOk Try.prog F_symbols_isOther 56 := fn_of (F := F_symbols_isOther) (hn := symbols_isOther.h) (E := symbols_isOther.E) cxOk (tysT _ _ _) fs_nil follows Try.func56 (by kernel_rfl) (fun a r h => ⟨fuel, Eq.trans (b := F_symbols_isOther.f a) (by kernel_rfl) h⟩)
namespace symbols_isTerm
noncomputable def E : Env cx := { tys := tys, fs := fsOf [] }
noncomputable def h : Hint := { vs := [0, 1, 2, 4], nil := [], cuts := [], ret := ([4], [2]), ords := [] }
end symbols_isTerm
def s_symbols_isTerm (a : (D0) × ((Int) × (Unit))) : Option ((Bool) × (Unit)) := runOf (S := cx) symbols_isTerm.E symbols_isTerm.h fuel Try.f55 [.val ty0, .val (.int .i64)] .bool .ro a
noncomputable def F_symbols_isTerm : FSpec cx.toNm := { ps := [.val ty0, .val (.int .i64)], nres := 1, rt := .bool, rm := .ro, f := s_symbols_isTerm }
theorem ok_symbols_isTerm : FnOk Try.prog F_symbols_isTerm 55 := fn_of (F := F_symbols_isTerm) (hn := symbols_isTerm.h) (E := symbols_isTerm.E) cxOk (tysT _ _ _) fs_nil follows Try.func55 (by kernel_rfl) (fun a r h => ⟨fuel, Eq.trans (b := F_symbols_isTerm.f a) (by kernel_rfl) h⟩)
namespace symbols_Right_1
noncomputable def E : Env cx := { tys := tys, fs := fsOf [(55, F_symbols_isTerm), (56, F_symbols_isOther)] }
noncomputable def h : Hint := { vs := [0, 1, 3], nil := [], cuts := [], ret := ([3], []), ords := [] }
end symbols_Right_1
def s_symbols_Right_1 (a : (Int) × ((D0) × (Unit))) : Option ((Bool) × (Unit)) := runOf (S := cx) symbols_Right_1.E symbols_Right_1.h fuel Try.f54 [.val (.int .i64), .val (.box ty0)] .bool .ro a
noncomputable def F_symbols_Right_1 : FSpec cx.toNm := { ps := [.val (.int .i64), .val (.box ty0)], nres := 1, rt := .bool, rm := .ro, f := s_symbols_Right_1 }
theorem ok_symbols_Right_1 : FnOk Try.prog F_symbols_Right_1 54 := fn_of (F := F_symbols_Right_1) (hn := symbols_Right_1.h) (E := symbols_Right_1.E) cxOk (tysT _ _ _) (fs_cons ok_symbols_isTerm (fs_cons ok_symbols_isOther fs_nil)) follows Try.func54 (by kernel_rfl) (fun a r h => ⟨fuel, Eq.trans (b := F_symbols_Right_1.f a) (by kernel_rfl) h⟩)
namespace symbols_all_1
noncomputable def E : Env cx := { tys := tys, fs := fsOf [(54, F_symbols_Right_1)] }
noncomputable def h : Hint := { vs := [0, 1, 3], nil := [], cuts := [], ret := ([3], []), ords := [] }
end symbols_all_1
def s_symbols_all_1 (a : (Int) × (((D0) × (Unit)) × (Unit))) : Option ((Bool) × (Unit)) := runOf (S := cx) symbols_all_1.E symbols_all_1.h fuel Try.f75 [.val (.int .i64), .val (.box (.clo 54 (.pair (.box ty0) .unit)))] .bool .ro a
noncomputable def F_symbols_all_1 : FSpec cx.toNm := { ps := [.val (.int .i64), .val (.box (.clo 54 (.pair (.box ty0) .unit)))], nres := 1, rt := .bool, rm := .ro, f := s_symbols_all_1 }
theorem ok_symbols_all_1 : FnOk Try.prog F_symbols_all_1 75 := fn_of (F := F_symbols_all_1) (hn := symbols_all_1.h) (E := symbols_all_1.E) cxOk (tysT _ _ _) (fs_cons ok_symbols_Right_1 fs_nil) follows Try.func75 (by kernel_rfl) (fun a r h => ⟨fuel, Eq.trans (b := F_symbols_all_1.f a) (by kernel_rfl) h⟩)
namespace slices_IndexFuncxx_i1
noncomputable def E : Env cx := { tys := tys, fs := fsOf [(75, F_symbols_all_1)] }
noncomputable def h : Hint := { vs := [0, 1, 4, 5, 7, 8], nil := [], cuts := [(2, ([0, 1, 7, 8], []), ([], [])), (7, ([], []), ([], []))], ret := ([4], []), ords := [] }
end slices_IndexFuncxx_i1
def s_slices_IndexFuncxx_i1 (a : (List (Int)) × ((((D0) × (Unit)) × (Unit)) × (Unit))) : Option ((Int) × (Unit)) := runOf (S := cx) slices_IndexFuncxx_i1.E slices_IndexFuncxx_i1.h fuel Try.f76 [.val (.slice 3 (.int .i64)), .val (.clo 75 (.pair (.box (.clo 54 (.pair (.box ty0) .unit))) .unit))] (.int .i64) .ro a
noncomputable def F_slices_IndexFuncxx_i1 : FSpec cx.toNm := { ps := [.val (.slice 3 (.int .i64)), .val (.clo 75 (.pair (.box (.clo 54 (.pair (.box ty0) .unit))) .unit))], nres := 1, rt := (.int .i64), rm := .ro, f := s_slices_IndexFuncxx_i1 }
theorem ok_slices_IndexFuncxx_i1 : FnOk Try.prog F_slices_IndexFuncxx_i1 76 := fn_of (F := F_slices_IndexFuncxx_i1) (hn := slices_IndexFuncxx_i1.h) (E := slices_IndexFuncxx_i1.E) cxOk (tysT _ _ _) (fs_cons ok_symbols_all_1 fs_nil) follows Try.func76 (by kernel_rfl) (fun a r h => ⟨fuel, Eq.trans (b := F_slices_IndexFuncxx_i1.f a) (by kernel_rfl) h⟩)
namespace slices_ContainsFuncxx_i1
noncomputable def E : Env cx := { tys := tys, fs := fsOf [(76, F_slices_IndexFuncxx_i1)] }
noncomputable def h : Hint := { vs := [0, 1, 4], nil := [], cuts := [], ret := ([4], []), ords := [] }
end slices_ContainsFuncxx_i1
def s_slices_ContainsFuncxx_i1 (a : (List (Int)) × ((((D0) × (Unit)) × (Unit)) × (Unit))) : Option ((Bool) × (Unit)) := runOf (S := cx) slices_ContainsFuncxx_i1.E slices_ContainsFuncxx_i1.h fuel Try.f60 [.val (.slice 3 (.int .i64)), .val (.clo 75 (.pair (.box (.clo 54 (.pair (.box ty0) .unit))) .unit))] .bool .ro a
noncomputable def F_slices_ContainsFuncxx_i1 : FSpec cx.toNm := { ps := [.val (.slice 3 (.int .i64)), .val (.clo 75 (.pair (.box (.clo 54 (.pair (.box ty0) .unit))) .unit))], nres := 1, rt := .bool, rm := .ro, f := s_slices_ContainsFuncxx_i1 }
theorem ok_slices_ContainsFuncxx_i1 : FnOk Try.prog F_slices_ContainsFuncxx_i1 60 := fn_of (F := F_slices_ContainsFuncxx_i1) (hn := slices_ContainsFuncxx_i1.h) (E := slices_ContainsFuncxx_i1.E) cxOk (tysT _ _ _) (fs_cons ok_slices_IndexFuncxx_i1 fs_nil) follows Try.func60 (by kernel_rfl) (fun a r h => ⟨fuel, Eq.trans (b := F_slices_ContainsFuncxx_i1.f a) (by kernel_rfl) h⟩)
namespace symbols_all
noncomputable def E : Env cx := { tys := tys, fs := fsOf [(60, F_slices_ContainsFuncxx_i1)] }
noncomputable def h : Hint := { vs := [0, 1, 2, 3, 4], nil := [], cuts := [], ret := ([4], [2, 3]), ords := [] }
end symbols_all
def s_symbols_all (a : ((Int) × (List (Int))) × (((D0) × (Unit)) × (Unit))) : Option ((Bool) × (Unit)) := runOf (S := cx) symbols_all.E symbols_all.h fuel Try.f59 [.val (.agg (.pair (.int .i64) (.slice 3 (.int .i64)))), .val (.clo 54 (.pair (.box ty0) .unit))] .bool .ro a
noncomputable def F_symbols_all : FSpec cx.toNm := { ps := [.val (.agg (.pair (.int .i64) (.slice 3 (.int .i64)))), .val (.clo 54 (.pair (.box ty0) .unit))], nres := 1, rt := .bool, rm := .ro, f := s_symbols_all }
theorem ok_symbols_all : FnOk Try.prog F_symbols_all 59 := fn_of (F := F_symbols_all) (hn := symbols_all.h) (E := symbols_all.E) cxOk (tysT _ _ _) (fs_cons ok_slices_ContainsFuncxx_i1 fs_nil) follows Try.func59 (by kernel_rfl) (fun a r h => ⟨fuel, Eq.trans (b := F_symbols_all.f a) (by kernel_rfl) h⟩)
namespace symbols_Right_2
noncomputable def E : Env cx := { tys := tys, fs := fsOf [(56, F_symbols_isOther), (59, F_symbols_all)] }
noncomputable def h : Hint := { vs := [0, 1, 2, 3, 4], nil := [], cuts := [], ret := ([4], [3]), ords := [] }
end symbols_Right_2
def s_symbols_Right_2 (a : ((Int) × (List (Int))) × ((D0) × (((D0) × (Unit)) × (Unit)))) : Option ((Bool) × (Unit)) := runOf (S := cx) symbols_Right_2.E symbols_Right_2.h fuel Try.f58 [.val (.agg (.pair (.int .i64) (.slice 3 (.int .i64)))), .val (.box ty0), .val (.box (.clo 54 (.pair (.box ty0) .unit)))] .bool .ro a
noncomputable def F_symbols_Right_2 : FSpec cx.toNm := { ps := [.val (.agg (.pair (.int .i64) (.slice 3 (.int .i64)))), .val (.box ty0), .val (.box (.clo 54 (.pair (.box ty0) .unit)))], nres := 1, rt := .bool, rm := .ro, f := s_symbols_Right_2 }
theorem ok_symbols_Right_2 : FnOk Try.prog F_symbols_Right_2 58 := fn_of (F := F_symbols_Right_2) (hn := symbols_Right_2.h) (E := symbols_Right_2.E) cxOk (tysT _ _ _) (fs_cons ok_symbols_isOther (fs_cons ok_symbols_all fs_nil)) follows Try.func58 (by kernel_rfl) (fun a r h => ⟨fuel, Eq.trans (b := F_symbols_Right_2.f a) (by kernel_rfl) h⟩)
namespace slices_IndexFuncx
noncomputable def E : Env cx := { tys := tys, fs := fsOf [(58, F_symbols_Right_2)] }
noncomputable def h : Hint := { vs := [0, 1, 4, 5, 7, 8], nil := [], cuts := [(2, ([0, 1, 7, 8], []), ([], [])), (7, ([], []), ([], []))], ret := ([4], []), ords := [] }
end slices_IndexFuncx
def s_slices_IndexFuncx (a : (List ((Int) × (List (Int)))) × (((D0) × (((D0) × (Unit)) × (Unit))) × (Unit))) : Option ((Int) × (Unit)) := runOf (S := cx) slices_IndexFuncx.E slices_IndexFuncx.h fuel Try.f74 [.val (.slice 41 (.agg (.pair (.int .i64) (.slice 3 (.int .i64))))), .val (.clo 58 (.pair (.box ty0) (.pair (.box (.clo 54 (.pair (.box ty0) .unit))) .unit)))] (.int .i64) .ro a
noncomputable def F_slices_IndexFuncx : FSpec cx.toNm := { ps := [.val (.slice 41 (.agg (.pair (.int .i64) (.slice 3 (.int .i64))))), .val (.clo 58 (.pair (.box ty0) (.pair (.box (.clo 54 (.pair (.box ty0) .unit))) .unit)))], nres := 1, rt := (.int .i64), rm := .ro, f := s_slices_IndexFuncx }
theorem ok_slices_IndexFuncx : FnOk Try.prog F_slices_IndexFuncx 74 := fn_of (F := F_slices_IndexFuncx) (hn := slices_IndexFuncx.h) (E := slices_IndexFuncx.E) cxOk (tysT _ _ _) (fs_cons ok_symbols_Right_2 fs_nil) follows Try.func74 (by kernel_rfl) (fun a r h => ⟨fuel, Eq.trans (b := F_slices_IndexFuncx.f a) (by kernel_rfl) h⟩)
namespace slices_ContainsFuncx
noncomputable def E : Env cx := { tys := tys, fs := fsOf [(74, F_slices_IndexFuncx)] }
noncomputable def h : Hint := { vs := [0, 1, 4], nil := [], cuts := [], ret := ([4], []), ords := [] }
end slices_ContainsFuncx
def s_slices_ContainsFuncx (a : (List ((Int) × (List (Int)))) × (((D0) × (((D0) × (Unit)) × (Unit))) × (Unit))) : Option ((Bool) × (Unit)) := runOf (S := cx) slices_ContainsFuncx.E slices_ContainsFuncx.h fuel Try.f57 [.val (.slice 41 (.agg (.pair (.int .i64) (.slice 3 (.int .i64))))), .val (.clo 58 (.pair (.box ty0) (.pair (.box (.clo 54 (.pair (.box ty0) .unit))) .unit)))] .bool .ro a
noncomputable def F_slices_ContainsFuncx : FSpec cx.toNm := { ps := [.val (.slice 41 (.agg (.pair (.int .i64) (.slice 3 (.int .i64))))), .val (.clo 58 (.pair (.box ty0) (.pair (.box (.clo 54 (.pair (.box ty0) .unit))) .unit)))], nres := 1, rt := .bool, rm := .ro, f := s_slices_ContainsFuncx }
theorem ok_slices_ContainsFuncx : FnOk Try.prog F_slices_ContainsFuncx 57 := fn_of (F := F_slices_ContainsFuncx) (hn := slices_ContainsFuncx.h) (E := slices_ContainsFuncx.E) cxOk (tysT _ _ _) (fs_cons ok_slices_IndexFuncx fs_nil) follows Try.func57 (by kernel_rfl) (fun a r h => ⟨fuel, Eq.trans (b := F_slices_ContainsFuncx.f a) (by kernel_rfl) h⟩)
namespace symbols_Right_3
noncomputable def E : Env cx := { tys := tys, fs := fsOf [(55, F_symbols_isTerm)] }
noncomputable def h : Hint := { vs := [0, 1, 3], nil := [], cuts := [], ret := ([3], []), ords := [] }
end symbols_Right_3
def s_symbols_Right_3 (a : (Int) × ((D0) × (Unit))) : Option ((Bool) × (Unit)) := runOf (S := cx) symbols_Right_3.E symbols_Right_3.h fuel Try.f61 [.val (.int .i64), .val (.box ty0)] .bool .ro a
noncomputable def F_symbols_Right_3 : FSpec cx.toNm := { ps := [.val (.int .i64), .val (.box ty0)], nres := 1, rt := .bool, rm := .ro, f := s_symbols_Right_3 }
theorem ok_symbols_Right_3 : FnOk Try.prog F_symbols_Right_3 61 := fn_of (F := F_symbols_Right_3) (hn := symbols_Right_3.h) (E := symbols_Right_3.E) cxOk (tysT _ _ _) (fs_cons ok_symbols_isTerm fs_nil) follows Try.func61 (by kernel_rfl) (fun a r h => ⟨fuel, Eq.trans (b := F_symbols_Right_3.f a) (by kernel_rfl) h⟩)
namespace slices_IndexFuncxx
noncomputable def E : Env cx := { tys := tys, fs := fsOf [(61, F_symbols_Right_3)] }
noncomputable def h : Hint := { vs := [0, 1, 4, 5, 7, 8], nil := [], cuts := [(2, ([0, 1, 7, 8], []), ([], [])), (7, ([], []), ([], []))], ret := ([4], []), ords := [] }
end slices_IndexFuncxx
def s_slices_IndexFuncxx (a : (List (Int)) × (((D0) × (Unit)) × (Unit))) : Option ((Int) × (Unit)) := runOf (S := cx) slices_IndexFuncxx.E slices_IndexFuncxx.h fuel Try.f76 [.val (.slice 3 (.int .i64)), .val (.clo 61 (.pair (.box ty0) .unit))] (.int .i64) .ro a
noncomputable def F_slices_IndexFuncxx : FSpec cx.toNm := { ps := [.val (.slice 3 (.int .i64)), .val (.clo 61 (.pair (.box ty0) .unit))], nres := 1, rt := (.int .i64), rm := .ro, f := s_slices_IndexFuncxx }
theorem ok_slices_IndexFuncxx : FnOk Try.prog F_slices_IndexFuncxx 76 := fn_of (F := F_slices_IndexFuncxx) (hn := slices_IndexFuncxx.h) (E := slices_IndexFuncxx.E) cxOk (tysT _ _ _) (fs_cons ok_symbols_Right_3 fs_nil) follows Try.func76 (by kernel_rfl) (fun a r h => ⟨fuel, Eq.trans (b := F_slices_IndexFuncxx.f a) (by kernel_rfl) h⟩)
namespace slices_ContainsFuncxx
noncomputable def E : Env cx := { tys := tys, fs := fsOf [(76, F_slices_IndexFuncxx)] }
noncomputable def h : Hint := { vs := [0, 1, 4], nil := [], cuts := [], ret := ([4], []), ords := [] }
end slices_ContainsFuncxx
def s_slices_ContainsFuncxx (a : (List (Int)) × (((D0) × (Unit)) × (Unit))) : Option ((Bool) × (Unit)) := runOf (S := cx) slices_ContainsFuncxx.E slices_ContainsFuncxx.h fuel Try.f60 [.val (.slice 3 (.int .i64)), .val (.clo 61 (.pair (.box ty0) .unit))] .bool .ro a
noncomputable def F_slices_ContainsFuncxx : FSpec cx.toNm := { ps := [.val (.slice 3 (.int .i64)), .val (.clo 61 (.pair (.box ty0) .unit))], nres := 1, rt := .bool, rm := .ro, f := s_slices_ContainsFuncxx }
theorem ok_slices_ContainsFuncxx : FnOk Try.prog F_slices_ContainsFuncxx 60 := fn_of (F := F_slices_ContainsFuncxx) (hn := slices_ContainsFuncxx.h) (E := slices_ContainsFuncxx.E) cxOk (tysT _ _ _) (fs_cons ok_slices_IndexFuncxx fs_nil) follows Try.func60 (by kernel_rfl) (fun a r h => ⟨fuel, Eq.trans (b := F_slices_ContainsFuncxx.f a) (by kernel_rfl) h⟩)
namespace symbols_grown_1_1
noncomputable def E : Env cx := { tys := tys, fs := fsOf [] }
noncomputable def h : Hint := { vs := [0, 1, 2, 3, 5], nil := [], cuts := [], ret := ([5], []), ords := [] }
end symbols_grown_1_1
def s_symbols_grown_1_1 (a : (Int) × ((List (Bool)) × ((Bool) × ((D0) × (Unit))))) : Option ((Bool) × (Unit)) := runOf (S := cx) symbols_grown_1_1.E symbols_grown_1_1.h fuel Try.f90 [.val (.int .i64), .val (.box (.slice 4 .bool)), .val (.box .bool), .val (.box ty0)] .bool .ro a
noncomputable def F_symbols_grown_1_1 : FSpec cx.toNm := { ps := [.val (.int .i64), .val (.box (.slice 4 .bool)), .val (.box .bool), .val (.box ty0)], nres := 1, rt := .bool, rm := .ro, f := s_symbols_grown_1_1 }
theorem ok_symbols_grown_1_1 : FnOk Try.prog F_symbols_grown_1_1 90 := fn_of (F := F_symbols_grown_1_1) (hn := symbols_grown_1_1.h) (E := symbols_grown_1_1.E) cxOk (tysT _ _ _) fs_nil follows Try.func90 (by kernel_rfl) (fun a r h => ⟨fuel, Eq.trans (b := F_symbols_grown_1_1.f a) (by kernel_rfl) h⟩)
namespace symbols_all_1_i1
noncomputable def E : Env cx := { tys := tys, fs := fsOf [(90, F_symbols_grown_1_1)] }
noncomputable def h : Hint := { vs := [0, 1, 3], nil := [], cuts := [], ret := ([3], []), ords := [] }
end symbols_all_1_i1
def s_symbols_all_1_i1 (a : (Int) × (((List (Bool)) × ((Bool) × ((D0) × (Unit)))) × (Unit))) : Option ((Bool) × (Unit)) := runOf (S := cx) symbols_all_1_i1.E symbols_all_1_i1.h fuel Try.f75 [.val (.int .i64), .val (.box (.clo 90 (.pair (.box (.slice 4 .bool)) (.pair (.box .bool) (.pair (.box ty0) .unit)))))] .bool .ro a
noncomputable def F_symbols_all_1_i1 : FSpec cx.toNm := { ps := [.val (.int .i64), .val (.box (.clo 90 (.pair (.box (.slice 4 .bool)) (.pair (.box .bool) (.pair (.box ty0) .unit)))))], nres := 1, rt := .bool, rm := .ro, f := s_symbols_all_1_i1 }
theorem ok_symbols_all_1_i1 : FnOk Try.prog F_symbols_all_1_i1 75 := fn_of (F := F_symbols_all_1_i1) (hn := symbols_all_1_i1.h) (E := symbols_all_1_i1.E) cxOk (tysT _ _ _) (fs_cons ok_symbols_grown_1_1 fs_nil) follows Try.func75 (by kernel_rfl) (fun a r h => ⟨fuel, Eq.trans (b := F_symbols_all_1_i1.f a) (by kernel_rfl) h⟩)
namespace slices_IndexFuncxx_i3
noncomputable def E : Env cx := { tys := tys, fs := fsOf [(75, F_symbols_all_1_i1)] }
noncomputable def h : Hint := { vs := [0, 1, 4, 5, 7, 8], nil := [], cuts := [(2, ([0, 1, 7, 8], []), ([], [])), (7, ([], []), ([], []))], ret := ([4], []), ords := [] }
end slices_IndexFuncxx_i3
def s_slices_IndexFuncxx_i3 (a : (List (Int)) × ((((List (Bool)) × ((Bool) × ((D0) × (Unit)))) × (Unit)) × (Unit))) : Option ((Int) × (Unit)) := runOf (S := cx) slices_IndexFuncxx_i3.E slices_IndexFuncxx_i3.h fuel Try.f76 [.val (.slice 3 (.int .i64)), .val (.clo 75 (.pair (.box (.clo 90 (.pair (.box (.slice 4 .bool)) (.pair (.box .bool) (.pair (.box ty0) .unit))))) .unit))] (.int .i64) .ro a
noncomputable def F_slices_IndexFuncxx_i3 : FSpec cx.toNm := { ps := [.val (.slice 3 (.int .i64)), .val (.clo 75 (.pair (.box (.clo 90 (.pair (.box (.slice 4 .bool)) (.pair (.box .bool) (.pair (.box ty0) .unit))))) .unit))], nres := 1, rt := (.int .i64), rm := .ro, f := s_slices_IndexFuncxx_i3 }
theorem ok_slices_IndexFuncxx_i3 : FnOk Try.prog F_slices_IndexFuncxx_i3 76 := fn_of (F := F_slices_IndexFuncxx_i3) (hn := slices_IndexFuncxx_i3.h) (E := slices_IndexFuncxx_i3.E) cxOk (tysT _ _ _) (fs_cons ok_symbols_all_1_i1 fs_nil) follows Try.func76 (by kernel_rfl) (fun a r h => ⟨fuel, Eq.trans (b := F_slices_IndexFuncxx_i3.f a) (by kernel_rfl) h⟩)
namespace slices_ContainsFuncxx_i3
noncomputable def E : Env cx := { tys := tys, fs := fsOf [(76, F_slices_IndexFuncxx_i3)] }
noncomputable def h : Hint := { vs := [0, 1, 4], nil := [], cuts := [], ret := ([4], []), ords := [] }
end slices_ContainsFuncxx_i3
def s_slices_ContainsFuncxx_i3 (a : (List (Int)) × ((((List (Bool)) × ((Bool) × ((D0) × (Unit)))) × (Unit)) × (Unit))) : Option ((Bool) × (Unit)) := runOf (S := cx) slices_ContainsFuncxx_i3.E slices_ContainsFuncxx_i3.h fuel Try.f60 [.val (.slice 3 (.int .i64)), .val (.clo 75 (.pair (.box (.clo 90 (.pair (.box (.slice 4 .bool)) (.pair (.box .bool) (.pair (.box ty0) .unit))))) .unit))] .bool .ro a
noncomputable def F_slices_ContainsFuncxx_i3 : FSpec cx.toNm := { ps := [.val (.slice 3 (.int .i64)), .val (.clo 75 (.pair (.box (.clo 90 (.pair (.box (.slice 4 .bool)) (.pair (.box .bool) (.pair (.box ty0) .unit))))) .unit))], nres := 1, rt := .bool, rm := .ro, f := s_slices_ContainsFuncxx_i3 }
theorem ok_slices_ContainsFuncxx_i3 : FnOk Try.prog F_slices_ContainsFuncxx_i3 60 := fn_of (F := F_slices_ContainsFuncxx_i3) (hn := slices_ContainsFuncxx_i3.h) (E := slices_ContainsFuncxx_i3.E) cxOk (tysT _ _ _) (fs_cons ok_slices_IndexFuncxx_i3 fs_nil) follows Try.func60 (by kernel_rfl) (fun a r h => ⟨fuel, Eq.trans (b := F_slices_ContainsFuncxx_i3.f a) (by kernel_rfl) h⟩)
namespace symbols_all_i1
noncomputable def E : Env cx := { tys := tys, fs := fsOf [(60, F_slices_ContainsFuncxx_i3)] }
noncomputable def h : Hint := { vs := [0, 1, 2, 3, 4], nil := [], cuts := [], ret := ([4], [2, 3]), ords := [] }
end symbols_all_i1
def s_symbols_all_i1 (a : ((Int) × (List (Int))) × (((List (Bool)) × ((Bool) × ((D0) × (Unit)))) × (Unit))) : Option ((Bool) × (Unit)) := runOf (S := cx) symbols_all_i1.E symbols_all_i1.h fuel Try.f59 [.val (.agg (.pair (.int .i64) (.slice 3 (.int .i64)))), .val (.clo 90 (.pair (.box (.slice 4 .bool)) (.pair (.box .bool) (.pair (.box ty0) .unit))))] .bool .ro a
noncomputable def F_symbols_all_i1 : FSpec cx.toNm := { ps := [.val (.agg (.pair (.int .i64) (.slice 3 (.int .i64)))), .val (.clo 90 (.pair (.box (.slice 4 .bool)) (.pair (.box .bool) (.pair (.box ty0) .unit))))], nres := 1, rt := .bool, rm := .ro, f := s_symbols_all_i1 }
theorem ok_symbols_all_i1 : FnOk Try.prog F_symbols_all_i1 59 := fn_of (F := F_symbols_all_i1) (hn := symbols_all_i1.h) (E := symbols_all_i1.E) cxOk (tysT _ _ _) (fs_cons ok_slices_ContainsFuncxx_i3 fs_nil) follows Try.func59 (by kernel_rfl) (fun a r h => ⟨fuel, Eq.trans (b := F_symbols_all_i1.f a) (by kernel_rfl) h⟩)
namespace symbols_grown_1
noncomputable def E : Env cx := { tys := tys, fs := fsOf [(59, F_symbols_all_i1)], wr := true }
noncomputable def h : Hint := { vs := [0, 1, 2, 3, 4, 5], nil := [(1, (.own .ro))], cuts := [(2, ([1, 4, 16], [4, 1000001]), ([1, 4], [4, 1000001])), (3, ([1, 4], [4, 1000001]), ([1, 4], [4, 1000001]))], ret := ([1, 5], [4, 1000001]), ords := [], fns := [(13, [true, true, true])] }
end symbols_grown_1
def s_symbols_grown_1 (a : ((Int) × (List (Int))) × ((List (Bool)) × ((Bool) × ((D0) × (Unit))))) : Option ((Bool) × ((List (Bool)) × (Unit))) := runOf (S := cx) symbols_grown_1.E symbols_grown_1.h fuel Try.f89 [.val (.agg (.pair (.int .i64) (.slice 3 (.int .i64)))), .io (.slice 4 .bool) (.own .ro), .val (.box .bool), .val (.box ty0)] .bool .ro a
noncomputable def F_symbols_grown_1 : FSpec cx.toNm := { ps := [.val (.agg (.pair (.int .i64) (.slice 3 (.int .i64)))), .io (.slice 4 .bool) (.own .ro), .val (.box .bool), .val (.box ty0)], nres := 1, rt := .bool, rm := .ro, f := s_symbols_grown_1 }
theorem ok_symbols_grown_1 : FnOk Try.prog F_symbols_grown_1 89 := fn_of (F := F_symbols_grown_1) (hn := symbols_grown_1.h) (E := symbols_grown_1.E) cxOk (tysT _ _ _) (fs_cons ok_symbols_all_i1 fs_nil) follows Try.func89 (by kernel_rfl) (fun a r h => ⟨fuel, Eq.trans (b := F_symbols_grown_1.f a) (by kernel_rfl) h⟩)
namespace symbols_till_i1
noncomputable def E : Env cx := { tys := tys, fs := fsOf [(89, F_symbols_grown_1)], wr := true }
noncomputable def h : Hint := { vs := [0, 1, 2, 4, 6, 9, 10, 11], nil := [], cuts := [(2, ([1, 2, 4], [2, 1000002]), ([], [1000002])), (5, ([1, 2, 4, 9, 10, 11], [2, 1000002]), ([1, 2, 4], [2, 1000002])), (8, ([1, 2, 4, 9, 10, 11], [2, 1000002]), ([1, 2, 4, 9, 10, 11], [2, 1000002]))], ret := ([], [2, 6, 1000002]), ords := [] }
end symbols_till_i1
def s_symbols_till_i1 (a : (D0) × ((Unit) × ((List (Bool)) × ((Bool) × ((D0) × (Unit)))))) : Option ((Unit) × ((List (Bool)) × (Unit))) := runOf (S := cx) symbols_till_i1.E symbols_till_i1.h fuel Try.f78 [.val ty0, .fn 89 3, .io (.slice 4 .bool) (.own .ro), .val (.box .bool), .val (.box ty0)] .unit .ro a
noncomputable def F_symbols_till_i1 : FSpec cx.toNm := { ps := [.val ty0, .fn 89 3, .io (.slice 4 .bool) (.own .ro), .val (.box .bool), .val (.box ty0)], nres := 0, rt := .unit, rm := .ro, f := s_symbols_till_i1 }
theorem ok_symbols_till_i1 : FnOk Try.prog F_symbols_till_i1 78 := fn_of (F := F_symbols_till_i1) (hn := symbols_till_i1.h) (E := symbols_till_i1.E) cxOk (tysT _ _ _) (fs_cons ok_symbols_grown_1 fs_nil) follows Try.func78 (by kernel_rfl) (fun a r h => ⟨fuel, Eq.trans (b := F_symbols_till_i1.f a) (by kernel_rfl) h⟩)
namespace symbols_grown
noncomputable def E : Env cx := { tys := tys, fs := fsOf [(78, F_symbols_till_i1)], wr := true }
noncomputable def h : Hint := { vs := [0, 1, 2, 3, 4, 5], nil := [], cuts := [], ret := ([4], [2, 3, 5]), ords := [], fns := [(11, [true, false, false])] }
end symbols_grown
def s_symbols_grown (a : (D0) × ((Bool) × (Unit))) : Option ((List (Bool)) × (Unit)) := runOf (S := cx) symbols_grown.E symbols_grown.h fuel Try.f77 [.val ty0, .val .bool] (.slice 4 .bool) .ro a
noncomputable def F_symbols_grown : FSpec cx.toNm := { ps := [.val ty0, .val .bool], nres := 1, rt := (.slice 4 .bool), rm := .ro, f := s_symbols_grown }
theorem ok_symbols_grown : FnOk Try.prog F_symbols_grown 77 := fn_of (F := F_symbols_grown) (hn := symbols_grown.h) (E := symbols_grown.E) cxOk (tysT _ _ _) (fs_cons ok_symbols_till_i1 fs_nil) follows Try.func77 (by kernel_rfl) (fun a r h => ⟨fuel, Eq.trans (b := F_symbols_grown.f a) (by kernel_rfl) h⟩)
namespace symbols_worthy
noncomputable def E : Env cx := { tys := tys, fs := fsOf [(77, F_symbols_grown)] }
noncomputable def h : Hint := { vs := [0, 1, 2], nil := [], cuts := [], ret := ([2], [1]), ords := [] }
end symbols_worthy
def s_symbols_worthy (a : (D0) × (Unit)) : Option ((List (Bool)) × (Unit)) := runOf (S := cx) symbols_worthy.E symbols_worthy.h fuel Try.f62 [.val ty0] (.slice 4 .bool) .ro a
noncomputable def F_symbols_worthy : FSpec cx.toNm := { ps := [.val ty0], nres := 1, rt := (.slice 4 .bool), rm := .ro, f := s_symbols_worthy }
theorem ok_symbols_worthy : FnOk Try.prog F_symbols_worthy 62 := fn_of (F := F_symbols_worthy) (hn := symbols_worthy.h) (E := symbols_worthy.E) cxOk (tysT _ _ _) (fs_cons ok_symbols_grown fs_nil) follows Try.func62 (by kernel_rfl) (fun a r h => ⟨fuel, Eq.trans (b := F_symbols_worthy.f a) (by kernel_rfl) h⟩)
namespace slices_Clonex
noncomputable def E : Env cx := { tys := tys, fs := fsOf [] }
noncomputable def h : Hint := { vs := [0, 2], nil := [(5, (.own .ro))], cuts := [], ret := ([2], []), ords := [] }
end slices_Clonex
def s_slices_Clonex (a : (List (Int)) × (Unit)) : Option ((List (Int)) × (Unit)) := runOf (S := cx) slices_Clonex.E slices_Clonex.h fuel Try.f82 [.val (.slice 3 (.int .i64))] (.slice 3 (.int .i64)) .ro a
noncomputable def F_slices_Clonex : FSpec cx.toNm := { ps := [.val (.slice 3 (.int .i64))], nres := 1, rt := (.slice 3 (.int .i64)), rm := .ro, f := s_slices_Clonex }
theorem ok_slices_Clonex : FnOk Try.prog F_slices_Clonex 82 := fn_of (F := F_slices_Clonex) (hn := slices_Clonex.h) (E := slices_Clonex.E) cxOk (tysT _ _ _) fs_nil follows Try.func82 (by kernel_rfl) (fun a r h => ⟨fuel, Eq.trans (b := F_slices_Clonex.f a) (by kernel_rfl) h⟩)
namespace symbols_noted_1_1
noncomputable def E : Env cx := { tys := tys, fs := fsOf [] }
noncomputable def h : Hint := { vs := [0, 1, 3], nil := [], cuts := [], ret := ([3], []), ords := [] }
end symbols_noted_1_1
def s_symbols_noted_1_1 (a : (Int) × ((D0) × (Unit))) : Option ((Bool) × (Unit)) := runOf (S := cx) symbols_noted_1_1.E symbols_noted_1_1.h fuel Try.f83 [.val (.int .i64), .val (.box ty0)] .bool .ro a
noncomputable def F_symbols_noted_1_1 : FSpec cx.toNm := { ps := [.val (.int .i64), .val (.box ty0)], nres := 1, rt := .bool, rm := .ro, f := s_symbols_noted_1_1 }
theorem ok_symbols_noted_1_1 : FnOk Try.prog F_symbols_noted_1_1 83 := fn_of (F := F_symbols_noted_1_1) (hn := symbols_noted_1_1.h) (E := symbols_noted_1_1.E) cxOk (tysT _ _ _) fs_nil follows Try.func83 (by kernel_rfl) (fun a r h => ⟨fuel, Eq.trans (b := F_symbols_noted_1_1.f a) (by kernel_rfl) h⟩)
namespace slices_IndexFuncxx_i2
noncomputable def E : Env cx := { tys := tys, fs := fsOf [(83, F_symbols_noted_1_1)] }
noncomputable def h : Hint := { vs := [0, 1, 4, 5, 7, 8], nil := [], cuts := [(2, ([0, 1, 7, 8], []), ([], [])), (7, ([], []), ([], []))], ret := ([4], []), ords := [] }
end slices_IndexFuncxx_i2
def s_slices_IndexFuncxx_i2 (a : (List (Int)) × (((D0) × (Unit)) × (Unit))) : Option ((Int) × (Unit)) := runOf (S := cx) slices_IndexFuncxx_i2.E slices_IndexFuncxx_i2.h fuel Try.f76 [.val (.slice 3 (.int .i64)), .val (.clo 83 (.pair (.box ty0) .unit))] (.int .i64) .ro a
noncomputable def F_slices_IndexFuncxx_i2 : FSpec cx.toNm := { ps := [.val (.slice 3 (.int .i64)), .val (.clo 83 (.pair (.box ty0) .unit))], nres := 1, rt := (.int .i64), rm := .ro, f := s_slices_IndexFuncxx_i2 }
theorem ok_slices_IndexFuncxx_i2 : FnOk Try.prog F_slices_IndexFuncxx_i2 76 := fn_of (F := F_slices_IndexFuncxx_i2) (hn := slices_IndexFuncxx_i2.h) (E := slices_IndexFuncxx_i2.E) cxOk (tysT _ _ _) (fs_cons ok_symbols_noted_1_1 fs_nil) follows Try.func76 (by kernel_rfl) (fun a r h => ⟨fuel, Eq.trans (b := F_slices_IndexFuncxx_i2.f a) (by kernel_rfl) h⟩)
namespace slices_ContainsFuncxx_i2
noncomputable def E : Env cx := { tys := tys, fs := fsOf [(76, F_slices_IndexFuncxx_i2)] }
noncomputable def h : Hint := { vs := [0, 1, 4], nil := [], cuts := [], ret := ([4], []), ords := [] }
end slices_ContainsFuncxx_i2
def s_slices_ContainsFuncxx_i2 (a : (List (Int)) × (((D0) × (Unit)) × (Unit))) : Option ((Bool) × (Unit)) := runOf (S := cx) slices_ContainsFuncxx_i2.E slices_ContainsFuncxx_i2.h fuel Try.f60 [.val (.slice 3 (.int .i64)), .val (.clo 83 (.pair (.box ty0) .unit))] .bool .ro a
noncomputable def F_slices_ContainsFuncxx_i2 : FSpec cx.toNm := { ps := [.val (.slice 3 (.int .i64)), .val (.clo 83 (.pair (.box ty0) .unit))], nres := 1, rt := .bool, rm := .ro, f := s_slices_ContainsFuncxx_i2 }
theorem ok_slices_ContainsFuncxx_i2 : FnOk Try.prog F_slices_ContainsFuncxx_i2 60 := fn_of (F := F_slices_ContainsFuncxx_i2) (hn := slices_ContainsFuncxx_i2.h) (E := slices_ContainsFuncxx_i2.E) cxOk (tysT _ _ _) (fs_cons ok_slices_IndexFuncxx_i2 fs_nil) follows Try.func60 (by kernel_rfl) (fun a r h => ⟨fuel, Eq.trans (b := F_slices_ContainsFuncxx_i2.f a) (by kernel_rfl) h⟩)
namespace symbols_rulesOf
noncomputable def E : Env cx := { tys := tys, fs := fsOf [] }
noncomputable def h : Hint := { vs := [0, 1, 2, 4, 5, 6, 7, 9, 10, 11], nil := [(5, (.own .ro))], cuts := [(3, ([1, 5, 9, 10, 11], []), ([5], [])), (7, ([1, 5, 9, 10, 11], []), ([1, 5, 9, 10, 11], [])), (8, ([5], []), ([5], []))], ret := ([4], [2, 7]), ords := [] }
end symbols_rulesOf
def s_symbols_rulesOf (a : (D0) × ((Int) × (Unit))) : Option ((List (Int)) × (Unit)) := runOf (S := cx) symbols_rulesOf.E symbols_rulesOf.h fuel Try.f93 [.val ty0, .val (.int .i64)] (.slice 3 (.int .i64)) .ro a
noncomputable def F_symbols_rulesOf : FSpec cx.toNm := { ps := [.val ty0, .val (.int .i64)], nres := 1, rt := (.slice 3 (.int .i64)), rm := .ro, f := s_symbols_rulesOf }
theorem ok_symbols_rulesOf : FnOk Try.prog F_symbols_rulesOf 93 := fn_of (F := F_symbols_rulesOf) (hn := symbols_rulesOf.h) (E := symbols_rulesOf.E) cxOk (tysT _ _ _) fs_nil follows Try.func93 (by kernel_rfl) (fun a r h => ⟨fuel, Eq.trans (b := F_symbols_rulesOf.f a) (by kernel_rfl) h⟩)
namespace slices_Equal
noncomputable def E : Env cx := { tys := tys, fs := fsOf [] }
noncomputable def h : Hint := { vs := [0, 1, 4, 5, 12, 13], nil := [], cuts := [(4, ([0, 1, 12, 13], []), ([], [])), (9, ([], []), ([], []))], ret := ([4], []), ords := [] }
end slices_Equal
def s_slices_Equal (a : (List (Int)) × ((List (Int)) × (Unit))) : Option ((Bool) × (Unit)) := runOf (S := cx) slices_Equal.E slices_Equal.h fuel Try.f85 [.val (.slice 3 (.int .i64)), .val (.slice 3 (.int .i64))] .bool .ro a
noncomputable def F_slices_Equal : FSpec cx.toNm := { ps := [.val (.slice 3 (.int .i64)), .val (.slice 3 (.int .i64))], nres := 1, rt := .bool, rm := .ro, f := s_slices_Equal }
theorem ok_slices_Equal : FnOk Try.prog F_slices_Equal 85 := fn_of (F := F_slices_Equal) (hn := slices_Equal.h) (E := slices_Equal.E) cxOk (tysT _ _ _) fs_nil follows Try.func85 (by kernel_rfl) (fun a r h => ⟨fuel, Eq.trans (b := F_slices_Equal.f a) (by kernel_rfl) h⟩)
namespace symbols_ruleWith_1
noncomputable def E : Env cx := { tys := tys, fs := fsOf [(85, F_slices_Equal)] }
noncomputable def h : Hint := { vs := [0, 1, 2, 3, 4], nil := [], cuts := [], ret := ([4], [3]), ords := [] }
end symbols_ruleWith_1
def s_symbols_ruleWith_1 (a : ((Int) × (List (Int))) × ((Int) × ((List (Int)) × (Unit)))) : Option ((Bool) × (Unit)) := runOf (S := cx) symbols_ruleWith_1.E symbols_ruleWith_1.h fuel Try.f96 [.val (.agg (.pair (.int .i64) (.slice 3 (.int .i64)))), .val (.box (.int .i64)), .val (.box (.slice 3 (.int .i64)))] .bool .ro a
noncomputable def F_symbols_ruleWith_1 : FSpec cx.toNm := { ps := [.val (.agg (.pair (.int .i64) (.slice 3 (.int .i64)))), .val (.box (.int .i64)), .val (.box (.slice 3 (.int .i64)))], nres := 1, rt := .bool, rm := .ro, f := s_symbols_ruleWith_1 }
theorem ok_symbols_ruleWith_1 : FnOk Try.prog F_symbols_ruleWith_1 96 := fn_of (F := F_symbols_ruleWith_1) (hn := symbols_ruleWith_1.h) (E := symbols_ruleWith_1.E) cxOk (tysT _ _ _) (fs_cons ok_slices_Equal fs_nil) follows Try.func96 (by kernel_rfl) (fun a r h => ⟨fuel, Eq.trans (b := F_symbols_ruleWith_1.f a) (by kernel_rfl) h⟩)
namespace slices_IndexFuncx_i1
noncomputable def E : Env cx := { tys := tys, fs := fsOf [(96, F_symbols_ruleWith_1)] }
noncomputable def h : Hint := { vs := [0, 1, 4, 5, 7, 8], nil := [], cuts := [(2, ([0, 1, 7, 8], []), ([], [])), (7, ([], []), ([], []))], ret := ([4], []), ords := [] }
end slices_IndexFuncx_i1
def s_slices_IndexFuncx_i1 (a : (List ((Int) × (List (Int)))) × (((Int) × ((List (Int)) × (Unit))) × (Unit))) : Option ((Int) × (Unit)) := runOf (S := cx) slices_IndexFuncx_i1.E slices_IndexFuncx_i1.h fuel Try.f74 [.val (.slice 41 (.agg (.pair (.int .i64) (.slice 3 (.int .i64))))), .val (.clo 96 (.pair (.box (.int .i64)) (.pair (.box (.slice 3 (.int .i64))) .unit)))] (.int .i64) .ro a
noncomputable def F_slices_IndexFuncx_i1 : FSpec cx.toNm := { ps := [.val (.slice 41 (.agg (.pair (.int .i64) (.slice 3 (.int .i64))))), .val (.clo 96 (.pair (.box (.int .i64)) (.pair (.box (.slice 3 (.int .i64))) .unit)))], nres := 1, rt := (.int .i64), rm := .ro, f := s_slices_IndexFuncx_i1 }
theorem ok_slices_IndexFuncx_i1 : FnOk Try.prog F_slices_IndexFuncx_i1 74 := fn_of (F := F_slices_IndexFuncx_i1) (hn := slices_IndexFuncx_i1.h) (E := slices_IndexFuncx_i1.E) cxOk (tysT _ _ _) (fs_cons ok_symbols_ruleWith_1 fs_nil) follows Try.func74 (by kernel_rfl) (fun a r h => ⟨fuel, Eq.trans (b := F_slices_IndexFuncx_i1.f a) (by kernel_rfl) h⟩)
namespace symbols_ruleWith
noncomputable def E : Env cx := { tys := tys, fs := fsOf [(74, F_slices_IndexFuncx_i1)] }
noncomputable def h : Hint := { vs := [0, 1, 2, 3, 4, 5, 6], nil := [], cuts := [], ret := ([6], [3, 4, 5]), ords := [] }
end symbols_ruleWith
def s_symbols_ruleWith (a : (D0) × ((Int) × ((List (Int)) × (Unit)))) : Option ((Int) × (Unit)) := runOf (S := cx) symbols_ruleWith.E symbols_ruleWith.h fuel Try.f92 [.val ty0, .val (.int .i64), .val (.slice 3 (.int .i64))] (.int .i64) .ro a
noncomputable def F_symbols_ruleWith : FSpec cx.toNm := { ps := [.val ty0, .val (.int .i64), .val (.slice 3 (.int .i64))], nres := 1, rt := (.int .i64), rm := .ro, f := s_symbols_ruleWith }
theorem ok_symbols_ruleWith : FnOk Try.prog F_symbols_ruleWith 92 := fn_of (F := F_symbols_ruleWith) (hn := symbols_ruleWith.h) (E := symbols_ruleWith.E) cxOk (tysT _ _ _) (fs_cons ok_slices_IndexFuncx_i1 fs_nil) follows Try.func92 (by kernel_rfl) (fun a r h => ⟨fuel, Eq.trans (b := F_symbols_ruleWith.f a) (by kernel_rfl) h⟩)
namespace symbols_note
noncomputable def E : Env cx := { tys := tys, fs := fsOf [(55, F_symbols_isTerm), (56, F_symbols_isOther), (92, F_symbols_ruleWith), (93, F_symbols_rulesOf)] }
noncomputable def h : Hint := { vs := [0, 1, 2, 3, 6, 7, 8, 9, 10, 11, 12, 13, 14, 15, 16], nil := [], cuts := [(7, ([2, 3, 8, 9, 10], [3]), ([2, 3, 8, 9, 10], [3])), (9, ([2, 8, 11, 12, 13], []), ([2, 8, 11, 12, 13], []))], ret := ([6, 7], [3]), ords := [(7, [0, 1, 2, 3, 4, 6, 7, 8, 9, 10, 5, 11, 12, 13]), (9, [0, 1, 2, 3, 4, 5, 6, 7, 8, 10, 9, 11, 12])], trees := [(6, (.step 0 (.step 1 (.step 2 (.step 3 (.step 4 (.step 5 (.step 7 (.step 8 (.step 9 (.step 10 (.step 11 (.step 12 (.step 13 (.step 14 (.step 15 (.step 17 (.both (.step 6 (.step 18 (.step 16 (.step 19 .done)))) (.step 16 (.step 6 (.step 18 (.step 19 .done)))))))))))))))))))))), (12, (.step 0 (.step 1 (.step 2 (.step 3 (.step 4 (.step 5 (.step 6 (.step 7 (.step 8 (.step 9 (.step 10 (.step 11 (.step 12 (.step 14 (.step 15 (.step 16 (.step 17 (.step 18 (.step 19 (.step 20 (.both (.step 13 (.step 21 (.step 22 (.step 23 (.step 24 (.step 25 (.step 26 (.step 27 (.step 28 (.step 29 (.step 30 (.step 31 (.step 32 (.step 33 (.step 34 (.step 35 (.step 36 (.step 37 (.step 38 .done))))))))))))))))))) (.step 21 (.step 22 (.step 23 (.step 24 (.step 25 (.step 26 (.step 27 (.both (.step 13 (.step 28 (.step 29 (.step 30 (.step 31 (.step 32 (.step 33 (.step 34 (.step 35 (.step 36 (.step 37 (.step 38 .done)))))))))))) (.step 28 (.step 29 (.step 30 (.step 31 (.step 32 (.step 33 (.step 34 (.both (.step 13 (.step 35 (.step 36 (.step 37 (.step 38 .done))))) (.step 35 (.step 36 (.step 13 (.step 37 (.step 38 .done))))))))))))))))))))))))))))))))))))))))))), (14, (.step 0 (.step 1 (.step 2 (.step 3 (.step 4 (.step 5 (.step 6 (.step 8 (.step 9 (.step 10 (.step 11 (.step 12 (.step 13 (.step 14 (.both (.step 7 (.step 15 (.step 16 (.step 17 (.step 18 .done))))) (.step 15 (.step 16 (.step 7 (.step 17 (.step 18 .done)))))))))))))))))))))] }
end symbols_note
def s_symbols_note (a : (D0) × ((Int) × ((List (Int)) × (Unit)))) : Option (((List (Int)) × (Bool)) × (Unit)) := runOf (S := cx) symbols_note.E symbols_note.h fuel Try.f84 [.val ty0, .val (.int .u8), .val (.slice 3 (.int .i64))] (.pair (.slice 3 (.int .i64)) .bool) .ro a
noncomputable def F_symbols_note : FSpec cx.toNm := { ps := [.val ty0, .val (.int .u8), .val (.slice 3 (.int .i64))], nres := 2, rt := (.pair (.slice 3 (.int .i64)) .bool), rm := .ro, f := s_symbols_note }
theorem ok_symbols_note : FnOk Try.prog F_symbols_note 84 := fn_of (F := F_symbols_note) (hn := symbols_note.h) (E := symbols_note.E) cxOk (tysT _ _ _) (fs_cons ok_symbols_isTerm (fs_cons ok_symbols_isOther (fs_cons ok_symbols_ruleWith (fs_cons ok_symbols_rulesOf fs_nil)))) follows Try.func84 (by kernel_rfl) (fun a r h => ⟨fuel, Eq.trans (b := F_symbols_note.f a) (by kernel_rfl) h⟩)
namespace symbols_noted_1
noncomputable def E : Env cx := { tys := tys, fs := fsOf [(60, F_slices_ContainsFuncxx_i2), (82, F_slices_Clonex), (84, F_symbols_note), (85, F_slices_Equal)] }
noncomputable def h : Hint := { vs := [0, 1, 2, 3, 4, 5, 7, 8, 9, 10], nil := [], cuts := [(5, ([0, 4, 5, 8, 27], []), ([0, 4, 5, 8], [])), (6, ([0, 4, 5, 8], []), ([0, 4, 5, 8], []))], ret := ([7], []), ords := [] }
end symbols_noted_1
def s_symbols_noted_1 (a : (List (Int)) × ((Int) × ((Int) × ((Int) × ((Int) × ((D0) × (Unit))))))) : Option ((Bool) × (Unit)) := runOf (S := cx) symbols_noted_1.E symbols_noted_1.h fuel Try.f81 [.val (.slice 3 (.int .i64)), .val (.box (.int .i64)), .val (.box (.int .i64)), .val (.box (.int .i64)), .val (.box (.int .u8)), .val (.box ty0)] .bool .ro a
noncomputable def F_symbols_noted_1 : FSpec cx.toNm := { ps := [.val (.slice 3 (.int .i64)), .val (.box (.int .i64)), .val (.box (.int .i64)), .val (.box (.int .i64)), .val (.box (.int .u8)), .val (.box ty0)], nres := 1, rt := .bool, rm := .ro, f := s_symbols_noted_1 }
theorem ok_symbols_noted_1 : FnOk Try.prog F_symbols_noted_1 81 := fn_of (F := F_symbols_noted_1) (hn := symbols_noted_1.h) (E := symbols_noted_1.E) cxOk (tysT _ _ _) (fs_cons ok_slices_ContainsFuncxx_i2 (fs_cons ok_slices_Clonex (fs_cons ok_symbols_note (fs_cons ok_slices_Equal fs_nil)))) follows Try.func81 (by kernel_rfl) (fun a r h => ⟨fuel, Eq.trans (b := F_symbols_noted_1.f a) (by kernel_rfl) h⟩)
namespace slices_IndexFuncxxx
noncomputable def E : Env cx := { tys := tys, fs := fsOf [(81, F_symbols_noted_1)] }
noncomputable def h : Hint := { vs := [0, 1, 4, 5, 7, 8], nil := [], cuts := [(2, ([0, 1, 7, 8], []), ([], [])), (7, ([], []), ([], []))], ret := ([4], []), ords := [] }
end slices_IndexFuncxxx
def s_slices_IndexFuncxxx (a : (List (List (Int))) × (((Int) × ((Int) × ((Int) × ((Int) × ((D0) × (Unit)))))) × (Unit))) : Option ((Int) × (Unit)) := runOf (S := cx) slices_IndexFuncxxx.E slices_IndexFuncxxx.h fuel Try.f91 [.val (.slice 24 (.slice 3 (.int .i64))), .val (.clo 81 (.pair (.box (.int .i64)) (.pair (.box (.int .i64)) (.pair (.box (.int .i64)) (.pair (.box (.int .u8)) (.pair (.box ty0) .unit))))))] (.int .i64) .ro a
noncomputable def F_slices_IndexFuncxxx : FSpec cx.toNm := { ps := [.val (.slice 24 (.slice 3 (.int .i64))), .val (.clo 81 (.pair (.box (.int .i64)) (.pair (.box (.int .i64)) (.pair (.box (.int .i64)) (.pair (.box (.int .u8)) (.pair (.box ty0) .unit))))))], nres := 1, rt := (.int .i64), rm := .ro, f := s_slices_IndexFuncxxx }
theorem ok_slices_IndexFuncxxx : FnOk Try.prog F_slices_IndexFuncxxx 91 := fn_of (F := F_slices_IndexFuncxxx) (hn := slices_IndexFuncxxx.h) (E := slices_IndexFuncxxx.E) cxOk (tysT _ _ _) (fs_cons ok_symbols_noted_1 fs_nil) follows Try.func91 (by kernel_rfl) (fun a r h => ⟨fuel, Eq.trans (b := F_slices_IndexFuncxxx.f a) (by kernel_rfl) h⟩)
namespace slices_ContainsFuncxxx
noncomputable def E : Env cx := { tys := tys, fs := fsOf [(91, F_slices_IndexFuncxxx)] }
noncomputable def h : Hint := { vs := [0, 1, 4], nil := [], cuts := [], ret := ([4], []), ords := [] }
end slices_ContainsFuncxxx
def s_slices_ContainsFuncxxx (a : (List (List (Int))) × (((Int) × ((Int) × ((Int) × ((Int) × ((D0) × (Unit)))))) × (Unit))) : Option ((Bool) × (Unit)) := runOf (S := cx) slices_ContainsFuncxxx.E slices_ContainsFuncxxx.h fuel Try.f80 [.val (.slice 24 (.slice 3 (.int .i64))), .val (.clo 81 (.pair (.box (.int .i64)) (.pair (.box (.int .i64)) (.pair (.box (.int .i64)) (.pair (.box (.int .u8)) (.pair (.box ty0) .unit))))))] .bool .ro a
noncomputable def F_slices_ContainsFuncxxx : FSpec cx.toNm := { ps := [.val (.slice 24 (.slice 3 (.int .i64))), .val (.clo 81 (.pair (.box (.int .i64)) (.pair (.box (.int .i64)) (.pair (.box (.int .i64)) (.pair (.box (.int .u8)) (.pair (.box ty0) .unit))))))], nres := 1, rt := .bool, rm := .ro, f := s_slices_ContainsFuncxxx }
theorem ok_slices_ContainsFuncxxx : FnOk Try.prog F_slices_ContainsFuncxxx 80 := fn_of (F := F_slices_ContainsFuncxxx) (hn := slices_ContainsFuncxxx.h) (E := slices_ContainsFuncxxx.E) cxOk (tysT _ _ _) (fs_cons ok_slices_IndexFuncxxx fs_nil) follows Try.func80 (by kernel_rfl) (fun a r h => ⟨fuel, Eq.trans (b := F_slices_ContainsFuncxxx.f a) (by kernel_rfl) h⟩)
namespace symbols_noted
noncomputable def E : Env cx := { tys := tys, fs := fsOf [(80, F_slices_ContainsFuncxxx)] }
noncomputable def h : Hint := { vs := [0, 1, 2, 3, 4, 5, 6, 7, 9, 10, 11, 12], nil := [], cuts := [], ret := ([12], [6, 7, 9, 10, 11]), ords := [] }
end symbols_noted
def s_symbols_noted (a : (D0) × ((Int) × ((List (List (Int))) × ((Int) × ((Int) × ((Int) × (Unit))))))) : Option ((Bool) × (Unit)) := runOf (S := cx) symbols_noted.E symbols_noted.h fuel Try.f64 [.val ty0, .val (.int .u8), .val (.slice 24 (.slice 3 (.int .i64))), .val (.int .i64), .val (.int .i64), .val (.int .i64)] .bool .ro a
noncomputable def F_symbols_noted : FSpec cx.toNm := { ps := [.val ty0, .val (.int .u8), .val (.slice 24 (.slice 3 (.int .i64))), .val (.int .i64), .val (.int .i64), .val (.int .i64)], nres := 1, rt := .bool, rm := .ro, f := s_symbols_noted }
theorem ok_symbols_noted : FnOk Try.prog F_symbols_noted 64 := fn_of (F := F_symbols_noted) (hn := symbols_noted.h) (E := symbols_noted.E) cxOk (tysT _ _ _) (fs_cons ok_slices_ContainsFuncxxx fs_nil) follows Try.func64 (by kernel_rfl) (fun a r h => ⟨fuel, Eq.trans (b := F_symbols_noted.f a) (by kernel_rfl) h⟩)
namespace symbols_Right
noncomputable def E : Env cx := { tys := tys, fs := fsOf [(56, F_symbols_isOther), (57, F_slices_ContainsFuncx), (60, F_slices_ContainsFuncxx), (62, F_symbols_worthy), (63, F_symbols_come), (64, F_symbols_noted)] }
noncomputable def h : Hint := { vs := [0, 1, 2, 3, 4, 5, 6], nil := [], cuts := [(3, ([1, 3, 8], [3]), ([1], [])), (5, ([1, 3, 38], [3]), ([1], [])), (10, ([1], []), ([1], [])), (12, ([1, 4, 5, 6], []), ([1], [])), (13, ([1, 4, 5, 6], []), ([1, 4, 5, 6], [])), (15, ([1, 4, 5, 6, 84], []), ([1, 4, 5, 6], [])), (16, ([1], []), ([1], []))], ret := ([2], [1, 3]), ords := [(10, [0, 2, 1, 3, 4, 5])], clos := [(3, (.clo 54 (.pair (.box ty0) .unit)))] }
end symbols_Right
def s_symbols_Right (a : (D0) × (Unit)) : Option ((Bool) × (Unit)) := runOf (S := cx) symbols_Right.E symbols_Right.h fuel Try.f36 [.val ty0] .bool .ro a
noncomputable def F_symbols_Right : FSpec cx.toNm := { ps := [.val ty0], nres := 1, rt := .bool, rm := .ro, f := s_symbols_Right }
theorem ok_symbols_Right : FnOk Try.prog F_symbols_Right 36 := fn_of (F := F_symbols_Right) (hn := symbols_Right.h) (E := symbols_Right.E) cxOk (tysT _ _ _) (fs_cons ok_symbols_isOther (fs_cons ok_slices_ContainsFuncx (fs_cons ok_slices_ContainsFuncxx (fs_cons ok_symbols_worthy (fs_cons ok_symbols_come (fs_cons ok_symbols_noted fs_nil)))))) follows Try.func36 (by kernel_rfl) (fun a r h => ⟨fuel, Eq.trans (b := F_symbols_Right.f a) (by kernel_rfl) h⟩)
namespace slices_Index
noncomputable def E : Env cx := { tys := tys, fs := fsOf [] }
noncomputable def h : Hint := { vs := [0, 1, 4, 5, 7, 8], nil := [], cuts := [(2, ([0, 1, 7, 8], []), ([], [])), (7, ([], []), ([], []))], ret := ([4], []), ords := [] }
end slices_Index
def s_slices_Index (a : (List (Option N1)) × ((Option N1) × (Unit))) : Option ((Int) × (Unit)) := runOf (S := cx) slices_Index.E slices_Index.h fuel Try.f86 [.val (.slice 35 (.ptr 1)), .val (.ptr 1)] (.int .i64) .ro a
noncomputable def F_slices_Index : FSpec cx.toNm := { ps := [.val (.slice 35 (.ptr 1)), .val (.ptr 1)], nres := 1, rt := (.int .i64), rm := .ro, f := s_slices_Index }
theorem ok_slices_Index : FnOk Try.prog F_slices_Index 86 := fn_of (F := F_slices_Index) (hn := slices_Index.h) (E := slices_Index.E) cxOk (tysT _ _ _) fs_nil follows Try.func86 (by kernel_rfl) (fun a r h => ⟨fuel, Eq.trans (b := F_slices_Index.f a) (by kernel_rfl) h⟩)
namespace slices_Contains
noncomputable def E : Env cx := { tys := tys, fs := fsOf [(86, F_slices_Index)] }
noncomputable def h : Hint := { vs := [0, 1, 4], nil := [], cuts := [], ret := ([4], []), ords := [] }
end slices_Contains
def s_slices_Contains (a : (List (Option N1)) × ((Option N1) × (Unit))) : Option ((Bool) × (Unit)) := runOf (S := cx) slices_Contains.E slices_Contains.h fuel Try.f66 [.val (.slice 35 (.ptr 1)), .val (.ptr 1)] .bool .ro a
noncomputable def F_slices_Contains : FSpec cx.toNm := { ps := [.val (.slice 35 (.ptr 1)), .val (.ptr 1)], nres := 1, rt := .bool, rm := .ro, f := s_slices_Contains }
theorem ok_slices_Contains : FnOk Try.prog F_slices_Contains 66 := fn_of (F := F_slices_Contains) (hn := slices_Contains.h) (E := slices_Contains.E) cxOk (tysT _ _ _) (fs_cons ok_slices_Index fs_nil) follows Try.func66 (by kernel_rfl) (fun a r h => ⟨fuel, Eq.trans (b := F_slices_Contains.f a) (by kernel_rfl) h⟩)
namespace tree_toks
noncomputable def E : Env cx := { tys := tys, fs := fsOf [] }
abbrev R := Option ((Int) × (Unit))
abbrev C := Exit → ST cx → R
noncomputable def b : Code := bodyC Try.f40
noncomputable def h : Hint := { vs := [0, 2, 3, 5, 6, 7, 8], nil := [], cuts := [(3, ([3, 6, 7, 8], []), ([3], [])), (7, ([3, 6, 7, 8], []), ([3, 6, 7, 8], [])), (8, ([3], []), ([3], []))], ret := ([2], []), ords := [] }
noncomputable def K0 : C := fin (S := cx) E Try.f40.results.toList (.int .i64) .ro [] []
noncomputable def c0 : Code := subC b [1]
noncomputable def K1 (k : Nat) : C := outD h c0 K0
noncomputable def K2 (k : Nat) : C := seqC E h k c0 K0
noncomputable def c1 : Code := subC b [1, 1]
noncomputable def K3 (k : Nat) : C := outD h c1 (K1 k)
noncomputable def K4 (k : Nat) : C := seqC E h k c1 (K1 k)
noncomputable def c2 : Code := subC b [1, 1, 1]
noncomputable def K5 (k : Nat) : C := outD h c2 (K3 k)
noncomputable def K6 (k : Nat) : C := seqC E h k c2 (K3 k)
noncomputable def c3 : Code := subC b [1, 1, 0, 1]
noncomputable def K7 (k : Nat) : C := outD h c3 (K6 k)
noncomputable def K8 (k : Nat) : C := seqC E h k c3 (K6 k)
noncomputable def K9 (k : Nat) : C := blockK 0 (K7 k)
noncomputable def c4 : Code := subC b [1, 1, 0, 1, 0, 0]
noncomputable def K10 (k n1 : Nat) : C := loopD E h k c4 (K9 k) n1
noncomputable def c5 : Code := subC b [1, 1, 0, 1, 0, 0, 1]
noncomputable def K11 (k n1 : Nat) : C := outD h c5 (K10 k n1)
noncomputable def K12 (k n1 : Nat) : C := seqC E h k c5 (K10 k n1)
noncomputable def c6 : Code := subC b [1, 1, 0, 1, 0, 0, 1, 1]
noncomputable def K13 (k n1 : Nat) : C := outD h c6 (K11 k n1)
noncomputable def K14 (k n1 : Nat) : C := seqC E h k c6 (K11 k n1)
noncomputable def c7 : Code := subC b [1, 1, 0, 1, 0, 0, 1, 1, 1]
noncomputable def K15 (k n1 : Nat) : C := outD h c7 (K13 k n1)
noncomputable def K16 (k n1 : Nat) : C := seqC E h k c7 (K13 k n1)
noncomputable def K17 (k n1 : Nat) : C := blockK 1 (K16 k n1)
noncomputable def c8 : Code := subC b [1, 1, 0, 1, 0, 0, 1, 1, 0, 0, 1]
noncomputable def K18 (k n1 : Nat) : C := outD h c8 (K17 k n1)
noncomputable def K19 (k n1 : Nat) : C := seqC E h k c8 (K17 k n1)
noncomputable def c9 : Code := subC b [1, 1, 0, 1, 0, 0, 1, 1, 0, 0, 1, 1]
noncomputable def K20 (k n1 : Nat) : C := outD h c9 (K18 k n1)
noncomputable def K21 (k n1 : Nat) : C := seqC E h k c9 (K18 k n1)
noncomputable def c10 : Code := subC b [1, 1, 1, 1]
noncomputable def K22 (k : Nat) : C := outD h c10 (K5 k)
noncomputable def K23 (k : Nat) : C := seqC E h k c10 (K5 k)
abbrev T2 := Int → (List (Option N1)) → Int → Int → R
abbrev T3 := Int → R
abbrev T1 := Int → (List (Option N1)) → Int → Int → R
abbrev T0 := (List (Option N1)) → R
abbrev s2 : Int → (List (Option N1)) → Int → Int → ST cx := fun (x3 : Int) (x6 : List (Option N1)) (x7 x8 : Int) => ({ vars := [(3, .v (.int .i64) .ro x3), (6, .v (.slice 35 (.ptr 1)) .ro x6), (7, .v (.int .i64) .ro x7), (8, .v (.int .i64) .ro x8)], scr := [], mems := [] } : ST cx)
noncomputable def u2 (k n1 : Nat) : T2 := fun (x3 : Int) (x6 : List (Option N1)) (x7 x8 : Int) => uK (run E h k c7) (s2 x3 x6 x7 x8) (K15 k n1)
noncomputable abbrev l2 (k n1 : Nat) : T2 := fun (x3 : Int) (x6 : List (Option N1)) (x7 x8 : Int) => cutK (run E h k c7) (s2 x3 x6 x7 x8) (K15 k n1)
abbrev s3 : Int → ST cx := fun (x3 : Int) => ({ vars := [(3, .v (.int .i64) .ro x3)], scr := [], mems := [] } : ST cx)
noncomputable def u3 (k : Nat) : T3 := fun (x3 : Int) => uK (run E h k c2) (s3 x3) (K5 k)
noncomputable abbrev l3 (k : Nat) : T3 := fun (x3 : Int) => cutK (run E h k c2) (s3 x3) (K5 k)
abbrev s1 : Int → (List (Option N1)) → Int → Int → ST cx := fun (x3 : Int) (x6 : List (Option N1)) (x7 x8 : Int) => ({ vars := [(3, .v (.int .i64) .ro x3), (6, .v (.slice 35 (.ptr 1)) .ro x6), (7, .v (.int .i64) .ro x7), (8, .v (.int .i64) .ro x8)], scr := [], mems := [] } : ST cx)
noncomputable def u1 (k n1 : Nat) : T1 := fun (x3 : Int) (x6 : List (Option N1)) (x7 x8 : Int) => uK (loopL E h k c4 (K9 k) n1) (s1 x3 x6 x7 x8) ()
noncomputable abbrev l1 (k n1 : Nat) : T1 := fun (x3 : Int) (x6 : List (Option N1)) (x7 x8 : Int) => cutK (loopL E h k c4 (K9 k) n1) (s1 x3 x6 x7 x8) ()
noncomputable def u0 (k : Nat) : T0 := fun (x0 : List (Option N1)) => runOf (S := cx) E h k Try.f40 [.val (.slice 35 (.ptr 1))] (.int .i64) .ro (x0, ())
def t2 (f1 : T1) : T2 := fun (x3 : Int) (x6 : List (Option N1)) (x7 x8 : Int) => 
  (f1 x3 x6 x7 (w64 (x8 + (1 : Int))))
theorem e2 (k n1 : Nat) : u2 k n1 = t2 (l1 k n1) := by kernel_rfl
theorem g2 (k n1 : Nat) : l2 k n1 = u2 k n1 := funext fun _ => funext fun _ => funext fun _ => funext fun _ => cut_u _ _ _
theorem d2 {x1 y1 : T1} (h1 : x1 = y1) : t2 x1 = t2 y1 := by subst h1; rfl
def p2 (k : Nat) (a1 : T1) : T2 := t2 a1
theorem o2 (k n1 : Nat) (a1 : T1) (h1 : l1 k n1 = a1) : l2 k n1 = p2 k a1 := (Eq.trans (b := u2 k n1) (g2 k n1) (Eq.trans (b := t2 (l1 k n1)) (e2 k n1) (Eq.trans (b := t2 a1) (d2 h1) (by kernel_rfl))))
def t3 : T3 := fun (x3 : Int) => 
  (some (x3, ()))
theorem e3 (k : Nat) : u3 k = t3 := by kernel_rfl
theorem g3 (k : Nat) : l3 k = u3 k := funext fun _ => cut_u _ _ _
def p3 (k : Nat) : T3 := t3
theorem o3 (k : Nat) : l3 k = p3 k := (Eq.trans (b := u3 k) (g3 k) (Eq.trans (b := t3) (e3 k) (by kernel_rfl)))
def t1 (f2 : T2) (f3 : T3) : T1 := fun (x3 : Int) (x6 : List (Option N1)) (x7 x8 : Int) => 
  (iteB (decide (x8 < x7)) (withinR x8 (List.length x6) fun q1 => (iteB (!(Option.isNone (List.getD x6 q1 none))) (bindR (List.getD x6 q1 none) fun z2 => (f2 (w64 (x3 + (out1 z2).2.2.2.2.1)) x6 x7 x8)) (f2 x3 x6 x7 x8))) (f3 x3))
theorem e1 (k n1 : Nat) : u1 k (n1 + 1) = t1 (l2 k n1) (l3 k) := by kernel_rfl
theorem g1 (k n1 : Nat) : l1 k (n1 + 1) = u1 k (n1 + 1) := funext fun _ => funext fun _ => funext fun _ => funext fun _ => cut_u _ _ _
theorem d1 {x2 y2 : T2} {x3 y3 : T3} (h2 : x2 = y2) (h3 : x3 = y3) : t1 x2 x3 = t1 y2 y3 := by subst h2; subst h3; rfl
def p1 (k : Nat) : Nat → T1
  | 0 => fun _ _ _ _ => none
  | n1 + 1 => t1 (p2 k (p1 k n1)) (p3 k)
theorem o1 (k : Nat) : ∀ n1, l1 k n1 = p1 k n1 := by
  intro n1
  induction n1 with
  | zero => kernel_rfl
  | succ n1 ih => exact (Eq.trans (b := u1 k (n1 + 1)) (g1 k n1) (Eq.trans (b := t1 (l2 k n1) (l3 k)) (e1 k n1) (Eq.trans (b := t1 (p2 k (p1 k n1)) (p3 k)) (d1 (o2 k n1 (p1 k n1) ih) (o3 k)) (by kernel_rfl))))
def t0 (f1 : T1) : T0 := fun (x0 : List (Option N1)) => 
  (f1 (0 : Int) x0 ((List.length x0 : Nat) : Int) (0 : Int))
theorem e0 (k : Nat) : u0 k = t0 (l1 k k) := by kernel_rfl
theorem d0 {x1 y1 : T1} (h1 : x1 = y1) : t0 x1 = t0 y1 := by subst h1; rfl
def p0 (k : Nat) : T0 := t0 (p1 k k)
theorem o0 (k : Nat) : u0 k = p0 k := (Eq.trans (b := t0 (l1 k k)) (e0 k) (Eq.trans (b := t0 (p1 k k)) (d0 (o1 k k)) (by kernel_rfl)))
end tree_toks
def s_tree_toks (a : (List (Option N1)) × (Unit)) : Option ((Int) × (Unit)) := tree_toks.p0 (fuel) a.1
noncomputable def F_tree_toks : FSpec cx.toNm := { ps := [.val (.slice 35 (.ptr 1))], nres := 1, rt := (.int .i64), rm := .ro, f := s_tree_toks }
theorem w_tree_toks (a : (List (Option N1)) × (Unit)) : runOf (S := cx) tree_toks.E tree_toks.h (fuel) Try.f40 F_tree_toks.ps F_tree_toks.rt F_tree_toks.rm a = s_tree_toks a := Eq.trans (b := tree_toks.u0 (fuel) a.1) (by kernel_rfl) (Eq.trans (b := tree_toks.p0 (fuel) a.1) (congrFun (tree_toks.o0 (fuel)) a.1) (by kernel_rfl))
theorem ok_tree_toks : FnOk Try.prog F_tree_toks 40 := fn_of (F := F_tree_toks) (hn := tree_toks.h) (E := tree_toks.E) cxOk (tysT _ _ _) fs_nil follows Try.func40 (by kernel_rfl) (fun a r h => ⟨fuel, Eq.trans (w_tree_toks a) h⟩)
namespace tree_fits_1
noncomputable def E : Env cx := { tys := tys, fs := fsOf [] }
noncomputable def h : Hint := { vs := [0, 1, 4], nil := [], cuts := [], ret := ([4], []), ords := [] }
end tree_fits_1
def s_tree_fits_1 (a : (Option N1) × ((Int) × (Unit))) : Option ((Bool) × (Unit)) := runOf (S := cx) tree_fits_1.E tree_fits_1.h fuel Try.f68 [.val (.ptr 1), .val (.int .i64)] .bool .ro a
noncomputable def F_tree_fits_1 : FSpec cx.toNm := { ps := [.val (.ptr 1), .val (.int .i64)], nres := 1, rt := .bool, rm := .ro, f := s_tree_fits_1 }
theorem ok_tree_fits_1 : FnOk Try.prog F_tree_fits_1 68 := fn_of (F := F_tree_fits_1) (hn := tree_fits_1.h) (E := tree_fits_1.E) cxOk (tysT _ _ _) fs_nil follows Try.func68 (by kernel_rfl) (fun a r h => ⟨fuel, Eq.trans (b := F_tree_fits_1.f a) (by kernel_rfl) h⟩)
namespace slices_EqualFunc
noncomputable def E : Env cx := { tys := tys, fs := fsOf [(68, F_tree_fits_1)] }
noncomputable def h : Hint := { vs := [0, 1, 2, 6, 7, 8, 9, 15, 16, 17], nil := [], cuts := [(4, ([1, 2, 15, 16, 17], []), ([], [])), (10, ([], []), ([], []))], ret := ([6], []), ords := [] }
end slices_EqualFunc
def s_slices_EqualFunc (a : (List (Option N1)) × ((List (Int)) × ((Unit) × (Unit)))) : Option ((Bool) × (Unit)) := runOf (S := cx) slices_EqualFunc.E slices_EqualFunc.h fuel Try.f67 [.val (.slice 35 (.ptr 1)), .val (.slice 3 (.int .i64)), .val (.clo 68 .unit)] .bool .ro a
noncomputable def F_slices_EqualFunc : FSpec cx.toNm := { ps := [.val (.slice 35 (.ptr 1)), .val (.slice 3 (.int .i64)), .val (.clo 68 .unit)], nres := 1, rt := .bool, rm := .ro, f := s_slices_EqualFunc }
theorem ok_slices_EqualFunc : FnOk Try.prog F_slices_EqualFunc 67 := fn_of (F := F_slices_EqualFunc) (hn := slices_EqualFunc.h) (E := slices_EqualFunc.E) cxOk (tysT _ _ _) (fs_cons ok_tree_fits_1 fs_nil) follows Try.func67 (by kernel_rfl) (fun a r h => ⟨fuel, Eq.trans (b := F_slices_EqualFunc.f a) (by kernel_rfl) h⟩)
namespace tree_fits
noncomputable def E : Env cx := { tys := tys, fs := fsOf [(40, F_tree_toks), (66, F_slices_Contains), (67, F_slices_EqualFunc)] }
noncomputable def h : Hint := { vs := [0, 1, 2, 4, 5], nil := [], cuts := [(4, ([1, 2, 68], [2]), ([1, 2], [2])), (5, ([1, 2], [2]), ([1, 2], [2]))], ret := ([4], [2, 5]), ords := [] }
end tree_fits
def s_tree_fits (a : (D0) × ((Option N1) × (Unit))) : Option ((Bool) × (Unit)) := runOf (S := cx) tree_fits.E tree_fits.h fuel Try.f41 [.val ty0, .val (.ptr 1)] .bool .ro a
noncomputable def F_tree_fits : FSpec cx.toNm := { ps := [.val ty0, .val (.ptr 1)], nres := 1, rt := .bool, rm := .ro, f := s_tree_fits }
theorem ok_tree_fits : FnOk Try.prog F_tree_fits 41 := fn_of (F := F_tree_fits) (hn := tree_fits.h) (E := tree_fits.E) cxOk (tysT _ _ _) (fs_cons ok_tree_toks (fs_cons ok_slices_Contains (fs_cons ok_slices_EqualFunc fs_nil))) follows Try.func41 (by kernel_rfl) (fun a r h => ⟨fuel, Eq.trans (b := F_tree_fits.f a) (by kernel_rfl) h⟩)
namespace tree_Right_1
noncomputable def E : Env cx := { tys := tys, fs := fsOf [(41, F_tree_fits)] }
noncomputable def h : Hint := { vs := [0, 1, 3], nil := [], cuts := [], ret := ([3], []), ords := [] }
end tree_Right_1
def s_tree_Right_1 (a : (Option N1) × ((D0) × (Unit))) : Option ((Bool) × (Unit)) := runOf (S := cx) tree_Right_1.E tree_Right_1.h fuel Try.f43 [.val (.ptr 1), .val (.box ty0)] .bool .ro a
noncomputable def F_tree_Right_1 : FSpec cx.toNm := { ps := [.val (.ptr 1), .val (.box ty0)], nres := 1, rt := .bool, rm := .ro, f := s_tree_Right_1 }
theorem ok_tree_Right_1 : FnOk Try.prog F_tree_Right_1 43 := fn_of (F := F_tree_Right_1) (hn := tree_Right_1.h) (E := tree_Right_1.E) cxOk (tysT _ _ _) (fs_cons ok_tree_fits fs_nil) follows Try.func43 (by kernel_rfl) (fun a r h => ⟨fuel, Eq.trans (b := F_tree_Right_1.f a) (by kernel_rfl) h⟩)
noncomputable def Fr_tree_all (f : ((Option N1) × (((D0) × (Unit)) × (Unit))) → Option ((Bool) × (Unit))) : FSpec cx.toNm := { ps := [.val (.ptr 1), .val (.clo 43 (.pair (.box ty0) .unit))], nres := 1, rt := .bool, rm := .ro, f := f }
noncomputable def Fr_slices_ContainsFunc_i1 (f : ((List (Option N1)) × ((((D0) × (Unit)) × (Unit)) × (Unit))) → Option ((Bool) × (Unit))) : FSpec cx.toNm := { ps := [.val (.slice 35 (.ptr 1)), .val (.clo 69 (.pair (.box (.clo 43 (.pair (.box ty0) .unit))) .unit))], nres := 1, rt := .bool, rm := .ro, f := f }
noncomputable def Fr_slices_IndexFunc_i1 (f : ((List (Option N1)) × ((((D0) × (Unit)) × (Unit)) × (Unit))) → Option ((Int) × (Unit))) : FSpec cx.toNm := { ps := [.val (.slice 35 (.ptr 1)), .val (.clo 69 (.pair (.box (.clo 43 (.pair (.box ty0) .unit))) .unit))], nres := 1, rt := (.int .i64), rm := .ro, f := f }
noncomputable def Fr_tree_all_1 (f : ((Option N1) × (((D0) × (Unit)) × (Unit))) → Option ((Bool) × (Unit))) : FSpec cx.toNm := { ps := [.val (.ptr 1), .val (.box (.clo 43 (.pair (.box ty0) .unit)))], nres := 1, rt := .bool, rm := .ro, f := f }
namespace tree_all
noncomputable def E (sf_tree_all : ((Option N1) × (((D0) × (Unit)) × (Unit))) → Option ((Bool) × (Unit))) (sf_slices_ContainsFunc_i1 : ((List (Option N1)) × ((((D0) × (Unit)) × (Unit)) × (Unit))) → Option ((Bool) × (Unit))) (sf_slices_IndexFunc_i1 : ((List (Option N1)) × ((((D0) × (Unit)) × (Unit)) × (Unit))) → Option ((Int) × (Unit))) (sf_tree_all_1 : ((Option N1) × (((D0) × (Unit)) × (Unit))) → Option ((Bool) × (Unit))) : Env cx := { tys := tys, fs := fsOf [(37, (Fr_slices_ContainsFunc_i1 sf_slices_ContainsFunc_i1)), (43, F_tree_Right_1)], wr := true }
noncomputable def h : Hint := { vs := [0, 1, 3, 4], nil := [], cuts := [], ret := ([4], [3]), ords := [], fns := [(17, [true])] }
end tree_all
namespace slices_ContainsFunc_i1
noncomputable def E (sf_tree_all : ((Option N1) × (((D0) × (Unit)) × (Unit))) → Option ((Bool) × (Unit))) (sf_slices_ContainsFunc_i1 : ((List (Option N1)) × ((((D0) × (Unit)) × (Unit)) × (Unit))) → Option ((Bool) × (Unit))) (sf_slices_IndexFunc_i1 : ((List (Option N1)) × ((((D0) × (Unit)) × (Unit)) × (Unit))) → Option ((Int) × (Unit))) (sf_tree_all_1 : ((Option N1) × (((D0) × (Unit)) × (Unit))) → Option ((Bool) × (Unit))) : Env cx := { tys := tys, fs := fsOf [(65, (Fr_slices_IndexFunc_i1 sf_slices_IndexFunc_i1))] }
noncomputable def h : Hint := { vs := [0, 1, 4], nil := [], cuts := [], ret := ([4], []), ords := [] }
end slices_ContainsFunc_i1
namespace slices_IndexFunc_i1
noncomputable def E (sf_tree_all : ((Option N1) × (((D0) × (Unit)) × (Unit))) → Option ((Bool) × (Unit))) (sf_slices_ContainsFunc_i1 : ((List (Option N1)) × ((((D0) × (Unit)) × (Unit)) × (Unit))) → Option ((Bool) × (Unit))) (sf_slices_IndexFunc_i1 : ((List (Option N1)) × ((((D0) × (Unit)) × (Unit)) × (Unit))) → Option ((Int) × (Unit))) (sf_tree_all_1 : ((Option N1) × (((D0) × (Unit)) × (Unit))) → Option ((Bool) × (Unit))) : Env cx := { tys := tys, fs := fsOf [(69, (Fr_tree_all_1 sf_tree_all_1))] }
noncomputable def h : Hint := { vs := [0, 1, 4, 5, 7, 8], nil := [], cuts := [(2, ([0, 1, 7, 8], []), ([], [])), (7, ([], []), ([], []))], ret := ([4], []), ords := [] }
end slices_IndexFunc_i1
namespace tree_all_1
noncomputable def E (sf_tree_all : ((Option N1) × (((D0) × (Unit)) × (Unit))) → Option ((Bool) × (Unit))) (sf_slices_ContainsFunc_i1 : ((List (Option N1)) × ((((D0) × (Unit)) × (Unit)) × (Unit))) → Option ((Bool) × (Unit))) (sf_slices_IndexFunc_i1 : ((List (Option N1)) × ((((D0) × (Unit)) × (Unit)) × (Unit))) → Option ((Int) × (Unit))) (sf_tree_all_1 : ((Option N1) × (((D0) × (Unit)) × (Unit))) → Option ((Bool) × (Unit))) : Env cx := { tys := tys, fs := fsOf [(42, (Fr_tree_all sf_tree_all))] }
noncomputable def h : Hint := { vs := [0, 1, 3], nil := [], cuts := [], ret := ([3], []), ords := [] }
end tree_all_1
mutual
def r_tree_all : Nat → ((Option N1) × (((D0) × (Unit)) × (Unit))) → Option ((Bool) × (Unit))
  | 0, _ => none
  | n + 1, a => runOf (S := cx) (tree_all.E (r_tree_all n) (r_slices_ContainsFunc_i1 n) (r_slices_IndexFunc_i1 n) (r_tree_all_1 n)) tree_all.h fuel Try.f42 [.val (.ptr 1), .val (.clo 43 (.pair (.box ty0) .unit))] .bool .ro a
def r_slices_ContainsFunc_i1 : Nat → ((List (Option N1)) × ((((D0) × (Unit)) × (Unit)) × (Unit))) → Option ((Bool) × (Unit))
  | 0, _ => none
  | n + 1, a => runOf (S := cx) (slices_ContainsFunc_i1.E (r_tree_all n) (r_slices_ContainsFunc_i1 n) (r_slices_IndexFunc_i1 n) (r_tree_all_1 n)) slices_ContainsFunc_i1.h fuel Try.f37 [.val (.slice 35 (.ptr 1)), .val (.clo 69 (.pair (.box (.clo 43 (.pair (.box ty0) .unit))) .unit))] .bool .ro a
def r_slices_IndexFunc_i1 : Nat → ((List (Option N1)) × ((((D0) × (Unit)) × (Unit)) × (Unit))) → Option ((Int) × (Unit))
  | 0, _ => none
  | n + 1, a => runOf (S := cx) (slices_IndexFunc_i1.E (r_tree_all n) (r_slices_ContainsFunc_i1 n) (r_slices_IndexFunc_i1 n) (r_tree_all_1 n)) slices_IndexFunc_i1.h fuel Try.f65 [.val (.slice 35 (.ptr 1)), .val (.clo 69 (.pair (.box (.clo 43 (.pair (.box ty0) .unit))) .unit))] (.int .i64) .ro a
def r_tree_all_1 : Nat → ((Option N1) × (((D0) × (Unit)) × (Unit))) → Option ((Bool) × (Unit))
  | 0, _ => none
  | n + 1, a => runOf (S := cx) (tree_all_1.E (r_tree_all n) (r_slices_ContainsFunc_i1 n) (r_slices_IndexFunc_i1 n) (r_tree_all_1 n)) tree_all_1.h fuel Try.f69 [.val (.ptr 1), .val (.box (.clo 43 (.pair (.box ty0) .unit)))] .bool .ro a
end
theorem okr_tree_all : ∀ n, FnOk Try.prog (Fr_tree_all (r_tree_all n)) 42 ∧ FnOk Try.prog (Fr_slices_ContainsFunc_i1 (r_slices_ContainsFunc_i1 n)) 37 ∧ FnOk Try.prog (Fr_slices_IndexFunc_i1 (r_slices_IndexFunc_i1 n)) 65 ∧ FnOk Try.prog (Fr_tree_all_1 (r_tree_all_1 n)) 69
  | 0 => ⟨fn_none (fun _ => rfl), fn_none (fun _ => rfl), fn_none (fun _ => rfl), fn_none (fun _ => rfl)⟩
  | n + 1 => ⟨fn_of (F := Fr_tree_all (r_tree_all (n + 1))) (hn := tree_all.h) (E := tree_all.E (r_tree_all n) (r_slices_ContainsFunc_i1 n) (r_slices_IndexFunc_i1 n) (r_tree_all_1 n)) cxOk (tysT _ _ _) (fs_cons (okr_tree_all n).2.1 (fs_cons ok_tree_Right_1 fs_nil)) follows Try.func42 (by kernel_rfl) (fun a r h => ⟨fuel, Eq.trans (b := (Fr_tree_all (r_tree_all (n + 1))).f a) (by kernel_rfl) h⟩), fn_of (F := Fr_slices_ContainsFunc_i1 (r_slices_ContainsFunc_i1 (n + 1))) (hn := slices_ContainsFunc_i1.h) (E := slices_ContainsFunc_i1.E (r_tree_all n) (r_slices_ContainsFunc_i1 n) (r_slices_IndexFunc_i1 n) (r_tree_all_1 n)) cxOk (tysT _ _ _) (fs_cons (okr_tree_all n).2.2.1 fs_nil) follows Try.func37 (by kernel_rfl) (fun a r h => ⟨fuel, Eq.trans (b := (Fr_slices_ContainsFunc_i1 (r_slices_ContainsFunc_i1 (n + 1))).f a) (by kernel_rfl) h⟩), fn_of (F := Fr_slices_IndexFunc_i1 (r_slices_IndexFunc_i1 (n + 1))) (hn := slices_IndexFunc_i1.h) (E := slices_IndexFunc_i1.E (r_tree_all n) (r_slices_ContainsFunc_i1 n) (r_slices_IndexFunc_i1 n) (r_tree_all_1 n)) cxOk (tysT _ _ _) (fs_cons (okr_tree_all n).2.2.2 fs_nil) follows Try.func65 (by kernel_rfl) (fun a r h => ⟨fuel, Eq.trans (b := (Fr_slices_IndexFunc_i1 (r_slices_IndexFunc_i1 (n + 1))).f a) (by kernel_rfl) h⟩), fn_of (F := Fr_tree_all_1 (r_tree_all_1 (n + 1))) (hn := tree_all_1.h) (E := tree_all_1.E (r_tree_all n) (r_slices_ContainsFunc_i1 n) (r_slices_IndexFunc_i1 n) (r_tree_all_1 n)) cxOk (tysT _ _ _) (fs_cons (okr_tree_all n).1 fs_nil) follows Try.func69 (by kernel_rfl) (fun a r h => ⟨fuel, Eq.trans (b := (Fr_tree_all_1 (r_tree_all_1 (n + 1))).f a) (by kernel_rfl) h⟩)⟩
def s_tree_all (a : (Option N1) × (((D0) × (Unit)) × (Unit))) : Option ((Bool) × (Unit)) := r_tree_all (fuel) a
noncomputable def F_tree_all : FSpec cx.toNm := Fr_tree_all s_tree_all
theorem ok_tree_all : FnOk Try.prog F_tree_all 42 := fun w Z own vs a r h1 h2 h3 h4 => (okr_tree_all (fuel)).1 w Z own vs a r h1 h2 h3 h4
namespace tree_Right
noncomputable def E : Env cx := { tys := tys, fs := fsOf [(36, F_symbols_Right), (42, F_tree_all)], wr := true }
noncomputable def h : Hint := { vs := [0, 1, 2, 4], nil := [], cuts := [], ret := ([4], [2]), ords := [], fns := [(9, [true])] }
end tree_Right
def s_tree_Right (a : (D0) × ((Option N1) × (Unit))) : Option ((Bool) × (Unit)) := runOf (S := cx) tree_Right.E tree_Right.h fuel Try.f19 [.val ty0, .val (.ptr 1)] .bool .ro a
noncomputable def F_tree_Right : FSpec cx.toNm := { ps := [.val ty0, .val (.ptr 1)], nres := 1, rt := .bool, rm := .ro, f := s_tree_Right }
theorem ok_tree_Right : FnOk Try.prog F_tree_Right 19 := fn_of (F := F_tree_Right) (hn := tree_Right.h) (E := tree_Right.E) cxOk (tysT _ _ _) (fs_cons ok_symbols_Right (fs_cons ok_tree_all fs_nil)) follows Try.func19 (by kernel_rfl) (fun a r h => ⟨fuel, Eq.trans (b := F_tree_Right.f a) (by kernel_rfl) h⟩)
namespace tree_At
noncomputable def E : Env cx := { tys := tys, fs := fsOf [] }
abbrev R := Option (((Option N1) × (Bool)) × (Unit))
abbrev C := Exit → ST cx → R
noncomputable def b : Code := bodyC Try.f28
noncomputable def h : Hint := { vs := [0, 1, 4, 5, 7, 8, 9, 10], nil := [], cuts := [(2, ([0, 8, 9, 10], []), ([0], [])), (5, ([0, 7, 8, 9, 10, 28], []), ([0, 7, 8, 9, 10], [])), (6, ([0, 7, 8, 9, 10], []), ([0, 8, 9, 10], [])), (7, ([0, 8, 9, 10], []), ([0, 8, 9, 10], [])), (8, ([0], []), ([0], []))], ret := ([4, 5], []), ords := [] }
noncomputable def K0 : C := fin (S := cx) E Try.f28.results.toList (.pair (.ptr 1) .bool) .ro [] []
noncomputable def c0 : Code := subC b [1]
noncomputable def K1 (k : Nat) : C := outD h c0 K0
noncomputable def K2 (k : Nat) : C := seqC E h k c0 K0
noncomputable def c1 : Code := subC b [1, 1]
noncomputable def K3 (k : Nat) : C := outD h c1 (K1 k)
noncomputable def K4 (k : Nat) : C := seqC E h k c1 (K1 k)
noncomputable def c2 : Code := subC b [1, 0, 1]
noncomputable def K5 (k : Nat) : C := outD h c2 (K4 k)
noncomputable def K6 (k : Nat) : C := seqC E h k c2 (K4 k)
noncomputable def K7 (k : Nat) : C := blockK 0 (K5 k)
noncomputable def c3 : Code := subC b [1, 0, 1, 0, 0]
noncomputable def K8 (k n1 : Nat) : C := loopD E h k c3 (K7 k) n1
noncomputable def c4 : Code := subC b [1, 0, 1, 0, 0, 1]
noncomputable def K9 (k n1 : Nat) : C := outD h c4 (K8 k n1)
noncomputable def K10 (k n1 : Nat) : C := seqC E h k c4 (K8 k n1)
noncomputable def c5 : Code := subC b [1, 0, 1, 0, 0, 1, 1]
noncomputable def K11 (k n1 : Nat) : C := outD h c5 (K9 k n1)
noncomputable def K12 (k n1 : Nat) : C := seqC E h k c5 (K9 k n1)
noncomputable def c6 : Code := subC b [1, 0, 1, 0, 0, 1, 1, 1]
noncomputable def K13 (k n1 : Nat) : C := outD h c6 (K11 k n1)
noncomputable def K14 (k n1 : Nat) : C := seqC E h k c6 (K11 k n1)
noncomputable def K15 (k n1 : Nat) : C := blockK 1 (K14 k n1)
noncomputable def c7 : Code := subC b [1, 0, 1, 0, 0, 1, 1, 0, 0, 1]
noncomputable def K16 (k n1 : Nat) : C := outD h c7 (K15 k n1)
noncomputable def K17 (k n1 : Nat) : C := seqC E h k c7 (K15 k n1)
noncomputable def c8 : Code := subC b [1, 0, 1, 0, 0, 1, 1, 0, 0, 1, 1]
noncomputable def K18 (k n1 : Nat) : C := outD h c8 (K16 k n1)
noncomputable def K19 (k n1 : Nat) : C := seqC E h k c8 (K16 k n1)
noncomputable def c9 : Code := subC b [1, 0, 1, 0, 0, 1, 1, 0, 0, 1, 0, 1]
noncomputable def K20 (k n1 : Nat) : C := outD h c9 (K19 k n1)
noncomputable def K21 (k n1 : Nat) : C := seqC E h k c9 (K19 k n1)
noncomputable def c10 : Code := subC b [1, 0, 1, 0, 0, 1, 1, 0, 0, 1, 0, 1, 0, 1]
noncomputable def K22 (k n1 : Nat) : C := outD h c10 (K20 k n1)
noncomputable def K23 (k n1 : Nat) : C := seqC E h k c10 (K20 k n1)
noncomputable def c11 : Code := subC b [1, 1, 1]
noncomputable def K24 (k : Nat) : C := outD h c11 (K3 k)
noncomputable def K25 (k : Nat) : C := seqC E h k c11 (K3 k)
abbrev T5 := (Option N1) → (List (Int)) → Int → Int → R
abbrev T4 := (Option N1) → Int → (List (Int)) → Int → Int → R
abbrev T2 := (Option N1) → Int → (List (Int)) → Int → Int → Bool → R
abbrev T3 := (Option N1) → R
abbrev T1 := (Option N1) → (List (Int)) → Int → Int → R
abbrev T0 := (Option N1) → (List (Int)) → R
abbrev s5 : (Option N1) → (List (Int)) → Int → Int → ST cx := fun (x0 : Option N1) (x8 : List (Int)) (x9 x10 : Int) => ({ vars := [(0, .v (.ptr 1) .ro x0), (8, .v (.slice 3 (.int .i64)) .ro x8), (9, .v (.int .i64) .ro x9), (10, .v (.int .i64) .ro x10)], scr := [], mems := [] } : ST cx)
noncomputable def u5 (k n1 : Nat) : T5 := fun (x0 : Option N1) (x8 : List (Int)) (x9 x10 : Int) => uK (run E h k c6) (s5 x0 x8 x9 x10) (K13 k n1)
noncomputable abbrev l5 (k n1 : Nat) : T5 := fun (x0 : Option N1) (x8 : List (Int)) (x9 x10 : Int) => cutK (run E h k c6) (s5 x0 x8 x9 x10) (K13 k n1)
abbrev s4 : (Option N1) → Int → (List (Int)) → Int → Int → ST cx := fun (x0 : Option N1) (x7 : Int) (x8 : List (Int)) (x9 x10 : Int) => ({ vars := [(0, .v (.ptr 1) .ro x0), (7, .v (.int .i64) .ro x7), (8, .v (.slice 3 (.int .i64)) .ro x8), (9, .v (.int .i64) .ro x9), (10, .v (.int .i64) .ro x10)], scr := [], mems := [] } : ST cx)
noncomputable def u4 (k n1 : Nat) : T4 := fun (x0 : Option N1) (x7 : Int) (x8 : List (Int)) (x9 x10 : Int) => uK (run E h k c8) (s4 x0 x7 x8 x9 x10) (K18 k n1)
noncomputable abbrev l4 (k n1 : Nat) : T4 := fun (x0 : Option N1) (x7 : Int) (x8 : List (Int)) (x9 x10 : Int) => cutK (run E h k c8) (s4 x0 x7 x8 x9 x10) (K18 k n1)
abbrev s2 : (Option N1) → Int → (List (Int)) → Int → Int → Bool → ST cx := fun (x0 : Option N1) (x7 : Int) (x8 : List (Int)) (x9 x10 : Int) (x28 : Bool) => ({ vars := [(0, .v (.ptr 1) .ro x0), (7, .v (.int .i64) .ro x7), (8, .v (.slice 3 (.int .i64)) .ro x8), (9, .v (.int .i64) .ro x9), (10, .v (.int .i64) .ro x10), (28, .v .bool .ro x28)], scr := [], mems := [] } : ST cx)
noncomputable def u2 (k n1 : Nat) : T2 := fun (x0 : Option N1) (x7 : Int) (x8 : List (Int)) (x9 x10 : Int) (x28 : Bool) => uK (run E h k c9) (s2 x0 x7 x8 x9 x10 x28) (K20 k n1)
noncomputable abbrev l2 (k n1 : Nat) : T2 := fun (x0 : Option N1) (x7 : Int) (x8 : List (Int)) (x9 x10 : Int) (x28 : Bool) => cutK (run E h k c9) (s2 x0 x7 x8 x9 x10 x28) (K20 k n1)
abbrev s3 : (Option N1) → ST cx := fun (x0 : Option N1) => ({ vars := [(0, .v (.ptr 1) .ro x0)], scr := [], mems := [] } : ST cx)
noncomputable def u3 (k : Nat) : T3 := fun (x0 : Option N1) => uK (run E h k c1) (s3 x0) (K3 k)
noncomputable abbrev l3 (k : Nat) : T3 := fun (x0 : Option N1) => cutK (run E h k c1) (s3 x0) (K3 k)
abbrev s1 : (Option N1) → (List (Int)) → Int → Int → ST cx := fun (x0 : Option N1) (x8 : List (Int)) (x9 x10 : Int) => ({ vars := [(0, .v (.ptr 1) .ro x0), (8, .v (.slice 3 (.int .i64)) .ro x8), (9, .v (.int .i64) .ro x9), (10, .v (.int .i64) .ro x10)], scr := [], mems := [] } : ST cx)
noncomputable def u1 (k n1 : Nat) : T1 := fun (x0 : Option N1) (x8 : List (Int)) (x9 x10 : Int) => uK (loopL E h k c3 (K7 k) n1) (s1 x0 x8 x9 x10) ()
noncomputable abbrev l1 (k n1 : Nat) : T1 := fun (x0 : Option N1) (x8 : List (Int)) (x9 x10 : Int) => cutK (loopL E h k c3 (K7 k) n1) (s1 x0 x8 x9 x10) ()
noncomputable def u0 (k : Nat) : T0 := fun (x0 : Option N1) (x1 : List (Int)) => runOf (S := cx) E h k Try.f28 [.val (.ptr 1), .val (.slice 3 (.int .i64))] (.pair (.ptr 1) .bool) .ro (x0, x1, ())
def t5 (f1 : T1) : T5 := fun (x0 : Option N1) (x8 : List (Int)) (x9 x10 : Int) => 
  (f1 x0 x8 x9 (w64 (x10 + (1 : Int))))
theorem e5 (k n1 : Nat) : u5 k n1 = t5 (l1 k n1) := by kernel_rfl
theorem g5 (k n1 : Nat) : l5 k n1 = u5 k n1 := funext fun _ => funext fun _ => funext fun _ => funext fun _ => cut_u _ _ _
theorem d5 {x1 y1 : T1} (h1 : x1 = y1) : t5 x1 = t5 y1 := by subst h1; rfl
def p5 (k : Nat) (a1 : T1) : T5 := t5 a1
theorem o5 (k n1 : Nat) (a1 : T1) (h1 : l1 k n1 = a1) : l5 k n1 = p5 k a1 := (Eq.trans (b := u5 k n1) (g5 k n1) (Eq.trans (b := t5 (l1 k n1)) (e5 k n1) (Eq.trans (b := t5 a1) (d5 h1) (by kernel_rfl))))
def t4 (f5 : T5) : T4 := fun (x0 : Option N1) (x7 : Int) (x8 : List (Int)) (x9 x10 : Int) => 
  (bindR x0 fun z3 => (withinR x7 (List.length (out1 z3).2.2.2.1) fun q4 => (f5 (List.getD (out1 z3).2.2.2.1 q4 none) x8 x9 x10)))
theorem e4 (k n1 : Nat) : u4 k n1 = t4 (l5 k n1) := by kernel_rfl
theorem g4 (k n1 : Nat) : l4 k n1 = u4 k n1 := funext fun _ => funext fun _ => funext fun _ => funext fun _ => funext fun _ => cut_u _ _ _
theorem d4 {x5 y5 : T5} (h5 : x5 = y5) : t4 x5 = t4 y5 := by subst h5; rfl
def p4 (k : Nat) (a1 : T1) : T4 := t4 (p5 k a1)
theorem o4 (k n1 : Nat) (a1 : T1) (h1 : l1 k n1 = a1) : l4 k n1 = p4 k a1 := (Eq.trans (b := u4 k n1) (g4 k n1) (Eq.trans (b := t4 (l5 k n1)) (e4 k n1) (Eq.trans (b := t4 (p5 k a1)) (d4 (o5 k n1 a1 h1)) (by kernel_rfl))))
def t2 (f4 : T4) : T2 := fun (x0 : Option N1) (x7 : Int) (x8 : List (Int)) (x9 x10 : Int) (x28 : Bool) => 
  (iteB x28 (some ((none, false), ())) (f4 x0 x7 x8 x9 x10))
theorem e2 (k n1 : Nat) : u2 k n1 = t2 (l4 k n1) := by kernel_rfl
theorem g2 (k n1 : Nat) : l2 k n1 = u2 k n1 := funext fun _ => funext fun _ => funext fun _ => funext fun _ => funext fun _ => funext fun _ => cut_u _ _ _
theorem d2 {x4 y4 : T4} (h4 : x4 = y4) : t2 x4 = t2 y4 := by subst h4; rfl
def p2 (k : Nat) (a1 : T1) : T2 := t2 (p4 k a1)
theorem o2 (k n1 : Nat) (a1 : T1) (h1 : l1 k n1 = a1) : l2 k n1 = p2 k a1 := (Eq.trans (b := u2 k n1) (g2 k n1) (Eq.trans (b := t2 (l4 k n1)) (e2 k n1) (Eq.trans (b := t2 (p4 k a1)) (d2 (o4 k n1 a1 h1)) (by kernel_rfl))))
def t3 : T3 := fun (x0 : Option N1) => 
  (some ((x0, (!(Option.isNone x0))), ()))
theorem e3 (k : Nat) : u3 k = t3 := by kernel_rfl
theorem g3 (k : Nat) : l3 k = u3 k := funext fun _ => cut_u _ _ _
def p3 (k : Nat) : T3 := t3
theorem o3 (k : Nat) : l3 k = p3 k := (Eq.trans (b := u3 k) (g3 k) (Eq.trans (b := t3) (e3 k) (by kernel_rfl)))
def t1 (f2 : T2) (f3 : T3) : T1 := fun (x0 : Option N1) (x8 : List (Int)) (x9 x10 : Int) => 
  (iteB (decide (x10 < x9)) (withinR x10 (List.length x8) fun q1 => (iteB (Option.isNone x0) (f2 x0 (List.getD x8 q1 (0 : Int)) x8 x9 x10 true) (iteB (decide ((List.getD x8 q1 (0 : Int)) < (0 : Int))) (f2 x0 (List.getD x8 q1 (0 : Int)) x8 x9 x10 true) (bindR x0 fun z2 => (f2 x0 (List.getD x8 q1 (0 : Int)) x8 x9 x10 (decide (((List.length (out1 z2).2.2.2.1 : Nat) : Int) ≤ (List.getD x8 q1 (0 : Int))))))))) (f3 x0))
theorem e1 (k n1 : Nat) : u1 k (n1 + 1) = t1 (l2 k n1) (l3 k) := by kernel_rfl
theorem g1 (k n1 : Nat) : l1 k (n1 + 1) = u1 k (n1 + 1) := funext fun _ => funext fun _ => funext fun _ => funext fun _ => cut_u _ _ _
theorem d1 {x2 y2 : T2} {x3 y3 : T3} (h2 : x2 = y2) (h3 : x3 = y3) : t1 x2 x3 = t1 y2 y3 := by subst h2; subst h3; rfl
def p1 (k : Nat) : Nat → T1
  | 0 => fun _ _ _ _ => none
  | n1 + 1 => t1 (p2 k (p1 k n1)) (p3 k)
theorem o1 (k : Nat) : ∀ n1, l1 k n1 = p1 k n1 := by
  intro n1
  induction n1 with
  | zero => kernel_rfl
  | succ n1 ih => exact (Eq.trans (b := u1 k (n1 + 1)) (g1 k n1) (Eq.trans (b := t1 (l2 k n1) (l3 k)) (e1 k n1) (Eq.trans (b := t1 (p2 k (p1 k n1)) (p3 k)) (d1 (o2 k n1 (p1 k n1) ih) (o3 k)) (by kernel_rfl))))
def t0 (f1 : T1) : T0 := fun (x0 : Option N1) (x1 : List (Int)) => 
  (f1 x0 x1 ((List.length x1 : Nat) : Int) (0 : Int))
theorem e0 (k : Nat) : u0 k = t0 (l1 k k) := by kernel_rfl
theorem d0 {x1 y1 : T1} (h1 : x1 = y1) : t0 x1 = t0 y1 := by subst h1; rfl
def p0 (k : Nat) : T0 := t0 (p1 k k)
theorem o0 (k : Nat) : u0 k = p0 k := (Eq.trans (b := t0 (l1 k k)) (e0 k) (Eq.trans (b := t0 (p1 k k)) (d0 (o1 k k)) (by kernel_rfl)))
end tree_At
def s_tree_At (a : (Option N1) × ((List (Int)) × (Unit))) : Option (((Option N1) × (Bool)) × (Unit)) := tree_At.p0 (fuel) a.1 a.2.1
noncomputable def F_tree_At : FSpec cx.toNm := { ps := [.val (.ptr 1), .val (.slice 3 (.int .i64))], nres := 2, rt := (.pair (.ptr 1) .bool), rm := .ro, f := s_tree_At }
theorem w_tree_At (a : (Option N1) × ((List (Int)) × (Unit))) : runOf (S := cx) tree_At.E tree_At.h (fuel) Try.f28 F_tree_At.ps F_tree_At.rt F_tree_At.rm a = s_tree_At a := Eq.trans (b := tree_At.u0 (fuel) a.1 a.2.1) (by kernel_rfl) (Eq.trans (b := tree_At.p0 (fuel) a.1 a.2.1) (congrFun (congrFun (tree_At.o0 (fuel)) a.1) a.2.1) (by kernel_rfl))
theorem ok_tree_At : FnOk Try.prog F_tree_At 28 := fn_of (F := F_tree_At) (hn := tree_At.h) (E := tree_At.E) cxOk (tysT _ _ _) fs_nil follows Try.func28 (by kernel_rfl) (fun a r h => ⟨fuel, Eq.trans (w_tree_At a) h⟩)
namespace law15_small
noncomputable def E : Env cx := { tys := tys, fs := fsOf [] }
noncomputable def h : Hint := { vs := [0], nil := [], cuts := [], ret := ([0], [0]), ords := [] }
end law15_small
def s_law15_small (a : Unit) : Option ((D0) × (Unit)) := runOf (S := cx) law15_small.E law15_small.h fuel Try.f30 [] ty0 .ro a
noncomputable def F_law15_small : FSpec cx.toNm := { ps := [], nres := 1, rt := ty0, rm := .ro, f := s_law15_small }
theorem ok_law15_small : FnOk Try.prog F_law15_small 30 := fn_of (F := F_law15_small) (hn := law15_small.h) (E := law15_small.E) cxOk (tysT _ _ _) fs_nil follows Try.func30 (by kernel_rfl) (fun a r h => ⟨fuel, Eq.trans (b := F_law15_small.f a) (by kernel_rfl) h⟩)
namespace tree_Other_1
noncomputable def E : Env cx := { tys := tys, fs := fsOf [(19, F_tree_Right)] }
noncomputable def h : Hint := { vs := [0, 1, 3], nil := [], cuts := [], ret := ([3], []), ords := [] }
end tree_Other_1
def s_tree_Other_1 (a : (Option N1) × ((D0) × (Unit))) : Option ((Bool) × (Unit)) := runOf (S := cx) tree_Other_1.E tree_Other_1.h fuel Try.f38 [.val (.ptr 1), .val (.box ty0)] .bool .ro a
noncomputable def F_tree_Other_1 : FSpec cx.toNm := { ps := [.val (.ptr 1), .val (.box ty0)], nres := 1, rt := .bool, rm := .ro, f := s_tree_Other_1 }
theorem ok_tree_Other_1 : FnOk Try.prog F_tree_Other_1 38 := fn_of (F := F_tree_Other_1) (hn := tree_Other_1.h) (E := tree_Other_1.E) cxOk (tysT _ _ _) (fs_cons ok_tree_Right fs_nil) follows Try.func38 (by kernel_rfl) (fun a r h => ⟨fuel, Eq.trans (b := F_tree_Other_1.f a) (by kernel_rfl) h⟩)
namespace slices_IndexFunc
noncomputable def E : Env cx := { tys := tys, fs := fsOf [(38, F_tree_Other_1)] }
noncomputable def h : Hint := { vs := [0, 1, 4, 5, 7, 8], nil := [], cuts := [(2, ([0, 1, 7, 8], []), ([], [])), (7, ([], []), ([], []))], ret := ([4], []), ords := [] }
end slices_IndexFunc
def s_slices_IndexFunc (a : (List (Option N1)) × (((D0) × (Unit)) × (Unit))) : Option ((Int) × (Unit)) := runOf (S := cx) slices_IndexFunc.E slices_IndexFunc.h fuel Try.f65 [.val (.slice 35 (.ptr 1)), .val (.clo 38 (.pair (.box ty0) .unit))] (.int .i64) .ro a
noncomputable def F_slices_IndexFunc : FSpec cx.toNm := { ps := [.val (.slice 35 (.ptr 1)), .val (.clo 38 (.pair (.box ty0) .unit))], nres := 1, rt := (.int .i64), rm := .ro, f := s_slices_IndexFunc }
theorem ok_slices_IndexFunc : FnOk Try.prog F_slices_IndexFunc 65 := fn_of (F := F_slices_IndexFunc) (hn := slices_IndexFunc.h) (E := slices_IndexFunc.E) cxOk (tysT _ _ _) (fs_cons ok_tree_Other_1 fs_nil) follows Try.func65 (by kernel_rfl) (fun a r h => ⟨fuel, Eq.trans (b := F_slices_IndexFunc.f a) (by kernel_rfl) h⟩)
namespace slices_ContainsFunc
noncomputable def E : Env cx := { tys := tys, fs := fsOf [(65, F_slices_IndexFunc)] }
noncomputable def h : Hint := { vs := [0, 1, 4], nil := [], cuts := [], ret := ([4], []), ords := [] }
end slices_ContainsFunc
def s_slices_ContainsFunc (a : (List (Option N1)) × (((D0) × (Unit)) × (Unit))) : Option ((Bool) × (Unit)) := runOf (S := cx) slices_ContainsFunc.E slices_ContainsFunc.h fuel Try.f37 [.val (.slice 35 (.ptr 1)), .val (.clo 38 (.pair (.box ty0) .unit))] .bool .ro a
noncomputable def F_slices_ContainsFunc : FSpec cx.toNm := { ps := [.val (.slice 35 (.ptr 1)), .val (.clo 38 (.pair (.box ty0) .unit))], nres := 1, rt := .bool, rm := .ro, f := s_slices_ContainsFunc }
theorem ok_slices_ContainsFunc : FnOk Try.prog F_slices_ContainsFunc 37 := fn_of (F := F_slices_ContainsFunc) (hn := slices_ContainsFunc.h) (E := slices_ContainsFunc.E) cxOk (tysT _ _ _) (fs_cons ok_slices_IndexFunc fs_nil) follows Try.func37 (by kernel_rfl) (fun a r h => ⟨fuel, Eq.trans (b := F_slices_ContainsFunc.f a) (by kernel_rfl) h⟩)
namespace slices_Clone
noncomputable def E : Env cx := { tys := tys, fs := fsOf [] }
noncomputable def h : Hint := { vs := [0, 2], nil := [(2, (.own .ro)), (5, (.own .ro))], cuts := [], ret := ([2], []), ords := [] }
end slices_Clone
def s_slices_Clone (a : (List (Option N1)) × (Unit)) : Option ((List (Option N1)) × (Unit)) := runOf (S := cx) slices_Clone.E slices_Clone.h fuel Try.f39 [.val (.slice 35 (.ptr 1))] (.slice 35 (.ptr 1)) (.own .ro) a
noncomputable def F_slices_Clone : FSpec cx.toNm := { ps := [.val (.slice 35 (.ptr 1))], nres := 1, rt := (.slice 35 (.ptr 1)), rm := (.own .ro), f := s_slices_Clone }
theorem ok_slices_Clone : FnOk Try.prog F_slices_Clone 39 := fn_of (F := F_slices_Clone) (hn := slices_Clone.h) (E := slices_Clone.E) cxOk (tysT _ _ _) fs_nil follows Try.func39 (by kernel_rfl) (fun a r h => ⟨fuel, Eq.trans (b := F_slices_Clone.f a) (by kernel_rfl) h⟩)
namespace tree_Other
noncomputable def E : Env cx := { tys := tys, fs := fsOf [(36, F_symbols_Right), (37, F_slices_ContainsFunc), (39, F_slices_Clone), (40, F_tree_toks), (41, F_tree_fits)], wr := true }
noncomputable def h : Hint := { vs := [0, 1, 2, 3, 6, 7, 8], nil := [], cuts := [(2, ([1, 2, 3, 27], [3]), ([1, 2, 3], [3])), (3, ([1, 2, 3], [3]), ([1, 2, 3], [3]))], ret := ([6, 7], [3, 40]), ords := [(3, [0, 1, 2, 3, 4, 5, 6, 7, 9, 8, 10, 11, 12, 13])], fns := [(25, [true])] }
end tree_Other
def s_tree_Other (a : (D0) × ((Int) × ((List (Option N1)) × (Unit)))) : Option (((Option N1) × (Int)) × (Unit)) := runOf (S := cx) tree_Other.E tree_Other.h fuel Try.f15 [.val ty0, .val (.int .i64), .val (.slice 35 (.ptr 1))] (.pair (.ptr 1) (.int .i64)) .ro a
noncomputable def F_tree_Other : FSpec cx.toNm := { ps := [.val ty0, .val (.int .i64), .val (.slice 35 (.ptr 1))], nres := 2, rt := (.pair (.ptr 1) (.int .i64)), rm := .ro, f := s_tree_Other }
theorem ok_tree_Other : FnOk Try.prog F_tree_Other 15 := fn_of (F := F_tree_Other) (hn := tree_Other.h) (E := tree_Other.E) cxOk (tysT _ _ _) (fs_cons ok_symbols_Right (fs_cons ok_slices_ContainsFunc (fs_cons ok_slices_Clone (fs_cons ok_tree_toks (fs_cons ok_tree_fits fs_nil))))) follows Try.func15 (by kernel_rfl) (fun a r h => ⟨fuel, Eq.trans (b := F_tree_Other.f a) (by kernel_rfl) h⟩)
namespace tree_Token
noncomputable def E : Env cx := { tys := tys, fs := fsOf [] }
noncomputable def h : Hint := { vs := [0, 1, 4], nil := [], cuts := [], ret := ([4], [8]), ords := [] }
end tree_Token
def s_tree_Token (a : (Int) × ((List UInt8) × (Unit))) : Option ((Option N1) × (Unit)) := runOf (S := cx) tree_Token.E tree_Token.h fuel Try.f11 [.val (.int .i64), .val .str] (.ptr 1) .ro a
noncomputable def F_tree_Token : FSpec cx.toNm := { ps := [.val (.int .i64), .val .str], nres := 1, rt := (.ptr 1), rm := .ro, f := s_tree_Token }
theorem ok_tree_Token : FnOk Try.prog F_tree_Token 11 := fn_of (F := F_tree_Token) (hn := tree_Token.h) (E := tree_Token.E) cxOk (tysT _ _ _) fs_nil follows Try.func11 (by kernel_rfl) (fun a r h => ⟨fuel, Eq.trans (b := F_tree_Token.f a) (by kernel_rfl) h⟩)
namespace law15_alive
noncomputable def E : Env cx := { tys := tys, fs := fsOf [(11, F_tree_Token), (15, F_tree_Other), (19, F_tree_Right), (28, F_tree_At), (30, F_law15_small), (31, F_tree_Show)] }
noncomputable def h : Hint := { vs := [0, 1, 2, 3, 4, 5, 6, 7], nil := [], cuts := [(5, ([1, 4, 37], [1]), ([1, 4], [1])), (6, ([1, 4], [1]), ([1, 4], [1]))], ret := ([0], [1]), ords := [(3, [0, 2, 1, 3, 4, 5, 6, 7, 8, 9])] }
end law15_alive
def s_law15_alive (a : Unit) : Option ((Bool) × (Unit)) := runOf (S := cx) law15_alive.E law15_alive.h fuel Try.f7 [] .bool .ro a
noncomputable def F_law15_alive : FSpec cx.toNm := { ps := [], nres := 1, rt := .bool, rm := .ro, f := s_law15_alive }
theorem ok_law15_alive : FnOk Try.prog F_law15_alive 7 := fn_of (F := F_law15_alive) (hn := law15_alive.h) (E := law15_alive.E) cxOk (tysT _ _ _) (fs_cons ok_tree_Token (fs_cons ok_tree_Other (fs_cons ok_tree_Right (fs_cons ok_tree_At (fs_cons ok_law15_small (fs_cons ok_tree_Show fs_nil)))))) follows Try.func7 (by kernel_rfl) (fun a r h => ⟨fuel, Eq.trans (b := F_law15_alive.f a) (by kernel_rfl) h⟩)
namespace ref15_shortest
noncomputable def E : Env cx := { tys := tys, fs := fsOf [] }
abbrev R := Option ((List (Int)) × (Unit))
abbrev C := Exit → ST cx → R
noncomputable def b : Code := bodyC Try.f35
noncomputable def h : Hint := { vs := [0, 1, 2, 3, 4, 5, 6, 7, 8, 9, 10], nil := [(26, (.own .ro)), (3, (.own .ro)), (6, (.own .ro)), (14, (.own .ro))], cuts := [(4, ([1, 3, 4, 5], [1]), ([3], [])), (5, ([1, 3, 4, 5], [1]), ([1, 3, 4, 5], [1])), (8, ([1, 3, 4, 5, 6, 7], [1]), ([1, 3, 5, 6], [1])), (9, ([1, 3, 4, 5, 6, 7], [1]), ([1, 3, 4, 5, 6, 7], [1])), (11, ([1, 3, 4, 5, 6, 7, 8], [1]), ([1, 3, 4, 5, 6, 7], [1])), (12, ([1, 3, 4, 5, 6, 7, 8, 9], [1]), ([1, 3, 4, 5, 6, 7, 8], [1])), (13, ([1, 3, 4, 5, 6, 7, 8, 9], [1]), ([1, 3, 4, 5, 6, 7, 8, 9], [1])), (16, ([1, 3, 4, 5, 6, 7, 8], [1]), ([1, 3, 4, 5, 6, 7], [1])), (19, ([1, 3, 5, 6], [1]), ([1, 3, 4, 5], [1])), (20, ([3], []), ([3], []))], ret := ([2], [1]), ords := [] }
noncomputable def K0 : C := fin (S := cx) E Try.f35.results.toList (.slice 3 (.int .i64)) .ro [] []
noncomputable def c0 : Code := subC b [1]
noncomputable def K1 (k : Nat) : C := outD h c0 K0
noncomputable def K2 (k : Nat) : C := seqC E h k c0 K0
noncomputable def c1 : Code := subC b [1, 1]
noncomputable def K3 (k : Nat) : C := outD h c1 (K1 k)
noncomputable def K4 (k : Nat) : C := seqC E h k c1 (K1 k)
noncomputable def c2 : Code := subC b [1, 1, 1]
noncomputable def K5 (k : Nat) : C := outD h c2 (K3 k)
noncomputable def K6 (k : Nat) : C := seqC E h k c2 (K3 k)
noncomputable def c3 : Code := subC b [1, 1, 1, 1]
noncomputable def K7 (k : Nat) : C := outD h c3 (K5 k)
noncomputable def K8 (k : Nat) : C := seqC E h k c3 (K5 k)
noncomputable def c4 : Code := subC b [1, 1, 1, 0, 1]
noncomputable def K9 (k : Nat) : C := outD h c4 (K8 k)
noncomputable def K10 (k : Nat) : C := seqC E h k c4 (K8 k)
noncomputable def K11 (k : Nat) : C := blockK 0 (K9 k)
noncomputable def c5 : Code := subC b [1, 1, 1, 0, 1, 0, 0]
noncomputable def K12 (k n1 : Nat) : C := loopD E h k c5 (K11 k) n1
noncomputable def c6 : Code := subC b [1, 1, 1, 0, 1, 0, 0, 1]
noncomputable def K13 (k n1 : Nat) : C := outD h c6 (K12 k n1)
noncomputable def K14 (k n1 : Nat) : C := seqC E h k c6 (K12 k n1)
noncomputable def c7 : Code := subC b [1, 1, 1, 0, 1, 0, 0, 0, 1]
noncomputable def K15 (k n1 : Nat) : C := outD h c7 (K14 k n1)
noncomputable def K16 (k n1 : Nat) : C := seqC E h k c7 (K14 k n1)
noncomputable def c8 : Code := subC b [1, 1, 1, 0, 1, 0, 0, 1, 1]
noncomputable def K17 (k n1 : Nat) : C := outD h c8 (K13 k n1)
noncomputable def K18 (k n1 : Nat) : C := seqC E h k c8 (K13 k n1)
noncomputable def K19 (k n1 : Nat) : C := blockK 1 (K18 k n1)
noncomputable def c9 : Code := subC b [1, 1, 1, 0, 1, 0, 0, 1, 0, 0, 1]
noncomputable def K20 (k n1 : Nat) : C := outD h c9 (K19 k n1)
noncomputable def K21 (k n1 : Nat) : C := seqC E h k c9 (K19 k n1)
noncomputable def c10 : Code := subC b [1, 1, 1, 0, 1, 0, 0, 1, 0, 0, 1, 1]
noncomputable def K22 (k n1 : Nat) : C := outD h c10 (K20 k n1)
noncomputable def K23 (k n1 : Nat) : C := seqC E h k c10 (K20 k n1)
noncomputable def c11 : Code := subC b [1, 1, 1, 0, 1, 0, 0, 1, 0, 0, 1, 0, 1]
noncomputable def K24 (k n1 : Nat) : C := outD h c11 (K23 k n1)
noncomputable def K25 (k n1 : Nat) : C := seqC E h k c11 (K23 k n1)
noncomputable def K26 (k n1 : Nat) : C := blockK 2 (K24 k n1)
noncomputable def c12 : Code := subC b [1, 1, 1, 0, 1, 0, 0, 1, 0, 0, 1, 0, 1, 0, 0]
noncomputable def K27 (k n1 n2 : Nat) : C := loopD E h k c12 (K26 k n1) n2
noncomputable def c13 : Code := subC b [1, 1, 1, 0, 1, 0, 0, 1, 0, 0, 1, 0, 1, 0, 0, 1]
noncomputable def K28 (k n1 n2 : Nat) : C := outD h c13 (K27 k n1 n2)
noncomputable def K29 (k n1 n2 : Nat) : C := seqC E h k c13 (K27 k n1 n2)
noncomputable def c14 : Code := subC b [1, 1, 1, 0, 1, 0, 0, 1, 0, 0, 1, 0, 1, 0, 0, 0, 1]
noncomputable def K30 (k n1 n2 : Nat) : C := outD h c14 (K29 k n1 n2)
noncomputable def K31 (k n1 n2 : Nat) : C := seqC E h k c14 (K29 k n1 n2)
noncomputable def c15 : Code := subC b [1, 1, 1, 0, 1, 0, 0, 1, 0, 0, 1, 0, 1, 0, 0, 1, 1]
noncomputable def K32 (k n1 n2 : Nat) : C := outD h c15 (K28 k n1 n2)
noncomputable def K33 (k n1 n2 : Nat) : C := seqC E h k c15 (K28 k n1 n2)
noncomputable def K34 (k n1 n2 : Nat) : C := blockK 3 (K33 k n1 n2)
noncomputable def c16 : Code := subC b [1, 1, 1, 0, 1, 0, 0, 1, 0, 0, 1, 0, 1, 0, 0, 1, 0, 0, 1]
noncomputable def K35 (k n1 n2 : Nat) : C := outD h c16 (K34 k n1 n2)
noncomputable def K36 (k n1 n2 : Nat) : C := seqC E h k c16 (K34 k n1 n2)
noncomputable def c17 : Code := subC b [1, 1, 1, 0, 1, 0, 0, 1, 0, 0, 1, 0, 1, 0, 0, 1, 0, 0, 1, 1]
noncomputable def K37 (k n1 n2 : Nat) : C := outD h c17 (K35 k n1 n2)
noncomputable def K38 (k n1 n2 : Nat) : C := seqC E h k c17 (K35 k n1 n2)
noncomputable def c18 : Code := subC b [1, 1, 1, 0, 1, 0, 0, 1, 0, 0, 1, 0, 1, 0, 0, 1, 0, 0, 1, 0, 1]
noncomputable def K39 (k n1 n2 : Nat) : C := outD h c18 (K38 k n1 n2)
noncomputable def K40 (k n1 n2 : Nat) : C := seqC E h k c18 (K38 k n1 n2)
noncomputable def K41 (k n1 n2 : Nat) : C := blockK 4 (K39 k n1 n2)
noncomputable def c19 : Code := subC b [1, 1, 1, 0, 1, 0, 0, 1, 0, 0, 1, 0, 1, 0, 0, 1, 0, 0, 1, 0, 1, 0, 0]
noncomputable def K42 (k n1 n2 n6 : Nat) : C := loopD E h k c19 (K41 k n1 n2) n6
noncomputable def c20 : Code := subC b [1, 1, 1, 0, 1, 0, 0, 1, 0, 0, 1, 0, 1, 0, 0, 1, 0, 0, 1, 0, 1, 0, 0, 1]
noncomputable def K43 (k n1 n2 n6 : Nat) : C := outD h c20 (K42 k n1 n2 n6)
noncomputable def K44 (k n1 n2 n6 : Nat) : C := seqC E h k c20 (K42 k n1 n2 n6)
noncomputable def c21 : Code := subC b [1, 1, 1, 0, 1, 0, 0, 1, 0, 0, 1, 0, 1, 0, 0, 1, 0, 0, 1, 0, 1, 0, 0, 0, 1]
noncomputable def K45 (k n1 n2 n6 : Nat) : C := outD h c21 (K44 k n1 n2 n6)
noncomputable def K46 (k n1 n2 n6 : Nat) : C := seqC E h k c21 (K44 k n1 n2 n6)
noncomputable def c22 : Code := subC b [1, 1, 1, 0, 1, 0, 0, 1, 0, 0, 1, 0, 1, 0, 0, 1, 0, 0, 1, 0, 1, 0, 0, 1, 1]
noncomputable def K47 (k n1 n2 n6 : Nat) : C := outD h c22 (K43 k n1 n2 n6)
noncomputable def K48 (k n1 n2 n6 : Nat) : C := seqC E h k c22 (K43 k n1 n2 n6)
noncomputable def K49 (k n1 n2 n6 : Nat) : C := blockK 5 (K48 k n1 n2 n6)
noncomputable def c23 : Code := subC b [1, 1, 1, 0, 1, 0, 0, 1, 0, 0, 1, 0, 1, 0, 0, 1, 0, 0, 1, 0, 1, 0, 0, 1, 0, 0, 1]
noncomputable def K50 (k n1 n2 n6 : Nat) : C := outD h c23 (K49 k n1 n2 n6)
noncomputable def K51 (k n1 n2 n6 : Nat) : C := seqC E h k c23 (K49 k n1 n2 n6)
noncomputable def c24 : Code := subC b [1, 1, 1, 0, 1, 0, 0, 1, 0, 0, 1, 0, 1, 0, 0, 1, 0, 0, 1, 1, 1]
noncomputable def K52 (k n1 n2 : Nat) : C := outD h c24 (K37 k n1 n2)
noncomputable def K53 (k n1 n2 : Nat) : C := seqC E h k c24 (K37 k n1 n2)
noncomputable def c25 : Code := subC b [1, 1, 1, 0, 1, 0, 0, 1, 0, 0, 1, 0, 1, 0, 0, 1, 0, 0, 1, 1, 1, 0, 1]
noncomputable def K54 (k n1 n2 : Nat) : C := outD h c25 (K52 k n1 n2)
noncomputable def K55 (k n1 n2 : Nat) : C := seqC E h k c25 (K52 k n1 n2)
noncomputable def c26 : Code := subC b [1, 1, 1, 1, 1]
noncomputable def K56 (k : Nat) : C := outD h c26 (K7 k)
noncomputable def K57 (k : Nat) : C := seqC E h k c26 (K7 k)
abbrev T7 := (List (Int)) → (List (Bool)) → Int → (List (Bool)) → Int → Bool → Int → D0 → R
abbrev T9 := (List (Int)) → (List (Bool)) → Int → (List (Bool)) → Int → D0 → R
abbrev T8 := (List (Int)) → (List (Bool)) → Int → (List (Bool)) → Int → Bool → D0 → R
abbrev T6 := (List (Int)) → (List (Bool)) → Int → (List (Bool)) → Int → Bool → Int → D0 → R
abbrev T4 := (List (Int)) → (List (Bool)) → Int → (List (Bool)) → Int → Bool → D0 → R
abbrev T10 := (List (Int)) → (List (Bool)) → Int → D0 → R
abbrev T5 := (List (Int)) → Int → (List (Bool)) → D0 → R
abbrev T2 := (List (Int)) → (List (Bool)) → Int → (List (Bool)) → Int → D0 → R
abbrev T3 := (List (Int)) → R
abbrev T1 := (List (Int)) → (List (Bool)) → Int → D0 → R
abbrev T0 := D0 → R
abbrev s7 : (List (Int)) → (List (Bool)) → Int → (List (Bool)) → Int → Bool → Int → D0 → ST cx := fun (x3 : List (Int)) (x4 : List (Bool)) (x5 : Int) (x6 : List (Bool)) (x7 : Int) (x8 : Bool) (x9 : Int) (m1 : D0) => ({ vars := [(1, .addr (.mem 1) []), (3, .v (.slice 3 (.int .i64)) (.own .ro) x3), (4, .v (.slice 4 .bool) .ro x4), (5, .v (.int .i64) .ro x5), (6, .v (.slice 4 .bool) (.own .ro) x6), (7, .v (.int .i64) .ro x7), (8, .v .bool .ro x8), (9, .v (.int .i64) .ro x9)], scr := [], mems := [(1, ⟨ty0, .ro, m1⟩)] } : ST cx)
noncomputable def u7 (k n1 n2 n6 : Nat) : T7 := fun (x3 : List (Int)) (x4 : List (Bool)) (x5 : Int) (x6 : List (Bool)) (x7 : Int) (x8 : Bool) (x9 : Int) (m1 : D0) => uK (run E h k c22) (s7 x3 x4 x5 x6 x7 x8 x9 m1) (K47 k n1 n2 n6)
noncomputable abbrev l7 (k n1 n2 n6 : Nat) : T7 := fun (x3 : List (Int)) (x4 : List (Bool)) (x5 : Int) (x6 : List (Bool)) (x7 : Int) (x8 : Bool) (x9 : Int) (m1 : D0) => cutK (run E h k c22) (s7 x3 x4 x5 x6 x7 x8 x9 m1) (K47 k n1 n2 n6)
abbrev s9 : (List (Int)) → (List (Bool)) → Int → (List (Bool)) → Int → D0 → ST cx := fun (x3 : List (Int)) (x4 : List (Bool)) (x5 : Int) (x6 : List (Bool)) (x7 : Int) (m1 : D0) => ({ vars := [(1, .addr (.mem 1) []), (3, .v (.slice 3 (.int .i64)) (.own .ro) x3), (4, .v (.slice 4 .bool) .ro x4), (5, .v (.int .i64) .ro x5), (6, .v (.slice 4 .bool) (.own .ro) x6), (7, .v (.int .i64) .ro x7)], scr := [], mems := [(1, ⟨ty0, .ro, m1⟩)] } : ST cx)
noncomputable def u9 (k n1 n2 : Nat) : T9 := fun (x3 : List (Int)) (x4 : List (Bool)) (x5 : Int) (x6 : List (Bool)) (x7 : Int) (m1 : D0) => uK (run E h k c15) (s9 x3 x4 x5 x6 x7 m1) (K32 k n1 n2)
noncomputable abbrev l9 (k n1 n2 : Nat) : T9 := fun (x3 : List (Int)) (x4 : List (Bool)) (x5 : Int) (x6 : List (Bool)) (x7 : Int) (m1 : D0) => cutK (run E h k c15) (s9 x3 x4 x5 x6 x7 m1) (K32 k n1 n2)
abbrev s8 : (List (Int)) → (List (Bool)) → Int → (List (Bool)) → Int → Bool → D0 → ST cx := fun (x3 : List (Int)) (x4 : List (Bool)) (x5 : Int) (x6 : List (Bool)) (x7 : Int) (x8 : Bool) (m1 : D0) => ({ vars := [(1, .addr (.mem 1) []), (3, .v (.slice 3 (.int .i64)) (.own .ro) x3), (4, .v (.slice 4 .bool) .ro x4), (5, .v (.int .i64) .ro x5), (6, .v (.slice 4 .bool) (.own .ro) x6), (7, .v (.int .i64) .ro x7), (8, .v .bool .ro x8)], scr := [], mems := [(1, ⟨ty0, .ro, m1⟩)] } : ST cx)
noncomputable def u8 (k n1 n2 : Nat) : T8 := fun (x3 : List (Int)) (x4 : List (Bool)) (x5 : Int) (x6 : List (Bool)) (x7 : Int) (x8 : Bool) (m1 : D0) => uK (run E h k c17) (s8 x3 x4 x5 x6 x7 x8 m1) (K37 k n1 n2)
noncomputable abbrev l8 (k n1 n2 : Nat) : T8 := fun (x3 : List (Int)) (x4 : List (Bool)) (x5 : Int) (x6 : List (Bool)) (x7 : Int) (x8 : Bool) (m1 : D0) => cutK (run E h k c17) (s8 x3 x4 x5 x6 x7 x8 m1) (K37 k n1 n2)
abbrev s6 : (List (Int)) → (List (Bool)) → Int → (List (Bool)) → Int → Bool → Int → D0 → ST cx := fun (x3 : List (Int)) (x4 : List (Bool)) (x5 : Int) (x6 : List (Bool)) (x7 : Int) (x8 : Bool) (x9 : Int) (m1 : D0) => ({ vars := [(1, .addr (.mem 1) []), (3, .v (.slice 3 (.int .i64)) (.own .ro) x3), (4, .v (.slice 4 .bool) .ro x4), (5, .v (.int .i64) .ro x5), (6, .v (.slice 4 .bool) (.own .ro) x6), (7, .v (.int .i64) .ro x7), (8, .v .bool .ro x8), (9, .v (.int .i64) .ro x9)], scr := [], mems := [(1, ⟨ty0, .ro, m1⟩)] } : ST cx)
noncomputable def u6 (k n1 n2 n6 : Nat) : T6 := fun (x3 : List (Int)) (x4 : List (Bool)) (x5 : Int) (x6 : List (Bool)) (x7 : Int) (x8 : Bool) (x9 : Int) (m1 : D0) => uK (loopL E h k c19 (K41 k n1 n2) n6) (s6 x3 x4 x5 x6 x7 x8 x9 m1) ()
noncomputable abbrev l6 (k n1 n2 n6 : Nat) : T6 := fun (x3 : List (Int)) (x4 : List (Bool)) (x5 : Int) (x6 : List (Bool)) (x7 : Int) (x8 : Bool) (x9 : Int) (m1 : D0) => cutK (loopL E h k c19 (K41 k n1 n2) n6) (s6 x3 x4 x5 x6 x7 x8 x9 m1) ()
abbrev s4 : (List (Int)) → (List (Bool)) → Int → (List (Bool)) → Int → Bool → D0 → ST cx := fun (x3 : List (Int)) (x4 : List (Bool)) (x5 : Int) (x6 : List (Bool)) (x7 : Int) (x8 : Bool) (m1 : D0) => ({ vars := [(1, .addr (.mem 1) []), (3, .v (.slice 3 (.int .i64)) (.own .ro) x3), (4, .v (.slice 4 .bool) .ro x4), (5, .v (.int .i64) .ro x5), (6, .v (.slice 4 .bool) (.own .ro) x6), (7, .v (.int .i64) .ro x7), (8, .v .bool .ro x8)], scr := [], mems := [(1, ⟨ty0, .ro, m1⟩)] } : ST cx)
noncomputable def u4 (k n1 n2 : Nat) : T4 := fun (x3 : List (Int)) (x4 : List (Bool)) (x5 : Int) (x6 : List (Bool)) (x7 : Int) (x8 : Bool) (m1 : D0) => uK (run E h k c16) (s4 x3 x4 x5 x6 x7 x8 m1) (K35 k n1 n2)
noncomputable abbrev l4 (k n1 n2 : Nat) : T4 := fun (x3 : List (Int)) (x4 : List (Bool)) (x5 : Int) (x6 : List (Bool)) (x7 : Int) (x8 : Bool) (m1 : D0) => cutK (run E h k c16) (s4 x3 x4 x5 x6 x7 x8 m1) (K35 k n1 n2)
abbrev s10 : (List (Int)) → (List (Bool)) → Int → D0 → ST cx := fun (x3 : List (Int)) (x4 : List (Bool)) (x5 : Int) (m1 : D0) => ({ vars := [(1, .addr (.mem 1) []), (3, .v (.slice 3 (.int .i64)) (.own .ro) x3), (4, .v (.slice 4 .bool) .ro x4), (5, .v (.int .i64) .ro x5)], scr := [], mems := [(1, ⟨ty0, .ro, m1⟩)] } : ST cx)
noncomputable def u10 (k n1 : Nat) : T10 := fun (x3 : List (Int)) (x4 : List (Bool)) (x5 : Int) (m1 : D0) => uK (run E h k c8) (s10 x3 x4 x5 m1) (K17 k n1)
noncomputable abbrev l10 (k n1 : Nat) : T10 := fun (x3 : List (Int)) (x4 : List (Bool)) (x5 : Int) (m1 : D0) => cutK (run E h k c8) (s10 x3 x4 x5 m1) (K17 k n1)
abbrev s5 : (List (Int)) → Int → (List (Bool)) → D0 → ST cx := fun (x3 : List (Int)) (x5 : Int) (x6 : List (Bool)) (m1 : D0) => ({ vars := [(1, .addr (.mem 1) []), (3, .v (.slice 3 (.int .i64)) (.own .ro) x3), (5, .v (.int .i64) .ro x5), (6, .v (.slice 4 .bool) (.own .ro) x6)], scr := [], mems := [(1, ⟨ty0, .ro, m1⟩)] } : ST cx)
noncomputable def u5 (k n1 : Nat) : T5 := fun (x3 : List (Int)) (x5 : Int) (x6 : List (Bool)) (m1 : D0) => uK (run E h k c10) (s5 x3 x5 x6 m1) (K22 k n1)
noncomputable abbrev l5 (k n1 : Nat) : T5 := fun (x3 : List (Int)) (x5 : Int) (x6 : List (Bool)) (m1 : D0) => cutK (run E h k c10) (s5 x3 x5 x6 m1) (K22 k n1)
abbrev s2 : (List (Int)) → (List (Bool)) → Int → (List (Bool)) → Int → D0 → ST cx := fun (x3 : List (Int)) (x4 : List (Bool)) (x5 : Int) (x6 : List (Bool)) (x7 : Int) (m1 : D0) => ({ vars := [(1, .addr (.mem 1) []), (3, .v (.slice 3 (.int .i64)) (.own .ro) x3), (4, .v (.slice 4 .bool) .ro x4), (5, .v (.int .i64) .ro x5), (6, .v (.slice 4 .bool) (.own .ro) x6), (7, .v (.int .i64) .ro x7)], scr := [], mems := [(1, ⟨ty0, .ro, m1⟩)] } : ST cx)
noncomputable def u2 (k n1 n2 : Nat) : T2 := fun (x3 : List (Int)) (x4 : List (Bool)) (x5 : Int) (x6 : List (Bool)) (x7 : Int) (m1 : D0) => uK (loopL E h k c12 (K26 k n1) n2) (s2 x3 x4 x5 x6 x7 m1) ()
noncomputable abbrev l2 (k n1 n2 : Nat) : T2 := fun (x3 : List (Int)) (x4 : List (Bool)) (x5 : Int) (x6 : List (Bool)) (x7 : Int) (m1 : D0) => cutK (loopL E h k c12 (K26 k n1) n2) (s2 x3 x4 x5 x6 x7 m1) ()
abbrev s3 : (List (Int)) → ST cx := fun (x3 : List (Int)) => ({ vars := [(3, .v (.slice 3 (.int .i64)) (.own .ro) x3)], scr := [], mems := [] } : ST cx)
noncomputable def u3 (k : Nat) : T3 := fun (x3 : List (Int)) => uK (run E h k c3) (s3 x3) (K7 k)
noncomputable abbrev l3 (k : Nat) : T3 := fun (x3 : List (Int)) => cutK (run E h k c3) (s3 x3) (K7 k)
abbrev s1 : (List (Int)) → (List (Bool)) → Int → D0 → ST cx := fun (x3 : List (Int)) (x4 : List (Bool)) (x5 : Int) (m1 : D0) => ({ vars := [(1, .addr (.mem 1) []), (3, .v (.slice 3 (.int .i64)) (.own .ro) x3), (4, .v (.slice 4 .bool) .ro x4), (5, .v (.int .i64) .ro x5)], scr := [], mems := [(1, ⟨ty0, .ro, m1⟩)] } : ST cx)
noncomputable def u1 (k n1 : Nat) : T1 := fun (x3 : List (Int)) (x4 : List (Bool)) (x5 : Int) (m1 : D0) => uK (loopL E h k c5 (K11 k) n1) (s1 x3 x4 x5 m1) ()
noncomputable abbrev l1 (k n1 : Nat) : T1 := fun (x3 : List (Int)) (x4 : List (Bool)) (x5 : Int) (m1 : D0) => cutK (loopL E h k c5 (K11 k) n1) (s1 x3 x4 x5 m1) ()
noncomputable def u0 (k : Nat) : T0 := fun (x0 : D0) => runOf (S := cx) E h k Try.f35 [.val ty0] (.slice 3 (.int .i64)) .ro (x0, ())
def t7 (f6 : T6) : T7 := fun (x3 : List (Int)) (x4 : List (Bool)) (x5 : Int) (x6 : List (Bool)) (x7 : Int) (x8 : Bool) (x9 : Int) (m1 : D0) => 
  (f6 x3 x4 x5 x6 x7 x8 (w64 (x9 + (1 : Int))) m1)
theorem e7 (k n1 n2 n6 : Nat) : u7 k n1 n2 n6 = t7 (l6 k n1 n2 n6) := by kernel_rfl
theorem g7 (k n1 n2 n6 : Nat) : l7 k n1 n2 n6 = u7 k n1 n2 n6 := funext fun _ => funext fun _ => funext fun _ => funext fun _ => funext fun _ => funext fun _ => funext fun _ => funext fun _ => cut_u _ _ _
theorem d7 {x6 y6 : T6} (h6 : x6 = y6) : t7 x6 = t7 y6 := by subst h6; rfl
def p7 (k : Nat) (a1 : T1) (a2 : T2) (a6 : T6) : T7 := t7 a6
theorem o7 (k n1 n2 n6 : Nat) (a1 : T1) (a2 : T2) (a6 : T6) (h1 : l1 k n1 = a1) (h2 : l2 k n1 n2 = a2) (h6 : l6 k n1 n2 n6 = a6) : l7 k n1 n2 n6 = p7 k a1 a2 a6 := (Eq.trans (b := u7 k n1 n2 n6) (g7 k n1 n2 n6) (Eq.trans (b := t7 (l6 k n1 n2 n6)) (e7 k n1 n2 n6) (Eq.trans (b := t7 a6) (d7 h6) (by kernel_rfl))))
def t9 (f2 : T2) : T9 := fun (x3 : List (Int)) (x4 : List (Bool)) (x5 : Int) (x6 : List (Bool)) (x7 : Int) (m1 : D0) => 
  (f2 x3 x4 x5 x6 (w64 (x7 + (1 : Int))) m1)
theorem e9 (k n1 n2 : Nat) : u9 k n1 n2 = t9 (l2 k n1 n2) := by kernel_rfl
theorem g9 (k n1 n2 : Nat) : l9 k n1 n2 = u9 k n1 n2 := funext fun _ => funext fun _ => funext fun _ => funext fun _ => funext fun _ => funext fun _ => cut_u _ _ _
theorem d9 {x2 y2 : T2} (h2 : x2 = y2) : t9 x2 = t9 y2 := by subst h2; rfl
def p9 (k : Nat) (a1 : T1) (a2 : T2) : T9 := t9 a2
theorem o9 (k n1 n2 : Nat) (a1 : T1) (a2 : T2) (h1 : l1 k n1 = a1) (h2 : l2 k n1 n2 = a2) : l9 k n1 n2 = p9 k a1 a2 := (Eq.trans (b := u9 k n1 n2) (g9 k n1 n2) (Eq.trans (b := t9 (l2 k n1 n2)) (e9 k n1 n2) (Eq.trans (b := t9 a2) (d9 h2) (by kernel_rfl))))
def t8 (f9 : T9) : T8 := fun (x3 : List (Int)) (x4 : List (Bool)) (x5 : Int) (x6 : List (Bool)) (x7 : Int) (x8 : Bool) (m1 : D0) => 
  (iteB x8 (withinR x7 (List.length m1.2.2.2.1) fun q9 => (withinR ((List.getD m1.2.2.2.1 q9 ((0 : Int), ([] : List (Int)))).1) (List.length x3) fun q10 => (withinR x7 (List.length m1.2.2.2.1) fun q11 => (withinR ((List.getD m1.2.2.2.1 q11 ((0 : Int), ([] : List (Int)))).1) (List.length x6) fun q12 => (f9 (List.set x3 q10 x7) x4 x5 (List.set x6 q12 true) x7 m1))))) (f9 x3 x4 x5 x6 x7 m1))
theorem e8 (k n1 n2 : Nat) : u8 k n1 n2 = t8 (l9 k n1 n2) := by kernel_rfl
theorem g8 (k n1 n2 : Nat) : l8 k n1 n2 = u8 k n1 n2 := funext fun _ => funext fun _ => funext fun _ => funext fun _ => funext fun _ => funext fun _ => funext fun _ => cut_u _ _ _
theorem d8 {x9 y9 : T9} (h9 : x9 = y9) : t8 x9 = t8 y9 := by subst h9; rfl
def p8 (k : Nat) (a1 : T1) (a2 : T2) : T8 := t8 (p9 k a1 a2)
theorem o8 (k n1 n2 : Nat) (a1 : T1) (a2 : T2) (h1 : l1 k n1 = a1) (h2 : l2 k n1 n2 = a2) : l8 k n1 n2 = p8 k a1 a2 := (Eq.trans (b := u8 k n1 n2) (g8 k n1 n2) (Eq.trans (b := t8 (l9 k n1 n2)) (e8 k n1 n2) (Eq.trans (b := t8 (p9 k a1 a2)) (d8 (o9 k n1 n2 a1 a2 h1 h2)) (by kernel_rfl))))
def t6 (f7 : T7) (f8 : T8) : T6 := fun (x3 : List (Int)) (x4 : List (Bool)) (x5 : Int) (x6 : List (Bool)) (x7 : Int) (x8 : Bool) (x9 : Int) (m1 : D0) => 
  (withinR x7 (List.length m1.2.2.2.1) fun q5 => (iteB (decide (x9 < ((List.length (List.getD m1.2.2.2.1 q5 ((0 : Int), ([] : List (Int)))).2 : Nat) : Int))) (withinR x7 (List.length m1.2.2.2.1) fun q6 => (withinR x9 (List.length (List.getD m1.2.2.2.1 q6 ((0 : Int), ([] : List (Int)))).2) fun q7 => (iteB x8 (iteB (decide ((List.getD (List.getD m1.2.2.2.1 q6 ((0 : Int), ([] : List (Int)))).2 q7 (0 : Int)) < m1.2.1)) (f7 x3 x4 x5 x6 x7 true x9 m1) (withinR (List.getD (List.getD m1.2.2.2.1 q6 ((0 : Int), ([] : List (Int)))).2 q7 (0 : Int)) (List.length x4) fun q8 => (f7 x3 x4 x5 x6 x7 (List.getD x4 q8 false) x9 m1))) (f7 x3 x4 x5 x6 x7 false x9 m1)))) (f8 x3 x4 x5 x6 x7 x8 m1)))
theorem e6 (k n1 n2 n6 : Nat) : u6 k n1 n2 (n6 + 1) = t6 (l7 k n1 n2 n6) (l8 k n1 n2) := by kernel_rfl
theorem g6 (k n1 n2 n6 : Nat) : l6 k n1 n2 (n6 + 1) = u6 k n1 n2 (n6 + 1) := funext fun _ => funext fun _ => funext fun _ => funext fun _ => funext fun _ => funext fun _ => funext fun _ => funext fun _ => cut_u _ _ _
theorem d6 {x7 y7 : T7} {x8 y8 : T8} (h7 : x7 = y7) (h8 : x8 = y8) : t6 x7 x8 = t6 y7 y8 := by subst h7; subst h8; rfl
def p6 (k : Nat) (a1 : T1) (a2 : T2) : Nat → T6
  | 0 => fun _ _ _ _ _ _ _ _ => none
  | n6 + 1 => t6 (p7 k a1 a2 (p6 k a1 a2 n6)) (p8 k a1 a2)
theorem o6 (k n1 n2 : Nat) (a1 : T1) (a2 : T2) (h1 : l1 k n1 = a1) (h2 : l2 k n1 n2 = a2) : ∀ n6, l6 k n1 n2 n6 = p6 k a1 a2 n6 := by
  intro n6
  induction n6 with
  | zero => kernel_rfl
  | succ n6 ih => exact (Eq.trans (b := u6 k n1 n2 (n6 + 1)) (g6 k n1 n2 n6) (Eq.trans (b := t6 (l7 k n1 n2 n6) (l8 k n1 n2)) (e6 k n1 n2 n6) (Eq.trans (b := t6 (p7 k a1 a2 (p6 k a1 a2 n6)) (p8 k a1 a2)) (d6 (o7 k n1 n2 n6 a1 a2 (p6 k a1 a2 n6) h1 h2 ih) (o8 k n1 n2 a1 a2 h1 h2)) (by kernel_rfl))))
def t4 (f6 : T6) : T4 := fun (x3 : List (Int)) (x4 : List (Bool)) (x5 : Int) (x6 : List (Bool)) (x7 : Int) (x8 : Bool) (m1 : D0) => 
  (f6 x3 x4 x5 x6 x7 x8 (0 : Int) m1)
theorem e4 (k n1 n2 : Nat) : u4 k n1 n2 = t4 (l6 k n1 n2 k) := by kernel_rfl
theorem g4 (k n1 n2 : Nat) : l4 k n1 n2 = u4 k n1 n2 := funext fun _ => funext fun _ => funext fun _ => funext fun _ => funext fun _ => funext fun _ => funext fun _ => cut_u _ _ _
theorem d4 {x6 y6 : T6} (h6 : x6 = y6) : t4 x6 = t4 y6 := by subst h6; rfl
def p4 (k : Nat) (a1 : T1) (a2 : T2) : T4 := t4 (p6 k a1 a2 k)
theorem o4 (k n1 n2 : Nat) (a1 : T1) (a2 : T2) (h1 : l1 k n1 = a1) (h2 : l2 k n1 n2 = a2) : l4 k n1 n2 = p4 k a1 a2 := (Eq.trans (b := u4 k n1 n2) (g4 k n1 n2) (Eq.trans (b := t4 (l6 k n1 n2 k)) (e4 k n1 n2) (Eq.trans (b := t4 (p6 k a1 a2 k)) (d4 (o6 k n1 n2 a1 a2 h1 h2 k)) (by kernel_rfl))))
def t10 (f1 : T1) : T10 := fun (x3 : List (Int)) (x4 : List (Bool)) (x5 : Int) (m1 : D0) => 
  (f1 x3 x4 (w64 (x5 + (1 : Int))) m1)
theorem e10 (k n1 : Nat) : u10 k n1 = t10 (l1 k n1) := by kernel_rfl
theorem g10 (k n1 : Nat) : l10 k n1 = u10 k n1 := funext fun _ => funext fun _ => funext fun _ => funext fun _ => cut_u _ _ _
theorem d10 {x1 y1 : T1} (h1 : x1 = y1) : t10 x1 = t10 y1 := by subst h1; rfl
def p10 (k : Nat) (a1 : T1) : T10 := t10 a1
theorem o10 (k n1 : Nat) (a1 : T1) (h1 : l1 k n1 = a1) : l10 k n1 = p10 k a1 := (Eq.trans (b := u10 k n1) (g10 k n1) (Eq.trans (b := t10 (l1 k n1)) (e10 k n1) (Eq.trans (b := t10 a1) (d10 h1) (by kernel_rfl))))
def t5 (f10 : T10) : T5 := fun (x3 : List (Int)) (x5 : Int) (x6 : List (Bool)) (m1 : D0) => 
  (f10 x3 x6 x5 m1)
theorem e5 (k n1 : Nat) : u5 k n1 = t5 (l10 k n1) := by kernel_rfl
theorem g5 (k n1 : Nat) : l5 k n1 = u5 k n1 := funext fun _ => funext fun _ => funext fun _ => funext fun _ => cut_u _ _ _
theorem d5 {x10 y10 : T10} (h10 : x10 = y10) : t5 x10 = t5 y10 := by subst h10; rfl
def p5 (k : Nat) (a1 : T1) : T5 := t5 (p10 k a1)
theorem o5 (k n1 : Nat) (a1 : T1) (h1 : l1 k n1 = a1) : l5 k n1 = p5 k a1 := (Eq.trans (b := u5 k n1) (g5 k n1) (Eq.trans (b := t5 (l10 k n1)) (e5 k n1) (Eq.trans (b := t5 (p10 k a1)) (d5 (o10 k n1 a1 h1)) (by kernel_rfl))))
def t2 (f4 : T4) (f5 : T5) : T2 := fun (x3 : List (Int)) (x4 : List (Bool)) (x5 : Int) (x6 : List (Bool)) (x7 : Int) (m1 : D0) => 
  (iteB (decide (x7 < ((List.length m1.2.2.2.1 : Nat) : Int))) (withinR x7 (List.length m1.2.2.2.1) fun q1 => (withinR ((List.getD m1.2.2.2.1 q1 ((0 : Int), ([] : List (Int)))).1) (List.length x4) fun q2 => (iteB (notB (List.getD x4 q2 false)) (withinR x7 (List.length m1.2.2.2.1) fun q3 => (withinR ((List.getD m1.2.2.2.1 q3 ((0 : Int), ([] : List (Int)))).1) (List.length x6) fun q4 => (f4 x3 x4 x5 x6 x7 (notB (List.getD x6 q4 false)) m1))) (f4 x3 x4 x5 x6 x7 false m1)))) (f5 x3 x5 x6 m1))
theorem e2 (k n1 n2 : Nat) : u2 k n1 (n2 + 1) = t2 (l4 k n1 n2) (l5 k n1) := by kernel_rfl
theorem g2 (k n1 n2 : Nat) : l2 k n1 (n2 + 1) = u2 k n1 (n2 + 1) := funext fun _ => funext fun _ => funext fun _ => funext fun _ => funext fun _ => funext fun _ => cut_u _ _ _
theorem d2 {x4 y4 : T4} {x5 y5 : T5} (h4 : x4 = y4) (h5 : x5 = y5) : t2 x4 x5 = t2 y4 y5 := by subst h4; subst h5; rfl
def p2 (k : Nat) (a1 : T1) : Nat → T2
  | 0 => fun _ _ _ _ _ _ => none
  | n2 + 1 => t2 (p4 k a1 (p2 k a1 n2)) (p5 k a1)
theorem o2 (k n1 : Nat) (a1 : T1) (h1 : l1 k n1 = a1) : ∀ n2, l2 k n1 n2 = p2 k a1 n2 := by
  intro n2
  induction n2 with
  | zero => kernel_rfl
  | succ n2 ih => exact (Eq.trans (b := u2 k n1 (n2 + 1)) (g2 k n1 n2) (Eq.trans (b := t2 (l4 k n1 n2) (l5 k n1)) (e2 k n1 n2) (Eq.trans (b := t2 (p4 k a1 (p2 k a1 n2)) (p5 k a1)) (d2 (o4 k n1 n2 a1 (p2 k a1 n2) h1 ih) (o5 k n1 a1 h1)) (by kernel_rfl))))
def t3 : T3 := fun (x3 : List (Int)) => 
  (some (x3, ()))
theorem e3 (k : Nat) : u3 k = t3 := by kernel_rfl
theorem g3 (k : Nat) : l3 k = u3 k := funext fun _ => cut_u _ _ _
def p3 (k : Nat) : T3 := t3
theorem o3 (k : Nat) : l3 k = p3 k := (Eq.trans (b := u3 k) (g3 k) (Eq.trans (b := t3) (e3 k) (by kernel_rfl)))
def t1 (f2 : T2) (f3 : T3) : T1 := fun (x3 : List (Int)) (x4 : List (Bool)) (x5 : Int) (m1 : D0) => 
  (iteB (decide (x5 ≤ ((List.length m1.1 : Nat) : Int))) (mustR (room ([] : List (Bool)) x4) (f2 x3 x4 x5 (([] : List (Bool)) ++ x4) (0 : Int) m1)) (f3 x3))
theorem e1 (k n1 : Nat) : u1 k (n1 + 1) = t1 (l2 k n1 k) (l3 k) := by kernel_rfl
theorem g1 (k n1 : Nat) : l1 k (n1 + 1) = u1 k (n1 + 1) := funext fun _ => funext fun _ => funext fun _ => funext fun _ => cut_u _ _ _
theorem d1 {x2 y2 : T2} {x3 y3 : T3} (h2 : x2 = y2) (h3 : x3 = y3) : t1 x2 x3 = t1 y2 y3 := by subst h2; subst h3; rfl
def p1 (k : Nat) : Nat → T1
  | 0 => fun _ _ _ _ => none
  | n1 + 1 => t1 (p2 k (p1 k n1) k) (p3 k)
theorem o1 (k : Nat) : ∀ n1, l1 k n1 = p1 k n1 := by
  intro n1
  induction n1 with
  | zero => kernel_rfl
  | succ n1 ih => exact (Eq.trans (b := u1 k (n1 + 1)) (g1 k n1) (Eq.trans (b := t1 (l2 k n1 k) (l3 k)) (e1 k n1) (Eq.trans (b := t1 (p2 k (p1 k n1) k) (p3 k)) (d1 (o2 k n1 (p1 k n1) ih k) (o3 k)) (by kernel_rfl))))
def t0 (f1 : T1) : T0 := fun (x0 : D0) => 
  (mustR (decide (((List.length x0.1 : Nat) : Int) = ((List.length x0.1 : Nat) : Int) ∧ (0 : Int) ≤ ((List.length x0.1 : Nat) : Int) ∧ ((List.length x0.1 : Nat) : Int) ≤ (16777216 : Int))) (mustR (decide (((List.length x0.1 : Nat) : Int) = ((List.length x0.1 : Nat) : Int) ∧ (0 : Int) ≤ ((List.length x0.1 : Nat) : Int) ∧ ((List.length x0.1 : Nat) : Int) ≤ (16777216 : Int))) (f1 (List.replicate (Int.toNat ((List.length x0.1 : Nat) : Int)) (0 : Int)) (List.replicate (Int.toNat ((List.length x0.1 : Nat) : Int)) false) (0 : Int) x0)))
theorem e0 (k : Nat) : u0 k = t0 (l1 k k) := by kernel_rfl
theorem d0 {x1 y1 : T1} (h1 : x1 = y1) : t0 x1 = t0 y1 := by subst h1; rfl
def p0 (k : Nat) : T0 := t0 (p1 k k)
theorem o0 (k : Nat) : u0 k = p0 k := (Eq.trans (b := t0 (l1 k k)) (e0 k) (Eq.trans (b := t0 (p1 k k)) (d0 (o1 k k)) (by kernel_rfl)))
end ref15_shortest
def s_ref15_shortest (a : (D0) × (Unit)) : Option ((List (Int)) × (Unit)) := ref15_shortest.p0 (fuel) a.1
noncomputable def F_ref15_shortest : FSpec cx.toNm := { ps := [.val ty0], nres := 1, rt := (.slice 3 (.int .i64)), rm := .ro, f := s_ref15_shortest }
theorem w_ref15_shortest (a : (D0) × (Unit)) : runOf (S := cx) ref15_shortest.E ref15_shortest.h (fuel) Try.f35 F_ref15_shortest.ps F_ref15_shortest.rt F_ref15_shortest.rm a = s_ref15_shortest a := Eq.trans (b := ref15_shortest.u0 (fuel) a.1) (by kernel_rfl) (Eq.trans (b := ref15_shortest.p0 (fuel) a.1) (congrFun (ref15_shortest.o0 (fuel)) a.1) (by kernel_rfl))
theorem ok_ref15_shortest : FnOk Try.prog F_ref15_shortest 35 := fn_of (F := F_ref15_shortest) (hn := ref15_shortest.h) (E := ref15_shortest.E) cxOk (tysT _ _ _) fs_nil follows Try.func35 (by kernel_rfl) (fun a r h => ⟨fuel, Eq.trans (w_ref15_shortest a) h⟩)
noncomputable def Fr_ref15_Make (f : ((D0) × ((Int) × ((List (Int)) × ((Int) × (Unit))))) → Option ((Option N1) × ((List (Int)) × (Unit)))) : FSpec cx.toNm := { ps := [.val ty0, .val (.int .i64), .io (.slice 5 (.int .u8)) .ro, .val (.int .i64)], nres := 1, rt := (.ptr 1), rm := .ro, f := f }
namespace ref15_Make
noncomputable def E (sf_ref15_Make : ((D0) × ((Int) × ((List (Int)) × ((Int) × (Unit))))) → Option ((Option N1) × ((List (Int)) × (Unit)))) : Env cx := { tys := tys, fs := fsOf [(14, (Fr_ref15_Make sf_ref15_Make)), (35, F_ref15_shortest)] }
abbrev R := Option ((Option N1) × ((List (Int)) × (Unit)))
abbrev C := Exit → ST cx → R
noncomputable def b : Code := bodyC Try.f14
noncomputable def h : Hint := { vs := [0, 1, 2, 3, 4, 8, 9, 10, 11, 12, 13, 14, 15], nil := [(10, (.own .ro)), (81, (.pr .ro (.pr .ro (.pr .ro (.pr (.own .ro) .ro)))))], cuts := [(5, ([1, 2, 3, 4, 9], [4, 1000002]), ([1, 2, 3, 4, 9], [4, 1000002])), (9, ([1, 2, 3, 4, 9, 10, 11], [4, 1000002]), ([1, 2, 3, 4, 9, 10], [4, 1000002])), (10, ([1, 2, 3, 4, 9, 10, 11], [4, 1000002]), ([1, 2, 3, 4, 9, 10, 11], [4, 1000002])), (13, ([1, 2, 3, 4, 9, 10], [4, 1000002]), ([1, 2, 3, 4, 9, 10], [4, 1000002])), (16, ([1, 2, 3, 4, 12], [4, 1000002]), ([1, 2, 3, 4, 12], [4, 1000002])), (18, ([2, 3, 4, 12, 13, 14], [4, 82, 1000002]), ([2, 13], [82, 1000002])), (23, ([2, 13], [82, 1000002]), ([2, 13], [82, 1000002]))], ret := ([2, 8], [4, 45, 82, 1000002]), ords := [] }
noncomputable def K0 (sf_ref15_Make : ((D0) × ((Int) × ((List (Int)) × ((Int) × (Unit))))) → Option ((Option N1) × ((List (Int)) × (Unit)))) : C := fin (S := cx) (E sf_ref15_Make) Try.f14.results.toList (.ptr 1) .ro [1000002] [((.slice 5 (.int .u8)), .ro)]
noncomputable def c0 : Code := subC b [1]
noncomputable def K1 (sf_ref15_Make : ((D0) × ((Int) × ((List (Int)) × ((Int) × (Unit))))) → Option ((Option N1) × ((List (Int)) × (Unit)))) (k : Nat) : C := outD h c0 (K0 sf_ref15_Make)
noncomputable def K2 (sf_ref15_Make : ((D0) × ((Int) × ((List (Int)) × ((Int) × (Unit))))) → Option ((Option N1) × ((List (Int)) × (Unit)))) (k : Nat) : C := seqC (E sf_ref15_Make) h k c0 (K0 sf_ref15_Make)
noncomputable def c1 : Code := subC b [1, 1]
noncomputable def K3 (sf_ref15_Make : ((D0) × ((Int) × ((List (Int)) × ((Int) × (Unit))))) → Option ((Option N1) × ((List (Int)) × (Unit)))) (k : Nat) : C := outD h c1 (K1 sf_ref15_Make k)
noncomputable def K4 (sf_ref15_Make : ((D0) × ((Int) × ((List (Int)) × ((Int) × (Unit))))) → Option ((Option N1) × ((List (Int)) × (Unit)))) (k : Nat) : C := seqC (E sf_ref15_Make) h k c1 (K1 sf_ref15_Make k)
noncomputable def c2 : Code := subC b [1, 1, 1]
noncomputable def K5 (sf_ref15_Make : ((D0) × ((Int) × ((List (Int)) × ((Int) × (Unit))))) → Option ((Option N1) × ((List (Int)) × (Unit)))) (k : Nat) : C := outD h c2 (K3 sf_ref15_Make k)
noncomputable def K6 (sf_ref15_Make : ((D0) × ((Int) × ((List (Int)) × ((Int) × (Unit))))) → Option ((Option N1) × ((List (Int)) × (Unit)))) (k : Nat) : C := seqC (E sf_ref15_Make) h k c2 (K3 sf_ref15_Make k)
noncomputable def c3 : Code := subC b [1, 1, 0, 1]
noncomputable def K7 (sf_ref15_Make : ((D0) × ((Int) × ((List (Int)) × ((Int) × (Unit))))) → Option ((Option N1) × ((List (Int)) × (Unit)))) (k : Nat) : C := outD h c3 (K6 sf_ref15_Make k)
noncomputable def K8 (sf_ref15_Make : ((D0) × ((Int) × ((List (Int)) × ((Int) × (Unit))))) → Option ((Option N1) × ((List (Int)) × (Unit)))) (k : Nat) : C := seqC (E sf_ref15_Make) h k c3 (K6 sf_ref15_Make k)
noncomputable def c4 : Code := subC b [1, 1, 0, 1, 0, 1]
noncomputable def K9 (sf_ref15_Make : ((D0) × ((Int) × ((List (Int)) × ((Int) × (Unit))))) → Option ((Option N1) × ((List (Int)) × (Unit)))) (k : Nat) : C := outD h c4 (K7 sf_ref15_Make k)
noncomputable def K10 (sf_ref15_Make : ((D0) × ((Int) × ((List (Int)) × ((Int) × (Unit))))) → Option ((Option N1) × ((List (Int)) × (Unit)))) (k : Nat) : C := seqC (E sf_ref15_Make) h k c4 (K7 sf_ref15_Make k)
noncomputable def c5 : Code := subC b [1, 1, 1, 1]
noncomputable def K11 (sf_ref15_Make : ((D0) × ((Int) × ((List (Int)) × ((Int) × (Unit))))) → Option ((Option N1) × ((List (Int)) × (Unit)))) (k : Nat) : C := outD h c5 (K5 sf_ref15_Make k)
noncomputable def K12 (sf_ref15_Make : ((D0) × ((Int) × ((List (Int)) × ((Int) × (Unit))))) → Option ((Option N1) × ((List (Int)) × (Unit)))) (k : Nat) : C := seqC (E sf_ref15_Make) h k c5 (K5 sf_ref15_Make k)
noncomputable def c6 : Code := subC b [1, 1, 1, 0, 1]
noncomputable def K13 (sf_ref15_Make : ((D0) × ((Int) × ((List (Int)) × ((Int) × (Unit))))) → Option ((Option N1) × ((List (Int)) × (Unit)))) (k : Nat) : C := outD h c6 (K12 sf_ref15_Make k)
noncomputable def K14 (sf_ref15_Make : ((D0) × ((Int) × ((List (Int)) × ((Int) × (Unit))))) → Option ((Option N1) × ((List (Int)) × (Unit)))) (k : Nat) : C := seqC (E sf_ref15_Make) h k c6 (K12 sf_ref15_Make k)
noncomputable def c7 : Code := subC b [1, 1, 1, 0, 1, 0, 1]
noncomputable def K15 (sf_ref15_Make : ((D0) × ((Int) × ((List (Int)) × ((Int) × (Unit))))) → Option ((Option N1) × ((List (Int)) × (Unit)))) (k : Nat) : C := outD h c7 (K13 sf_ref15_Make k)
noncomputable def K16 (sf_ref15_Make : ((D0) × ((Int) × ((List (Int)) × ((Int) × (Unit))))) → Option ((Option N1) × ((List (Int)) × (Unit)))) (k : Nat) : C := seqC (E sf_ref15_Make) h k c7 (K13 sf_ref15_Make k)
noncomputable def c8 : Code := subC b [1, 1, 1, 1, 1]
noncomputable def K17 (sf_ref15_Make : ((D0) × ((Int) × ((List (Int)) × ((Int) × (Unit))))) → Option ((Option N1) × ((List (Int)) × (Unit)))) (k : Nat) : C := outD h c8 (K11 sf_ref15_Make k)
noncomputable def K18 (sf_ref15_Make : ((D0) × ((Int) × ((List (Int)) × ((Int) × (Unit))))) → Option ((Option N1) × ((List (Int)) × (Unit)))) (k : Nat) : C := seqC (E sf_ref15_Make) h k c8 (K11 sf_ref15_Make k)
noncomputable def c9 : Code := subC b [1, 1, 1, 1, 1, 1]
noncomputable def K19 (sf_ref15_Make : ((D0) × ((Int) × ((List (Int)) × ((Int) × (Unit))))) → Option ((Option N1) × ((List (Int)) × (Unit)))) (k : Nat) : C := outD h c9 (K17 sf_ref15_Make k)
noncomputable def K20 (sf_ref15_Make : ((D0) × ((Int) × ((List (Int)) × ((Int) × (Unit))))) → Option ((Option N1) × ((List (Int)) × (Unit)))) (k : Nat) : C := seqC (E sf_ref15_Make) h k c9 (K17 sf_ref15_Make k)
noncomputable def c10 : Code := subC b [1, 1, 1, 1, 1, 0, 1]
noncomputable def K21 (sf_ref15_Make : ((D0) × ((Int) × ((List (Int)) × ((Int) × (Unit))))) → Option ((Option N1) × ((List (Int)) × (Unit)))) (k : Nat) : C := outD h c10 (K20 sf_ref15_Make k)
noncomputable def K22 (sf_ref15_Make : ((D0) × ((Int) × ((List (Int)) × ((Int) × (Unit))))) → Option ((Option N1) × ((List (Int)) × (Unit)))) (k : Nat) : C := seqC (E sf_ref15_Make) h k c10 (K20 sf_ref15_Make k)
noncomputable def K23 (sf_ref15_Make : ((D0) × ((Int) × ((List (Int)) × ((Int) × (Unit))))) → Option ((Option N1) × ((List (Int)) × (Unit)))) (k : Nat) : C := blockK 0 (K21 sf_ref15_Make k)
noncomputable def c11 : Code := subC b [1, 1, 1, 1, 1, 0, 1, 0, 0]
noncomputable def K24 (sf_ref15_Make : ((D0) × ((Int) × ((List (Int)) × ((Int) × (Unit))))) → Option ((Option N1) × ((List (Int)) × (Unit)))) (k n2 : Nat) : C := loopD (E sf_ref15_Make) h k c11 (K23 sf_ref15_Make k) n2
noncomputable def c12 : Code := subC b [1, 1, 1, 1, 1, 0, 1, 0, 0, 1]
noncomputable def K25 (sf_ref15_Make : ((D0) × ((Int) × ((List (Int)) × ((Int) × (Unit))))) → Option ((Option N1) × ((List (Int)) × (Unit)))) (k n2 : Nat) : C := outD h c12 (K24 sf_ref15_Make k n2)
noncomputable def K26 (sf_ref15_Make : ((D0) × ((Int) × ((List (Int)) × ((Int) × (Unit))))) → Option ((Option N1) × ((List (Int)) × (Unit)))) (k n2 : Nat) : C := seqC (E sf_ref15_Make) h k c12 (K24 sf_ref15_Make k n2)
noncomputable def c13 : Code := subC b [1, 1, 1, 1, 1, 0, 1, 0, 0, 0, 1]
noncomputable def K27 (sf_ref15_Make : ((D0) × ((Int) × ((List (Int)) × ((Int) × (Unit))))) → Option ((Option N1) × ((List (Int)) × (Unit)))) (k n2 : Nat) : C := outD h c13 (K26 sf_ref15_Make k n2)
noncomputable def K28 (sf_ref15_Make : ((D0) × ((Int) × ((List (Int)) × ((Int) × (Unit))))) → Option ((Option N1) × ((List (Int)) × (Unit)))) (k n2 : Nat) : C := seqC (E sf_ref15_Make) h k c13 (K26 sf_ref15_Make k n2)
noncomputable def c14 : Code := subC b [1, 1, 1, 1, 1, 0, 1, 0, 0, 1, 1]
noncomputable def K29 (sf_ref15_Make : ((D0) × ((Int) × ((List (Int)) × ((Int) × (Unit))))) → Option ((Option N1) × ((List (Int)) × (Unit)))) (k n2 : Nat) : C := outD h c14 (K25 sf_ref15_Make k n2)
noncomputable def K30 (sf_ref15_Make : ((D0) × ((Int) × ((List (Int)) × ((Int) × (Unit))))) → Option ((Option N1) × ((List (Int)) × (Unit)))) (k n2 : Nat) : C := seqC (E sf_ref15_Make) h k c14 (K25 sf_ref15_Make k n2)
noncomputable def K31 (sf_ref15_Make : ((D0) × ((Int) × ((List (Int)) × ((Int) × (Unit))))) → Option ((Option N1) × ((List (Int)) × (Unit)))) (k n2 : Nat) : C := blockK 1 (K30 sf_ref15_Make k n2)
noncomputable def c15 : Code := subC b [1, 1, 1, 1, 1, 0, 1, 0, 0, 1, 0, 0, 1]
noncomputable def K32 (sf_ref15_Make : ((D0) × ((Int) × ((List (Int)) × ((Int) × (Unit))))) → Option ((Option N1) × ((List (Int)) × (Unit)))) (k n2 : Nat) : C := outD h c15 (K31 sf_ref15_Make k n2)
noncomputable def K33 (sf_ref15_Make : ((D0) × ((Int) × ((List (Int)) × ((Int) × (Unit))))) → Option ((Option N1) × ((List (Int)) × (Unit)))) (k n2 : Nat) : C := seqC (E sf_ref15_Make) h k c15 (K31 sf_ref15_Make k n2)
noncomputable def c16 : Code := subC b [1, 1, 1, 1, 1, 1, 1]
noncomputable def K34 (sf_ref15_Make : ((D0) × ((Int) × ((List (Int)) × ((Int) × (Unit))))) → Option ((Option N1) × ((List (Int)) × (Unit)))) (k : Nat) : C := outD h c16 (K19 sf_ref15_Make k)
noncomputable def K35 (sf_ref15_Make : ((D0) × ((Int) × ((List (Int)) × ((Int) × (Unit))))) → Option ((Option N1) × ((List (Int)) × (Unit)))) (k : Nat) : C := seqC (E sf_ref15_Make) h k c16 (K19 sf_ref15_Make k)
noncomputable def c17 : Code := subC b [1, 1, 1, 1, 1, 1, 1, 1]
noncomputable def K36 (sf_ref15_Make : ((D0) × ((Int) × ((List (Int)) × ((Int) × (Unit))))) → Option ((Option N1) × ((List (Int)) × (Unit)))) (k : Nat) : C := outD h c17 (K34 sf_ref15_Make k)
noncomputable def K37 (sf_ref15_Make : ((D0) × ((Int) × ((List (Int)) × ((Int) × (Unit))))) → Option ((Option N1) × ((List (Int)) × (Unit)))) (k : Nat) : C := seqC (E sf_ref15_Make) h k c17 (K34 sf_ref15_Make k)
noncomputable def c18 : Code := subC b [1, 1, 1, 1, 1, 1, 1, 0, 1]
noncomputable def K38 (sf_ref15_Make : ((D0) × ((Int) × ((List (Int)) × ((Int) × (Unit))))) → Option ((Option N1) × ((List (Int)) × (Unit)))) (k : Nat) : C := outD h c18 (K37 sf_ref15_Make k)
noncomputable def K39 (sf_ref15_Make : ((D0) × ((Int) × ((List (Int)) × ((Int) × (Unit))))) → Option ((Option N1) × ((List (Int)) × (Unit)))) (k : Nat) : C := seqC (E sf_ref15_Make) h k c18 (K37 sf_ref15_Make k)
noncomputable def c19 : Code := subC b [1, 1, 1, 1, 1, 1, 1, 1, 1]
noncomputable def K40 (sf_ref15_Make : ((D0) × ((Int) × ((List (Int)) × ((Int) × (Unit))))) → Option ((Option N1) × ((List (Int)) × (Unit)))) (k : Nat) : C := outD h c19 (K36 sf_ref15_Make k)
noncomputable def K41 (sf_ref15_Make : ((D0) × ((Int) × ((List (Int)) × ((Int) × (Unit))))) → Option ((Option N1) × ((List (Int)) × (Unit)))) (k : Nat) : C := seqC (E sf_ref15_Make) h k c19 (K36 sf_ref15_Make k)
noncomputable def c20 : Code := subC b [1, 1, 1, 1, 1, 1, 1, 1, 1, 1]
noncomputable def K42 (sf_ref15_Make : ((D0) × ((Int) × ((List (Int)) × ((Int) × (Unit))))) → Option ((Option N1) × ((List (Int)) × (Unit)))) (k : Nat) : C := outD h c20 (K40 sf_ref15_Make k)
noncomputable def K43 (sf_ref15_Make : ((D0) × ((Int) × ((List (Int)) × ((Int) × (Unit))))) → Option ((Option N1) × ((List (Int)) × (Unit)))) (k : Nat) : C := seqC (E sf_ref15_Make) h k c20 (K40 sf_ref15_Make k)
noncomputable def c21 : Code := subC b [1, 1, 1, 1, 1, 1, 1, 1, 1, 0, 1]
noncomputable def K44 (sf_ref15_Make : ((D0) × ((Int) × ((List (Int)) × ((Int) × (Unit))))) → Option ((Option N1) × ((List (Int)) × (Unit)))) (k : Nat) : C := outD h c21 (K43 sf_ref15_Make k)
noncomputable def K45 (sf_ref15_Make : ((D0) × ((Int) × ((List (Int)) × ((Int) × (Unit))))) → Option ((Option N1) × ((List (Int)) × (Unit)))) (k : Nat) : C := seqC (E sf_ref15_Make) h k c21 (K43 sf_ref15_Make k)
noncomputable def K46 (sf_ref15_Make : ((D0) × ((Int) × ((List (Int)) × ((Int) × (Unit))))) → Option ((Option N1) × ((List (Int)) × (Unit)))) (k : Nat) : C := blockK 2 (K44 sf_ref15_Make k)
noncomputable def c22 : Code := subC b [1, 1, 1, 1, 1, 1, 1, 1, 1, 0, 1, 0, 0]
noncomputable def K47 (sf_ref15_Make : ((D0) × ((Int) × ((List (Int)) × ((Int) × (Unit))))) → Option ((Option N1) × ((List (Int)) × (Unit)))) (k n6 : Nat) : C := loopD (E sf_ref15_Make) h k c22 (K46 sf_ref15_Make k) n6
noncomputable def c23 : Code := subC b [1, 1, 1, 1, 1, 1, 1, 1, 1, 0, 1, 0, 0, 1]
noncomputable def K48 (sf_ref15_Make : ((D0) × ((Int) × ((List (Int)) × ((Int) × (Unit))))) → Option ((Option N1) × ((List (Int)) × (Unit)))) (k n6 : Nat) : C := outD h c23 (K47 sf_ref15_Make k n6)
noncomputable def K49 (sf_ref15_Make : ((D0) × ((Int) × ((List (Int)) × ((Int) × (Unit))))) → Option ((Option N1) × ((List (Int)) × (Unit)))) (k n6 : Nat) : C := seqC (E sf_ref15_Make) h k c23 (K47 sf_ref15_Make k n6)
noncomputable def c24 : Code := subC b [1, 1, 1, 1, 1, 1, 1, 1, 1, 0, 1, 0, 0, 0, 1]
noncomputable def K50 (sf_ref15_Make : ((D0) × ((Int) × ((List (Int)) × ((Int) × (Unit))))) → Option ((Option N1) × ((List (Int)) × (Unit)))) (k n6 : Nat) : C := outD h c24 (K49 sf_ref15_Make k n6)
noncomputable def K51 (sf_ref15_Make : ((D0) × ((Int) × ((List (Int)) × ((Int) × (Unit))))) → Option ((Option N1) × ((List (Int)) × (Unit)))) (k n6 : Nat) : C := seqC (E sf_ref15_Make) h k c24 (K49 sf_ref15_Make k n6)
noncomputable def c25 : Code := subC b [1, 1, 1, 1, 1, 1, 1, 1, 1, 0, 1, 0, 0, 1, 1]
noncomputable def K52 (sf_ref15_Make : ((D0) × ((Int) × ((List (Int)) × ((Int) × (Unit))))) → Option ((Option N1) × ((List (Int)) × (Unit)))) (k n6 : Nat) : C := outD h c25 (K48 sf_ref15_Make k n6)
noncomputable def K53 (sf_ref15_Make : ((D0) × ((Int) × ((List (Int)) × ((Int) × (Unit))))) → Option ((Option N1) × ((List (Int)) × (Unit)))) (k n6 : Nat) : C := seqC (E sf_ref15_Make) h k c25 (K48 sf_ref15_Make k n6)
noncomputable def K54 (sf_ref15_Make : ((D0) × ((Int) × ((List (Int)) × ((Int) × (Unit))))) → Option ((Option N1) × ((List (Int)) × (Unit)))) (k n6 : Nat) : C := blockK 3 (K53 sf_ref15_Make k n6)
noncomputable def c26 : Code := subC b [1, 1, 1, 1, 1, 1, 1, 1, 1, 0, 1, 0, 0, 1, 0, 0, 1]
noncomputable def K55 (sf_ref15_Make : ((D0) × ((Int) × ((List (Int)) × ((Int) × (Unit))))) → Option ((Option N1) × ((List (Int)) × (Unit)))) (k n6 : Nat) : C := outD h c26 (K54 sf_ref15_Make k n6)
noncomputable def K56 (sf_ref15_Make : ((D0) × ((Int) × ((List (Int)) × ((Int) × (Unit))))) → Option ((Option N1) × ((List (Int)) × (Unit)))) (k n6 : Nat) : C := seqC (E sf_ref15_Make) h k c26 (K54 sf_ref15_Make k n6)
noncomputable def c27 : Code := subC b [1, 1, 1, 1, 1, 1, 1, 1, 1, 0, 1, 0, 0, 1, 0, 0, 1, 1]
noncomputable def K57 (sf_ref15_Make : ((D0) × ((Int) × ((List (Int)) × ((Int) × (Unit))))) → Option ((Option N1) × ((List (Int)) × (Unit)))) (k n6 : Nat) : C := outD h c27 (K55 sf_ref15_Make k n6)
noncomputable def K58 (sf_ref15_Make : ((D0) × ((Int) × ((List (Int)) × ((Int) × (Unit))))) → Option ((Option N1) × ((List (Int)) × (Unit)))) (k n6 : Nat) : C := seqC (E sf_ref15_Make) h k c27 (K55 sf_ref15_Make k n6)
noncomputable def c28 : Code := subC b [1, 1, 1, 1, 1, 1, 1, 1, 1, 1, 1]
noncomputable def K59 (sf_ref15_Make : ((D0) × ((Int) × ((List (Int)) × ((Int) × (Unit))))) → Option ((Option N1) × ((List (Int)) × (Unit)))) (k : Nat) : C := outD h c28 (K42 sf_ref15_Make k)
noncomputable def K60 (sf_ref15_Make : ((D0) × ((Int) × ((List (Int)) × ((Int) × (Unit))))) → Option ((Option N1) × ((List (Int)) × (Unit)))) (k : Nat) : C := seqC (E sf_ref15_Make) h k c28 (K42 sf_ref15_Make k)
abbrev T3 := Int → Int → Int → (List (Int)) → Int → D0 → (List (Int)) → R
abbrev T7 := D1 → (List (Int)) → R
abbrev T6 := Int → Int → Int → D0 → D1 → (List (Int)) → R
abbrev T5 := Int → Int → Int → D0 → (List (Int)) → R
abbrev T4 := Int → Int → Int → (List (Int)) → D0 → (List (Int)) → R
abbrev T2 := Int → Int → Int → (List (Int)) → Int → D0 → (List (Int)) → R
abbrev T1 := Int → Int → Int → D0 → (List (Int)) → R
abbrev T0 := D0 → Int → (List (Int)) → Int → R
abbrev s3 : Int → Int → Int → (List (Int)) → Int → D0 → (List (Int)) → ST cx := fun (x1 x3 x9 : Int) (x10 : List (Int)) (x11 : Int) (m4 : D0) (m1000002 : List (Int)) => ({ vars := [(1, .v (.int .i64) .ro x1), (2, .addr (.mem 1000002) []), (3, .v (.int .i64) .ro x3), (4, .addr (.mem 4) []), (9, .v (.int .i64) .ro x9), (10, .v (.slice 3 (.int .i64)) (.own .ro) x10), (11, .v (.int .i64) .ro x11)], scr := [], mems := [(4, ⟨ty0, .ro, m4⟩), (1000002, ⟨(.slice 5 (.int .u8)), .ro, m1000002⟩)] } : ST cx)
noncomputable def u3 (sf_ref15_Make : ((D0) × ((Int) × ((List (Int)) × ((Int) × (Unit))))) → Option ((Option N1) × ((List (Int)) × (Unit)))) (k n2 : Nat) : T3 := fun (x1 x3 x9 : Int) (x10 : List (Int)) (x11 : Int) (m4 : D0) (m1000002 : List (Int)) => uK (run (E sf_ref15_Make) h k c14) (s3 x1 x3 x9 x10 x11 m4 m1000002) (K29 sf_ref15_Make k n2)
noncomputable abbrev l3 (sf_ref15_Make : ((D0) × ((Int) × ((List (Int)) × ((Int) × (Unit))))) → Option ((Option N1) × ((List (Int)) × (Unit)))) (k n2 : Nat) : T3 := fun (x1 x3 x9 : Int) (x10 : List (Int)) (x11 : Int) (m4 : D0) (m1000002 : List (Int)) => cutK (run (E sf_ref15_Make) h k c14) (s3 x1 x3 x9 x10 x11 m4 m1000002) (K29 sf_ref15_Make k n2)
abbrev s7 : D1 → (List (Int)) → ST cx := fun (m82 : D1) (m1000002 : List (Int)) => ({ vars := [(2, .addr (.mem 1000002) []), (13, .addr (.mem 82) [])], scr := [], mems := [(82, ⟨ty1, (.pr .ro (.pr .ro (.pr .ro (.pr (.own .ro) .ro)))), m82⟩), (1000002, ⟨(.slice 5 (.int .u8)), .ro, m1000002⟩)] } : ST cx)
noncomputable def u7 (sf_ref15_Make : ((D0) × ((Int) × ((List (Int)) × ((Int) × (Unit))))) → Option ((Option N1) × ((List (Int)) × (Unit)))) (k : Nat) : T7 := fun (m82 : D1) (m1000002 : List (Int)) => uK (run (E sf_ref15_Make) h k c20) (s7 m82 m1000002) (K42 sf_ref15_Make k)
noncomputable abbrev l7 (sf_ref15_Make : ((D0) × ((Int) × ((List (Int)) × ((Int) × (Unit))))) → Option ((Option N1) × ((List (Int)) × (Unit)))) (k : Nat) : T7 := fun (m82 : D1) (m1000002 : List (Int)) => cutK (run (E sf_ref15_Make) h k c20) (s7 m82 m1000002) (K42 sf_ref15_Make k)
abbrev s6 : Int → Int → Int → D0 → D1 → (List (Int)) → ST cx := fun (x3 x12 x14 : Int) (m4 : D0) (m82 : D1) (m1000002 : List (Int)) => ({ vars := [(2, .addr (.mem 1000002) []), (3, .v (.int .i64) .ro x3), (4, .addr (.mem 4) []), (12, .v (.int .i64) .ro x12), (13, .addr (.mem 82) []), (14, .v (.int .i64) .ro x14)], scr := [], mems := [(4, ⟨ty0, .ro, m4⟩), (82, ⟨ty1, (.pr .ro (.pr .ro (.pr .ro (.pr (.own .ro) .ro)))), m82⟩), (1000002, ⟨(.slice 5 (.int .u8)), .ro, m1000002⟩)] } : ST cx)
noncomputable def u6 (sf_ref15_Make : ((D0) × ((Int) × ((List (Int)) × ((Int) × (Unit))))) → Option ((Option N1) × ((List (Int)) × (Unit)))) (k n6 : Nat) : T6 := fun (x3 x12 x14 : Int) (m4 : D0) (m82 : D1) (m1000002 : List (Int)) => uK (loopL (E sf_ref15_Make) h k c22 (K46 sf_ref15_Make k) n6) (s6 x3 x12 x14 m4 m82 m1000002) ()
noncomputable abbrev l6 (sf_ref15_Make : ((D0) × ((Int) × ((List (Int)) × ((Int) × (Unit))))) → Option ((Option N1) × ((List (Int)) × (Unit)))) (k n6 : Nat) : T6 := fun (x3 x12 x14 : Int) (m4 : D0) (m82 : D1) (m1000002 : List (Int)) => cutK (loopL (E sf_ref15_Make) h k c22 (K46 sf_ref15_Make k) n6) (s6 x3 x12 x14 m4 m82 m1000002) ()
abbrev s5 : Int → Int → Int → D0 → (List (Int)) → ST cx := fun (x1 x3 x12 : Int) (m4 : D0) (m1000002 : List (Int)) => ({ vars := [(1, .v (.int .i64) .ro x1), (2, .addr (.mem 1000002) []), (3, .v (.int .i64) .ro x3), (4, .addr (.mem 4) []), (12, .v (.int .i64) .ro x12)], scr := [], mems := [(4, ⟨ty0, .ro, m4⟩), (1000002, ⟨(.slice 5 (.int .u8)), .ro, m1000002⟩)] } : ST cx)
noncomputable def u5 (sf_ref15_Make : ((D0) × ((Int) × ((List (Int)) × ((Int) × (Unit))))) → Option ((Option N1) × ((List (Int)) × (Unit)))) (k : Nat) : T5 := fun (x1 x3 x12 : Int) (m4 : D0) (m1000002 : List (Int)) => uK (run (E sf_ref15_Make) h k c17) (s5 x1 x3 x12 m4 m1000002) (K36 sf_ref15_Make k)
noncomputable abbrev l5 (sf_ref15_Make : ((D0) × ((Int) × ((List (Int)) × ((Int) × (Unit))))) → Option ((Option N1) × ((List (Int)) × (Unit)))) (k : Nat) : T5 := fun (x1 x3 x12 : Int) (m4 : D0) (m1000002 : List (Int)) => cutK (run (E sf_ref15_Make) h k c17) (s5 x1 x3 x12 m4 m1000002) (K36 sf_ref15_Make k)
abbrev s4 : Int → Int → Int → (List (Int)) → D0 → (List (Int)) → ST cx := fun (x1 x3 x9 : Int) (x10 : List (Int)) (m4 : D0) (m1000002 : List (Int)) => ({ vars := [(1, .v (.int .i64) .ro x1), (2, .addr (.mem 1000002) []), (3, .v (.int .i64) .ro x3), (4, .addr (.mem 4) []), (9, .v (.int .i64) .ro x9), (10, .v (.slice 3 (.int .i64)) (.own .ro) x10)], scr := [], mems := [(4, ⟨ty0, .ro, m4⟩), (1000002, ⟨(.slice 5 (.int .u8)), .ro, m1000002⟩)] } : ST cx)
noncomputable def u4 (sf_ref15_Make : ((D0) × ((Int) × ((List (Int)) × ((Int) × (Unit))))) → Option ((Option N1) × ((List (Int)) × (Unit)))) (k : Nat) : T4 := fun (x1 x3 x9 : Int) (x10 : List (Int)) (m4 : D0) (m1000002 : List (Int)) => uK (run (E sf_ref15_Make) h k c9) (s4 x1 x3 x9 x10 m4 m1000002) (K19 sf_ref15_Make k)
noncomputable abbrev l4 (sf_ref15_Make : ((D0) × ((Int) × ((List (Int)) × ((Int) × (Unit))))) → Option ((Option N1) × ((List (Int)) × (Unit)))) (k : Nat) : T4 := fun (x1 x3 x9 : Int) (x10 : List (Int)) (m4 : D0) (m1000002 : List (Int)) => cutK (run (E sf_ref15_Make) h k c9) (s4 x1 x3 x9 x10 m4 m1000002) (K19 sf_ref15_Make k)
abbrev s2 : Int → Int → Int → (List (Int)) → Int → D0 → (List (Int)) → ST cx := fun (x1 x3 x9 : Int) (x10 : List (Int)) (x11 : Int) (m4 : D0) (m1000002 : List (Int)) => ({ vars := [(1, .v (.int .i64) .ro x1), (2, .addr (.mem 1000002) []), (3, .v (.int .i64) .ro x3), (4, .addr (.mem 4) []), (9, .v (.int .i64) .ro x9), (10, .v (.slice 3 (.int .i64)) (.own .ro) x10), (11, .v (.int .i64) .ro x11)], scr := [], mems := [(4, ⟨ty0, .ro, m4⟩), (1000002, ⟨(.slice 5 (.int .u8)), .ro, m1000002⟩)] } : ST cx)
noncomputable def u2 (sf_ref15_Make : ((D0) × ((Int) × ((List (Int)) × ((Int) × (Unit))))) → Option ((Option N1) × ((List (Int)) × (Unit)))) (k n2 : Nat) : T2 := fun (x1 x3 x9 : Int) (x10 : List (Int)) (x11 : Int) (m4 : D0) (m1000002 : List (Int)) => uK (loopL (E sf_ref15_Make) h k c11 (K23 sf_ref15_Make k) n2) (s2 x1 x3 x9 x10 x11 m4 m1000002) ()
noncomputable abbrev l2 (sf_ref15_Make : ((D0) × ((Int) × ((List (Int)) × ((Int) × (Unit))))) → Option ((Option N1) × ((List (Int)) × (Unit)))) (k n2 : Nat) : T2 := fun (x1 x3 x9 : Int) (x10 : List (Int)) (x11 : Int) (m4 : D0) (m1000002 : List (Int)) => cutK (loopL (E sf_ref15_Make) h k c11 (K23 sf_ref15_Make k) n2) (s2 x1 x3 x9 x10 x11 m4 m1000002) ()
abbrev s1 : Int → Int → Int → D0 → (List (Int)) → ST cx := fun (x1 x3 x9 : Int) (m4 : D0) (m1000002 : List (Int)) => ({ vars := [(1, .v (.int .i64) .ro x1), (2, .addr (.mem 1000002) []), (3, .v (.int .i64) .ro x3), (4, .addr (.mem 4) []), (9, .v (.int .i64) .ro x9)], scr := [], mems := [(4, ⟨ty0, .ro, m4⟩), (1000002, ⟨(.slice 5 (.int .u8)), .ro, m1000002⟩)] } : ST cx)
noncomputable def u1 (sf_ref15_Make : ((D0) × ((Int) × ((List (Int)) × ((Int) × (Unit))))) → Option ((Option N1) × ((List (Int)) × (Unit)))) (k : Nat) : T1 := fun (x1 x3 x9 : Int) (m4 : D0) (m1000002 : List (Int)) => uK (run (E sf_ref15_Make) h k c2) (s1 x1 x3 x9 m4 m1000002) (K5 sf_ref15_Make k)
noncomputable abbrev l1 (sf_ref15_Make : ((D0) × ((Int) × ((List (Int)) × ((Int) × (Unit))))) → Option ((Option N1) × ((List (Int)) × (Unit)))) (k : Nat) : T1 := fun (x1 x3 x9 : Int) (m4 : D0) (m1000002 : List (Int)) => cutK (run (E sf_ref15_Make) h k c2) (s1 x1 x3 x9 m4 m1000002) (K5 sf_ref15_Make k)
noncomputable def u0 (sf_ref15_Make : ((D0) × ((Int) × ((List (Int)) × ((Int) × (Unit))))) → Option ((Option N1) × ((List (Int)) × (Unit)))) (k : Nat) : T0 := fun (x0 : D0) (x1 : Int) (x2 : List (Int)) (x3 : Int) => runOf (S := cx) (E sf_ref15_Make) h k Try.f14 [.val ty0, .val (.int .i64), .io (.slice 5 (.int .u8)) .ro, .val (.int .i64)] (.ptr 1) .ro (x0, x1, x2, x3, ())
def t3 (sf_ref15_Make : ((D0) × ((Int) × ((List (Int)) × ((Int) × (Unit))))) → Option ((Option N1) × ((List (Int)) × (Unit)))) (f2 : T2) : T3 := fun (x1 x3 x9 : Int) (x10 : List (Int)) (x11 : Int) (m4 : D0) (m1000002 : List (Int)) => 
  (f2 x1 x3 x9 x10 (w64 (x11 + (1 : Int))) m4 m1000002)
theorem e3 (sf_ref15_Make : ((D0) × ((Int) × ((List (Int)) × ((Int) × (Unit))))) → Option ((Option N1) × ((List (Int)) × (Unit)))) (k n2 : Nat) : u3 sf_ref15_Make k n2 = t3 sf_ref15_Make (l2 sf_ref15_Make k n2) := by kernel_rfl
theorem g3 (sf_ref15_Make : ((D0) × ((Int) × ((List (Int)) × ((Int) × (Unit))))) → Option ((Option N1) × ((List (Int)) × (Unit)))) (k n2 : Nat) : l3 sf_ref15_Make k n2 = u3 sf_ref15_Make k n2 := funext fun _ => funext fun _ => funext fun _ => funext fun _ => funext fun _ => funext fun _ => funext fun _ => cut_u _ _ _
theorem d3 (sf_ref15_Make : ((D0) × ((Int) × ((List (Int)) × ((Int) × (Unit))))) → Option ((Option N1) × ((List (Int)) × (Unit)))) {x2 y2 : T2} (h2 : x2 = y2) : t3 sf_ref15_Make x2 = t3 sf_ref15_Make y2 := by subst h2; rfl
def p3 (sf_ref15_Make : ((D0) × ((Int) × ((List (Int)) × ((Int) × (Unit))))) → Option ((Option N1) × ((List (Int)) × (Unit)))) (k : Nat) (a2 : T2) : T3 := t3 sf_ref15_Make a2
theorem o3 (sf_ref15_Make : ((D0) × ((Int) × ((List (Int)) × ((Int) × (Unit))))) → Option ((Option N1) × ((List (Int)) × (Unit)))) (k n2 : Nat) (a2 : T2) (h2 : l2 sf_ref15_Make k n2 = a2) : l3 sf_ref15_Make k n2 = p3 sf_ref15_Make k a2 := (Eq.trans (b := u3 sf_ref15_Make k n2) (g3 sf_ref15_Make k n2) (Eq.trans (b := t3 sf_ref15_Make (l2 sf_ref15_Make k n2)) (e3 sf_ref15_Make k n2) (Eq.trans (b := t3 sf_ref15_Make a2) (d3 sf_ref15_Make h2) (by kernel_rfl))))
def t7 (sf_ref15_Make : ((D0) × ((Int) × ((List (Int)) × ((Int) × (Unit))))) → Option ((Option N1) × ((List (Int)) × (Unit)))) : T7 := fun (m82 : D1) (m1000002 : List (Int)) => 
  (some ((some (pk1 m82)), (m1000002, ())))
theorem e7 (sf_ref15_Make : ((D0) × ((Int) × ((List (Int)) × ((Int) × (Unit))))) → Option ((Option N1) × ((List (Int)) × (Unit)))) (k : Nat) : u7 sf_ref15_Make k = t7 sf_ref15_Make := by kernel_rfl
theorem g7 (sf_ref15_Make : ((D0) × ((Int) × ((List (Int)) × ((Int) × (Unit))))) → Option ((Option N1) × ((List (Int)) × (Unit)))) (k : Nat) : l7 sf_ref15_Make k = u7 sf_ref15_Make k := funext fun _ => funext fun _ => cut_u _ _ _
def p7 (sf_ref15_Make : ((D0) × ((Int) × ((List (Int)) × ((Int) × (Unit))))) → Option ((Option N1) × ((List (Int)) × (Unit)))) (k : Nat) : T7 := t7 sf_ref15_Make
theorem o7 (sf_ref15_Make : ((D0) × ((Int) × ((List (Int)) × ((Int) × (Unit))))) → Option ((Option N1) × ((List (Int)) × (Unit)))) (k : Nat) : l7 sf_ref15_Make k = p7 sf_ref15_Make k := (Eq.trans (b := u7 sf_ref15_Make k) (g7 sf_ref15_Make k) (Eq.trans (b := t7 sf_ref15_Make) (e7 sf_ref15_Make k) (by kernel_rfl)))
def t6 (sf_ref15_Make : ((D0) × ((Int) × ((List (Int)) × ((Int) × (Unit))))) → Option ((Option N1) × ((List (Int)) × (Unit)))) (f6 : T6) (f7 : T7) : T6 := fun (x3 x12 x14 : Int) (m4 : D0) (m82 : D1) (m1000002 : List (Int)) => 
  (withinR x12 (List.length m4.2.2.2.1) fun q6 => (iteB (decide (x14 < ((List.length (List.getD m4.2.2.2.1 q6 ((0 : Int), ([] : List (Int)))).2 : Nat) : Int))) (withinR x12 (List.length m4.2.2.2.1) fun q7 => (withinR x14 (List.length (List.getD m4.2.2.2.1 q7 ((0 : Int), ([] : List (Int)))).2) fun q8 => (bindR (sf_ref15_Make (m4, ((List.getD (List.getD m4.2.2.2.1 q7 ((0 : Int), ([] : List (Int)))).2 q8 (0 : Int)), (m1000002, ((w64 (x3 - (1 : Int))), ()))))) fun r9 => (mustR (room m82.2.2.2.1 ([r9.1] : List (Option N1))) (bindR r9.1 fun z10 => (f6 x3 x12 (w64 (x14 + (1 : Int))) m4 (m82.1, (m82.2.1, (m82.2.2.1, ((m82.2.2.2.1 ++ ([r9.1] : List (Option N1))), ((w64 (m82.2.2.2.2.1 + (out1 z10).2.2.2.2.1)), m82.2.2.2.2.2))))) r9.2.1)))))) (f7 m82 m1000002)))
theorem e6 (sf_ref15_Make : ((D0) × ((Int) × ((List (Int)) × ((Int) × (Unit))))) → Option ((Option N1) × ((List (Int)) × (Unit)))) (k n6 : Nat) : u6 sf_ref15_Make k (n6 + 1) = t6 sf_ref15_Make (l6 sf_ref15_Make k n6) (l7 sf_ref15_Make k) := by kernel_rfl
theorem g6 (sf_ref15_Make : ((D0) × ((Int) × ((List (Int)) × ((Int) × (Unit))))) → Option ((Option N1) × ((List (Int)) × (Unit)))) (k n6 : Nat) : l6 sf_ref15_Make k (n6 + 1) = u6 sf_ref15_Make k (n6 + 1) := funext fun _ => funext fun _ => funext fun _ => funext fun _ => funext fun _ => funext fun _ => cut_u _ _ _
theorem d6 (sf_ref15_Make : ((D0) × ((Int) × ((List (Int)) × ((Int) × (Unit))))) → Option ((Option N1) × ((List (Int)) × (Unit)))) {x6 y6 : T6} {x7 y7 : T7} (h6 : x6 = y6) (h7 : x7 = y7) : t6 sf_ref15_Make x6 x7 = t6 sf_ref15_Make y6 y7 := by subst h6; subst h7; rfl
def p6 (sf_ref15_Make : ((D0) × ((Int) × ((List (Int)) × ((Int) × (Unit))))) → Option ((Option N1) × ((List (Int)) × (Unit)))) (k : Nat) : Nat → T6
  | 0 => fun _ _ _ _ _ _ => none
  | n6 + 1 => t6 sf_ref15_Make (p6 sf_ref15_Make k n6) (p7 sf_ref15_Make k)
theorem o6 (sf_ref15_Make : ((D0) × ((Int) × ((List (Int)) × ((Int) × (Unit))))) → Option ((Option N1) × ((List (Int)) × (Unit)))) (k : Nat) : ∀ n6, l6 sf_ref15_Make k n6 = p6 sf_ref15_Make k n6 := by
  intro n6
  induction n6 with
  | zero => kernel_rfl
  | succ n6 ih => exact (Eq.trans (b := u6 sf_ref15_Make k (n6 + 1)) (g6 sf_ref15_Make k n6) (Eq.trans (b := t6 sf_ref15_Make (l6 sf_ref15_Make k n6) (l7 sf_ref15_Make k)) (e6 sf_ref15_Make k n6) (Eq.trans (b := t6 sf_ref15_Make (p6 sf_ref15_Make k n6) (p7 sf_ref15_Make k)) (d6 sf_ref15_Make ih (o7 sf_ref15_Make k)) (by kernel_rfl))))
def t5 (sf_ref15_Make : ((D0) × ((Int) × ((List (Int)) × ((Int) × (Unit))))) → Option ((Option N1) × ((List (Int)) × (Unit)))) (f6 : T6) : T5 := fun (x1 x3 x12 : Int) (m4 : D0) (m1000002 : List (Int)) => 
  (f6 x3 x12 (0 : Int) m4 (x1, (x12, (([] : List UInt8), (([] : List (Option N1)), ((0 : Int), (0 : Int)))))) m1000002)
theorem e5 (sf_ref15_Make : ((D0) × ((Int) × ((List (Int)) × ((Int) × (Unit))))) → Option ((Option N1) × ((List (Int)) × (Unit)))) (k : Nat) : u5 sf_ref15_Make k = t5 sf_ref15_Make (l6 sf_ref15_Make k k) := by kernel_rfl
theorem g5 (sf_ref15_Make : ((D0) × ((Int) × ((List (Int)) × ((Int) × (Unit))))) → Option ((Option N1) × ((List (Int)) × (Unit)))) (k : Nat) : l5 sf_ref15_Make k = u5 sf_ref15_Make k := funext fun _ => funext fun _ => funext fun _ => funext fun _ => funext fun _ => cut_u _ _ _
theorem d5 (sf_ref15_Make : ((D0) × ((Int) × ((List (Int)) × ((Int) × (Unit))))) → Option ((Option N1) × ((List (Int)) × (Unit)))) {x6 y6 : T6} (h6 : x6 = y6) : t5 sf_ref15_Make x6 = t5 sf_ref15_Make y6 := by subst h6; rfl
def p5 (sf_ref15_Make : ((D0) × ((Int) × ((List (Int)) × ((Int) × (Unit))))) → Option ((Option N1) × ((List (Int)) × (Unit)))) (k : Nat) : T5 := t5 sf_ref15_Make (p6 sf_ref15_Make k k)
theorem o5 (sf_ref15_Make : ((D0) × ((Int) × ((List (Int)) × ((Int) × (Unit))))) → Option ((Option N1) × ((List (Int)) × (Unit)))) (k : Nat) : l5 sf_ref15_Make k = p5 sf_ref15_Make k := (Eq.trans (b := u5 sf_ref15_Make k) (g5 sf_ref15_Make k) (Eq.trans (b := t5 sf_ref15_Make (l6 sf_ref15_Make k k)) (e5 sf_ref15_Make k) (Eq.trans (b := t5 sf_ref15_Make (p6 sf_ref15_Make k k)) (d5 sf_ref15_Make (o6 sf_ref15_Make k k)) (by kernel_rfl))))
def t4 (sf_ref15_Make : ((D0) × ((Int) × ((List (Int)) × ((Int) × (Unit))))) → Option ((Option N1) × ((List (Int)) × (Unit)))) (f5 : T5) : T4 := fun (x1 x3 x9 : Int) (x10 : List (Int)) (m4 : D0) (m1000002 : List (Int)) => 
  (mustR (!decide (((List.length x10 : Nat) : Int) = 0)) (withinR (Int.tmod x9 ((List.length x10 : Nat) : Int)) (List.length x10) fun q3 => (iteB (decide (x3 ≤ (0 : Int))) (bindR (s_ref15_shortest (m4, ())) fun r4 => (withinR x1 (List.length r4.1) fun q5 => (f5 x1 x3 (List.getD r4.1 q5 (0 : Int)) m4 m1000002))) (f5 x1 x3 (List.getD x10 q3 (0 : Int)) m4 m1000002))))
theorem e4 (sf_ref15_Make : ((D0) × ((Int) × ((List (Int)) × ((Int) × (Unit))))) → Option ((Option N1) × ((List (Int)) × (Unit)))) (k : Nat) : u4 sf_ref15_Make k = t4 sf_ref15_Make (l5 sf_ref15_Make k) := by kernel_rfl
theorem g4 (sf_ref15_Make : ((D0) × ((Int) × ((List (Int)) × ((Int) × (Unit))))) → Option ((Option N1) × ((List (Int)) × (Unit)))) (k : Nat) : l4 sf_ref15_Make k = u4 sf_ref15_Make k := funext fun _ => funext fun _ => funext fun _ => funext fun _ => funext fun _ => funext fun _ => cut_u _ _ _
theorem d4 (sf_ref15_Make : ((D0) × ((Int) × ((List (Int)) × ((Int) × (Unit))))) → Option ((Option N1) × ((List (Int)) × (Unit)))) {x5 y5 : T5} (h5 : x5 = y5) : t4 sf_ref15_Make x5 = t4 sf_ref15_Make y5 := by subst h5; rfl
def p4 (sf_ref15_Make : ((D0) × ((Int) × ((List (Int)) × ((Int) × (Unit))))) → Option ((Option N1) × ((List (Int)) × (Unit)))) (k : Nat) : T4 := t4 sf_ref15_Make (p5 sf_ref15_Make k)
theorem o4 (sf_ref15_Make : ((D0) × ((Int) × ((List (Int)) × ((Int) × (Unit))))) → Option ((Option N1) × ((List (Int)) × (Unit)))) (k : Nat) : l4 sf_ref15_Make k = p4 sf_ref15_Make k := (Eq.trans (b := u4 sf_ref15_Make k) (g4 sf_ref15_Make k) (Eq.trans (b := t4 sf_ref15_Make (l5 sf_ref15_Make k)) (e4 sf_ref15_Make k) (Eq.trans (b := t4 sf_ref15_Make (p5 sf_ref15_Make k)) (d4 sf_ref15_Make (o5 sf_ref15_Make k)) (by kernel_rfl))))
def t2 (sf_ref15_Make : ((D0) × ((Int) × ((List (Int)) × ((Int) × (Unit))))) → Option ((Option N1) × ((List (Int)) × (Unit)))) (f3 : T3) (f4 : T4) : T2 := fun (x1 x3 x9 : Int) (x10 : List (Int)) (x11 : Int) (m4 : D0) (m1000002 : List (Int)) => 
  (iteB (decide (x11 < ((List.length m4.2.2.2.1 : Nat) : Int))) (withinR x11 (List.length m4.2.2.2.1) fun q2 => (iteB (decide ((List.getD m4.2.2.2.1 q2 ((0 : Int), ([] : List (Int)))).1 = x1)) (mustR (room x10 ([x11] : List (Int))) (f3 x1 x3 x9 (x10 ++ ([x11] : List (Int))) x11 m4 m1000002)) (f3 x1 x3 x9 x10 x11 m4 m1000002))) (f4 x1 x3 x9 x10 m4 m1000002))
theorem e2 (sf_ref15_Make : ((D0) × ((Int) × ((List (Int)) × ((Int) × (Unit))))) → Option ((Option N1) × ((List (Int)) × (Unit)))) (k n2 : Nat) : u2 sf_ref15_Make k (n2 + 1) = t2 sf_ref15_Make (l3 sf_ref15_Make k n2) (l4 sf_ref15_Make k) := by kernel_rfl
theorem g2 (sf_ref15_Make : ((D0) × ((Int) × ((List (Int)) × ((Int) × (Unit))))) → Option ((Option N1) × ((List (Int)) × (Unit)))) (k n2 : Nat) : l2 sf_ref15_Make k (n2 + 1) = u2 sf_ref15_Make k (n2 + 1) := funext fun _ => funext fun _ => funext fun _ => funext fun _ => funext fun _ => funext fun _ => funext fun _ => cut_u _ _ _
theorem d2 (sf_ref15_Make : ((D0) × ((Int) × ((List (Int)) × ((Int) × (Unit))))) → Option ((Option N1) × ((List (Int)) × (Unit)))) {x3 y3 : T3} {x4 y4 : T4} (h3 : x3 = y3) (h4 : x4 = y4) : t2 sf_ref15_Make x3 x4 = t2 sf_ref15_Make y3 y4 := by subst h3; subst h4; rfl
def p2 (sf_ref15_Make : ((D0) × ((Int) × ((List (Int)) × ((Int) × (Unit))))) → Option ((Option N1) × ((List (Int)) × (Unit)))) (k : Nat) : Nat → T2
  | 0 => fun _ _ _ _ _ _ _ => none
  | n2 + 1 => t2 sf_ref15_Make (p3 sf_ref15_Make k (p2 sf_ref15_Make k n2)) (p4 sf_ref15_Make k)
theorem o2 (sf_ref15_Make : ((D0) × ((Int) × ((List (Int)) × ((Int) × (Unit))))) → Option ((Option N1) × ((List (Int)) × (Unit)))) (k : Nat) : ∀ n2, l2 sf_ref15_Make k n2 = p2 sf_ref15_Make k n2 := by
  intro n2
  induction n2 with
  | zero => kernel_rfl
  | succ n2 ih => exact (Eq.trans (b := u2 sf_ref15_Make k (n2 + 1)) (g2 sf_ref15_Make k n2) (Eq.trans (b := t2 sf_ref15_Make (l3 sf_ref15_Make k n2) (l4 sf_ref15_Make k)) (e2 sf_ref15_Make k n2) (Eq.trans (b := t2 sf_ref15_Make (p3 sf_ref15_Make k (p2 sf_ref15_Make k n2)) (p4 sf_ref15_Make k)) (d2 sf_ref15_Make (o3 sf_ref15_Make k n2 (p2 sf_ref15_Make k n2) ih) (o4 sf_ref15_Make k)) (by kernel_rfl))))
def t1 (sf_ref15_Make : ((D0) × ((Int) × ((List (Int)) × ((Int) × (Unit))))) → Option ((Option N1) × ((List (Int)) × (Unit)))) (f2 : T2) : T1 := fun (x1 x3 x9 : Int) (m4 : D0) (m1000002 : List (Int)) => 
  (iteB (decide (x1 < m4.2.1)) (some ((some (pk1 (x1, ((-1 : Int), ((bytesOf ([(w8 ((w64 ((97 : Int) + (Int.tmod x9 (26 : Int))))))] : List (Int))), (([] : List (Option N1)), ((1 : Int), (0 : Int)))))))), (m1000002, ()))) (f2 x1 x3 x9 ([] : List (Int)) (0 : Int) m4 m1000002))
theorem e1 (sf_ref15_Make : ((D0) × ((Int) × ((List (Int)) × ((Int) × (Unit))))) → Option ((Option N1) × ((List (Int)) × (Unit)))) (k : Nat) : u1 sf_ref15_Make k = t1 sf_ref15_Make (l2 sf_ref15_Make k k) := by kernel_rfl
theorem g1 (sf_ref15_Make : ((D0) × ((Int) × ((List (Int)) × ((Int) × (Unit))))) → Option ((Option N1) × ((List (Int)) × (Unit)))) (k : Nat) : l1 sf_ref15_Make k = u1 sf_ref15_Make k := funext fun _ => funext fun _ => funext fun _ => funext fun _ => funext fun _ => cut_u _ _ _
theorem d1 (sf_ref15_Make : ((D0) × ((Int) × ((List (Int)) × ((Int) × (Unit))))) → Option ((Option N1) × ((List (Int)) × (Unit)))) {x2 y2 : T2} (h2 : x2 = y2) : t1 sf_ref15_Make x2 = t1 sf_ref15_Make y2 := by subst h2; rfl
def p1 (sf_ref15_Make : ((D0) × ((Int) × ((List (Int)) × ((Int) × (Unit))))) → Option ((Option N1) × ((List (Int)) × (Unit)))) (k : Nat) : T1 := t1 sf_ref15_Make (p2 sf_ref15_Make k k)
theorem o1 (sf_ref15_Make : ((D0) × ((Int) × ((List (Int)) × ((Int) × (Unit))))) → Option ((Option N1) × ((List (Int)) × (Unit)))) (k : Nat) : l1 sf_ref15_Make k = p1 sf_ref15_Make k := (Eq.trans (b := u1 sf_ref15_Make k) (g1 sf_ref15_Make k) (Eq.trans (b := t1 sf_ref15_Make (l2 sf_ref15_Make k k)) (e1 sf_ref15_Make k) (Eq.trans (b := t1 sf_ref15_Make (p2 sf_ref15_Make k k)) (d1 sf_ref15_Make (o2 sf_ref15_Make k k)) (by kernel_rfl))))
def t0 (sf_ref15_Make : ((D0) × ((Int) × ((List (Int)) × ((Int) × (Unit))))) → Option ((Option N1) × ((List (Int)) × (Unit)))) (f1 : T1) : T0 := fun (x0 : D0) (x1 : Int) (x2 : List (Int)) (x3 : Int) => 
  (iteB (decide ((0 : Int) < ((List.length x2 : Nat) : Int))) (withinR (0 : Int) (List.length x2) fun q1 => (mustR (decide (0 ≤ (1 : Int))) (mustR (decide ((1 : Int) ≤ (((List.length x2) : Nat) : Int))) (f1 x1 x3 (w64 ((List.getD x2 q1 (0 : Int)))) x0 (List.drop (Int.toNat (1 : Int)) (List.take (List.length x2) x2)))))) (f1 x1 x3 (0 : Int) x0 x2))
theorem e0 (sf_ref15_Make : ((D0) × ((Int) × ((List (Int)) × ((Int) × (Unit))))) → Option ((Option N1) × ((List (Int)) × (Unit)))) (k : Nat) : u0 sf_ref15_Make k = t0 sf_ref15_Make (l1 sf_ref15_Make k) := by kernel_rfl
theorem d0 (sf_ref15_Make : ((D0) × ((Int) × ((List (Int)) × ((Int) × (Unit))))) → Option ((Option N1) × ((List (Int)) × (Unit)))) {x1 y1 : T1} (h1 : x1 = y1) : t0 sf_ref15_Make x1 = t0 sf_ref15_Make y1 := by subst h1; rfl
def p0 (sf_ref15_Make : ((D0) × ((Int) × ((List (Int)) × ((Int) × (Unit))))) → Option ((Option N1) × ((List (Int)) × (Unit)))) (k : Nat) : T0 := t0 sf_ref15_Make (p1 sf_ref15_Make k)
theorem o0 (sf_ref15_Make : ((D0) × ((Int) × ((List (Int)) × ((Int) × (Unit))))) → Option ((Option N1) × ((List (Int)) × (Unit)))) (k : Nat) : u0 sf_ref15_Make k = p0 sf_ref15_Make k := (Eq.trans (b := t0 sf_ref15_Make (l1 sf_ref15_Make k)) (e0 sf_ref15_Make k) (Eq.trans (b := t0 sf_ref15_Make (p1 sf_ref15_Make k)) (d0 sf_ref15_Make (o1 sf_ref15_Make k)) (by kernel_rfl)))
end ref15_Make
def r_ref15_Make : Nat → ((D0) × ((Int) × ((List (Int)) × ((Int) × (Unit))))) → Option ((Option N1) × ((List (Int)) × (Unit)))
  | 0, _ => none
  | n + 1, a => ref15_Make.p0 (r_ref15_Make n) (fuel) a.1 a.2.1 a.2.2.1 a.2.2.2.1
theorem okr_ref15_Make : ∀ n, FnOk Try.prog (Fr_ref15_Make (r_ref15_Make n)) 14
  | 0 => fn_none (fun _ => rfl)
  | n + 1 => fn_of (F := Fr_ref15_Make (r_ref15_Make (n + 1))) (hn := ref15_Make.h) (E := ref15_Make.E (r_ref15_Make n)) cxOk (tysT _ _ _) (fs_cons (okr_ref15_Make n) (fs_cons ok_ref15_shortest fs_nil)) follows Try.func14 (by kernel_rfl) (fun a r h => ⟨fuel, Eq.trans (c := some r) (congrFun (congrFun (congrFun (congrFun (ref15_Make.o0 (r_ref15_Make n) (fuel)) a.1) a.2.1) a.2.2.1) a.2.2.2.1) h⟩)
def s_ref15_Make (a : (D0) × ((Int) × ((List (Int)) × ((Int) × (Unit))))) : Option ((Option N1) × ((List (Int)) × (Unit))) := r_ref15_Make (fuel) a
noncomputable def F_ref15_Make : FSpec cx.toNm := Fr_ref15_Make s_ref15_Make
theorem ok_ref15_Make : FnOk Try.prog F_ref15_Make 14 := fun w Z own vs a r h1 h2 h3 h4 => (okr_ref15_Make (fuel)) w Z own vs a r h1 h2 h3 h4
namespace ref11_Empty
noncomputable def E : Env cx := { tys := tys, fs := fsOf [] }
abbrev R := Option ((List (Bool)) × (Unit))
abbrev C := Exit → ST cx → R
noncomputable def b : Code := bodyC Try.f49
noncomputable def h : Hint := { vs := [0, 1, 2, 4, 5, 6, 7, 8, 9, 10], nil := [(5, (.own .ro)), (14, (.own .ro))], cuts := [(3, ([1, 2, 5, 6], [2]), ([5], [])), (4, ([1, 2, 5, 6], [2]), ([1, 2, 5, 6], [2])), (6, ([1, 2, 5, 6, 7], [2]), ([1, 2, 5, 6], [2])), (7, ([1, 2, 5, 6, 7], [2]), ([1, 2, 5, 6, 7], [2])), (10, ([1, 2, 5, 6, 7, 8, 9], [2]), ([1, 2, 5, 6, 7, 8], [2])), (11, ([1, 2, 5, 6, 7, 8, 9], [2]), ([1, 2, 5, 6, 7, 8, 9], [2])), (14, ([1, 2, 5, 6, 7, 8], [2]), ([1, 2, 5, 6, 7], [2])), (16, ([5], []), ([5], []))], ret := ([4], [2]), ords := [] }
noncomputable def K0 : C := fin (S := cx) E Try.f49.results.toList (.slice 4 .bool) .ro [] []
noncomputable def c0 : Code := subC b [1]
noncomputable def K1 (k : Nat) : C := outD h c0 K0
noncomputable def K2 (k : Nat) : C := seqC E h k c0 K0
noncomputable def c1 : Code := subC b [1, 1]
noncomputable def K3 (k : Nat) : C := outD h c1 (K1 k)
noncomputable def K4 (k : Nat) : C := seqC E h k c1 (K1 k)
noncomputable def c2 : Code := subC b [1, 1, 1]
noncomputable def K5 (k : Nat) : C := outD h c2 (K3 k)
noncomputable def K6 (k : Nat) : C := seqC E h k c2 (K3 k)
noncomputable def c3 : Code := subC b [1, 1, 0, 1]
noncomputable def K7 (k : Nat) : C := outD h c3 (K6 k)
noncomputable def K8 (k : Nat) : C := seqC E h k c3 (K6 k)
noncomputable def K9 (k : Nat) : C := blockK 0 (K7 k)
noncomputable def c4 : Code := subC b [1, 1, 0, 1, 0, 0]
noncomputable def K10 (k n1 : Nat) : C := loopD E h k c4 (K9 k) n1
noncomputable def c5 : Code := subC b [1, 1, 0, 1, 0, 0, 1]
noncomputable def K11 (k n1 : Nat) : C := outD h c5 (K10 k n1)
noncomputable def K12 (k n1 : Nat) : C := seqC E h k c5 (K10 k n1)
noncomputable def c6 : Code := subC b [1, 1, 0, 1, 0, 0, 0, 1]
noncomputable def K13 (k n1 : Nat) : C := outD h c6 (K12 k n1)
noncomputable def K14 (k n1 : Nat) : C := seqC E h k c6 (K12 k n1)
noncomputable def c7 : Code := subC b [1, 1, 0, 1, 0, 0, 1, 1]
noncomputable def K15 (k n1 : Nat) : C := outD h c7 (K11 k n1)
noncomputable def K16 (k n1 : Nat) : C := seqC E h k c7 (K11 k n1)
noncomputable def K17 (k n1 : Nat) : C := blockK 1 (K16 k n1)
noncomputable def c8 : Code := subC b [1, 1, 0, 1, 0, 0, 1, 0, 0, 1]
noncomputable def K18 (k n1 : Nat) : C := outD h c8 (K17 k n1)
noncomputable def K19 (k n1 : Nat) : C := seqC E h k c8 (K17 k n1)
noncomputable def K20 (k n1 : Nat) : C := blockK 2 (K18 k n1)
noncomputable def c9 : Code := subC b [1, 1, 0, 1, 0, 0, 1, 0, 0, 1, 0, 0]
noncomputable def K21 (k n1 n2 : Nat) : C := loopD E h k c9 (K20 k n1) n2
noncomputable def c10 : Code := subC b [1, 1, 0, 1, 0, 0, 1, 0, 0, 1, 0, 0, 1]
noncomputable def K22 (k n1 n2 : Nat) : C := outD h c10 (K21 k n1 n2)
noncomputable def K23 (k n1 n2 : Nat) : C := seqC E h k c10 (K21 k n1 n2)
noncomputable def c11 : Code := subC b [1, 1, 0, 1, 0, 0, 1, 0, 0, 1, 0, 0, 0, 1]
noncomputable def K24 (k n1 n2 : Nat) : C := outD h c11 (K23 k n1 n2)
noncomputable def K25 (k n1 n2 : Nat) : C := seqC E h k c11 (K23 k n1 n2)
noncomputable def c12 : Code := subC b [1, 1, 0, 1, 0, 0, 1, 0, 0, 1, 0, 0, 1, 1]
noncomputable def K26 (k n1 n2 : Nat) : C := outD h c12 (K22 k n1 n2)
noncomputable def K27 (k n1 n2 : Nat) : C := seqC E h k c12 (K22 k n1 n2)
noncomputable def K28 (k n1 n2 : Nat) : C := blockK 3 (K27 k n1 n2)
noncomputable def c13 : Code := subC b [1, 1, 0, 1, 0, 0, 1, 0, 0, 1, 0, 0, 1, 0, 0, 1]
noncomputable def K29 (k n1 n2 : Nat) : C := outD h c13 (K28 k n1 n2)
noncomputable def K30 (k n1 n2 : Nat) : C := seqC E h k c13 (K28 k n1 n2)
noncomputable def c14 : Code := subC b [1, 1, 0, 1, 0, 0, 1, 0, 0, 1, 0, 0, 1, 0, 0, 1, 1]
noncomputable def K31 (k n1 n2 : Nat) : C := outD h c14 (K29 k n1 n2)
noncomputable def K32 (k n1 n2 : Nat) : C := seqC E h k c14 (K29 k n1 n2)
noncomputable def c15 : Code := subC b [1, 1, 0, 1, 0, 0, 1, 0, 0, 1, 0, 0, 1, 0, 0, 1, 0, 1]
noncomputable def K33 (k n1 n2 : Nat) : C := outD h c15 (K32 k n1 n2)
noncomputable def K34 (k n1 n2 : Nat) : C := seqC E h k c15 (K32 k n1 n2)
noncomputable def K35 (k n1 n2 : Nat) : C := blockK 4 (K33 k n1 n2)
noncomputable def c16 : Code := subC b [1, 1, 0, 1, 0, 0, 1, 0, 0, 1, 0, 0, 1, 0, 0, 1, 0, 1, 0, 0]
noncomputable def K36 (k n1 n2 n4 : Nat) : C := loopD E h k c16 (K35 k n1 n2) n4
noncomputable def c17 : Code := subC b [1, 1, 0, 1, 0, 0, 1, 0, 0, 1, 0, 0, 1, 0, 0, 1, 0, 1, 0, 0, 1]
noncomputable def K37 (k n1 n2 n4 : Nat) : C := outD h c17 (K36 k n1 n2 n4)
noncomputable def K38 (k n1 n2 n4 : Nat) : C := seqC E h k c17 (K36 k n1 n2 n4)
noncomputable def c18 : Code := subC b [1, 1, 0, 1, 0, 0, 1, 0, 0, 1, 0, 0, 1, 0, 0, 1, 0, 1, 0, 0, 0, 1]
noncomputable def K39 (k n1 n2 n4 : Nat) : C := outD h c18 (K38 k n1 n2 n4)
noncomputable def K40 (k n1 n2 n4 : Nat) : C := seqC E h k c18 (K38 k n1 n2 n4)
noncomputable def c19 : Code := subC b [1, 1, 0, 1, 0, 0, 1, 0, 0, 1, 0, 0, 1, 0, 0, 1, 0, 1, 0, 0, 1, 1]
noncomputable def K41 (k n1 n2 n4 : Nat) : C := outD h c19 (K37 k n1 n2 n4)
noncomputable def K42 (k n1 n2 n4 : Nat) : C := seqC E h k c19 (K37 k n1 n2 n4)
noncomputable def K43 (k n1 n2 n4 : Nat) : C := blockK 5 (K42 k n1 n2 n4)
noncomputable def c20 : Code := subC b [1, 1, 0, 1, 0, 0, 1, 0, 0, 1, 0, 0, 1, 0, 0, 1, 0, 1, 0, 0, 1, 0, 0, 1]
noncomputable def K44 (k n1 n2 n4 : Nat) : C := outD h c20 (K43 k n1 n2 n4)
noncomputable def K45 (k n1 n2 n4 : Nat) : C := seqC E h k c20 (K43 k n1 n2 n4)
noncomputable def c21 : Code := subC b [1, 1, 0, 1, 0, 0, 1, 0, 0, 1, 0, 0, 1, 0, 0, 1, 1, 1]
noncomputable def K46 (k n1 n2 : Nat) : C := outD h c21 (K31 k n1 n2)
noncomputable def K47 (k n1 n2 : Nat) : C := seqC E h k c21 (K31 k n1 n2)
noncomputable def c22 : Code := subC b [1, 1, 1, 1]
noncomputable def K48 (k : Nat) : C := outD h c22 (K5 k)
noncomputable def K49 (k : Nat) : C := seqC E h k c22 (K5 k)
abbrev T6 := Bool → (List (Bool)) → Int → Int → Bool → Int → D0 → R
abbrev T8 := Bool → (List (Bool)) → Int → Int → D0 → R
abbrev T7 := Bool → (List (Bool)) → Int → Int → Bool → D0 → R
abbrev T4 := Bool → (List (Bool)) → Int → Int → Bool → Int → D0 → R
abbrev T5 := Bool → (List (Bool)) → Int → D0 → R
abbrev T2 := Bool → (List (Bool)) → Int → Int → D0 → R
abbrev T3 := (List (Bool)) → R
abbrev T1 := Bool → (List (Bool)) → Int → D0 → R
abbrev T0 := D0 → Bool → R
abbrev s6 : Bool → (List (Bool)) → Int → Int → Bool → Int → D0 → ST cx := fun (x1 : Bool) (x5 : List (Bool)) (x6 x7 : Int) (x8 : Bool) (x9 : Int) (m2 : D0) => ({ vars := [(1, .v .bool .ro x1), (2, .addr (.mem 2) []), (5, .v (.slice 4 .bool) (.own .ro) x5), (6, .v (.int .i64) .ro x6), (7, .v (.int .i64) .ro x7), (8, .v .bool .ro x8), (9, .v (.int .i64) .ro x9)], scr := [], mems := [(2, ⟨ty0, .ro, m2⟩)] } : ST cx)
noncomputable def u6 (k n1 n2 n4 : Nat) : T6 := fun (x1 : Bool) (x5 : List (Bool)) (x6 x7 : Int) (x8 : Bool) (x9 : Int) (m2 : D0) => uK (run E h k c19) (s6 x1 x5 x6 x7 x8 x9 m2) (K41 k n1 n2 n4)
noncomputable abbrev l6 (k n1 n2 n4 : Nat) : T6 := fun (x1 : Bool) (x5 : List (Bool)) (x6 x7 : Int) (x8 : Bool) (x9 : Int) (m2 : D0) => cutK (run E h k c19) (s6 x1 x5 x6 x7 x8 x9 m2) (K41 k n1 n2 n4)
abbrev s8 : Bool → (List (Bool)) → Int → Int → D0 → ST cx := fun (x1 : Bool) (x5 : List (Bool)) (x6 x7 : Int) (m2 : D0) => ({ vars := [(1, .v .bool .ro x1), (2, .addr (.mem 2) []), (5, .v (.slice 4 .bool) (.own .ro) x5), (6, .v (.int .i64) .ro x6), (7, .v (.int .i64) .ro x7)], scr := [], mems := [(2, ⟨ty0, .ro, m2⟩)] } : ST cx)
noncomputable def u8 (k n1 n2 : Nat) : T8 := fun (x1 : Bool) (x5 : List (Bool)) (x6 x7 : Int) (m2 : D0) => uK (run E h k c12) (s8 x1 x5 x6 x7 m2) (K26 k n1 n2)
noncomputable abbrev l8 (k n1 n2 : Nat) : T8 := fun (x1 : Bool) (x5 : List (Bool)) (x6 x7 : Int) (m2 : D0) => cutK (run E h k c12) (s8 x1 x5 x6 x7 m2) (K26 k n1 n2)
abbrev s7 : Bool → (List (Bool)) → Int → Int → Bool → D0 → ST cx := fun (x1 : Bool) (x5 : List (Bool)) (x6 x7 : Int) (x8 : Bool) (m2 : D0) => ({ vars := [(1, .v .bool .ro x1), (2, .addr (.mem 2) []), (5, .v (.slice 4 .bool) (.own .ro) x5), (6, .v (.int .i64) .ro x6), (7, .v (.int .i64) .ro x7), (8, .v .bool .ro x8)], scr := [], mems := [(2, ⟨ty0, .ro, m2⟩)] } : ST cx)
noncomputable def u7 (k n1 n2 : Nat) : T7 := fun (x1 : Bool) (x5 : List (Bool)) (x6 x7 : Int) (x8 : Bool) (m2 : D0) => uK (run E h k c14) (s7 x1 x5 x6 x7 x8 m2) (K31 k n1 n2)
noncomputable abbrev l7 (k n1 n2 : Nat) : T7 := fun (x1 : Bool) (x5 : List (Bool)) (x6 x7 : Int) (x8 : Bool) (m2 : D0) => cutK (run E h k c14) (s7 x1 x5 x6 x7 x8 m2) (K31 k n1 n2)
abbrev s4 : Bool → (List (Bool)) → Int → Int → Bool → Int → D0 → ST cx := fun (x1 : Bool) (x5 : List (Bool)) (x6 x7 : Int) (x8 : Bool) (x9 : Int) (m2 : D0) => ({ vars := [(1, .v .bool .ro x1), (2, .addr (.mem 2) []), (5, .v (.slice 4 .bool) (.own .ro) x5), (6, .v (.int .i64) .ro x6), (7, .v (.int .i64) .ro x7), (8, .v .bool .ro x8), (9, .v (.int .i64) .ro x9)], scr := [], mems := [(2, ⟨ty0, .ro, m2⟩)] } : ST cx)
noncomputable def u4 (k n1 n2 n4 : Nat) : T4 := fun (x1 : Bool) (x5 : List (Bool)) (x6 x7 : Int) (x8 : Bool) (x9 : Int) (m2 : D0) => uK (loopL E h k c16 (K35 k n1 n2) n4) (s4 x1 x5 x6 x7 x8 x9 m2) ()
noncomputable abbrev l4 (k n1 n2 n4 : Nat) : T4 := fun (x1 : Bool) (x5 : List (Bool)) (x6 x7 : Int) (x8 : Bool) (x9 : Int) (m2 : D0) => cutK (loopL E h k c16 (K35 k n1 n2) n4) (s4 x1 x5 x6 x7 x8 x9 m2) ()
abbrev s5 : Bool → (List (Bool)) → Int → D0 → ST cx := fun (x1 : Bool) (x5 : List (Bool)) (x6 : Int) (m2 : D0) => ({ vars := [(1, .v .bool .ro x1), (2, .addr (.mem 2) []), (5, .v (.slice 4 .bool) (.own .ro) x5), (6, .v (.int .i64) .ro x6)], scr := [], mems := [(2, ⟨ty0, .ro, m2⟩)] } : ST cx)
noncomputable def u5 (k n1 : Nat) : T5 := fun (x1 : Bool) (x5 : List (Bool)) (x6 : Int) (m2 : D0) => uK (run E h k c7) (s5 x1 x5 x6 m2) (K15 k n1)
noncomputable abbrev l5 (k n1 : Nat) : T5 := fun (x1 : Bool) (x5 : List (Bool)) (x6 : Int) (m2 : D0) => cutK (run E h k c7) (s5 x1 x5 x6 m2) (K15 k n1)
abbrev s2 : Bool → (List (Bool)) → Int → Int → D0 → ST cx := fun (x1 : Bool) (x5 : List (Bool)) (x6 x7 : Int) (m2 : D0) => ({ vars := [(1, .v .bool .ro x1), (2, .addr (.mem 2) []), (5, .v (.slice 4 .bool) (.own .ro) x5), (6, .v (.int .i64) .ro x6), (7, .v (.int .i64) .ro x7)], scr := [], mems := [(2, ⟨ty0, .ro, m2⟩)] } : ST cx)
noncomputable def u2 (k n1 n2 : Nat) : T2 := fun (x1 : Bool) (x5 : List (Bool)) (x6 x7 : Int) (m2 : D0) => uK (loopL E h k c9 (K20 k n1) n2) (s2 x1 x5 x6 x7 m2) ()
noncomputable abbrev l2 (k n1 n2 : Nat) : T2 := fun (x1 : Bool) (x5 : List (Bool)) (x6 x7 : Int) (m2 : D0) => cutK (loopL E h k c9 (K20 k n1) n2) (s2 x1 x5 x6 x7 m2) ()
abbrev s3 : (List (Bool)) → ST cx := fun (x5 : List (Bool)) => ({ vars := [(5, .v (.slice 4 .bool) (.own .ro) x5)], scr := [], mems := [] } : ST cx)
noncomputable def u3 (k : Nat) : T3 := fun (x5 : List (Bool)) => uK (run E h k c2) (s3 x5) (K5 k)
noncomputable abbrev l3 (k : Nat) : T3 := fun (x5 : List (Bool)) => cutK (run E h k c2) (s3 x5) (K5 k)
abbrev s1 : Bool → (List (Bool)) → Int → D0 → ST cx := fun (x1 : Bool) (x5 : List (Bool)) (x6 : Int) (m2 : D0) => ({ vars := [(1, .v .bool .ro x1), (2, .addr (.mem 2) []), (5, .v (.slice 4 .bool) (.own .ro) x5), (6, .v (.int .i64) .ro x6)], scr := [], mems := [(2, ⟨ty0, .ro, m2⟩)] } : ST cx)
noncomputable def u1 (k n1 : Nat) : T1 := fun (x1 : Bool) (x5 : List (Bool)) (x6 : Int) (m2 : D0) => uK (loopL E h k c4 (K9 k) n1) (s1 x1 x5 x6 m2) ()
noncomputable abbrev l1 (k n1 : Nat) : T1 := fun (x1 : Bool) (x5 : List (Bool)) (x6 : Int) (m2 : D0) => cutK (loopL E h k c4 (K9 k) n1) (s1 x1 x5 x6 m2) ()
noncomputable def u0 (k : Nat) : T0 := fun (x0 : D0) (x1 : Bool) => runOf (S := cx) E h k Try.f49 [.val ty0, .val .bool] (.slice 4 .bool) .ro (x0, x1, ())
def t6 (f4 : T4) : T6 := fun (x1 : Bool) (x5 : List (Bool)) (x6 x7 : Int) (x8 : Bool) (x9 : Int) (m2 : D0) => 
  (f4 x1 x5 x6 x7 x8 (w64 (x9 + (1 : Int))) m2)
theorem e6 (k n1 n2 n4 : Nat) : u6 k n1 n2 n4 = t6 (l4 k n1 n2 n4) := by kernel_rfl
theorem g6 (k n1 n2 n4 : Nat) : l6 k n1 n2 n4 = u6 k n1 n2 n4 := funext fun _ => funext fun _ => funext fun _ => funext fun _ => funext fun _ => funext fun _ => funext fun _ => cut_u _ _ _
theorem d6 {x4 y4 : T4} (h4 : x4 = y4) : t6 x4 = t6 y4 := by subst h4; rfl
def p6 (k : Nat) (a1 : T1) (a2 : T2) (a4 : T4) : T6 := t6 a4
theorem o6 (k n1 n2 n4 : Nat) (a1 : T1) (a2 : T2) (a4 : T4) (h1 : l1 k n1 = a1) (h2 : l2 k n1 n2 = a2) (h4 : l4 k n1 n2 n4 = a4) : l6 k n1 n2 n4 = p6 k a1 a2 a4 := (Eq.trans (b := u6 k n1 n2 n4) (g6 k n1 n2 n4) (Eq.trans (b := t6 (l4 k n1 n2 n4)) (e6 k n1 n2 n4) (Eq.trans (b := t6 a4) (d6 h4) (by kernel_rfl))))
def t8 (f2 : T2) : T8 := fun (x1 : Bool) (x5 : List (Bool)) (x6 x7 : Int) (m2 : D0) => 
  (f2 x1 x5 x6 (w64 (x7 + (1 : Int))) m2)
theorem e8 (k n1 n2 : Nat) : u8 k n1 n2 = t8 (l2 k n1 n2) := by kernel_rfl
theorem g8 (k n1 n2 : Nat) : l8 k n1 n2 = u8 k n1 n2 := funext fun _ => funext fun _ => funext fun _ => funext fun _ => funext fun _ => cut_u _ _ _
theorem d8 {x2 y2 : T2} (h2 : x2 = y2) : t8 x2 = t8 y2 := by subst h2; rfl
def p8 (k : Nat) (a1 : T1) (a2 : T2) : T8 := t8 a2
theorem o8 (k n1 n2 : Nat) (a1 : T1) (a2 : T2) (h1 : l1 k n1 = a1) (h2 : l2 k n1 n2 = a2) : l8 k n1 n2 = p8 k a1 a2 := (Eq.trans (b := u8 k n1 n2) (g8 k n1 n2) (Eq.trans (b := t8 (l2 k n1 n2)) (e8 k n1 n2) (Eq.trans (b := t8 a2) (d8 h2) (by kernel_rfl))))
def t7 (f8 : T8) : T7 := fun (x1 : Bool) (x5 : List (Bool)) (x6 x7 : Int) (x8 : Bool) (m2 : D0) => 
  (iteB x8 (withinR x7 (List.length m2.2.2.2.1) fun q5 => (withinR ((List.getD m2.2.2.2.1 q5 ((0 : Int), ([] : List (Int)))).1) (List.length x5) fun q6 => (f8 x1 (List.set x5 q6 true) x6 x7 m2))) (f8 x1 x5 x6 x7 m2))
theorem e7 (k n1 n2 : Nat) : u7 k n1 n2 = t7 (l8 k n1 n2) := by kernel_rfl
theorem g7 (k n1 n2 : Nat) : l7 k n1 n2 = u7 k n1 n2 := funext fun _ => funext fun _ => funext fun _ => funext fun _ => funext fun _ => funext fun _ => cut_u _ _ _
theorem d7 {x8 y8 : T8} (h8 : x8 = y8) : t7 x8 = t7 y8 := by subst h8; rfl
def p7 (k : Nat) (a1 : T1) (a2 : T2) : T7 := t7 (p8 k a1 a2)
theorem o7 (k n1 n2 : Nat) (a1 : T1) (a2 : T2) (h1 : l1 k n1 = a1) (h2 : l2 k n1 n2 = a2) : l7 k n1 n2 = p7 k a1 a2 := (Eq.trans (b := u7 k n1 n2) (g7 k n1 n2) (Eq.trans (b := t7 (l8 k n1 n2)) (e7 k n1 n2) (Eq.trans (b := t7 (p8 k a1 a2)) (d7 (o8 k n1 n2 a1 a2 h1 h2)) (by kernel_rfl))))
def t4 (f6 : T6) (f7 : T7) : T4 := fun (x1 : Bool) (x5 : List (Bool)) (x6 x7 : Int) (x8 : Bool) (x9 : Int) (m2 : D0) => 
  (withinR x7 (List.length m2.2.2.2.1) fun q1 => (iteB (decide (x9 < ((List.length (List.getD m2.2.2.2.1 q1 ((0 : Int), ([] : List (Int)))).2 : Nat) : Int))) (withinR x7 (List.length m2.2.2.2.1) fun q2 => (withinR x9 (List.length (List.getD m2.2.2.2.1 q2 ((0 : Int), ([] : List (Int)))).2) fun q3 => (iteB x8 (withinR (List.getD (List.getD m2.2.2.2.1 q2 ((0 : Int), ([] : List (Int)))).2 q3 (0 : Int)) (List.length x5) fun q4 => (iteB (List.getD x5 q4 false) (f6 x1 x5 x6 x7 true x9 m2) (iteB x1 (f6 x1 x5 x6 x7 (decide ((List.getD (List.getD m2.2.2.2.1 q2 ((0 : Int), ([] : List (Int)))).2 q3 (0 : Int)) < m2.2.1)) x9 m2) (f6 x1 x5 x6 x7 false x9 m2)))) (f6 x1 x5 x6 x7 false x9 m2)))) (f7 x1 x5 x6 x7 x8 m2)))
theorem e4 (k n1 n2 n4 : Nat) : u4 k n1 n2 (n4 + 1) = t4 (l6 k n1 n2 n4) (l7 k n1 n2) := by kernel_rfl
theorem g4 (k n1 n2 n4 : Nat) : l4 k n1 n2 (n4 + 1) = u4 k n1 n2 (n4 + 1) := funext fun _ => funext fun _ => funext fun _ => funext fun _ => funext fun _ => funext fun _ => funext fun _ => cut_u _ _ _
theorem d4 {x6 y6 : T6} {x7 y7 : T7} (h6 : x6 = y6) (h7 : x7 = y7) : t4 x6 x7 = t4 y6 y7 := by subst h6; subst h7; rfl
def p4 (k : Nat) (a1 : T1) (a2 : T2) : Nat → T4
  | 0 => fun _ _ _ _ _ _ _ => none
  | n4 + 1 => t4 (p6 k a1 a2 (p4 k a1 a2 n4)) (p7 k a1 a2)
theorem o4 (k n1 n2 : Nat) (a1 : T1) (a2 : T2) (h1 : l1 k n1 = a1) (h2 : l2 k n1 n2 = a2) : ∀ n4, l4 k n1 n2 n4 = p4 k a1 a2 n4 := by
  intro n4
  induction n4 with
  | zero => kernel_rfl
  | succ n4 ih => exact (Eq.trans (b := u4 k n1 n2 (n4 + 1)) (g4 k n1 n2 n4) (Eq.trans (b := t4 (l6 k n1 n2 n4) (l7 k n1 n2)) (e4 k n1 n2 n4) (Eq.trans (b := t4 (p6 k a1 a2 (p4 k a1 a2 n4)) (p7 k a1 a2)) (d4 (o6 k n1 n2 n4 a1 a2 (p4 k a1 a2 n4) h1 h2 ih) (o7 k n1 n2 a1 a2 h1 h2)) (by kernel_rfl))))
def t5 (f1 : T1) : T5 := fun (x1 : Bool) (x5 : List (Bool)) (x6 : Int) (m2 : D0) => 
  (f1 x1 x5 (w64 (x6 + (1 : Int))) m2)
theorem e5 (k n1 : Nat) : u5 k n1 = t5 (l1 k n1) := by kernel_rfl
theorem g5 (k n1 : Nat) : l5 k n1 = u5 k n1 := funext fun _ => funext fun _ => funext fun _ => funext fun _ => cut_u _ _ _
theorem d5 {x1 y1 : T1} (h1 : x1 = y1) : t5 x1 = t5 y1 := by subst h1; rfl
def p5 (k : Nat) (a1 : T1) : T5 := t5 a1
theorem o5 (k n1 : Nat) (a1 : T1) (h1 : l1 k n1 = a1) : l5 k n1 = p5 k a1 := (Eq.trans (b := u5 k n1) (g5 k n1) (Eq.trans (b := t5 (l1 k n1)) (e5 k n1) (Eq.trans (b := t5 a1) (d5 h1) (by kernel_rfl))))
def t2 (f4 : T4) (f5 : T5) : T2 := fun (x1 : Bool) (x5 : List (Bool)) (x6 x7 : Int) (m2 : D0) => 
  (iteB (decide (x7 < ((List.length m2.2.2.2.1 : Nat) : Int))) (f4 x1 x5 x6 x7 true (0 : Int) m2) (f5 x1 x5 x6 m2))
theorem e2 (k n1 n2 : Nat) : u2 k n1 (n2 + 1) = t2 (l4 k n1 n2 k) (l5 k n1) := by kernel_rfl
theorem g2 (k n1 n2 : Nat) : l2 k n1 (n2 + 1) = u2 k n1 (n2 + 1) := funext fun _ => funext fun _ => funext fun _ => funext fun _ => funext fun _ => cut_u _ _ _
theorem d2 {x4 y4 : T4} {x5 y5 : T5} (h4 : x4 = y4) (h5 : x5 = y5) : t2 x4 x5 = t2 y4 y5 := by subst h4; subst h5; rfl
def p2 (k : Nat) (a1 : T1) : Nat → T2
  | 0 => fun _ _ _ _ _ => none
  | n2 + 1 => t2 (p4 k a1 (p2 k a1 n2) k) (p5 k a1)
theorem o2 (k n1 : Nat) (a1 : T1) (h1 : l1 k n1 = a1) : ∀ n2, l2 k n1 n2 = p2 k a1 n2 := by
  intro n2
  induction n2 with
  | zero => kernel_rfl
  | succ n2 ih => exact (Eq.trans (b := u2 k n1 (n2 + 1)) (g2 k n1 n2) (Eq.trans (b := t2 (l4 k n1 n2 k) (l5 k n1)) (e2 k n1 n2) (Eq.trans (b := t2 (p4 k a1 (p2 k a1 n2) k) (p5 k a1)) (d2 (o4 k n1 n2 a1 (p2 k a1 n2) h1 ih k) (o5 k n1 a1 h1)) (by kernel_rfl))))
def t3 : T3 := fun (x5 : List (Bool)) => 
  (some (x5, ()))
theorem e3 (k : Nat) : u3 k = t3 := by kernel_rfl
theorem g3 (k : Nat) : l3 k = u3 k := funext fun _ => cut_u _ _ _
def p3 (k : Nat) : T3 := t3
theorem o3 (k : Nat) : l3 k = p3 k := (Eq.trans (b := u3 k) (g3 k) (Eq.trans (b := t3) (e3 k) (by kernel_rfl)))
def t1 (f2 : T2) (f3 : T3) : T1 := fun (x1 : Bool) (x5 : List (Bool)) (x6 : Int) (m2 : D0) => 
  (iteB (decide (x6 ≤ ((List.length m2.1 : Nat) : Int))) (f2 x1 x5 x6 (0 : Int) m2) (f3 x5))
theorem e1 (k n1 : Nat) : u1 k (n1 + 1) = t1 (l2 k n1 k) (l3 k) := by kernel_rfl
theorem g1 (k n1 : Nat) : l1 k (n1 + 1) = u1 k (n1 + 1) := funext fun _ => funext fun _ => funext fun _ => funext fun _ => cut_u _ _ _
theorem d1 {x2 y2 : T2} {x3 y3 : T3} (h2 : x2 = y2) (h3 : x3 = y3) : t1 x2 x3 = t1 y2 y3 := by subst h2; subst h3; rfl
def p1 (k : Nat) : Nat → T1
  | 0 => fun _ _ _ _ => none
  | n1 + 1 => t1 (p2 k (p1 k n1) k) (p3 k)
theorem o1 (k : Nat) : ∀ n1, l1 k n1 = p1 k n1 := by
  intro n1
  induction n1 with
  | zero => kernel_rfl
  | succ n1 ih => exact (Eq.trans (b := u1 k (n1 + 1)) (g1 k n1) (Eq.trans (b := t1 (l2 k n1 k) (l3 k)) (e1 k n1) (Eq.trans (b := t1 (p2 k (p1 k n1) k) (p3 k)) (d1 (o2 k n1 (p1 k n1) ih k) (o3 k)) (by kernel_rfl))))
def t0 (f1 : T1) : T0 := fun (x0 : D0) (x1 : Bool) => 
  (mustR (decide (((List.length x0.1 : Nat) : Int) = ((List.length x0.1 : Nat) : Int) ∧ (0 : Int) ≤ ((List.length x0.1 : Nat) : Int) ∧ ((List.length x0.1 : Nat) : Int) ≤ (16777216 : Int))) (f1 x1 (List.replicate (Int.toNat ((List.length x0.1 : Nat) : Int)) false) (0 : Int) x0))
theorem e0 (k : Nat) : u0 k = t0 (l1 k k) := by kernel_rfl
theorem d0 {x1 y1 : T1} (h1 : x1 = y1) : t0 x1 = t0 y1 := by subst h1; rfl
def p0 (k : Nat) : T0 := t0 (p1 k k)
theorem o0 (k : Nat) : u0 k = p0 k := (Eq.trans (b := t0 (l1 k k)) (e0 k) (Eq.trans (b := t0 (p1 k k)) (d0 (o1 k k)) (by kernel_rfl)))
end ref11_Empty
def s_ref11_Empty (a : (D0) × ((Bool) × (Unit))) : Option ((List (Bool)) × (Unit)) := ref11_Empty.p0 (fuel) a.1 a.2.1
noncomputable def F_ref11_Empty : FSpec cx.toNm := { ps := [.val ty0, .val .bool], nres := 1, rt := (.slice 4 .bool), rm := .ro, f := s_ref11_Empty }
theorem w_ref11_Empty (a : (D0) × ((Bool) × (Unit))) : runOf (S := cx) ref11_Empty.E ref11_Empty.h (fuel) Try.f49 F_ref11_Empty.ps F_ref11_Empty.rt F_ref11_Empty.rm a = s_ref11_Empty a := Eq.trans (b := ref11_Empty.u0 (fuel) a.1 a.2.1) (by kernel_rfl) (Eq.trans (b := ref11_Empty.p0 (fuel) a.1 a.2.1) (congrFun (congrFun (ref11_Empty.o0 (fuel)) a.1) a.2.1) (by kernel_rfl))
theorem ok_ref11_Empty : FnOk Try.prog F_ref11_Empty 49 := fn_of (F := F_ref11_Empty) (hn := ref11_Empty.h) (E := ref11_Empty.E) cxOk (tysT _ _ _) fs_nil follows Try.func49 (by kernel_rfl) (fun a r h => ⟨fuel, Eq.trans (w_ref11_Empty a) h⟩)
namespace ref11_square
noncomputable def E : Env cx := { tys := tys, fs := fsOf [] }
abbrev R := Option ((List (List (Bool))) × (Unit))
abbrev C := Exit → ST cx → R
noncomputable def b : Code := bodyC Try.f50
noncomputable def h : Hint := { vs := [0, 2, 3, 4], nil := [(3, (.own (.own .ro))), (13, (.own (.own .ro))), (12, (.own .ro)), (2, (.own (.own .ro)))], cuts := [(3, ([0, 3, 4], []), ([3], [])), (6, ([3], []), ([3], []))], ret := ([2], []), ords := [] }
noncomputable def K0 : C := fin (S := cx) E Try.f50.results.toList (.slice 76 (.slice 4 .bool)) (.own (.own .ro)) [] []
noncomputable def c0 : Code := subC b [1]
noncomputable def K1 (k : Nat) : C := outD h c0 K0
noncomputable def K2 (k : Nat) : C := seqC E h k c0 K0
noncomputable def c1 : Code := subC b [1, 1]
noncomputable def K3 (k : Nat) : C := outD h c1 (K1 k)
noncomputable def K4 (k : Nat) : C := seqC E h k c1 (K1 k)
noncomputable def c2 : Code := subC b [1, 1, 1]
noncomputable def K5 (k : Nat) : C := outD h c2 (K3 k)
noncomputable def K6 (k : Nat) : C := seqC E h k c2 (K3 k)
noncomputable def c3 : Code := subC b [1, 1, 0, 1]
noncomputable def K7 (k : Nat) : C := outD h c3 (K6 k)
noncomputable def K8 (k : Nat) : C := seqC E h k c3 (K6 k)
noncomputable def K9 (k : Nat) : C := blockK 0 (K7 k)
noncomputable def c4 : Code := subC b [1, 1, 0, 1, 0, 0]
noncomputable def K10 (k n1 : Nat) : C := loopD E h k c4 (K9 k) n1
noncomputable def c5 : Code := subC b [1, 1, 0, 1, 0, 0, 1]
noncomputable def K11 (k n1 : Nat) : C := outD h c5 (K10 k n1)
noncomputable def K12 (k n1 : Nat) : C := seqC E h k c5 (K10 k n1)
noncomputable def c6 : Code := subC b [1, 1, 0, 1, 0, 0, 0, 1]
noncomputable def K13 (k n1 : Nat) : C := outD h c6 (K12 k n1)
noncomputable def K14 (k n1 : Nat) : C := seqC E h k c6 (K12 k n1)
noncomputable def c7 : Code := subC b [1, 1, 0, 1, 0, 0, 1, 1]
noncomputable def K15 (k n1 : Nat) : C := outD h c7 (K11 k n1)
noncomputable def K16 (k n1 : Nat) : C := seqC E h k c7 (K11 k n1)
noncomputable def K17 (k n1 : Nat) : C := blockK 1 (K16 k n1)
noncomputable def c8 : Code := subC b [1, 1, 1, 1]
noncomputable def K18 (k : Nat) : C := outD h c8 (K5 k)
noncomputable def K19 (k : Nat) : C := seqC E h k c8 (K5 k)
abbrev T2 := (List (List (Bool))) → R
abbrev T1 := Int → (List (List (Bool))) → Int → R
abbrev T0 := Int → R
abbrev s2 : (List (List (Bool))) → ST cx := fun (x3 : List (List (Bool))) => ({ vars := [(3, .v (.slice 76 (.slice 4 .bool)) (.own (.own .ro)) x3)], scr := [], mems := [] } : ST cx)
noncomputable def u2 (k : Nat) : T2 := fun (x3 : List (List (Bool))) => uK (run E h k c2) (s2 x3) (K5 k)
noncomputable abbrev l2 (k : Nat) : T2 := fun (x3 : List (List (Bool))) => cutK (run E h k c2) (s2 x3) (K5 k)
abbrev s1 : Int → (List (List (Bool))) → Int → ST cx := fun (x0 : Int) (x3 : List (List (Bool))) (x4 : Int) => ({ vars := [(0, .v (.int .i64) .ro x0), (3, .v (.slice 76 (.slice 4 .bool)) (.own (.own .ro)) x3), (4, .v (.int .i64) .ro x4)], scr := [], mems := [] } : ST cx)
noncomputable def u1 (k n1 : Nat) : T1 := fun (x0 : Int) (x3 : List (List (Bool))) (x4 : Int) => uK (loopL E h k c4 (K9 k) n1) (s1 x0 x3 x4) ()
noncomputable abbrev l1 (k n1 : Nat) : T1 := fun (x0 : Int) (x3 : List (List (Bool))) (x4 : Int) => cutK (loopL E h k c4 (K9 k) n1) (s1 x0 x3 x4) ()
noncomputable def u0 (k : Nat) : T0 := fun (x0 : Int) => runOf (S := cx) E h k Try.f50 [.val (.int .i64)] (.slice 76 (.slice 4 .bool)) (.own (.own .ro)) (x0, ())
def t2 : T2 := fun (x3 : List (List (Bool))) => 
  (some (x3, ()))
theorem e2 (k : Nat) : u2 k = t2 := by kernel_rfl
theorem g2 (k : Nat) : l2 k = u2 k := funext fun _ => cut_u _ _ _
def p2 (k : Nat) : T2 := t2
theorem o2 (k : Nat) : l2 k = p2 k := (Eq.trans (b := u2 k) (g2 k) (Eq.trans (b := t2) (e2 k) (by kernel_rfl)))
def t1 (f1 : T1) (f2 : T2) : T1 := fun (x0 : Int) (x3 : List (List (Bool))) (x4 : Int) => 
  (iteB (decide (x4 < x0)) (mustR (decide (x0 = x0 ∧ (0 : Int) ≤ x0 ∧ x0 ≤ (16777216 : Int))) (mustR (room x3 ([(List.replicate (Int.toNat x0) false)] : List (List (Bool)))) (f1 x0 (x3 ++ ([(List.replicate (Int.toNat x0) false)] : List (List (Bool)))) (w64 (x4 + (1 : Int)))))) (f2 x3))
theorem e1 (k n1 : Nat) : u1 k (n1 + 1) = t1 (l1 k n1) (l2 k) := by kernel_rfl
theorem g1 (k n1 : Nat) : l1 k (n1 + 1) = u1 k (n1 + 1) := funext fun _ => funext fun _ => funext fun _ => cut_u _ _ _
theorem d1 {x1 y1 : T1} {x2 y2 : T2} (h1 : x1 = y1) (h2 : x2 = y2) : t1 x1 x2 = t1 y1 y2 := by subst h1; subst h2; rfl
def p1 (k : Nat) : Nat → T1
  | 0 => fun _ _ _ => none
  | n1 + 1 => t1 (p1 k n1) (p2 k)
theorem o1 (k : Nat) : ∀ n1, l1 k n1 = p1 k n1 := by
  intro n1
  induction n1 with
  | zero => kernel_rfl
  | succ n1 ih => exact (Eq.trans (b := u1 k (n1 + 1)) (g1 k n1) (Eq.trans (b := t1 (l1 k n1) (l2 k)) (e1 k n1) (Eq.trans (b := t1 (p1 k n1) (p2 k)) (d1 ih (o2 k)) (by kernel_rfl))))
def t0 (f1 : T1) : T0 := fun (x0 : Int) => 
  (f1 x0 ([] : List (List (Bool))) (0 : Int))
theorem e0 (k : Nat) : u0 k = t0 (l1 k k) := by kernel_rfl
theorem d0 {x1 y1 : T1} (h1 : x1 = y1) : t0 x1 = t0 y1 := by subst h1; rfl
def p0 (k : Nat) : T0 := t0 (p1 k k)
theorem o0 (k : Nat) : u0 k = p0 k := (Eq.trans (b := t0 (l1 k k)) (e0 k) (Eq.trans (b := t0 (p1 k k)) (d0 (o1 k k)) (by kernel_rfl)))
end ref11_square
def s_ref11_square (a : (Int) × (Unit)) : Option ((List (List (Bool))) × (Unit)) := ref11_square.p0 (fuel) a.1
noncomputable def F_ref11_square : FSpec cx.toNm := { ps := [.val (.int .i64)], nres := 1, rt := (.slice 76 (.slice 4 .bool)), rm := (.own (.own .ro)), f := s_ref11_square }
theorem w_ref11_square (a : (Int) × (Unit)) : runOf (S := cx) ref11_square.E ref11_square.h (fuel) Try.f50 F_ref11_square.ps F_ref11_square.rt F_ref11_square.rm a = s_ref11_square a := Eq.trans (b := ref11_square.u0 (fuel) a.1) (by kernel_rfl) (Eq.trans (b := ref11_square.p0 (fuel) a.1) (congrFun (ref11_square.o0 (fuel)) a.1) (by kernel_rfl))
theorem ok_ref11_square : FnOk Try.prog F_ref11_square 50 := fn_of (F := F_ref11_square) (hn := ref11_square.h) (E := ref11_square.E) cxOk (tysT _ _ _) fs_nil follows Try.func50 (by kernel_rfl) (fun a r h => ⟨fuel, Eq.trans (w_ref11_square a) h⟩)
end
end Go.Proofs.Ytdnkjfmneppkoaa.Vm.Tr
