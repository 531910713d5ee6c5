/- What the functions compute, as plain functions; that they do; what is alive. -/
import Derived.Test.YtdnkjfmneppkoaaLib
import Derived.KernelRfl
namespace Go.Proofs.Ytdnkjfmneppkoaa.Vm.Tr
open Go Go.Proofs.Ytdnkjfmneppkoaa.Vm Go.Proofs
set_option linter.unusedVariables false
set_option maxRecDepth 100000
noncomputable section
namespace symbols_isTerm
noncomputable def E : Env cx := { tys := tys, fs := fsOf [] }
noncomputable def h : Hint := { vs := [0, 1, 2, 4], nil := [], cuts := [], ret := ([4], [2]), ords := [] }
end symbols_isTerm
def s_symbols_isTerm (a : (D0) × ((Int) × (Unit))) : Option ((Bool) × (Unit)) := runOf (S := cx) symbols_isTerm.E symbols_isTerm.h fuel Try.f55 [.val ty0, .val (.int .i64)] .bool .ro a
noncomputable def F_symbols_isTerm : FSpec cx.toNm := { ps := [.val ty0, .val (.int .i64)], nres := 1, rt := .bool, rm := .ro, f := s_symbols_isTerm }
theorem ok_symbols_isTerm : FnOk Try.prog F_symbols_isTerm 55 := fn_of (F := F_symbols_isTerm) (hn := symbols_isTerm.h) (E := symbols_isTerm.E) cxOk (tysT _ _ _) fs_nil follows Try.func55 (by kernel_rfl) (fun a r h => ⟨fuel, Eq.trans (b := F_symbols_isTerm.f a) (by kernel_rfl) h⟩)
namespace symbols_Right_3
noncomputable def E : Env cx := { tys := tys, fs := fsOf [(55, F_symbols_isTerm)] }
noncomputable def h : Hint := { vs := [0, 1, 3], nil := [], cuts := [], ret := ([3], []), ords := [] }
end symbols_Right_3
def s_symbols_Right_3 (a : (Int) × ((D0) × (Unit))) : Option ((Bool) × (Unit)) := runOf (S := cx) symbols_Right_3.E symbols_Right_3.h fuel Try.f61 [.val (.int .i64), .val (.box ty0)] .bool .ro a
noncomputable def F_symbols_Right_3 : FSpec cx.toNm := { ps := [.val (.int .i64), .val (.box ty0)], nres := 1, rt := .bool, rm := .ro, f := s_symbols_Right_3 }
theorem ok_symbols_Right_3 : FnOk Try.prog F_symbols_Right_3 61 := fn_of (F := F_symbols_Right_3) (hn := symbols_Right_3.h) (E := symbols_Right_3.E) cxOk (tysT _ _ _) (fs_cons ok_symbols_isTerm fs_nil) follows Try.func61 (by kernel_rfl) (fun a r h => ⟨fuel, Eq.trans (b := F_symbols_Right_3.f a) (by kernel_rfl) h⟩)
namespace slices_IndexFuncxx
noncomputable def E : Env cx := { tys := tys, fs := fsOf [(61, F_symbols_Right_3)] }
noncomputable def h : Hint := { vs := [0, 1, 4, 5, 7, 8], nil := [], cuts := [(2, ([0, 1, 7, 8], []), ([], [])), (7, ([], []), ([], []))], ret := ([4], []), ords := [] }
end slices_IndexFuncxx
def s_slices_IndexFuncxx (a : (List (Int)) × (((D0) × (Unit)) × (Unit))) : Option ((Int) × (Unit)) := runOf (S := cx) slices_IndexFuncxx.E slices_IndexFuncxx.h fuel Try.f76 [.val (.slice 3 (.int .i64)), .val (.clo 61 (.pair (.box ty0) .unit))] (.int .i64) .ro a
noncomputable def F_slices_IndexFuncxx : FSpec cx.toNm := { ps := [.val (.slice 3 (.int .i64)), .val (.clo 61 (.pair (.box ty0) .unit))], nres := 1, rt := (.int .i64), rm := .ro, f := s_slices_IndexFuncxx }
theorem ok_slices_IndexFuncxx : FnOk Try.prog F_slices_IndexFuncxx 76 := fn_of (F := F_slices_IndexFuncxx) (hn := slices_IndexFuncxx.h) (E := slices_IndexFuncxx.E) cxOk (tysT _ _ _) (fs_cons ok_symbols_Right_3 fs_nil) follows Try.func76 (by kernel_rfl) (fun a r h => ⟨fuel, Eq.trans (b := F_slices_IndexFuncxx.f a) (by kernel_rfl) h⟩)
namespace slices_ContainsFuncxx
noncomputable def E : Env cx := { tys := tys, fs := fsOf [(76, F_slices_IndexFuncxx)] }
noncomputable def h : Hint := { vs := [0, 1, 4], nil := [], cuts := [], ret := ([4], []), ords := [] }
end slices_ContainsFuncxx
def s_slices_ContainsFuncxx (a : (List (Int)) × (((D0) × (Unit)) × (Unit))) : Option ((Bool) × (Unit)) := runOf (S := cx) slices_ContainsFuncxx.E slices_ContainsFuncxx.h fuel Try.f60 [.val (.slice 3 (.int .i64)), .val (.clo 61 (.pair (.box ty0) .unit))] .bool .ro a
noncomputable def F_slices_ContainsFuncxx : FSpec cx.toNm := { ps := [.val (.slice 3 (.int .i64)), .val (.clo 61 (.pair (.box ty0) .unit))], nres := 1, rt := .bool, rm := .ro, f := s_slices_ContainsFuncxx }
theorem ok_slices_ContainsFuncxx : FnOk Try.prog F_slices_ContainsFuncxx 60 := fn_of (F := F_slices_ContainsFuncxx) (hn := slices_ContainsFuncxx.h) (E := slices_ContainsFuncxx.E) cxOk (tysT _ _ _) (fs_cons ok_slices_IndexFuncxx fs_nil) follows Try.func60 (by kernel_rfl) (fun a r h => ⟨fuel, Eq.trans (b := F_slices_ContainsFuncxx.f a) (by kernel_rfl) h⟩)
namespace symbols_come_1
noncomputable def E : Env cx := { tys := tys, fs := fsOf [] }
noncomputable def h : Hint := { vs := [0, 1, 2, 3, 4, 6, 8, 9, 10], nil := [(1, (.own .ro))], cuts := [(3, ([1, 2, 4, 8, 9, 10], [2, 1000001]), ([1, 4], [1000001])), (6, ([1, 2, 4, 6, 8, 9, 10], [2, 1000001]), ([1, 2, 4, 8, 9, 10], [2, 1000001])), (7, ([1, 2, 4, 8, 9, 10], [2, 1000001]), ([1, 2, 4, 8, 9, 10], [2, 1000001])), (8, ([1, 4], [1000001]), ([1, 4], [1000001]))], ret := ([1, 3], [2, 1000001]), ords := [] }
end symbols_come_1
def s_symbols_come_1 (a : ((Int) × (List (Int))) × ((List (Bool)) × (Unit))) : Option ((Bool) × ((List (Bool)) × (Unit))) := runOf (S := cx) symbols_come_1.E symbols_come_1.h fuel Try.f79 [.val (.agg (.pair (.int .i64) (.slice 3 (.int .i64)))), .io (.slice 4 .bool) (.own .ro)] .bool .ro a
noncomputable def F_symbols_come_1 : FSpec cx.toNm := { ps := [.val (.agg (.pair (.int .i64) (.slice 3 (.int .i64)))), .io (.slice 4 .bool) (.own .ro)], nres := 1, rt := .bool, rm := .ro, f := s_symbols_come_1 }
theorem ok_symbols_come_1 : FnOk Try.prog F_symbols_come_1 79 := fn_of (F := F_symbols_come_1) (hn := symbols_come_1.h) (E := symbols_come_1.E) cxOk (tysT _ _ _) fs_nil follows Try.func79 (by kernel_rfl) (fun a r h => ⟨fuel, Eq.trans (b := F_symbols_come_1.f a) (by kernel_rfl) h⟩)
namespace symbols_till
noncomputable def E : Env cx := { tys := tys, fs := fsOf [(79, F_symbols_come_1)], wr := true }
noncomputable def h : Hint := { vs := [0, 1, 2, 4, 6, 9, 10, 11], nil := [], cuts := [(2, ([1, 2, 4], [2, 1000002]), ([], [1000002])), (5, ([1, 2, 4, 9, 10, 11], [2, 1000002]), ([1, 2, 4], [2, 1000002])), (8, ([1, 2, 4, 9, 10, 11], [2, 1000002]), ([1, 2, 4, 9, 10, 11], [2, 1000002]))], ret := ([], [2, 6, 1000002]), ords := [] }
end symbols_till
def s_symbols_till (a : (D0) × ((Unit) × ((List (Bool)) × (Unit)))) : Option ((Unit) × ((List (Bool)) × (Unit))) := runOf (S := cx) symbols_till.E symbols_till.h fuel Try.f78 [.val ty0, .fn 79 1, .io (.slice 4 .bool) (.own .ro)] .unit .ro a
noncomputable def F_symbols_till : FSpec cx.toNm := { ps := [.val ty0, .fn 79 1, .io (.slice 4 .bool) (.own .ro)], nres := 0, rt := .unit, rm := .ro, f := s_symbols_till }
theorem ok_symbols_till : FnOk Try.prog F_symbols_till 78 := fn_of (F := F_symbols_till) (hn := symbols_till.h) (E := symbols_till.E) cxOk (tysT _ _ _) (fs_cons ok_symbols_come_1 fs_nil) follows Try.func78 (by kernel_rfl) (fun a r h => ⟨fuel, Eq.trans (b := F_symbols_till.f a) (by kernel_rfl) h⟩)
namespace symbols_come
noncomputable def E : Env cx := { tys := tys, fs := fsOf [(78, F_symbols_till)], wr := true }
noncomputable def h : Hint := { vs := [0, 1, 2, 3], nil := [(3, (.own .ro))], cuts := [], ret := ([2], [1, 3]), ords := [], fns := [(13, [true])] }
end symbols_come
def s_symbols_come (a : (D0) × (Unit)) : Option ((List (Bool)) × (Unit)) := runOf (S := cx) symbols_come.E symbols_come.h fuel Try.f63 [.val ty0] (.slice 4 .bool) .ro a
noncomputable def F_symbols_come : FSpec cx.toNm := { ps := [.val ty0], nres := 1, rt := (.slice 4 .bool), rm := .ro, f := s_symbols_come }
theorem ok_symbols_come : FnOk Try.prog F_symbols_come 63 := fn_of (F := F_symbols_come) (hn := symbols_come.h) (E := symbols_come.E) cxOk (tysT _ _ _) (fs_cons ok_symbols_till fs_nil) follows Try.func63 (by kernel_rfl) (fun a r h => ⟨fuel, Eq.trans (b := F_symbols_come.f a) (by kernel_rfl) h⟩)
namespace symbols_rulesOf
noncomputable def E : Env cx := { tys := tys, fs := fsOf [] }
noncomputable def h : Hint := { vs := [0, 1, 2, 4, 5, 6, 7, 9, 10, 11], nil := [(5, (.own .ro))], cuts := [(3, ([1, 5, 9, 10, 11], []), ([5], [])), (7, ([1, 5, 9, 10, 11], []), ([1, 5, 9, 10, 11], [])), (8, ([5], []), ([5], []))], ret := ([4], [2, 7]), ords := [] }
end symbols_rulesOf
def s_symbols_rulesOf (a : (D0) × ((Int) × (Unit))) : Option ((List (Int)) × (Unit)) := runOf (S := cx) symbols_rulesOf.E symbols_rulesOf.h fuel Try.f93 [.val ty0, .val (.int .i64)] (.slice 3 (.int .i64)) .ro a
noncomputable def F_symbols_rulesOf : FSpec cx.toNm := { ps := [.val ty0, .val (.int .i64)], nres := 1, rt := (.slice 3 (.int .i64)), rm := .ro, f := s_symbols_rulesOf }
theorem ok_symbols_rulesOf : FnOk Try.prog F_symbols_rulesOf 93 := fn_of (F := F_symbols_rulesOf) (hn := symbols_rulesOf.h) (E := symbols_rulesOf.E) cxOk (tysT _ _ _) fs_nil follows Try.func93 (by kernel_rfl) (fun a r h => ⟨fuel, Eq.trans (b := F_symbols_rulesOf.f a) (by kernel_rfl) h⟩)
namespace slices_Equal
noncomputable def E : Env cx := { tys := tys, fs := fsOf [] }
noncomputable def h : Hint := { vs := [0, 1, 4, 5, 12, 13], nil := [], cuts := [(4, ([0, 1, 12, 13], []), ([], [])), (9, ([], []), ([], []))], ret := ([4], []), ords := [] }
end slices_Equal
def s_slices_Equal (a : (List (Int)) × ((List (Int)) × (Unit))) : Option ((Bool) × (Unit)) := runOf (S := cx) slices_Equal.E slices_Equal.h fuel Try.f85 [.val (.slice 3 (.int .i64)), .val (.slice 3 (.int .i64))] .bool .ro a
noncomputable def F_slices_Equal : FSpec cx.toNm := { ps := [.val (.slice 3 (.int .i64)), .val (.slice 3 (.int .i64))], nres := 1, rt := .bool, rm := .ro, f := s_slices_Equal }
theorem ok_slices_Equal : FnOk Try.prog F_slices_Equal 85 := fn_of (F := F_slices_Equal) (hn := slices_Equal.h) (E := slices_Equal.E) cxOk (tysT _ _ _) fs_nil follows Try.func85 (by kernel_rfl) (fun a r h => ⟨fuel, Eq.trans (b := F_slices_Equal.f a) (by kernel_rfl) h⟩)
namespace symbols_ruleWith_1
noncomputable def E : Env cx := { tys := tys, fs := fsOf [(85, F_slices_Equal)] }
noncomputable def h : Hint := { vs := [0, 1, 2, 3, 4], nil := [], cuts := [], ret := ([4], [3]), ords := [] }
end symbols_ruleWith_1
def s_symbols_ruleWith_1 (a : ((Int) × (List (Int))) × ((Int) × ((List (Int)) × (Unit)))) : Option ((Bool) × (Unit)) := runOf (S := cx) symbols_ruleWith_1.E symbols_ruleWith_1.h fuel Try.f96 [.val (.agg (.pair (.int .i64) (.slice 3 (.int .i64)))), .val (.box (.int .i64)), .val (.box (.slice 3 (.int .i64)))] .bool .ro a
noncomputable def F_symbols_ruleWith_1 : FSpec cx.toNm := { ps := [.val (.agg (.pair (.int .i64) (.slice 3 (.int .i64)))), .val (.box (.int .i64)), .val (.box (.slice 3 (.int .i64)))], nres := 1, rt := .bool, rm := .ro, f := s_symbols_ruleWith_1 }
theorem ok_symbols_ruleWith_1 : FnOk Try.prog F_symbols_ruleWith_1 96 := fn_of (F := F_symbols_ruleWith_1) (hn := symbols_ruleWith_1.h) (E := symbols_ruleWith_1.E) cxOk (tysT _ _ _) (fs_cons ok_slices_Equal fs_nil) follows Try.func96 (by kernel_rfl) (fun a r h => ⟨fuel, Eq.trans (b := F_symbols_ruleWith_1.f a) (by kernel_rfl) h⟩)
namespace slices_IndexFuncx_i1
noncomputable def E : Env cx := { tys := tys, fs := fsOf [(96, F_symbols_ruleWith_1)] }
noncomputable def h : Hint := { vs := [0, 1, 4, 5, 7, 8], nil := [], cuts := [(2, ([0, 1, 7, 8], []), ([], [])), (7, ([], []), ([], []))], ret := ([4], []), ords := [] }
end slices_IndexFuncx_i1
def s_slices_IndexFuncx_i1 (a : (List ((Int) × (List (Int)))) × (((Int) × ((List (Int)) × (Unit))) × (Unit))) : Option ((Int) × (Unit)) := runOf (S := cx) slices_IndexFuncx_i1.E slices_IndexFuncx_i1.h fuel Try.f74 [.val (.slice 41 (.agg (.pair (.int .i64) (.slice 3 (.int .i64))))), .val (.clo 96 (.pair (.box (.int .i64)) (.pair (.box (.slice 3 (.int .i64))) .unit)))] (.int .i64) .ro a
noncomputable def F_slices_IndexFuncx_i1 : FSpec cx.toNm := { ps := [.val (.slice 41 (.agg (.pair (.int .i64) (.slice 3 (.int .i64))))), .val (.clo 96 (.pair (.box (.int .i64)) (.pair (.box (.slice 3 (.int .i64))) .unit)))], nres := 1, rt := (.int .i64), rm := .ro, f := s_slices_IndexFuncx_i1 }
theorem ok_slices_IndexFuncx_i1 : FnOk Try.prog F_slices_IndexFuncx_i1 74 := fn_of (F := F_slices_IndexFuncx_i1) (hn := slices_IndexFuncx_i1.h) (E := slices_IndexFuncx_i1.E) cxOk (tysT _ _ _) (fs_cons ok_symbols_ruleWith_1 fs_nil) follows Try.func74 (by kernel_rfl) (fun a r h => ⟨fuel, Eq.trans (b := F_slices_IndexFuncx_i1.f a) (by kernel_rfl) h⟩)
namespace symbols_ruleWith
noncomputable def E : Env cx := { tys := tys, fs := fsOf [(74, F_slices_IndexFuncx_i1)] }
noncomputable def h : Hint := { vs := [0, 1, 2, 3, 4, 5, 6], nil := [], cuts := [], ret := ([6], [3, 4, 5]), ords := [] }
end symbols_ruleWith
def s_symbols_ruleWith (a : (D0) × ((Int) × ((List (Int)) × (Unit)))) : Option ((Int) × (Unit)) := runOf (S := cx) symbols_ruleWith.E symbols_ruleWith.h fuel Try.f92 [.val ty0, .val (.int .i64), .val (.slice 3 (.int .i64))] (.int .i64) .ro a
noncomputable def F_symbols_ruleWith : FSpec cx.toNm := { ps := [.val ty0, .val (.int .i64), .val (.slice 3 (.int .i64))], nres := 1, rt := (.int .i64), rm := .ro, f := s_symbols_ruleWith }
theorem ok_symbols_ruleWith : FnOk Try.prog F_symbols_ruleWith 92 := fn_of (F := F_symbols_ruleWith) (hn := symbols_ruleWith.h) (E := symbols_ruleWith.E) cxOk (tysT _ _ _) (fs_cons ok_slices_IndexFuncx_i1 fs_nil) follows Try.func92 (by kernel_rfl) (fun a r h => ⟨fuel, Eq.trans (b := F_symbols_ruleWith.f a) (by kernel_rfl) h⟩)
namespace symbols_isOther
noncomputable def E : Env cx := { tys := tys, fs := fsOf [] }
noncomputable def h : Hint := { vs := [0, 1, 2, 4], nil := [], cuts := [], ret := ([4], [2]), ords := [] }
end symbols_isOther
def s_symbols_isOther (a : (D0) × ((Int) × (Unit))) : Option ((Bool) × (Unit)) := runOf (S := cx) symbols_isOther.E symbols_isOther.h fuel Try.f56 [.val ty0, .val (.int .i64)] .bool .ro a
noncomputable def F_symbols_isOther : FSpec cx.toNm := { ps := [.val ty0, .val (.int .i64)], nres := 1, rt := .bool, rm := .ro, f := s_symbols_isOther }
theorem ok_symbols_isOther : FnOk Try.prog F_symbols_isOther 56 := fn_of (F := F_symbols_isOther) (hn := symbols_isOther.h) (E := symbols_isOther.E) cxOk (tysT _ _ _) fs_nil follows Try.func56 (by kernel_rfl) (fun a r h => ⟨fuel, Eq.trans (b := F_symbols_isOther.f a) (by kernel_rfl) h⟩)
namespace symbols_note
noncomputable def E : Env cx := { tys := tys, fs := fsOf [(55, F_symbols_isTerm), (56, F_symbols_isOther), (92, F_symbols_ruleWith), (93, F_symbols_rulesOf)] }
noncomputable def h : Hint := { vs := [0, 1, 2, 3, 6, 7, 8, 9, 10, 11, 12, 13, 14, 15, 16], nil := [], cuts := [(7, ([2, 3, 8, 9, 10], [3]), ([2, 3, 8, 9, 10], [3])), (9, ([2, 8, 11, 12, 13], []), ([2, 8, 11, 12, 13], []))], ret := ([6, 7], [3]), ords := [(7, [0, 1, 2, 3, 4, 6, 7, 8, 9, 10, 5, 11, 12, 13]), (9, [0, 1, 2, 3, 4, 5, 6, 7, 8, 10, 9, 11, 12])], trees := [(6, (.step 0 (.step 1 (.step 2 (.step 3 (.step 4 (.step 5 (.step 7 (.step 8 (.step 9 (.step 10 (.step 11 (.step 12 (.step 13 (.step 14 (.step 15 (.step 17 (.both (.step 6 (.step 18 (.step 16 (.step 19 .done)))) (.step 16 (.step 6 (.step 18 (.step 19 .done)))))))))))))))))))))), (12, (.step 0 (.step 1 (.step 2 (.step 3 (.step 4 (.step 5 (.step 6 (.step 7 (.step 8 (.step 9 (.step 10 (.step 11 (.step 12 (.step 14 (.step 15 (.step 16 (.step 17 (.step 18 (.step 19 (.step 20 (.both (.step 13 (.step 21 (.step 22 (.step 23 (.step 24 (.step 25 (.step 26 (.step 27 (.step 28 (.step 29 (.step 30 (.step 31 (.step 32 (.step 33 (.step 34 (.step 35 (.step 36 (.step 37 (.step 38 .done))))))))))))))))))) (.step 21 (.step 22 (.step 23 (.step 24 (.step 25 (.step 26 (.step 27 (.both (.step 13 (.step 28 (.step 29 (.step 30 (.step 31 (.step 32 (.step 33 (.step 34 (.step 35 (.step 36 (.step 37 (.step 38 .done)))))))))))) (.step 28 (.step 29 (.step 30 (.step 31 (.step 32 (.step 33 (.step 34 (.both (.step 13 (.step 35 (.step 36 (.step 37 (.step 38 .done))))) (.step 35 (.step 36 (.step 13 (.step 37 (.step 38 .done))))))))))))))))))))))))))))))))))))))))))), (14, (.step 0 (.step 1 (.step 2 (.step 3 (.step 4 (.step 5 (.step 6 (.step 8 (.step 9 (.step 10 (.step 11 (.step 12 (.step 13 (.step 14 (.both (.step 7 (.step 15 (.step 16 (.step 17 (.step 18 .done))))) (.step 15 (.step 16 (.step 7 (.step 17 (.step 18 .done)))))))))))))))))))))] }
end symbols_note
def s_symbols_note (a : (D0) × ((Int) × ((List (Int)) × (Unit)))) : Option (((List (Int)) × (Bool)) × (Unit)) := runOf (S := cx) symbols_note.E symbols_note.h fuel Try.f84 [.val ty0, .val (.int .u8), .val (.slice 3 (.int .i64))] (.pair (.slice 3 (.int .i64)) .bool) .ro a
noncomputable def F_symbols_note : FSpec cx.toNm := { ps := [.val ty0, .val (.int .u8), .val (.slice 3 (.int .i64))], nres := 2, rt := (.pair (.slice 3 (.int .i64)) .bool), rm := .ro, f := s_symbols_note }
theorem ok_symbols_note : FnOk Try.prog F_symbols_note 84 := fn_of (F := F_symbols_note) (hn := symbols_note.h) (E := symbols_note.E) cxOk (tysT _ _ _) (fs_cons ok_symbols_isTerm (fs_cons ok_symbols_isOther (fs_cons ok_symbols_ruleWith (fs_cons ok_symbols_rulesOf fs_nil)))) follows Try.func84 (by kernel_rfl) (fun a r h => ⟨fuel, Eq.trans (b := F_symbols_note.f a) (by kernel_rfl) h⟩)
namespace symbols_noted_1_1
noncomputable def E : Env cx := { tys := tys, fs := fsOf [] }
noncomputable def h : Hint := { vs := [0, 1, 3], nil := [], cuts := [], ret := ([3], []), ords := [] }
end symbols_noted_1_1
def s_symbols_noted_1_1 (a : (Int) × ((D0) × (Unit))) : Option ((Bool) × (Unit)) := runOf (S := cx) symbols_noted_1_1.E symbols_noted_1_1.h fuel Try.f83 [.val (.int .i64), .val (.box ty0)] .bool .ro a
noncomputable def F_symbols_noted_1_1 : FSpec cx.toNm := { ps := [.val (.int .i64), .val (.box ty0)], nres := 1, rt := .bool, rm := .ro, f := s_symbols_noted_1_1 }
theorem ok_symbols_noted_1_1 : FnOk Try.prog F_symbols_noted_1_1 83 := fn_of (F := F_symbols_noted_1_1) (hn := symbols_noted_1_1.h) (E := symbols_noted_1_1.E) cxOk (tysT _ _ _) fs_nil follows Try.func83 (by kernel_rfl) (fun a r h => ⟨fuel, Eq.trans (b := F_symbols_noted_1_1.f a) (by kernel_rfl) h⟩)
namespace slices_IndexFuncxx_i2
noncomputable def E : Env cx := { tys := tys, fs := fsOf [(83, F_symbols_noted_1_1)] }
noncomputable def h : Hint := { vs := [0, 1, 4, 5, 7, 8], nil := [], cuts := [(2, ([0, 1, 7, 8], []), ([], [])), (7, ([], []), ([], []))], ret := ([4], []), ords := [] }
end slices_IndexFuncxx_i2
def s_slices_IndexFuncxx_i2 (a : (List (Int)) × (((D0) × (Unit)) × (Unit))) : Option ((Int) × (Unit)) := runOf (S := cx) slices_IndexFuncxx_i2.E slices_IndexFuncxx_i2.h fuel Try.f76 [.val (.slice 3 (.int .i64)), .val (.clo 83 (.pair (.box ty0) .unit))] (.int .i64) .ro a
noncomputable def F_slices_IndexFuncxx_i2 : FSpec cx.toNm := { ps := [.val (.slice 3 (.int .i64)), .val (.clo 83 (.pair (.box ty0) .unit))], nres := 1, rt := (.int .i64), rm := .ro, f := s_slices_IndexFuncxx_i2 }
theorem ok_slices_IndexFuncxx_i2 : FnOk Try.prog F_slices_IndexFuncxx_i2 76 := fn_of (F := F_slices_IndexFuncxx_i2) (hn := slices_IndexFuncxx_i2.h) (E := slices_IndexFuncxx_i2.E) cxOk (tysT _ _ _) (fs_cons ok_symbols_noted_1_1 fs_nil) follows Try.func76 (by kernel_rfl) (fun a r h => ⟨fuel, Eq.trans (b := F_slices_IndexFuncxx_i2.f a) (by kernel_rfl) h⟩)
namespace slices_ContainsFuncxx_i2
noncomputable def E : Env cx := { tys := tys, fs := fsOf [(76, F_slices_IndexFuncxx_i2)] }
noncomputable def h : Hint := { vs := [0, 1, 4], nil := [], cuts := [], ret := ([4], []), ords := [] }
end slices_ContainsFuncxx_i2
def s_slices_ContainsFuncxx_i2 (a : (List (Int)) × (((D0) × (Unit)) × (Unit))) : Option ((Bool) × (Unit)) := runOf (S := cx) slices_ContainsFuncxx_i2.E slices_ContainsFuncxx_i2.h fuel Try.f60 [.val (.slice 3 (.int .i64)), .val (.clo 83 (.pair (.box ty0) .unit))] .bool .ro a
noncomputable def F_slices_ContainsFuncxx_i2 : FSpec cx.toNm := { ps := [.val (.slice 3 (.int .i64)), .val (.clo 83 (.pair (.box ty0) .unit))], nres := 1, rt := .bool, rm := .ro, f := s_slices_ContainsFuncxx_i2 }
theorem ok_slices_ContainsFuncxx_i2 : FnOk Try.prog F_slices_ContainsFuncxx_i2 60 := fn_of (F := F_slices_ContainsFuncxx_i2) (hn := slices_ContainsFuncxx_i2.h) (E := slices_ContainsFuncxx_i2.E) cxOk (tysT _ _ _) (fs_cons ok_slices_IndexFuncxx_i2 fs_nil) follows Try.func60 (by kernel_rfl) (fun a r h => ⟨fuel, Eq.trans (b := F_slices_ContainsFuncxx_i2.f a) (by kernel_rfl) h⟩)
namespace slices_Clonex
noncomputable def E : Env cx := { tys := tys, fs := fsOf [] }
noncomputable def h : Hint := { vs := [0, 2], nil := [(5, (.own .ro))], cuts := [], ret := ([2], []), ords := [] }
end slices_Clonex
def s_slices_Clonex (a : (List (Int)) × (Unit)) : Option ((List (Int)) × (Unit)) := runOf (S := cx) slices_Clonex.E slices_Clonex.h fuel Try.f82 [.val (.slice 3 (.int .i64))] (.slice 3 (.int .i64)) .ro a
noncomputable def F_slices_Clonex : FSpec cx.toNm := { ps := [.val (.slice 3 (.int .i64))], nres := 1, rt := (.slice 3 (.int .i64)), rm := .ro, f := s_slices_Clonex }
theorem ok_slices_Clonex : FnOk Try.prog F_slices_Clonex 82 := fn_of (F := F_slices_Clonex) (hn := slices_Clonex.h) (E := slices_Clonex.E) cxOk (tysT _ _ _) fs_nil follows Try.func82 (by kernel_rfl) (fun a r h => ⟨fuel, Eq.trans (b := F_slices_Clonex.f a) (by kernel_rfl) h⟩)
namespace symbols_noted_1
noncomputable def E : Env cx := { tys := tys, fs := fsOf [(60, F_slices_ContainsFuncxx_i2), (82, F_slices_Clonex), (84, F_symbols_note), (85, F_slices_Equal)] }
noncomputable def h : Hint := { vs := [0, 1, 2, 3, 4, 5, 7, 8, 9, 10], nil := [], cuts := [(5, ([0, 4, 5, 8, 27], []), ([0, 4, 5, 8], [])), (6, ([0, 4, 5, 8], []), ([0, 4, 5, 8], []))], ret := ([7], []), ords := [] }
end symbols_noted_1
def s_symbols_noted_1 (a : (List (Int)) × ((Int) × ((Int) × ((Int) × ((Int) × ((D0) × (Unit))))))) : Option ((Bool) × (Unit)) := runOf (S := cx) symbols_noted_1.E symbols_noted_1.h fuel Try.f81 [.val (.slice 3 (.int .i64)), .val (.box (.int .i64)), .val (.box (.int .i64)), .val (.box (.int .i64)), .val (.box (.int .u8)), .val (.box ty0)] .bool .ro a
noncomputable def F_symbols_noted_1 : FSpec cx.toNm := { ps := [.val (.slice 3 (.int .i64)), .val (.box (.int .i64)), .val (.box (.int .i64)), .val (.box (.int .i64)), .val (.box (.int .u8)), .val (.box ty0)], nres := 1, rt := .bool, rm := .ro, f := s_symbols_noted_1 }
theorem ok_symbols_noted_1 : FnOk Try.prog F_symbols_noted_1 81 := fn_of (F := F_symbols_noted_1) (hn := symbols_noted_1.h) (E := symbols_noted_1.E) cxOk (tysT _ _ _) (fs_cons ok_slices_ContainsFuncxx_i2 (fs_cons ok_slices_Clonex (fs_cons ok_symbols_note (fs_cons ok_slices_Equal fs_nil)))) follows Try.func81 (by kernel_rfl) (fun a r h => ⟨fuel, Eq.trans (b := F_symbols_noted_1.f a) (by kernel_rfl) h⟩)
namespace slices_IndexFuncxxx
noncomputable def E : Env cx := { tys := tys, fs := fsOf [(81, F_symbols_noted_1)] }
noncomputable def h : Hint := { vs := [0, 1, 4, 5, 7, 8], nil := [], cuts := [(2, ([0, 1, 7, 8], []), ([], [])), (7, ([], []), ([], []))], ret := ([4], []), ords := [] }
end slices_IndexFuncxxx
def s_slices_IndexFuncxxx (a : (List (List (Int))) × (((Int) × ((Int) × ((Int) × ((Int) × ((D0) × (Unit)))))) × (Unit))) : Option ((Int) × (Unit)) := runOf (S := cx) slices_IndexFuncxxx.E slices_IndexFuncxxx.h fuel Try.f91 [.val (.slice 24 (.slice 3 (.int .i64))), .val (.clo 81 (.pair (.box (.int .i64)) (.pair (.box (.int .i64)) (.pair (.box (.int .i64)) (.pair (.box (.int .u8)) (.pair (.box ty0) .unit))))))] (.int .i64) .ro a
noncomputable def F_slices_IndexFuncxxx : FSpec cx.toNm := { ps := [.val (.slice 24 (.slice 3 (.int .i64))), .val (.clo 81 (.pair (.box (.int .i64)) (.pair (.box (.int .i64)) (.pair (.box (.int .i64)) (.pair (.box (.int .u8)) (.pair (.box ty0) .unit))))))], nres := 1, rt := (.int .i64), rm := .ro, f := s_slices_IndexFuncxxx }
theorem ok_slices_IndexFuncxxx : FnOk Try.prog F_slices_IndexFuncxxx 91 := fn_of (F := F_slices_IndexFuncxxx) (hn := slices_IndexFuncxxx.h) (E := slices_IndexFuncxxx.E) cxOk (tysT _ _ _) (fs_cons ok_symbols_noted_1 fs_nil) follows Try.func91 (by kernel_rfl) (fun a r h => ⟨fuel, Eq.trans (b := F_slices_IndexFuncxxx.f a) (by kernel_rfl) h⟩)
namespace slices_ContainsFuncxxx
noncomputable def E : Env cx := { tys := tys, fs := fsOf [(91, F_slices_IndexFuncxxx)] }
noncomputable def h : Hint := { vs := [0, 1, 4], nil := [], cuts := [], ret := ([4], []), ords := [] }
end slices_ContainsFuncxxx
def s_slices_ContainsFuncxxx (a : (List (List (Int))) × (((Int) × ((Int) × ((Int) × ((Int) × ((D0) × (Unit)))))) × (Unit))) : Option ((Bool) × (Unit)) := runOf (S := cx) slices_ContainsFuncxxx.E slices_ContainsFuncxxx.h fuel Try.f80 [.val (.slice 24 (.slice 3 (.int .i64))), .val (.clo 81 (.pair (.box (.int .i64)) (.pair (.box (.int .i64)) (.pair (.box (.int .i64)) (.pair (.box (.int .u8)) (.pair (.box ty0) .unit))))))] .bool .ro a
noncomputable def F_slices_ContainsFuncxxx : FSpec cx.toNm := { ps := [.val (.slice 24 (.slice 3 (.int .i64))), .val (.clo 81 (.pair (.box (.int .i64)) (.pair (.box (.int .i64)) (.pair (.box (.int .i64)) (.pair (.box (.int .u8)) (.pair (.box ty0) .unit))))))], nres := 1, rt := .bool, rm := .ro, f := s_slices_ContainsFuncxxx }
theorem ok_slices_ContainsFuncxxx : FnOk Try.prog F_slices_ContainsFuncxxx 80 := fn_of (F := F_slices_ContainsFuncxxx) (hn := slices_ContainsFuncxxx.h) (E := slices_ContainsFuncxxx.E) cxOk (tysT _ _ _) (fs_cons ok_slices_IndexFuncxxx fs_nil) follows Try.func80 (by kernel_rfl) (fun a r h => ⟨fuel, Eq.trans (b := F_slices_ContainsFuncxxx.f a) (by kernel_rfl) h⟩)
namespace symbols_noted
noncomputable def E : Env cx := { tys := tys, fs := fsOf [(80, F_slices_ContainsFuncxxx)] }
noncomputable def h : Hint := { vs := [0, 1, 2, 3, 4, 5, 6, 7, 9, 10, 11, 12], nil := [], cuts := [], ret := ([12], [6, 7, 9, 10, 11]), ords := [] }
end symbols_noted
def s_symbols_noted (a : (D0) × ((Int) × ((List (List (Int))) × ((Int) × ((Int) × ((Int) × (Unit))))))) : Option ((Bool) × (Unit)) := runOf (S := cx) symbols_noted.E symbols_noted.h fuel Try.f64 [.val ty0, .val (.int .u8), .val (.slice 24 (.slice 3 (.int .i64))), .val (.int .i64), .val (.int .i64), .val (.int .i64)] .bool .ro a
noncomputable def F_symbols_noted : FSpec cx.toNm := { ps := [.val ty0, .val (.int .u8), .val (.slice 24 (.slice 3 (.int .i64))), .val (.int .i64), .val (.int .i64), .val (.int .i64)], nres := 1, rt := .bool, rm := .ro, f := s_symbols_noted }
theorem ok_symbols_noted : FnOk Try.prog F_symbols_noted 64 := fn_of (F := F_symbols_noted) (hn := symbols_noted.h) (E := symbols_noted.E) cxOk (tysT _ _ _) (fs_cons ok_slices_ContainsFuncxxx fs_nil) follows Try.func64 (by kernel_rfl) (fun a r h => ⟨fuel, Eq.trans (b := F_symbols_noted.f a) (by kernel_rfl) h⟩)
namespace symbols_Right_1
noncomputable def E : Env cx := { tys := tys, fs := fsOf [(55, F_symbols_isTerm), (56, F_symbols_isOther)] }
noncomputable def h : Hint := { vs := [0, 1, 3], nil := [], cuts := [], ret := ([3], []), ords := [] }
end symbols_Right_1
def s_symbols_Right_1 (a : (Int) × ((D0) × (Unit))) : Option ((Bool) × (Unit)) := runOf (S := cx) symbols_Right_1.E symbols_Right_1.h fuel Try.f54 [.val (.int .i64), .val (.box ty0)] .bool .ro a
noncomputable def F_symbols_Right_1 : FSpec cx.toNm := { ps := [.val (.int .i64), .val (.box ty0)], nres := 1, rt := .bool, rm := .ro, f := s_symbols_Right_1 }
theorem ok_symbols_Right_1 : FnOk Try.prog F_symbols_Right_1 54 := fn_of (F := F_symbols_Right_1) (hn := symbols_Right_1.h) (E := symbols_Right_1.E) cxOk (tysT _ _ _) (fs_cons ok_symbols_isTerm (fs_cons ok_symbols_isOther fs_nil)) follows Try.func54 (by kernel_rfl) (fun a r h => ⟨fuel, Eq.trans (b := F_symbols_Right_1.f a) (by kernel_rfl) h⟩)
namespace symbols_all_1
noncomputable def E : Env cx := { tys := tys, fs := fsOf [(54, F_symbols_Right_1)] }
noncomputable def h : Hint := { vs := [0, 1, 3], nil := [], cuts := [], ret := ([3], []), ords := [] }
end symbols_all_1
def s_symbols_all_1 (a : (Int) × (((D0) × (Unit)) × (Unit))) : Option ((Bool) × (Unit)) := runOf (S := cx) symbols_all_1.E symbols_all_1.h fuel Try.f75 [.val (.int .i64), .val (.box (.clo 54 (.pair (.box ty0) .unit)))] .bool .ro a
noncomputable def F_symbols_all_1 : FSpec cx.toNm := { ps := [.val (.int .i64), .val (.box (.clo 54 (.pair (.box ty0) .unit)))], nres := 1, rt := .bool, rm := .ro, f := s_symbols_all_1 }
theorem ok_symbols_all_1 : FnOk Try.prog F_symbols_all_1 75 := fn_of (F := F_symbols_all_1) (hn := symbols_all_1.h) (E := symbols_all_1.E) cxOk (tysT _ _ _) (fs_cons ok_symbols_Right_1 fs_nil) follows Try.func75 (by kernel_rfl) (fun a r h => ⟨fuel, Eq.trans (b := F_symbols_all_1.f a) (by kernel_rfl) h⟩)
namespace slices_IndexFuncxx_i1
noncomputable def E : Env cx := { tys := tys, fs := fsOf [(75, F_symbols_all_1)] }
noncomputable def h : Hint := { vs := [0, 1, 4, 5, 7, 8], nil := [], cuts := [(2, ([0, 1, 7, 8], []), ([], [])), (7, ([], []), ([], []))], ret := ([4], []), ords := [] }
end slices_IndexFuncxx_i1
def s_slices_IndexFuncxx_i1 (a : (List (Int)) × ((((D0) × (Unit)) × (Unit)) × (Unit))) : Option ((Int) × (Unit)) := runOf (S := cx) slices_IndexFuncxx_i1.E slices_IndexFuncxx_i1.h fuel Try.f76 [.val (.slice 3 (.int .i64)), .val (.clo 75 (.pair (.box (.clo 54 (.pair (.box ty0) .unit))) .unit))] (.int .i64) .ro a
noncomputable def F_slices_IndexFuncxx_i1 : FSpec cx.toNm := { ps := [.val (.slice 3 (.int .i64)), .val (.clo 75 (.pair (.box (.clo 54 (.pair (.box ty0) .unit))) .unit))], nres := 1, rt := (.int .i64), rm := .ro, f := s_slices_IndexFuncxx_i1 }
theorem ok_slices_IndexFuncxx_i1 : FnOk Try.prog F_slices_IndexFuncxx_i1 76 := fn_of (F := F_slices_IndexFuncxx_i1) (hn := slices_IndexFuncxx_i1.h) (E := slices_IndexFuncxx_i1.E) cxOk (tysT _ _ _) (fs_cons ok_symbols_all_1 fs_nil) follows Try.func76 (by kernel_rfl) (fun a r h => ⟨fuel, Eq.trans (b := F_slices_IndexFuncxx_i1.f a) (by kernel_rfl) h⟩)
namespace slices_ContainsFuncxx_i1
noncomputable def E : Env cx := { tys := tys, fs := fsOf [(76, F_slices_IndexFuncxx_i1)] }
noncomputable def h : Hint := { vs := [0, 1, 4], nil := [], cuts := [], ret := ([4], []), ords := [] }
end slices_ContainsFuncxx_i1
def s_slices_ContainsFuncxx_i1 (a : (List (Int)) × ((((D0) × (Unit)) × (Unit)) × (Unit))) : Option ((Bool) × (Unit)) := runOf (S := cx) slices_ContainsFuncxx_i1.E slices_ContainsFuncxx_i1.h fuel Try.f60 [.val (.slice 3 (.int .i64)), .val (.clo 75 (.pair (.box (.clo 54 (.pair (.box ty0) .unit))) .unit))] .bool .ro a
noncomputable def F_slices_ContainsFuncxx_i1 : FSpec cx.toNm := { ps := [.val (.slice 3 (.int .i64)), .val (.clo 75 (.pair (.box (.clo 54 (.pair (.box ty0) .unit))) .unit))], nres := 1, rt := .bool, rm := .ro, f := s_slices_ContainsFuncxx_i1 }
theorem ok_slices_ContainsFuncxx_i1 : FnOk Try.prog F_slices_ContainsFuncxx_i1 60 := fn_of (F := F_slices_ContainsFuncxx_i1) (hn := slices_ContainsFuncxx_i1.h) (E := slices_ContainsFuncxx_i1.E) cxOk (tysT _ _ _) (fs_cons ok_slices_IndexFuncxx_i1 fs_nil) follows Try.func60 (by kernel_rfl) (fun a r h => ⟨fuel, Eq.trans (b := F_slices_ContainsFuncxx_i1.f a) (by kernel_rfl) h⟩)
namespace symbols_all
noncomputable def E : Env cx := { tys := tys, fs := fsOf [(60, F_slices_ContainsFuncxx_i1)] }
noncomputable def h : Hint := { vs := [0, 1, 2, 3, 4], nil := [], cuts := [], ret := ([4], [2, 3]), ords := [] }
end symbols_all
def s_symbols_all (a : ((Int) × (List (Int))) × (((D0) × (Unit)) × (Unit))) : Option ((Bool) × (Unit)) := runOf (S := cx) symbols_all.E symbols_all.h fuel Try.f59 [.val (.agg (.pair (.int .i64) (.slice 3 (.int .i64)))), .val (.clo 54 (.pair (.box ty0) .unit))] .bool .ro a
noncomputable def F_symbols_all : FSpec cx.toNm := { ps := [.val (.agg (.pair (.int .i64) (.slice 3 (.int .i64)))), .val (.clo 54 (.pair (.box ty0) .unit))], nres := 1, rt := .bool, rm := .ro, f := s_symbols_all }
theorem ok_symbols_all : FnOk Try.prog F_symbols_all 59 := fn_of (F := F_symbols_all) (hn := symbols_all.h) (E := symbols_all.E) cxOk (tysT _ _ _) (fs_cons ok_slices_ContainsFuncxx_i1 fs_nil) follows Try.func59 (by kernel_rfl) (fun a r h => ⟨fuel, Eq.trans (b := F_symbols_all.f a) (by kernel_rfl) h⟩)
namespace symbols_Right_2
noncomputable def E : Env cx := { tys := tys, fs := fsOf [(56, F_symbols_isOther), (59, F_symbols_all)] }
noncomputable def h : Hint := { vs := [0, 1, 2, 3, 4], nil := [], cuts := [], ret := ([4], [3]), ords := [] }
end symbols_Right_2
def s_symbols_Right_2 (a : ((Int) × (List (Int))) × ((D0) × (((D0) × (Unit)) × (Unit)))) : Option ((Bool) × (Unit)) := runOf (S := cx) symbols_Right_2.E symbols_Right_2.h fuel Try.f58 [.val (.agg (.pair (.int .i64) (.slice 3 (.int .i64)))), .val (.box ty0), .val (.box (.clo 54 (.pair (.box ty0) .unit)))] .bool .ro a
noncomputable def F_symbols_Right_2 : FSpec cx.toNm := { ps := [.val (.agg (.pair (.int .i64) (.slice 3 (.int .i64)))), .val (.box ty0), .val (.box (.clo 54 (.pair (.box ty0) .unit)))], nres := 1, rt := .bool, rm := .ro, f := s_symbols_Right_2 }
theorem ok_symbols_Right_2 : FnOk Try.prog F_symbols_Right_2 58 := fn_of (F := F_symbols_Right_2) (hn := symbols_Right_2.h) (E := symbols_Right_2.E) cxOk (tysT _ _ _) (fs_cons ok_symbols_isOther (fs_cons ok_symbols_all fs_nil)) follows Try.func58 (by kernel_rfl) (fun a r h => ⟨fuel, Eq.trans (b := F_symbols_Right_2.f a) (by kernel_rfl) h⟩)
namespace slices_IndexFuncx
noncomputable def E : Env cx := { tys := tys, fs := fsOf [(58, F_symbols_Right_2)] }
noncomputable def h : Hint := { vs := [0, 1, 4, 5, 7, 8], nil := [], cuts := [(2, ([0, 1, 7, 8], []), ([], [])), (7, ([], []), ([], []))], ret := ([4], []), ords := [] }
end slices_IndexFuncx
def s_slices_IndexFuncx (a : (List ((Int) × (List (Int)))) × (((D0) × (((D0) × (Unit)) × (Unit))) × (Unit))) : Option ((Int) × (Unit)) := runOf (S := cx) slices_IndexFuncx.E slices_IndexFuncx.h fuel Try.f74 [.val (.slice 41 (.agg (.pair (.int .i64) (.slice 3 (.int .i64))))), .val (.clo 58 (.pair (.box ty0) (.pair (.box (.clo 54 (.pair (.box ty0) .unit))) .unit)))] (.int .i64) .ro a
noncomputable def F_slices_IndexFuncx : FSpec cx.toNm := { ps := [.val (.slice 41 (.agg (.pair (.int .i64) (.slice 3 (.int .i64))))), .val (.clo 58 (.pair (.box ty0) (.pair (.box (.clo 54 (.pair (.box ty0) .unit))) .unit)))], nres := 1, rt := (.int .i64), rm := .ro, f := s_slices_IndexFuncx }
theorem ok_slices_IndexFuncx : FnOk Try.prog F_slices_IndexFuncx 74 := fn_of (F := F_slices_IndexFuncx) (hn := slices_IndexFuncx.h) (E := slices_IndexFuncx.E) cxOk (tysT _ _ _) (fs_cons ok_symbols_Right_2 fs_nil) follows Try.func74 (by kernel_rfl) (fun a r h => ⟨fuel, Eq.trans (b := F_slices_IndexFuncx.f a) (by kernel_rfl) h⟩)
namespace slices_ContainsFuncx
noncomputable def E : Env cx := { tys := tys, fs := fsOf [(74, F_slices_IndexFuncx)] }
noncomputable def h : Hint := { vs := [0, 1, 4], nil := [], cuts := [], ret := ([4], []), ords := [] }
end slices_ContainsFuncx
def s_slices_ContainsFuncx (a : (List ((Int) × (List (Int)))) × (((D0) × (((D0) × (Unit)) × (Unit))) × (Unit))) : Option ((Bool) × (Unit)) := runOf (S := cx) slices_ContainsFuncx.E slices_ContainsFuncx.h fuel Try.f57 [.val (.slice 41 (.agg (.pair (.int .i64) (.slice 3 (.int .i64))))), .val (.clo 58 (.pair (.box ty0) (.pair (.box (.clo 54 (.pair (.box ty0) .unit))) .unit)))] .bool .ro a
noncomputable def F_slices_ContainsFuncx : FSpec cx.toNm := { ps := [.val (.slice 41 (.agg (.pair (.int .i64) (.slice 3 (.int .i64))))), .val (.clo 58 (.pair (.box ty0) (.pair (.box (.clo 54 (.pair (.box ty0) .unit))) .unit)))], nres := 1, rt := .bool, rm := .ro, f := s_slices_ContainsFuncx }
theorem ok_slices_ContainsFuncx : FnOk Try.prog F_slices_ContainsFuncx 57 := fn_of (F := F_slices_ContainsFuncx) (hn := slices_ContainsFuncx.h) (E := slices_ContainsFuncx.E) cxOk (tysT _ _ _) (fs_cons ok_slices_IndexFuncx fs_nil) follows Try.func57 (by kernel_rfl) (fun a r h => ⟨fuel, Eq.trans (b := F_slices_ContainsFuncx.f a) (by kernel_rfl) h⟩)
namespace symbols_grown_1_1
noncomputable def E : Env cx := { tys := tys, fs := fsOf [] }
noncomputable def h : Hint := { vs := [0, 1, 2, 3, 5], nil := [], cuts := [], ret := ([5], []), ords := [] }
end symbols_grown_1_1
def s_symbols_grown_1_1 (a : (Int) × ((List (Bool)) × ((Bool) × ((D0) × (Unit))))) : Option ((Bool) × (Unit)) := runOf (S := cx) symbols_grown_1_1.E symbols_grown_1_1.h fuel Try.f90 [.val (.int .i64), .val (.box (.slice 4 .bool)), .val (.box .bool), .val (.box ty0)] .bool .ro a
noncomputable def F_symbols_grown_1_1 : FSpec cx.toNm := { ps := [.val (.int .i64), .val (.box (.slice 4 .bool)), .val (.box .bool), .val (.box ty0)], nres := 1, rt := .bool, rm := .ro, f := s_symbols_grown_1_1 }
theorem ok_symbols_grown_1_1 : FnOk Try.prog F_symbols_grown_1_1 90 := fn_of (F := F_symbols_grown_1_1) (hn := symbols_grown_1_1.h) (E := symbols_grown_1_1.E) cxOk (tysT _ _ _) fs_nil follows Try.func90 (by kernel_rfl) (fun a r h => ⟨fuel, Eq.trans (b := F_symbols_grown_1_1.f a) (by kernel_rfl) h⟩)
namespace symbols_all_1_i1
noncomputable def E : Env cx := { tys := tys, fs := fsOf [(90, F_symbols_grown_1_1)] }
noncomputable def h : Hint := { vs := [0, 1, 3], nil := [], cuts := [], ret := ([3], []), ords := [] }
end symbols_all_1_i1
def s_symbols_all_1_i1 (a : (Int) × (((List (Bool)) × ((Bool) × ((D0) × (Unit)))) × (Unit))) : Option ((Bool) × (Unit)) := runOf (S := cx) symbols_all_1_i1.E symbols_all_1_i1.h fuel Try.f75 [.val (.int .i64), .val (.box (.clo 90 (.pair (.box (.slice 4 .bool)) (.pair (.box .bool) (.pair (.box ty0) .unit)))))] .bool .ro a
noncomputable def F_symbols_all_1_i1 : FSpec cx.toNm := { ps := [.val (.int .i64), .val (.box (.clo 90 (.pair (.box (.slice 4 .bool)) (.pair (.box .bool) (.pair (.box ty0) .unit)))))], nres := 1, rt := .bool, rm := .ro, f := s_symbols_all_1_i1 }
theorem ok_symbols_all_1_i1 : FnOk Try.prog F_symbols_all_1_i1 75 := fn_of (F := F_symbols_all_1_i1) (hn := symbols_all_1_i1.h) (E := symbols_all_1_i1.E) cxOk (tysT _ _ _) (fs_cons ok_symbols_grown_1_1 fs_nil) follows Try.func75 (by kernel_rfl) (fun a r h => ⟨fuel, Eq.trans (b := F_symbols_all_1_i1.f a) (by kernel_rfl) h⟩)
namespace slices_IndexFuncxx_i3
noncomputable def E : Env cx := { tys := tys, fs := fsOf [(75, F_symbols_all_1_i1)] }
noncomputable def h : Hint := { vs := [0, 1, 4, 5, 7, 8], nil := [], cuts := [(2, ([0, 1, 7, 8], []), ([], [])), (7, ([], []), ([], []))], ret := ([4], []), ords := [] }
end slices_IndexFuncxx_i3
def s_slices_IndexFuncxx_i3 (a : (List (Int)) × ((((List (Bool)) × ((Bool) × ((D0) × (Unit)))) × (Unit)) × (Unit))) : Option ((Int) × (Unit)) := runOf (S := cx) slices_IndexFuncxx_i3.E slices_IndexFuncxx_i3.h fuel Try.f76 [.val (.slice 3 (.int .i64)), .val (.clo 75 (.pair (.box (.clo 90 (.pair (.box (.slice 4 .bool)) (.pair (.box .bool) (.pair (.box ty0) .unit))))) .unit))] (.int .i64) .ro a
noncomputable def F_slices_IndexFuncxx_i3 : FSpec cx.toNm := { ps := [.val (.slice 3 (.int .i64)), .val (.clo 75 (.pair (.box (.clo 90 (.pair (.box (.slice 4 .bool)) (.pair (.box .bool) (.pair (.box ty0) .unit))))) .unit))], nres := 1, rt := (.int .i64), rm := .ro, f := s_slices_IndexFuncxx_i3 }
theorem ok_slices_IndexFuncxx_i3 : FnOk Try.prog F_slices_IndexFuncxx_i3 76 := fn_of (F := F_slices_IndexFuncxx_i3) (hn := slices_IndexFuncxx_i3.h) (E := slices_IndexFuncxx_i3.E) cxOk (tysT _ _ _) (fs_cons ok_symbols_all_1_i1 fs_nil) follows Try.func76 (by kernel_rfl) (fun a r h => ⟨fuel, Eq.trans (b := F_slices_IndexFuncxx_i3.f a) (by kernel_rfl) h⟩)
namespace slices_ContainsFuncxx_i3
noncomputable def E : Env cx := { tys := tys, fs := fsOf [(76, F_slices_IndexFuncxx_i3)] }
noncomputable def h : Hint := { vs := [0, 1, 4], nil := [], cuts := [], ret := ([4], []), ords := [] }
end slices_ContainsFuncxx_i3
def s_slices_ContainsFuncxx_i3 (a : (List (Int)) × ((((List (Bool)) × ((Bool) × ((D0) × (Unit)))) × (Unit)) × (Unit))) : Option ((Bool) × (Unit)) := runOf (S := cx) slices_ContainsFuncxx_i3.E slices_ContainsFuncxx_i3.h fuel Try.f60 [.val (.slice 3 (.int .i64)), .val (.clo 75 (.pair (.box (.clo 90 (.pair (.box (.slice 4 .bool)) (.pair (.box .bool) (.pair (.box ty0) .unit))))) .unit))] .bool .ro a
noncomputable def F_slices_ContainsFuncxx_i3 : FSpec cx.toNm := { ps := [.val (.slice 3 (.int .i64)), .val (.clo 75 (.pair (.box (.clo 90 (.pair (.box (.slice 4 .bool)) (.pair (.box .bool) (.pair (.box ty0) .unit))))) .unit))], nres := 1, rt := .bool, rm := .ro, f := s_slices_ContainsFuncxx_i3 }
theorem ok_slices_ContainsFuncxx_i3 : FnOk Try.prog F_slices_ContainsFuncxx_i3 60 := fn_of (F := F_slices_ContainsFuncxx_i3) (hn := slices_ContainsFuncxx_i3.h) (E := slices_ContainsFuncxx_i3.E) cxOk (tysT _ _ _) (fs_cons ok_slices_IndexFuncxx_i3 fs_nil) follows Try.func60 (by kernel_rfl) (fun a r h => ⟨fuel, Eq.trans (b := F_slices_ContainsFuncxx_i3.f a) (by kernel_rfl) h⟩)
namespace symbols_all_i1
noncomputable def E : Env cx := { tys := tys, fs := fsOf [(60, F_slices_ContainsFuncxx_i3)] }
noncomputable def h : Hint := { vs := [0, 1, 2, 3, 4], nil := [], cuts := [], ret := ([4], [2, 3]), ords := [] }
end symbols_all_i1
def s_symbols_all_i1 (a : ((Int) × (List (Int))) × (((List (Bool)) × ((Bool) × ((D0) × (Unit)))) × (Unit))) : Option ((Bool) × (Unit)) := runOf (S := cx) symbols_all_i1.E symbols_all_i1.h fuel Try.f59 [.val (.agg (.pair (.int .i64) (.slice 3 (.int .i64)))), .val (.clo 90 (.pair (.box (.slice 4 .bool)) (.pair (.box .bool) (.pair (.box ty0) .unit))))] .bool .ro a
noncomputable def F_symbols_all_i1 : FSpec cx.toNm := { ps := [.val (.agg (.pair (.int .i64) (.slice 3 (.int .i64)))), .val (.clo 90 (.pair (.box (.slice 4 .bool)) (.pair (.box .bool) (.pair (.box ty0) .unit))))], nres := 1, rt := .bool, rm := .ro, f := s_symbols_all_i1 }
theorem ok_symbols_all_i1 : FnOk Try.prog F_symbols_all_i1 59 := fn_of (F := F_symbols_all_i1) (hn := symbols_all_i1.h) (E := symbols_all_i1.E) cxOk (tysT _ _ _) (fs_cons ok_slices_ContainsFuncxx_i3 fs_nil) follows Try.func59 (by kernel_rfl) (fun a r h => ⟨fuel, Eq.trans (b := F_symbols_all_i1.f a) (by kernel_rfl) h⟩)
namespace symbols_grown_1
noncomputable def E : Env cx := { tys := tys, fs := fsOf [(59, F_symbols_all_i1)], wr := true }
noncomputable def h : Hint := { vs := [0, 1, 2, 3, 4, 5], nil := [(1, (.own .ro))], cuts := [(2, ([1, 4, 16], [4, 1000001]), ([1, 4], [4, 1000001])), (3, ([1, 4], [4, 1000001]), ([1, 4], [4, 1000001]))], ret := ([1, 5], [4, 1000001]), ords := [], fns := [(13, [true, true, true])] }
end symbols_grown_1
def s_symbols_grown_1 (a : ((Int) × (List (Int))) × ((List (Bool)) × ((Bool) × ((D0) × (Unit))))) : Option ((Bool) × ((List (Bool)) × (Unit))) := runOf (S := cx) symbols_grown_1.E symbols_grown_1.h fuel Try.f89 [.val (.agg (.pair (.int .i64) (.slice 3 (.int .i64)))), .io (.slice 4 .bool) (.own .ro), .val (.box .bool), .val (.box ty0)] .bool .ro a
noncomputable def F_symbols_grown_1 : FSpec cx.toNm := { ps := [.val (.agg (.pair (.int .i64) (.slice 3 (.int .i64)))), .io (.slice 4 .bool) (.own .ro), .val (.box .bool), .val (.box ty0)], nres := 1, rt := .bool, rm := .ro, f := s_symbols_grown_1 }
theorem ok_symbols_grown_1 : FnOk Try.prog F_symbols_grown_1 89 := fn_of (F := F_symbols_grown_1) (hn := symbols_grown_1.h) (E := symbols_grown_1.E) cxOk (tysT _ _ _) (fs_cons ok_symbols_all_i1 fs_nil) follows Try.func89 (by kernel_rfl) (fun a r h => ⟨fuel, Eq.trans (b := F_symbols_grown_1.f a) (by kernel_rfl) h⟩)
namespace symbols_till_i1
noncomputable def E : Env cx := { tys := tys, fs := fsOf [(89, F_symbols_grown_1)], wr := true }
noncomputable def h : Hint := { vs := [0, 1, 2, 4, 6, 9, 10, 11], nil := [], cuts := [(2, ([1, 2, 4], [2, 1000002]), ([], [1000002])), (5, ([1, 2, 4, 9, 10, 11], [2, 1000002]), ([1, 2, 4], [2, 1000002])), (8, ([1, 2, 4, 9, 10, 11], [2, 1000002]), ([1, 2, 4, 9, 10, 11], [2, 1000002]))], ret := ([], [2, 6, 1000002]), ords := [] }
end symbols_till_i1
def s_symbols_till_i1 (a : (D0) × ((Unit) × ((List (Bool)) × ((Bool) × ((D0) × (Unit)))))) : Option ((Unit) × ((List (Bool)) × (Unit))) := runOf (S := cx) symbols_till_i1.E symbols_till_i1.h fuel Try.f78 [.val ty0, .fn 89 3, .io (.slice 4 .bool) (.own .ro), .val (.box .bool), .val (.box ty0)] .unit .ro a
noncomputable def F_symbols_till_i1 : FSpec cx.toNm := { ps := [.val ty0, .fn 89 3, .io (.slice 4 .bool) (.own .ro), .val (.box .bool), .val (.box ty0)], nres := 0, rt := .unit, rm := .ro, f := s_symbols_till_i1 }
theorem ok_symbols_till_i1 : FnOk Try.prog F_symbols_till_i1 78 := fn_of (F := F_symbols_till_i1) (hn := symbols_till_i1.h) (E := symbols_till_i1.E) cxOk (tysT _ _ _) (fs_cons ok_symbols_grown_1 fs_nil) follows Try.func78 (by kernel_rfl) (fun a r h => ⟨fuel, Eq.trans (b := F_symbols_till_i1.f a) (by kernel_rfl) h⟩)
namespace symbols_grown
noncomputable def E : Env cx := { tys := tys, fs := fsOf [(78, F_symbols_till_i1)], wr := true }
noncomputable def h : Hint := { vs := [0, 1, 2, 3, 4, 5], nil := [], cuts := [], ret := ([4], [2, 3, 5]), ords := [], fns := [(11, [true, false, false])] }
end symbols_grown
def s_symbols_grown (a : (D0) × ((Bool) × (Unit))) : Option ((List (Bool)) × (Unit)) := runOf (S := cx) symbols_grown.E symbols_grown.h fuel Try.f77 [.val ty0, .val .bool] (.slice 4 .bool) .ro a
noncomputable def F_symbols_grown : FSpec cx.toNm := { ps := [.val ty0, .val .bool], nres := 1, rt := (.slice 4 .bool), rm := .ro, f := s_symbols_grown }
theorem ok_symbols_grown : FnOk Try.prog F_symbols_grown 77 := fn_of (F := F_symbols_grown) (hn := symbols_grown.h) (E := symbols_grown.E) cxOk (tysT _ _ _) (fs_cons ok_symbols_till_i1 fs_nil) follows Try.func77 (by kernel_rfl) (fun a r h => ⟨fuel, Eq.trans (b := F_symbols_grown.f a) (by kernel_rfl) h⟩)
namespace symbols_worthy
noncomputable def E : Env cx := { tys := tys, fs := fsOf [(77, F_symbols_grown)] }
noncomputable def h : Hint := { vs := [0, 1, 2], nil := [], cuts := [], ret := ([2], [1]), ords := [] }
end symbols_worthy
def s_symbols_worthy (a : (D0) × (Unit)) : Option ((List (Bool)) × (Unit)) := runOf (S := cx) symbols_worthy.E symbols_worthy.h fuel Try.f62 [.val ty0] (.slice 4 .bool) .ro a
noncomputable def F_symbols_worthy : FSpec cx.toNm := { ps := [.val ty0], nres := 1, rt := (.slice 4 .bool), rm := .ro, f := s_symbols_worthy }
theorem ok_symbols_worthy : FnOk Try.prog F_symbols_worthy 62 := fn_of (F := F_symbols_worthy) (hn := symbols_worthy.h) (E := symbols_worthy.E) cxOk (tysT _ _ _) (fs_cons ok_symbols_grown fs_nil) follows Try.func62 (by kernel_rfl) (fun a r h => ⟨fuel, Eq.trans (b := F_symbols_worthy.f a) (by kernel_rfl) h⟩)
namespace symbols_Right
noncomputable def E : Env cx := { tys := tys, fs := fsOf [(56, F_symbols_isOther), (57, F_slices_ContainsFuncx), (60, F_slices_ContainsFuncxx), (62, F_symbols_worthy), (63, F_symbols_come), (64, F_symbols_noted)] }
noncomputable def h : Hint := { vs := [0, 1, 2, 3, 4, 5, 6], nil := [], cuts := [(3, ([1, 3, 8], [3]), ([1], [])), (5, ([1, 3, 38], [3]), ([1], [])), (10, ([1], []), ([1], [])), (12, ([1, 4, 5, 6], []), ([1], [])), (13, ([1, 4, 5, 6], []), ([1, 4, 5, 6], [])), (15, ([1, 4, 5, 6, 84], []), ([1, 4, 5, 6], [])), (16, ([1], []), ([1], []))], ret := ([2], [1, 3]), ords := [(10, [0, 2, 1, 3, 4, 5])], clos := [(3, (.clo 54 (.pair (.box ty0) .unit)))] }
end symbols_Right
def s_symbols_Right (a : (D0) × (Unit)) : Option ((Bool) × (Unit)) := runOf (S := cx) symbols_Right.E symbols_Right.h fuel Try.f36 [.val ty0] .bool .ro a
noncomputable def F_symbols_Right : FSpec cx.toNm := { ps := [.val ty0], nres := 1, rt := .bool, rm := .ro, f := s_symbols_Right }
theorem ok_symbols_Right : FnOk Try.prog F_symbols_Right 36 := fn_of (F := F_symbols_Right) (hn := symbols_Right.h) (E := symbols_Right.E) cxOk (tysT _ _ _) (fs_cons ok_symbols_isOther (fs_cons ok_slices_ContainsFuncx (fs_cons ok_slices_ContainsFuncxx (fs_cons ok_symbols_worthy (fs_cons ok_symbols_come (fs_cons ok_symbols_noted fs_nil)))))) follows Try.func36 (by kernel_rfl) (fun a r h => ⟨fuel, Eq.trans (b := F_symbols_Right.f a) (by kernel_rfl) h⟩)
namespace slices_Index
noncomputable def E : Env cx := { tys := tys, fs := fsOf [] }
noncomputable def h : Hint := { vs := [0, 1, 4, 5, 7, 8], nil := [], cuts := [(2, ([0, 1, 7, 8], []), ([], [])), (7, ([], []), ([], []))], ret := ([4], []), ords := [] }
end slices_Index
def s_slices_Index (a : (List (Option N1)) × ((Option N1) × (Unit))) : Option ((Int) × (Unit)) := runOf (S := cx) slices_Index.E slices_Index.h fuel Try.f86 [.val (.slice 35 (.ptr 1)), .val (.ptr 1)] (.int .i64) .ro a
noncomputable def F_slices_Index : FSpec cx.toNm := { ps := [.val (.slice 35 (.ptr 1)), .val (.ptr 1)], nres := 1, rt := (.int .i64), rm := .ro, f := s_slices_Index }
theorem ok_slices_Index : FnOk Try.prog F_slices_Index 86 := fn_of (F := F_slices_Index) (hn := slices_Index.h) (E := slices_Index.E) cxOk (tysT _ _ _) fs_nil follows Try.func86 (by kernel_rfl) (fun a r h => ⟨fuel, Eq.trans (b := F_slices_Index.f a) (by kernel_rfl) h⟩)
namespace slices_Contains
noncomputable def E : Env cx := { tys := tys, fs := fsOf [(86, F_slices_Index)] }
noncomputable def h : Hint := { vs := [0, 1, 4], nil := [], cuts := [], ret := ([4], []), ords := [] }
end slices_Contains
def s_slices_Contains (a : (List (Option N1)) × ((Option N1) × (Unit))) : Option ((Bool) × (Unit)) := runOf (S := cx) slices_Contains.E slices_Contains.h fuel Try.f66 [.val (.slice 35 (.ptr 1)), .val (.ptr 1)] .bool .ro a
noncomputable def F_slices_Contains : FSpec cx.toNm := { ps := [.val (.slice 35 (.ptr 1)), .val (.ptr 1)], nres := 1, rt := .bool, rm := .ro, f := s_slices_Contains }
theorem ok_slices_Contains : FnOk Try.prog F_slices_Contains 66 := fn_of (F := F_slices_Contains) (hn := slices_Contains.h) (E := slices_Contains.E) cxOk (tysT _ _ _) (fs_cons ok_slices_Index fs_nil) follows Try.func66 (by kernel_rfl) (fun a r h => ⟨fuel, Eq.trans (b := F_slices_Contains.f a) (by kernel_rfl) h⟩)
namespace tree_fits_1
noncomputable def E : Env cx := { tys := tys, fs := fsOf [] }
noncomputable def h : Hint := { vs := [0, 1, 4], nil := [], cuts := [], ret := ([4], []), ords := [] }
end tree_fits_1
def s_tree_fits_1 (a : (Option N1) × ((Int) × (Unit))) : Option ((Bool) × (Unit)) := runOf (S := cx) tree_fits_1.E tree_fits_1.h fuel Try.f68 [.val (.ptr 1), .val (.int .i64)] .bool .ro a
noncomputable def F_tree_fits_1 : FSpec cx.toNm := { ps := [.val (.ptr 1), .val (.int .i64)], nres := 1, rt := .bool, rm := .ro, f := s_tree_fits_1 }
theorem ok_tree_fits_1 : FnOk Try.prog F_tree_fits_1 68 := fn_of (F := F_tree_fits_1) (hn := tree_fits_1.h) (E := tree_fits_1.E) cxOk (tysT _ _ _) fs_nil follows Try.func68 (by kernel_rfl) (fun a r h => ⟨fuel, Eq.trans (b := F_tree_fits_1.f a) (by kernel_rfl) h⟩)
namespace slices_EqualFunc
noncomputable def E : Env cx := { tys := tys, fs := fsOf [(68, F_tree_fits_1)] }
noncomputable def h : Hint := { vs := [0, 1, 2, 6, 7, 8, 9, 15, 16, 17], nil := [], cuts := [(4, ([1, 2, 15, 16, 17], []), ([], [])), (10, ([], []), ([], []))], ret := ([6], []), ords := [] }
end slices_EqualFunc
def s_slices_EqualFunc (a : (List (Option N1)) × ((List (Int)) × ((Unit) × (Unit)))) : Option ((Bool) × (Unit)) := runOf (S := cx) slices_EqualFunc.E slices_EqualFunc.h fuel Try.f67 [.val (.slice 35 (.ptr 1)), .val (.slice 3 (.int .i64)), .val (.clo 68 .unit)] .bool .ro a
noncomputable def F_slices_EqualFunc : FSpec cx.toNm := { ps := [.val (.slice 35 (.ptr 1)), .val (.slice 3 (.int .i64)), .val (.clo 68 .unit)], nres := 1, rt := .bool, rm := .ro, f := s_slices_EqualFunc }
theorem ok_slices_EqualFunc : FnOk Try.prog F_slices_EqualFunc 67 := fn_of (F := F_slices_EqualFunc) (hn := slices_EqualFunc.h) (E := slices_EqualFunc.E) cxOk (tysT _ _ _) (fs_cons ok_tree_fits_1 fs_nil) follows Try.func67 (by kernel_rfl) (fun a r h => ⟨fuel, Eq.trans (b := F_slices_EqualFunc.f a) (by kernel_rfl) h⟩)
namespace tree_toks
noncomputable def E : Env cx := { tys := tys, fs := fsOf [] }
abbrev R := Option ((Int) × (Unit))
abbrev C := Exit → ST cx → R
noncomputable def b : Code := bodyC Try.f40
noncomputable def h : Hint := { vs := [0, 2, 3, 5, 6, 7, 8], nil := [], cuts := [(3, ([3, 6, 7, 8], []), ([3], [])), (7, ([3, 6, 7, 8], []), ([3, 6, 7, 8], [])), (8, ([3], []), ([3], []))], ret := ([2], []), ords := [] }
noncomputable def K0 : C := fin (S := cx) E Try.f40.results.toList (.int .i64) .ro [] []
noncomputable def c0 : Code := subC b [1]
noncomputable def K1 (k : Nat) : C := outD h c0 K0
noncomputable def K2 (k : Nat) : C := seqC E h k c0 K0
noncomputable def c1 : Code := subC b [1, 1]
noncomputable def K3 (k : Nat) : C := outD h c1 (K1 k)
noncomputable def K4 (k : Nat) : C := seqC E h k c1 (K1 k)
noncomputable def c2 : Code := subC b [1, 1, 1]
noncomputable def K5 (k : Nat) : C := outD h c2 (K3 k)
noncomputable def K6 (k : Nat) : C := seqC E h k c2 (K3 k)
noncomputable def c3 : Code := subC b [1, 1, 0, 1]
noncomputable def K7 (k : Nat) : C := outD h c3 (K6 k)
noncomputable def K8 (k : Nat) : C := seqC E h k c3 (K6 k)
noncomputable def K9 (k : Nat) : C := blockK 0 (K7 k)
noncomputable def c4 : Code := subC b [1, 1, 0, 1, 0, 0]
noncomputable def K10 (k n1 : Nat) : C := loopD E h k c4 (K9 k) n1
noncomputable def c5 : Code := subC b [1, 1, 0, 1, 0, 0, 1]
noncomputable def K11 (k n1 : Nat) : C := outD h c5 (K10 k n1)
noncomputable def K12 (k n1 : Nat) : C := seqC E h k c5 (K10 k n1)
noncomputable def c6 : Code := subC b [1, 1, 0, 1, 0, 0, 1, 1]
noncomputable def K13 (k n1 : Nat) : C := outD h c6 (K11 k n1)
noncomputable def K14 (k n1 : Nat) : C := seqC E h k c6 (K11 k n1)
noncomputable def c7 : Code := subC b [1, 1, 0, 1, 0, 0, 1, 1, 1]
noncomputable def K15 (k n1 : Nat) : C := outD h c7 (K13 k n1)
noncomputable def K16 (k n1 : Nat) : C := seqC E h k c7 (K13 k n1)
noncomputable def K17 (k n1 : Nat) : C := blockK 1 (K16 k n1)
noncomputable def c8 : Code := subC b [1, 1, 0, 1, 0, 0, 1, 1, 0, 0, 1]
noncomputable def K18 (k n1 : Nat) : C := outD h c8 (K17 k n1)
noncomputable def K19 (k n1 : Nat) : C := seqC E h k c8 (K17 k n1)
noncomputable def c9 : Code := subC b [1, 1, 0, 1, 0, 0, 1, 1, 0, 0, 1, 1]
noncomputable def K20 (k n1 : Nat) : C := outD h c9 (K18 k n1)
noncomputable def K21 (k n1 : Nat) : C := seqC E h k c9 (K18 k n1)
noncomputable def c10 : Code := subC b [1, 1, 1, 1]
noncomputable def K22 (k : Nat) : C := outD h c10 (K5 k)
noncomputable def K23 (k : Nat) : C := seqC E h k c10 (K5 k)
abbrev T2 := Int → (List (Option N1)) → Int → Int → R
abbrev T3 := Int → R
abbrev T1 := Int → (List (Option N1)) → Int → Int → R
abbrev T0 := (List (Option N1)) → R
abbrev s2 : Int → (List (Option N1)) → Int → Int → ST cx := fun (x3 : Int) (x6 : List (Option N1)) (x7 x8 : Int) => ({ vars := [(3, .v (.int .i64) .ro x3), (6, .v (.slice 35 (.ptr 1)) .ro x6), (7, .v (.int .i64) .ro x7), (8, .v (.int .i64) .ro x8)], scr := [], mems := [] } : ST cx)
noncomputable def u2 (k n1 : Nat) : T2 := fun (x3 : Int) (x6 : List (Option N1)) (x7 x8 : Int) => uK (run E h k c7) (s2 x3 x6 x7 x8) (K15 k n1)
noncomputable abbrev l2 (k n1 : Nat) : T2 := fun (x3 : Int) (x6 : List (Option N1)) (x7 x8 : Int) => cutK (run E h k c7) (s2 x3 x6 x7 x8) (K15 k n1)
abbrev s3 : Int → ST cx := fun (x3 : Int) => ({ vars := [(3, .v (.int .i64) .ro x3)], scr := [], mems := [] } : ST cx)
noncomputable def u3 (k : Nat) : T3 := fun (x3 : Int) => uK (run E h k c2) (s3 x3) (K5 k)
noncomputable abbrev l3 (k : Nat) : T3 := fun (x3 : Int) => cutK (run E h k c2) (s3 x3) (K5 k)
abbrev s1 : Int → (List (Option N1)) → Int → Int → ST cx := fun (x3 : Int) (x6 : List (Option N1)) (x7 x8 : Int) => ({ vars := [(3, .v (.int .i64) .ro x3), (6, .v (.slice 35 (.ptr 1)) .ro x6), (7, .v (.int .i64) .ro x7), (8, .v (.int .i64) .ro x8)], scr := [], mems := [] } : ST cx)
noncomputable def u1 (k n1 : Nat) : T1 := fun (x3 : Int) (x6 : List (Option N1)) (x7 x8 : Int) => uK (loopL E h k c4 (K9 k) n1) (s1 x3 x6 x7 x8) ()
noncomputable abbrev l1 (k n1 : Nat) : T1 := fun (x3 : Int) (x6 : List (Option N1)) (x7 x8 : Int) => cutK (loopL E h k c4 (K9 k) n1) (s1 x3 x6 x7 x8) ()
noncomputable def u0 (k : Nat) : T0 := fun (x0 : List (Option N1)) => runOf (S := cx) E h k Try.f40 [.val (.slice 35 (.ptr 1))] (.int .i64) .ro (x0, ())
def t2 (f1 : T1) : T2 := fun (x3 : Int) (x6 : List (Option N1)) (x7 x8 : Int) => 
  (f1 x3 x6 x7 (w64 (x8 + (1 : Int))))
theorem e2 (k n1 : Nat) : u2 k n1 = t2 (l1 k n1) := by kernel_rfl
theorem g2 (k n1 : Nat) : l2 k n1 = u2 k n1 := funext fun _ => funext fun _ => funext fun _ => funext fun _ => cut_u _ _ _
theorem d2 {x1 y1 : T1} (h1 : x1 = y1) : t2 x1 = t2 y1 := by subst h1; rfl
def p2 (k : Nat) (a1 : T1) : T2 := t2 a1
theorem o2 (k n1 : Nat) (a1 : T1) (h1 : l1 k n1 = a1) : l2 k n1 = p2 k a1 := (Eq.trans (b := u2 k n1) (g2 k n1) (Eq.trans (b := t2 (l1 k n1)) (e2 k n1) (Eq.trans (b := t2 a1) (d2 h1) (by kernel_rfl))))
def t3 : T3 := fun (x3 : Int) => 
  (some (x3, ()))
theorem e3 (k : Nat) : u3 k = t3 := by kernel_rfl
theorem g3 (k : Nat) : l3 k = u3 k := funext fun _ => cut_u _ _ _
def p3 (k : Nat) : T3 := t3
theorem o3 (k : Nat) : l3 k = p3 k := (Eq.trans (b := u3 k) (g3 k) (Eq.trans (b := t3) (e3 k) (by kernel_rfl)))
def t1 (f2 : T2) (f3 : T3) : T1 := fun (x3 : Int) (x6 : List (Option N1)) (x7 x8 : Int) => 
  (iteB (decide (x8 < x7)) (withinR x8 (List.length x6) fun q1 => (iteB (!(Option.isNone (List.getD x6 q1 none))) (bindR (List.getD x6 q1 none) fun z2 => (f2 (w64 (x3 + (out1 z2).2.2.2.2.1)) x6 x7 x8)) (f2 x3 x6 x7 x8))) (f3 x3))
theorem e1 (k n1 : Nat) : u1 k (n1 + 1) = t1 (l2 k n1) (l3 k) := by kernel_rfl
theorem g1 (k n1 : Nat) : l1 k (n1 + 1) = u1 k (n1 + 1) := funext fun _ => funext fun _ => funext fun _ => funext fun _ => cut_u _ _ _
theorem d1 {x2 y2 : T2} {x3 y3 : T3} (h2 : x2 = y2) (h3 : x3 = y3) : t1 x2 x3 = t1 y2 y3 := by subst h2; subst h3; rfl
def p1 (k : Nat) : Nat → T1
  | 0 => fun _ _ _ _ => none
  | n1 + 1 => t1 (p2 k (p1 k n1)) (p3 k)
theorem o1 (k : Nat) : ∀ n1, l1 k n1 = p1 k n1 := by
  intro n1
  induction n1 with
  | zero => kernel_rfl
  | succ n1 ih => exact (Eq.trans (b := u1 k (n1 + 1)) (g1 k n1) (Eq.trans (b := t1 (l2 k n1) (l3 k)) (e1 k n1) (Eq.trans (b := t1 (p2 k (p1 k n1)) (p3 k)) (d1 (o2 k n1 (p1 k n1) ih) (o3 k)) (by kernel_rfl))))
def t0 (f1 : T1) : T0 := fun (x0 : List (Option N1)) => 
  (f1 (0 : Int) x0 ((List.length x0 : Nat) : Int) (0 : Int))
theorem e0 (k : Nat) : u0 k = t0 (l1 k k) := by kernel_rfl
theorem d0 {x1 y1 : T1} (h1 : x1 = y1) : t0 x1 = t0 y1 := by subst h1; rfl
def p0 (k : Nat) : T0 := t0 (p1 k k)
theorem o0 (k : Nat) : u0 k = p0 k := (Eq.trans (b := t0 (l1 k k)) (e0 k) (Eq.trans (b := t0 (p1 k k)) (d0 (o1 k k)) (by kernel_rfl)))
end tree_toks
def s_tree_toks (a : (List (Option N1)) × (Unit)) : Option ((Int) × (Unit)) := tree_toks.p0 (fuel) a.1
noncomputable def F_tree_toks : FSpec cx.toNm := { ps := [.val (.slice 35 (.ptr 1))], nres := 1, rt := (.int .i64), rm := .ro, f := s_tree_toks }
theorem w_tree_toks (a : (List (Option N1)) × (Unit)) : runOf (S := cx) tree_toks.E tree_toks.h (fuel) Try.f40 F_tree_toks.ps F_tree_toks.rt F_tree_toks.rm a = s_tree_toks a := Eq.trans (b := tree_toks.u0 (fuel) a.1) (by kernel_rfl) (Eq.trans (b := tree_toks.p0 (fuel) a.1) (congrFun (tree_toks.o0 (fuel)) a.1) (by kernel_rfl))
theorem ok_tree_toks : FnOk Try.prog F_tree_toks 40 := fn_of (F := F_tree_toks) (hn := tree_toks.h) (E := tree_toks.E) cxOk (tysT _ _ _) fs_nil follows Try.func40 (by kernel_rfl) (fun a r h => ⟨fuel, Eq.trans (w_tree_toks a) h⟩)
namespace tree_fits
noncomputable def E : Env cx := { tys := tys, fs := fsOf [(40, F_tree_toks), (66, F_slices_Contains), (67, F_slices_EqualFunc)] }
noncomputable def h : Hint := { vs := [0, 1, 2, 4, 5], nil := [], cuts := [(4, ([1, 2, 68], [2]), ([1, 2], [2])), (5, ([1, 2], [2]), ([1, 2], [2]))], ret := ([4], [2, 5]), ords := [] }
end tree_fits
def s_tree_fits (a : (D0) × ((Option N1) × (Unit))) : Option ((Bool) × (Unit)) := runOf (S := cx) tree_fits.E tree_fits.h fuel Try.f41 [.val ty0, .val (.ptr 1)] .bool .ro a
noncomputable def F_tree_fits : FSpec cx.toNm := { ps := [.val ty0, .val (.ptr 1)], nres := 1, rt := .bool, rm := .ro, f := s_tree_fits }
theorem ok_tree_fits : FnOk Try.prog F_tree_fits 41 := fn_of (F := F_tree_fits) (hn := tree_fits.h) (E := tree_fits.E) cxOk (tysT _ _ _) (fs_cons ok_tree_toks (fs_cons ok_slices_Contains (fs_cons ok_slices_EqualFunc fs_nil))) follows Try.func41 (by kernel_rfl) (fun a r h => ⟨fuel, Eq.trans (b := F_tree_fits.f a) (by kernel_rfl) h⟩)
namespace tree_Right_1
noncomputable def E : Env cx := { tys := tys, fs := fsOf [(41, F_tree_fits)] }
noncomputable def h : Hint := { vs := [0, 1, 3], nil := [], cuts := [], ret := ([3], []), ords := [] }
end tree_Right_1
def s_tree_Right_1 (a : (Option N1) × ((D0) × (Unit))) : Option ((Bool) × (Unit)) := runOf (S := cx) tree_Right_1.E tree_Right_1.h fuel Try.f43 [.val (.ptr 1), .val (.box ty0)] .bool .ro a
noncomputable def F_tree_Right_1 : FSpec cx.toNm := { ps := [.val (.ptr 1), .val (.box ty0)], nres := 1, rt := .bool, rm := .ro, f := s_tree_Right_1 }
theorem ok_tree_Right_1 : FnOk Try.prog F_tree_Right_1 43 := fn_of (F := F_tree_Right_1) (hn := tree_Right_1.h) (E := tree_Right_1.E) cxOk (tysT _ _ _) (fs_cons ok_tree_fits fs_nil) follows Try.func43 (by kernel_rfl) (fun a r h => ⟨fuel, Eq.trans (b := F_tree_Right_1.f a) (by kernel_rfl) h⟩)
noncomputable def Fr_tree_all (f : ((Option N1) × (((D0) × (Unit)) × (Unit))) → Option ((Bool) × (Unit))) : FSpec cx.toNm := { ps := [.val (.ptr 1), .val (.clo 43 (.pair (.box ty0) .unit))], nres := 1, rt := .bool, rm := .ro, f := f }
noncomputable def Fr_slices_ContainsFunc_i1 (f : ((List (Option N1)) × ((((D0) × (Unit)) × (Unit)) × (Unit))) → Option ((Bool) × (Unit))) : FSpec cx.toNm := { ps := [.val (.slice 35 (.ptr 1)), .val (.clo 69 (.pair (.box (.clo 43 (.pair (.box ty0) .unit))) .unit))], nres := 1, rt := .bool, rm := .ro, f := f }
noncomputable def Fr_slices_IndexFunc_i1 (f : ((List (Option N1)) × ((((D0) × (Unit)) × (Unit)) × (Unit))) → Option ((Int) × (Unit))) : FSpec cx.toNm := { ps := [.val (.slice 35 (.ptr 1)), .val (.clo 69 (.pair (.box (.clo 43 (.pair (.box ty0) .unit))) .unit))], nres := 1, rt := (.int .i64), rm := .ro, f := f }
noncomputable def Fr_tree_all_1 (f : ((Option N1) × (((D0) × (Unit)) × (Unit))) → Option ((Bool) × (Unit))) : FSpec cx.toNm := { ps := [.val (.ptr 1), .val (.box (.clo 43 (.pair (.box ty0) .unit)))], nres := 1, rt := .bool, rm := .ro, f := f }
namespace tree_all
noncomputable def E (sf_tree_all : ((Option N1) × (((D0) × (Unit)) × (Unit))) → Option ((Bool) × (Unit))) (sf_slices_ContainsFunc_i1 : ((List (Option N1)) × ((((D0) × (Unit)) × (Unit)) × (Unit))) → Option ((Bool) × (Unit))) (sf_slices_IndexFunc_i1 : ((List (Option N1)) × ((((D0) × (Unit)) × (Unit)) × (Unit))) → Option ((Int) × (Unit))) (sf_tree_all_1 : ((Option N1) × (((D0) × (Unit)) × (Unit))) → Option ((Bool) × (Unit))) : Env cx := { tys := tys, fs := fsOf [(37, (Fr_slices_ContainsFunc_i1 sf_slices_ContainsFunc_i1)), (43, F_tree_Right_1)], wr := true }
noncomputable def h : Hint := { vs := [0, 1, 3, 4], nil := [], cuts := [], ret := ([4], [3]), ords := [], fns := [(17, [true])] }
end tree_all
namespace slices_ContainsFunc_i1
noncomputable def E (sf_tree_all : ((Option N1) × (((D0) × (Unit)) × (Unit))) → Option ((Bool) × (Unit))) (sf_slices_ContainsFunc_i1 : ((List (Option N1)) × ((((D0) × (Unit)) × (Unit)) × (Unit))) → Option ((Bool) × (Unit))) (sf_slices_IndexFunc_i1 : ((List (Option N1)) × ((((D0) × (Unit)) × (Unit)) × (Unit))) → Option ((Int) × (Unit))) (sf_tree_all_1 : ((Option N1) × (((D0) × (Unit)) × (Unit))) → Option ((Bool) × (Unit))) : Env cx := { tys := tys, fs := fsOf [(65, (Fr_slices_IndexFunc_i1 sf_slices_IndexFunc_i1))] }
noncomputable def h : Hint := { vs := [0, 1, 4], nil := [], cuts := [], ret := ([4], []), ords := [] }
end slices_ContainsFunc_i1
namespace slices_IndexFunc_i1
noncomputable def E (sf_tree_all : ((Option N1) × (((D0) × (Unit)) × (Unit))) → Option ((Bool) × (Unit))) (sf_slices_ContainsFunc_i1 : ((List (Option N1)) × ((((D0) × (Unit)) × (Unit)) × (Unit))) → Option ((Bool) × (Unit))) (sf_slices_IndexFunc_i1 : ((List (Option N1)) × ((((D0) × (Unit)) × (Unit)) × (Unit))) → Option ((Int) × (Unit))) (sf_tree_all_1 : ((Option N1) × (((D0) × (Unit)) × (Unit))) → Option ((Bool) × (Unit))) : Env cx := { tys := tys, fs := fsOf [(69, (Fr_tree_all_1 sf_tree_all_1))] }
noncomputable def h : Hint := { vs := [0, 1, 4, 5, 7, 8], nil := [], cuts := [(2, ([0, 1, 7, 8], []), ([], [])), (7, ([], []), ([], []))], ret := ([4], []), ords := [] }
end slices_IndexFunc_i1
namespace tree_all_1
noncomputable def E (sf_tree_all : ((Option N1) × (((D0) × (Unit)) × (Unit))) → Option ((Bool) × (Unit))) (sf_slices_ContainsFunc_i1 : ((List (Option N1)) × ((((D0) × (Unit)) × (Unit)) × (Unit))) → Option ((Bool) × (Unit))) (sf_slices_IndexFunc_i1 : ((List (Option N1)) × ((((D0) × (Unit)) × (Unit)) × (Unit))) → Option ((Int) × (Unit))) (sf_tree_all_1 : ((Option N1) × (((D0) × (Unit)) × (Unit))) → Option ((Bool) × (Unit))) : Env cx := { tys := tys, fs := fsOf [(42, (Fr_tree_all sf_tree_all))] }
noncomputable def h : Hint := { vs := [0, 1, 3], nil := [], cuts := [], ret := ([3], []), ords := [] }
end tree_all_1
mutual
def r_tree_all : Nat → ((Option N1) × (((D0) × (Unit)) × (Unit))) → Option ((Bool) × (Unit))
  | 0, _ => none
  | n + 1, a => runOf (S := cx) (tree_all.E (r_tree_all n) (r_slices_ContainsFunc_i1 n) (r_slices_IndexFunc_i1 n) (r_tree_all_1 n)) tree_all.h fuel Try.f42 [.val (.ptr 1), .val (.clo 43 (.pair (.box ty0) .unit))] .bool .ro a
def r_slices_ContainsFunc_i1 : Nat → ((List (Option N1)) × ((((D0) × (Unit)) × (Unit)) × (Unit))) → Option ((Bool) × (Unit))
  | 0, _ => none
  | n + 1, a => runOf (S := cx) (slices_ContainsFunc_i1.E (r_tree_all n) (r_slices_ContainsFunc_i1 n) (r_slices_IndexFunc_i1 n) (r_tree_all_1 n)) slices_ContainsFunc_i1.h fuel Try.f37 [.val (.slice 35 (.ptr 1)), .val (.clo 69 (.pair (.box (.clo 43 (.pair (.box ty0) .unit))) .unit))] .bool .ro a
def r_slices_IndexFunc_i1 : Nat → ((List (Option N1)) × ((((D0) × (Unit)) × (Unit)) × (Unit))) → Option ((Int) × (Unit))
  | 0, _ => none
  | n + 1, a => runOf (S := cx) (slices_IndexFunc_i1.E (r_tree_all n) (r_slices_ContainsFunc_i1 n) (r_slices_IndexFunc_i1 n) (r_tree_all_1 n)) slices_IndexFunc_i1.h fuel Try.f65 [.val (.slice 35 (.ptr 1)), .val (.clo 69 (.pair (.box (.clo 43 (.pair (.box ty0) .unit))) .unit))] (.int .i64) .ro a
def r_tree_all_1 : Nat → ((Option N1) × (((D0) × (Unit)) × (Unit))) → Option ((Bool) × (Unit))
  | 0, _ => none
  | n + 1, a => runOf (S := cx) (tree_all_1.E (r_tree_all n) (r_slices_ContainsFunc_i1 n) (r_slices_IndexFunc_i1 n) (r_tree_all_1 n)) tree_all_1.h fuel Try.f69 [.val (.ptr 1), .val (.box (.clo 43 (.pair (.box ty0) .unit)))] .bool .ro a
end
theorem okr_tree_all : ∀ n, FnOk Try.prog (Fr_tree_all (r_tree_all n)) 42 ∧ FnOk Try.prog (Fr_slices_ContainsFunc_i1 (r_slices_ContainsFunc_i1 n)) 37 ∧ FnOk Try.prog (Fr_slices_IndexFunc_i1 (r_slices_IndexFunc_i1 n)) 65 ∧ FnOk Try.prog (Fr_tree_all_1 (r_tree_all_1 n)) 69
  | 0 => ⟨fn_none (fun _ => rfl), fn_none (fun _ => rfl), fn_none (fun _ => rfl), fn_none (fun _ => rfl)⟩
  | n + 1 => ⟨fn_of (F := Fr_tree_all (r_tree_all (n + 1))) (hn := tree_all.h) (E := tree_all.E (r_tree_all n) (r_slices_ContainsFunc_i1 n) (r_slices_IndexFunc_i1 n) (r_tree_all_1 n)) cxOk (tysT _ _ _) (fs_cons (okr_tree_all n).2.1 (fs_cons ok_tree_Right_1 fs_nil)) follows Try.func42 (by kernel_rfl) (fun a r h => ⟨fuel, Eq.trans (b := (Fr_tree_all (r_tree_all (n + 1))).f a) (by kernel_rfl) h⟩), fn_of (F := Fr_slices_ContainsFunc_i1 (r_slices_ContainsFunc_i1 (n + 1))) (hn := slices_ContainsFunc_i1.h) (E := slices_ContainsFunc_i1.E (r_tree_all n) (r_slices_ContainsFunc_i1 n) (r_slices_IndexFunc_i1 n) (r_tree_all_1 n)) cxOk (tysT _ _ _) (fs_cons (okr_tree_all n).2.2.1 fs_nil) follows Try.func37 (by kernel_rfl) (fun a r h => ⟨fuel, Eq.trans (b := (Fr_slices_ContainsFunc_i1 (r_slices_ContainsFunc_i1 (n + 1))).f a) (by kernel_rfl) h⟩), fn_of (F := Fr_slices_IndexFunc_i1 (r_slices_IndexFunc_i1 (n + 1))) (hn := slices_IndexFunc_i1.h) (E := slices_IndexFunc_i1.E (r_tree_all n) (r_slices_ContainsFunc_i1 n) (r_slices_IndexFunc_i1 n) (r_tree_all_1 n)) cxOk (tysT _ _ _) (fs_cons (okr_tree_all n).2.2.2 fs_nil) follows Try.func65 (by kernel_rfl) (fun a r h => ⟨fuel, Eq.trans (b := (Fr_slices_IndexFunc_i1 (r_slices_IndexFunc_i1 (n + 1))).f a) (by kernel_rfl) h⟩), fn_of (F := Fr_tree_all_1 (r_tree_all_1 (n + 1))) (hn := tree_all_1.h) (E := tree_all_1.E (r_tree_all n) (r_slices_ContainsFunc_i1 n) (r_slices_IndexFunc_i1 n) (r_tree_all_1 n)) cxOk (tysT _ _ _) (fs_cons (okr_tree_all n).1 fs_nil) follows Try.func69 (by kernel_rfl) (fun a r h => ⟨fuel, Eq.trans (b := (Fr_tree_all_1 (r_tree_all_1 (n + 1))).f a) (by kernel_rfl) h⟩)⟩
def s_tree_all (a : (Option N1) × (((D0) × (Unit)) × (Unit))) : Option ((Bool) × (Unit)) := r_tree_all (fuel) a
noncomputable def F_tree_all : FSpec cx.toNm := Fr_tree_all s_tree_all
theorem ok_tree_all : FnOk Try.prog F_tree_all 42 := fun w Z own vs a r h1 h2 h3 h4 => (okr_tree_all (fuel)).1 w Z own vs a r h1 h2 h3 h4
namespace tree_Right
noncomputable def E : Env cx := { tys := tys, fs := fsOf [(36, F_symbols_Right), (42, F_tree_all)], wr := true }
noncomputable def h : Hint := { vs := [0, 1, 2, 4], nil := [], cuts := [], ret := ([4], [2]), ords := [], fns := [(9, [true])] }
end tree_Right
def s_tree_Right (a : (D0) × ((Option N1) × (Unit))) : Option ((Bool) × (Unit)) := runOf (S := cx) tree_Right.E tree_Right.h fuel Try.f19 [.val ty0, .val (.ptr 1)] .bool .ro a
noncomputable def F_tree_Right : FSpec cx.toNm := { ps := [.val ty0, .val (.ptr 1)], nres := 1, rt := .bool, rm := .ro, f := s_tree_Right }
theorem ok_tree_Right : FnOk Try.prog F_tree_Right 19 := fn_of (F := F_tree_Right) (hn := tree_Right.h) (E := tree_Right.E) cxOk (tysT _ _ _) (fs_cons ok_symbols_Right (fs_cons ok_tree_all fs_nil)) follows Try.func19 (by kernel_rfl) (fun a r h => ⟨fuel, Eq.trans (b := F_tree_Right.f a) (by kernel_rfl) h⟩)
namespace tree_Other_1
noncomputable def E : Env cx := { tys := tys, fs := fsOf [(19, F_tree_Right)] }
noncomputable def h : Hint := { vs := [0, 1, 3], nil := [], cuts := [], ret := ([3], []), ords := [] }
end tree_Other_1
def s_tree_Other_1 (a : (Option N1) × ((D0) × (Unit))) : Option ((Bool) × (Unit)) := runOf (S := cx) tree_Other_1.E tree_Other_1.h fuel Try.f38 [.val (.ptr 1), .val (.box ty0)] .bool .ro a
noncomputable def F_tree_Other_1 : FSpec cx.toNm := { ps := [.val (.ptr 1), .val (.box ty0)], nres := 1, rt := .bool, rm := .ro, f := s_tree_Other_1 }
theorem ok_tree_Other_1 : FnOk Try.prog F_tree_Other_1 38 := fn_of (F := F_tree_Other_1) (hn := tree_Other_1.h) (E := tree_Other_1.E) cxOk (tysT _ _ _) (fs_cons ok_tree_Right fs_nil) follows Try.func38 (by kernel_rfl) (fun a r h => ⟨fuel, Eq.trans (b := F_tree_Other_1.f a) (by kernel_rfl) h⟩)
namespace slices_IndexFunc
noncomputable def E : Env cx := { tys := tys, fs := fsOf [(38, F_tree_Other_1)] }
noncomputable def h : Hint := { vs := [0, 1, 4, 5, 7, 8], nil := [], cuts := [(2, ([0, 1, 7, 8], []), ([], [])), (7, ([], []), ([], []))], ret := ([4], []), ords := [] }
end slices_IndexFunc
def s_slices_IndexFunc (a : (List (Option N1)) × (((D0) × (Unit)) × (Unit))) : Option ((Int) × (Unit)) := runOf (S := cx) slices_IndexFunc.E slices_IndexFunc.h fuel Try.f65 [.val (.slice 35 (.ptr 1)), .val (.clo 38 (.pair (.box ty0) .unit))] (.int .i64) .ro a
noncomputable def F_slices_IndexFunc : FSpec cx.toNm := { ps := [.val (.slice 35 (.ptr 1)), .val (.clo 38 (.pair (.box ty0) .unit))], nres := 1, rt := (.int .i64), rm := .ro, f := s_slices_IndexFunc }
theorem ok_slices_IndexFunc : FnOk Try.prog F_slices_IndexFunc 65 := fn_of (F := F_slices_IndexFunc) (hn := slices_IndexFunc.h) (E := slices_IndexFunc.E) cxOk (tysT _ _ _) (fs_cons ok_tree_Other_1 fs_nil) follows Try.func65 (by kernel_rfl) (fun a r h => ⟨fuel, Eq.trans (b := F_slices_IndexFunc.f a) (by kernel_rfl) h⟩)
namespace slices_ContainsFunc
noncomputable def E : Env cx := { tys := tys, fs := fsOf [(65, F_slices_IndexFunc)] }
noncomputable def h : Hint := { vs := [0, 1, 4], nil := [], cuts := [], ret := ([4], []), ords := [] }
end slices_ContainsFunc
def s_slices_ContainsFunc (a : (List (Option N1)) × (((D0) × (Unit)) × (Unit))) : Option ((Bool) × (Unit)) := runOf (S := cx) slices_ContainsFunc.E slices_ContainsFunc.h fuel Try.f37 [.val (.slice 35 (.ptr 1)), .val (.clo 38 (.pair (.box ty0) .unit))] .bool .ro a
noncomputable def F_slices_ContainsFunc : FSpec cx.toNm := { ps := [.val (.slice 35 (.ptr 1)), .val (.clo 38 (.pair (.box ty0) .unit))], nres := 1, rt := .bool, rm := .ro, f := s_slices_ContainsFunc }
theorem ok_slices_ContainsFunc : FnOk Try.prog F_slices_ContainsFunc 37 := fn_of (F := F_slices_ContainsFunc) (hn := slices_ContainsFunc.h) (E := slices_ContainsFunc.E) cxOk (tysT _ _ _) (fs_cons ok_slices_IndexFunc fs_nil) follows Try.func37 (by kernel_rfl) (fun a r h => ⟨fuel, Eq.trans (b := F_slices_ContainsFunc.f a) (by kernel_rfl) h⟩)
namespace slices_Clone
noncomputable def E : Env cx := { tys := tys, fs := fsOf [] }
abbrev R := Option ((List (Option N1)) × (Unit))
abbrev C := Exit → ST cx → R
noncomputable def b : Code := bodyC Try.f39
noncomputable def h : Hint := { vs := [0, 2], nil := [(2, (.own .ro)), (5, (.own .ro))], cuts := [], ret := ([2], []), ords := [] }
noncomputable def K0 : C := fin (S := cx) E Try.f39.results.toList (.slice 35 (.ptr 1)) (.own .ro) [] []
noncomputable def c0 : Code := subC b [1]
noncomputable def K1 (k : Nat) : C := outD h c0 K0
noncomputable def K2 (k : Nat) : C := seqC E h k c0 K0
noncomputable def c1 : Code := subC b [1, 1]
noncomputable def K3 (k : Nat) : C := outD h c1 (K1 k)
noncomputable def K4 (k : Nat) : C := seqC E h k c1 (K1 k)
noncomputable def c2 : Code := subC b [1, 0, 1]
noncomputable def K5 (k : Nat) : C := outD h c2 (K4 k)
noncomputable def K6 (k : Nat) : C := seqC E h k c2 (K4 k)
noncomputable def c3 : Code := subC b [1, 0, 1, 0, 1]
noncomputable def K7 (k : Nat) : C := outD h c3 (K5 k)
noncomputable def K8 (k : Nat) : C := seqC E h k c3 (K5 k)
noncomputable def c4 : Code := subC b [1, 1, 1]
noncomputable def K9 (k : Nat) : C := outD h c4 (K3 k)
noncomputable def K10 (k : Nat) : C := seqC E h k c4 (K3 k)
abbrev T0 := (List (Option N1)) → R
noncomputable def u0 (k : Nat) : T0 := fun (x0 : List (Option N1)) => runOf (S := cx) E h k Try.f39 [.val (.slice 35 (.ptr 1))] (.slice 35 (.ptr 1)) (.own .ro) (x0, ())
def t0 : T0 := fun (x0 : List (Option N1)) => 
  (nilR (List.isEmpty x0) (some (([] : List (Option N1)), ())) (mustR (room ([] : List (Option N1)) x0) (some ((([] : List (Option N1)) ++ x0), ()))))
theorem e0 (k : Nat) : u0 k = t0 := by kernel_rfl
def p0 (k : Nat) : T0 := t0
theorem o0 (k : Nat) : u0 k = p0 k := (Eq.trans (b := t0) (e0 k) (by kernel_rfl))
end slices_Clone
def s_slices_Clone (a : (List (Option N1)) × (Unit)) : Option ((List (Option N1)) × (Unit)) := slices_Clone.p0 (fuel) a.1
noncomputable def F_slices_Clone : FSpec cx.toNm := { ps := [.val (.slice 35 (.ptr 1))], nres := 1, rt := (.slice 35 (.ptr 1)), rm := (.own .ro), f := s_slices_Clone }
theorem w_slices_Clone (a : (List (Option N1)) × (Unit)) : runOf (S := cx) slices_Clone.E slices_Clone.h (fuel) Try.f39 F_slices_Clone.ps F_slices_Clone.rt F_slices_Clone.rm a = s_slices_Clone a := Eq.trans (b := slices_Clone.u0 (fuel) a.1) (by kernel_rfl) (Eq.trans (b := slices_Clone.p0 (fuel) a.1) (congrFun (slices_Clone.o0 (fuel)) a.1) (by kernel_rfl))
theorem ok_slices_Clone : FnOk Try.prog F_slices_Clone 39 := fn_of (F := F_slices_Clone) (hn := slices_Clone.h) (E := slices_Clone.E) cxOk (tysT _ _ _) fs_nil follows Try.func39 (by kernel_rfl) (fun a r h => ⟨fuel, Eq.trans (w_slices_Clone a) h⟩)
namespace tree_Other
noncomputable def E : Env cx := { tys := tys, fs := fsOf [(36, F_symbols_Right), (37, F_slices_ContainsFunc), (39, F_slices_Clone), (40, F_tree_toks), (41, F_tree_fits)], wr := true }
noncomputable def h : Hint := { vs := [0, 1, 2, 3, 6, 7, 8], nil := [], cuts := [(2, ([1, 2, 3, 27], [3]), ([1, 2, 3], [3])), (3, ([1, 2, 3], [3]), ([1, 2, 3], [3]))], ret := ([6, 7], [3, 40]), ords := [(3, [0, 1, 2, 3, 4, 5, 6, 7, 9, 8, 10, 11, 12, 13])], fns := [(25, [true])] }
end tree_Other
def s_tree_Other (a : (D0) × ((Int) × ((List (Option N1)) × (Unit)))) : Option (((Option N1) × (Int)) × (Unit)) := runOf (S := cx) tree_Other.E tree_Other.h fuel Try.f15 [.val ty0, .val (.int .i64), .val (.slice 35 (.ptr 1))] (.pair (.ptr 1) (.int .i64)) .ro a
noncomputable def F_tree_Other : FSpec cx.toNm := { ps := [.val ty0, .val (.int .i64), .val (.slice 35 (.ptr 1))], nres := 2, rt := (.pair (.ptr 1) (.int .i64)), rm := .ro, f := s_tree_Other }
theorem ok_tree_Other : FnOk Try.prog F_tree_Other 15 := fn_of (F := F_tree_Other) (hn := tree_Other.h) (E := tree_Other.E) cxOk (tysT _ _ _) (fs_cons ok_symbols_Right (fs_cons ok_slices_ContainsFunc (fs_cons ok_slices_Clone (fs_cons ok_tree_toks (fs_cons ok_tree_fits fs_nil))))) follows Try.func15 (by kernel_rfl) (fun a r h => ⟨fuel, Eq.trans (b := F_tree_Other.f a) (by kernel_rfl) h⟩)
namespace tree_Token
noncomputable def E : Env cx := { tys := tys, fs := fsOf [] }
noncomputable def h : Hint := { vs := [0, 1, 4], nil := [], cuts := [], ret := ([4], [8]), ords := [] }
end tree_Token
def s_tree_Token (a : (Int) × ((List UInt8) × (Unit))) : Option ((Option N1) × (Unit)) := runOf (S := cx) tree_Token.E tree_Token.h fuel Try.f11 [.val (.int .i64), .val .str] (.ptr 1) .ro a
noncomputable def F_tree_Token : FSpec cx.toNm := { ps := [.val (.int .i64), .val .str], nres := 1, rt := (.ptr 1), rm := .ro, f := s_tree_Token }
theorem ok_tree_Token : FnOk Try.prog F_tree_Token 11 := fn_of (F := F_tree_Token) (hn := tree_Token.h) (E := tree_Token.E) cxOk (tysT _ _ _) fs_nil follows Try.func11 (by kernel_rfl) (fun a r h => ⟨fuel, Eq.trans (b := F_tree_Token.f a) (by kernel_rfl) h⟩)
namespace law15_small
noncomputable def E : Env cx := { tys := tys, fs := fsOf [] }
noncomputable def h : Hint := { vs := [0], nil := [], cuts := [], ret := ([0], [0]), ords := [] }
end law15_small
def s_law15_small (a : Unit) : Option ((D0) × (Unit)) := runOf (S := cx) law15_small.E law15_small.h fuel Try.f30 [] ty0 .ro a
noncomputable def F_law15_small : FSpec cx.toNm := { ps := [], nres := 1, rt := ty0, rm := .ro, f := s_law15_small }
theorem ok_law15_small : FnOk Try.prog F_law15_small 30 := fn_of (F := F_law15_small) (hn := law15_small.h) (E := law15_small.E) cxOk (tysT _ _ _) fs_nil follows Try.func30 (by kernel_rfl) (fun a r h => ⟨fuel, Eq.trans (b := F_law15_small.f a) (by kernel_rfl) h⟩)
namespace tree_nameOf
noncomputable def E : Env cx := { tys := tys, fs := fsOf [] }
noncomputable def h : Hint := { vs := [0, 1, 2, 4], nil := [], cuts := [(2, ([1, 2, 13], [2]), ([1, 2], [2])), (3, ([1, 2], [2]), ([1, 2], [2]))], ret := ([4], [2]), ords := [] }
end tree_nameOf
def s_tree_nameOf (a : (D0) × ((Int) × (Unit))) : Option ((List UInt8) × (Unit)) := runOf (S := cx) tree_nameOf.E tree_nameOf.h fuel Try.f47 [.val ty0, .val (.int .i64)] .str .ro a
noncomputable def F_tree_nameOf : FSpec cx.toNm := { ps := [.val ty0, .val (.int .i64)], nres := 1, rt := .str, rm := .ro, f := s_tree_nameOf }
theorem ok_tree_nameOf : FnOk Try.prog F_tree_nameOf 47 := fn_of (F := F_tree_nameOf) (hn := tree_nameOf.h) (E := tree_nameOf.E) cxOk (tysT _ _ _) fs_nil follows Try.func47 (by kernel_rfl) (fun a r h => ⟨fuel, Eq.trans (b := F_tree_nameOf.f a) (by kernel_rfl) h⟩)
noncomputable def Fr_tree_Show (f : ((D0) × ((Option N1) × (Unit))) → Option ((List UInt8) × (Unit))) : FSpec cx.toNm := { ps := [.val ty0, .val (.ptr 1)], nres := 1, rt := .str, rm := .ro, f := f }
namespace tree_Show
noncomputable def E (sf_tree_Show : ((D0) × ((Option N1) × (Unit))) → Option ((List UInt8) × (Unit))) : Env cx := { tys := tys, fs := fsOf [(31, (Fr_tree_Show sf_tree_Show)), (47, F_tree_nameOf), (48, F_Join)] }
noncomputable def h : Hint := { vs := [0, 1, 2, 4, 5, 7, 30, 31, 32], nil := [(5, (.own .ro))], cuts := [(7, ([1, 2, 5, 30, 31, 32], [2]), ([1, 2, 5], [2])), (11, ([1, 2, 5], [2]), ([1, 2, 5], [2]))], ret := ([4], [2]), ords := [(4, [0, 1, 2, 3, 4, 7, 8, 9, 10, 5, 6, 11, 12]), (11, [0, 1, 2, 3, 4, 7, 5, 6, 8, 9, 10, 11])] }
end tree_Show
def r_tree_Show : Nat → ((D0) × ((Option N1) × (Unit))) → Option ((List UInt8) × (Unit))
  | 0, _ => none
  | n + 1, a => runOf (S := cx) (tree_Show.E (r_tree_Show n)) tree_Show.h fuel Try.f31 [.val ty0, .val (.ptr 1)] .str .ro a
theorem okr_tree_Show : ∀ n, FnOk Try.prog (Fr_tree_Show (r_tree_Show n)) 31
  | 0 => fn_none (fun _ => rfl)
  | n + 1 => fn_of (F := Fr_tree_Show (r_tree_Show (n + 1))) (hn := tree_Show.h) (E := tree_Show.E (r_tree_Show n)) cxOk (tysT _ _ _) (fs_cons (okr_tree_Show n) (fs_cons ok_tree_nameOf (fs_cons ok_Join fs_nil))) follows Try.func31 (by kernel_rfl) (fun a r h => ⟨fuel, Eq.trans (b := (Fr_tree_Show (r_tree_Show (n + 1))).f a) (by kernel_rfl) h⟩)
def s_tree_Show (a : (D0) × ((Option N1) × (Unit))) : Option ((List UInt8) × (Unit)) := r_tree_Show (fuel) a
noncomputable def F_tree_Show : FSpec cx.toNm := Fr_tree_Show s_tree_Show
theorem ok_tree_Show : FnOk Try.prog F_tree_Show 31 := fun w Z own vs a r h1 h2 h3 h4 => (okr_tree_Show (fuel)) w Z own vs a r h1 h2 h3 h4
namespace tree_At
noncomputable def E : Env cx := { tys := tys, fs := fsOf [] }
abbrev R := Option (((Option N1) × (Bool)) × (Unit))
abbrev C := Exit → ST cx → R
noncomputable def b : Code := bodyC Try.f28
noncomputable def h : Hint := { vs := [0, 1, 4, 5, 7, 8, 9, 10], nil := [], cuts := [(2, ([0, 8, 9, 10], []), ([0], [])), (5, ([0, 7, 8, 9, 10, 28], []), ([0, 7, 8, 9, 10], [])), (6, ([0, 7, 8, 9, 10], []), ([0, 8, 9, 10], [])), (7, ([0, 8, 9, 10], []), ([0, 8, 9, 10], [])), (8, ([0], []), ([0], []))], ret := ([4, 5], []), ords := [] }
noncomputable def K0 : C := fin (S := cx) E Try.f28.results.toList (.pair (.ptr 1) .bool) .ro [] []
noncomputable def c0 : Code := subC b [1]
noncomputable def K1 (k : Nat) : C := outD h c0 K0
noncomputable def K2 (k : Nat) : C := seqC E h k c0 K0
noncomputable def c1 : Code := subC b [1, 1]
noncomputable def K3 (k : Nat) : C := outD h c1 (K1 k)
noncomputable def K4 (k : Nat) : C := seqC E h k c1 (K1 k)
noncomputable def c2 : Code := subC b [1, 0, 1]
noncomputable def K5 (k : Nat) : C := outD h c2 (K4 k)
noncomputable def K6 (k : Nat) : C := seqC E h k c2 (K4 k)
noncomputable def K7 (k : Nat) : C := blockK 0 (K5 k)
noncomputable def c3 : Code := subC b [1, 0, 1, 0, 0]
noncomputable def K8 (k n1 : Nat) : C := loopD E h k c3 (K7 k) n1
noncomputable def c4 : Code := subC b [1, 0, 1, 0, 0, 1]
noncomputable def K9 (k n1 : Nat) : C := outD h c4 (K8 k n1)
noncomputable def K10 (k n1 : Nat) : C := seqC E h k c4 (K8 k n1)
noncomputable def c5 : Code := subC b [1, 0, 1, 0, 0, 1, 1]
noncomputable def K11 (k n1 : Nat) : C := outD h c5 (K9 k n1)
noncomputable def K12 (k n1 : Nat) : C := seqC E h k c5 (K9 k n1)
noncomputable def c6 : Code := subC b [1, 0, 1, 0, 0, 1, 1, 1]
noncomputable def K13 (k n1 : Nat) : C := outD h c6 (K11 k n1)
noncomputable def K14 (k n1 : Nat) : C := seqC E h k c6 (K11 k n1)
noncomputable def K15 (k n1 : Nat) : C := blockK 1 (K14 k n1)
noncomputable def c7 : Code := subC b [1, 0, 1, 0, 0, 1, 1, 0, 0, 1]
noncomputable def K16 (k n1 : Nat) : C := outD h c7 (K15 k n1)
noncomputable def K17 (k n1 : Nat) : C := seqC E h k c7 (K15 k n1)
noncomputable def c8 : Code := subC b [1, 0, 1, 0, 0, 1, 1, 0, 0, 1, 1]
noncomputable def K18 (k n1 : Nat) : C := outD h c8 (K16 k n1)
noncomputable def K19 (k n1 : Nat) : C := seqC E h k c8 (K16 k n1)
noncomputable def c9 : Code := subC b [1, 0, 1, 0, 0, 1, 1, 0, 0, 1, 0, 1]
noncomputable def K20 (k n1 : Nat) : C := outD h c9 (K19 k n1)
noncomputable def K21 (k n1 : Nat) : C := seqC E h k c9 (K19 k n1)
noncomputable def c10 : Code := subC b [1, 0, 1, 0, 0, 1, 1, 0, 0, 1, 0, 1, 0, 1]
noncomputable def K22 (k n1 : Nat) : C := outD h c10 (K20 k n1)
noncomputable def K23 (k n1 : Nat) : C := seqC E h k c10 (K20 k n1)
noncomputable def c11 : Code := subC b [1, 1, 1]
noncomputable def K24 (k : Nat) : C := outD h c11 (K3 k)
noncomputable def K25 (k : Nat) : C := seqC E h k c11 (K3 k)
abbrev T5 := (Option N1) → (List (Int)) → Int → Int → R
abbrev T4 := (Option N1) → Int → (List (Int)) → Int → Int → R
abbrev T2 := (Option N1) → Int → (List (Int)) → Int → Int → Bool → R
abbrev T3 := (Option N1) → R
abbrev T1 := (Option N1) → (List (Int)) → Int → Int → R
abbrev T0 := (Option N1) → (List (Int)) → R
abbrev s5 : (Option N1) → (List (Int)) → Int → Int → ST cx := fun (x0 : Option N1) (x8 : List (Int)) (x9 x10 : Int) => ({ vars := [(0, .v (.ptr 1) .ro x0), (8, .v (.slice 3 (.int .i64)) .ro x8), (9, .v (.int .i64) .ro x9), (10, .v (.int .i64) .ro x10)], scr := [], mems := [] } : ST cx)
noncomputable def u5 (k n1 : Nat) : T5 := fun (x0 : Option N1) (x8 : List (Int)) (x9 x10 : Int) => uK (run E h k c6) (s5 x0 x8 x9 x10) (K13 k n1)
noncomputable abbrev l5 (k n1 : Nat) : T5 := fun (x0 : Option N1) (x8 : List (Int)) (x9 x10 : Int) => cutK (run E h k c6) (s5 x0 x8 x9 x10) (K13 k n1)
abbrev s4 : (Option N1) → Int → (List (Int)) → Int → Int → ST cx := fun (x0 : Option N1) (x7 : Int) (x8 : List (Int)) (x9 x10 : Int) => ({ vars := [(0, .v (.ptr 1) .ro x0), (7, .v (.int .i64) .ro x7), (8, .v (.slice 3 (.int .i64)) .ro x8), (9, .v (.int .i64) .ro x9), (10, .v (.int .i64) .ro x10)], scr := [], mems := [] } : ST cx)
noncomputable def u4 (k n1 : Nat) : T4 := fun (x0 : Option N1) (x7 : Int) (x8 : List (Int)) (x9 x10 : Int) => uK (run E h k c8) (s4 x0 x7 x8 x9 x10) (K18 k n1)
noncomputable abbrev l4 (k n1 : Nat) : T4 := fun (x0 : Option N1) (x7 : Int) (x8 : List (Int)) (x9 x10 : Int) => cutK (run E h k c8) (s4 x0 x7 x8 x9 x10) (K18 k n1)
abbrev s2 : (Option N1) → Int → (List (Int)) → Int → Int → Bool → ST cx := fun (x0 : Option N1) (x7 : Int) (x8 : List (Int)) (x9 x10 : Int) (x28 : Bool) => ({ vars := [(0, .v (.ptr 1) .ro x0), (7, .v (.int .i64) .ro x7), (8, .v (.slice 3 (.int .i64)) .ro x8), (9, .v (.int .i64) .ro x9), (10, .v (.int .i64) .ro x10), (28, .v .bool .ro x28)], scr := [], mems := [] } : ST cx)
noncomputable def u2 (k n1 : Nat) : T2 := fun (x0 : Option N1) (x7 : Int) (x8 : List (Int)) (x9 x10 : Int) (x28 : Bool) => uK (run E h k c9) (s2 x0 x7 x8 x9 x10 x28) (K20 k n1)
noncomputable abbrev l2 (k n1 : Nat) : T2 := fun (x0 : Option N1) (x7 : Int) (x8 : List (Int)) (x9 x10 : Int) (x28 : Bool) => cutK (run E h k c9) (s2 x0 x7 x8 x9 x10 x28) (K20 k n1)
abbrev s3 : (Option N1) → ST cx := fun (x0 : Option N1) => ({ vars := [(0, .v (.ptr 1) .ro x0)], scr := [], mems := [] } : ST cx)
noncomputable def u3 (k : Nat) : T3 := fun (x0 : Option N1) => uK (run E h k c1) (s3 x0) (K3 k)
noncomputable abbrev l3 (k : Nat) : T3 := fun (x0 : Option N1) => cutK (run E h k c1) (s3 x0) (K3 k)
abbrev s1 : (Option N1) → (List (Int)) → Int → Int → ST cx := fun (x0 : Option N1) (x8 : List (Int)) (x9 x10 : Int) => ({ vars := [(0, .v (.ptr 1) .ro x0), (8, .v (.slice 3 (.int .i64)) .ro x8), (9, .v (.int .i64) .ro x9), (10, .v (.int .i64) .ro x10)], scr := [], mems := [] } : ST cx)
noncomputable def u1 (k n1 : Nat) : T1 := fun (x0 : Option N1) (x8 : List (Int)) (x9 x10 : Int) => uK (loopL E h k c3 (K7 k) n1) (s1 x0 x8 x9 x10) ()
noncomputable abbrev l1 (k n1 : Nat) : T1 := fun (x0 : Option N1) (x8 : List (Int)) (x9 x10 : Int) => cutK (loopL E h k c3 (K7 k) n1) (s1 x0 x8 x9 x10) ()
noncomputable def u0 (k : Nat) : T0 := fun (x0 : Option N1) (x1 : List (Int)) => runOf (S := cx) E h k Try.f28 [.val (.ptr 1), .val (.slice 3 (.int .i64))] (.pair (.ptr 1) .bool) .ro (x0, x1, ())
def t5 (f1 : T1) : T5 := fun (x0 : Option N1) (x8 : List (Int)) (x9 x10 : Int) => 
  (f1 x0 x8 x9 (w64 (x10 + (1 : Int))))
theorem e5 (k n1 : Nat) : u5 k n1 = t5 (l1 k n1) := by kernel_rfl
theorem g5 (k n1 : Nat) : l5 k n1 = u5 k n1 := funext fun _ => funext fun _ => funext fun _ => funext fun _ => cut_u _ _ _
theorem d5 {x1 y1 : T1} (h1 : x1 = y1) : t5 x1 = t5 y1 := by subst h1; rfl
def p5 (k : Nat) (a1 : T1) : T5 := t5 a1
theorem o5 (k n1 : Nat) (a1 : T1) (h1 : l1 k n1 = a1) : l5 k n1 = p5 k a1 := (Eq.trans (b := u5 k n1) (g5 k n1) (Eq.trans (b := t5 (l1 k n1)) (e5 k n1) (Eq.trans (b := t5 a1) (d5 h1) (by kernel_rfl))))
def t4 (f5 : T5) : T4 := fun (x0 : Option N1) (x7 : Int) (x8 : List (Int)) (x9 x10 : Int) => 
  (bindR x0 fun z3 => (withinR x7 (List.length (out1 z3).2.2.2.1) fun q4 => (f5 (List.getD (out1 z3).2.2.2.1 q4 none) x8 x9 x10)))
theorem e4 (k n1 : Nat) : u4 k n1 = t4 (l5 k n1) := by kernel_rfl
theorem g4 (k n1 : Nat) : l4 k n1 = u4 k n1 := funext fun _ => funext fun _ => funext fun _ => funext fun _ => funext fun _ => cut_u _ _ _
theorem d4 {x5 y5 : T5} (h5 : x5 = y5) : t4 x5 = t4 y5 := by subst h5; rfl
def p4 (k : Nat) (a1 : T1) : T4 := t4 (p5 k a1)
theorem o4 (k n1 : Nat) (a1 : T1) (h1 : l1 k n1 = a1) : l4 k n1 = p4 k a1 := (Eq.trans (b := u4 k n1) (g4 k n1) (Eq.trans (b := t4 (l5 k n1)) (e4 k n1) (Eq.trans (b := t4 (p5 k a1)) (d4 (o5 k n1 a1 h1)) (by kernel_rfl))))
def t2 (f4 : T4) : T2 := fun (x0 : Option N1) (x7 : Int) (x8 : List (Int)) (x9 x10 : Int) (x28 : Bool) => 
  (iteB x28 (some ((none, false), ())) (f4 x0 x7 x8 x9 x10))
theorem e2 (k n1 : Nat) : u2 k n1 = t2 (l4 k n1) := by kernel_rfl
theorem g2 (k n1 : Nat) : l2 k n1 = u2 k n1 := funext fun _ => funext fun _ => funext fun _ => funext fun _ => funext fun _ => funext fun _ => cut_u _ _ _
theorem d2 {x4 y4 : T4} (h4 : x4 = y4) : t2 x4 = t2 y4 := by subst h4; rfl
def p2 (k : Nat) (a1 : T1) : T2 := t2 (p4 k a1)
theorem o2 (k n1 : Nat) (a1 : T1) (h1 : l1 k n1 = a1) : l2 k n1 = p2 k a1 := (Eq.trans (b := u2 k n1) (g2 k n1) (Eq.trans (b := t2 (l4 k n1)) (e2 k n1) (Eq.trans (b := t2 (p4 k a1)) (d2 (o4 k n1 a1 h1)) (by kernel_rfl))))
def t3 : T3 := fun (x0 : Option N1) => 
  (some ((x0, (!(Option.isNone x0))), ()))
theorem e3 (k : Nat) : u3 k = t3 := by kernel_rfl
theorem g3 (k : Nat) : l3 k = u3 k := funext fun _ => cut_u _ _ _
def p3 (k : Nat) : T3 := t3
theorem o3 (k : Nat) : l3 k = p3 k := (Eq.trans (b := u3 k) (g3 k) (Eq.trans (b := t3) (e3 k) (by kernel_rfl)))
def t1 (f2 : T2) (f3 : T3) : T1 := fun (x0 : Option N1) (x8 : List (Int)) (x9 x10 : Int) => 
  (iteB (decide (x10 < x9)) (withinR x10 (List.length x8) fun q1 => (iteB (Option.isNone x0) (f2 x0 (List.getD x8 q1 (0 : Int)) x8 x9 x10 true) (iteB (decide ((List.getD x8 q1 (0 : Int)) < (0 : Int))) (f2 x0 (List.getD x8 q1 (0 : Int)) x8 x9 x10 true) (bindR x0 fun z2 => (f2 x0 (List.getD x8 q1 (0 : Int)) x8 x9 x10 (decide (((List.length (out1 z2).2.2.2.1 : Nat) : Int) ≤ (List.getD x8 q1 (0 : Int))))))))) (f3 x0))
theorem e1 (k n1 : Nat) : u1 k (n1 + 1) = t1 (l2 k n1) (l3 k) := by kernel_rfl
theorem g1 (k n1 : Nat) : l1 k (n1 + 1) = u1 k (n1 + 1) := funext fun _ => funext fun _ => funext fun _ => funext fun _ => cut_u _ _ _
theorem d1 {x2 y2 : T2} {x3 y3 : T3} (h2 : x2 = y2) (h3 : x3 = y3) : t1 x2 x3 = t1 y2 y3 := by subst h2; subst h3; rfl
def p1 (k : Nat) : Nat → T1
  | 0 => fun _ _ _ _ => none
  | n1 + 1 => t1 (p2 k (p1 k n1)) (p3 k)
theorem o1 (k : Nat) : ∀ n1, l1 k n1 = p1 k n1 := by
  intro n1
  induction n1 with
  | zero => kernel_rfl
  | succ n1 ih => exact (Eq.trans (b := u1 k (n1 + 1)) (g1 k n1) (Eq.trans (b := t1 (l2 k n1) (l3 k)) (e1 k n1) (Eq.trans (b := t1 (p2 k (p1 k n1)) (p3 k)) (d1 (o2 k n1 (p1 k n1) ih) (o3 k)) (by kernel_rfl))))
def t0 (f1 : T1) : T0 := fun (x0 : Option N1) (x1 : List (Int)) => 
  (f1 x0 x1 ((List.length x1 : Nat) : Int) (0 : Int))
theorem e0 (k : Nat) : u0 k = t0 (l1 k k) := by kernel_rfl
theorem d0 {x1 y1 : T1} (h1 : x1 = y1) : t0 x1 = t0 y1 := by subst h1; rfl
def p0 (k : Nat) : T0 := t0 (p1 k k)
theorem o0 (k : Nat) : u0 k = p0 k := (Eq.trans (b := t0 (l1 k k)) (e0 k) (Eq.trans (b := t0 (p1 k k)) (d0 (o1 k k)) (by kernel_rfl)))
end tree_At
def s_tree_At (a : (Option N1) × ((List (Int)) × (Unit))) : Option (((Option N1) × (Bool)) × (Unit)) := tree_At.p0 (fuel) a.1 a.2.1
noncomputable def F_tree_At : FSpec cx.toNm := { ps := [.val (.ptr 1), .val (.slice 3 (.int .i64))], nres := 2, rt := (.pair (.ptr 1) .bool), rm := .ro, f := s_tree_At }
theorem w_tree_At (a : (Option N1) × ((List (Int)) × (Unit))) : runOf (S := cx) tree_At.E tree_At.h (fuel) Try.f28 F_tree_At.ps F_tree_At.rt F_tree_At.rm a = s_tree_At a := Eq.trans (b := tree_At.u0 (fuel) a.1 a.2.1) (by kernel_rfl) (Eq.trans (b := tree_At.p0 (fuel) a.1 a.2.1) (congrFun (congrFun (tree_At.o0 (fuel)) a.1) a.2.1) (by kernel_rfl))
theorem ok_tree_At : FnOk Try.prog F_tree_At 28 := fn_of (F := F_tree_At) (hn := tree_At.h) (E := tree_At.E) cxOk (tysT _ _ _) fs_nil follows Try.func28 (by kernel_rfl) (fun a r h => ⟨fuel, Eq.trans (w_tree_At a) h⟩)
namespace law15_alive
noncomputable def E : Env cx := { tys := tys, fs := fsOf [(11, F_tree_Token), (15, F_tree_Other), (19, F_tree_Right), (28, F_tree_At), (30, F_law15_small), (31, F_tree_Show)] }
noncomputable def h : Hint := { vs := [0, 1, 2, 3, 4, 5, 6, 7], nil := [], cuts := [(5, ([1, 4, 37], [1]), ([1, 4], [1])), (6, ([1, 4], [1]), ([1, 4], [1]))], ret := ([0], [1]), ords := [(3, [0, 2, 1, 3, 4, 5, 6, 7, 8, 9])] }
end law15_alive
def s_law15_alive (a : Unit) : Option ((Bool) × (Unit)) := runOf (S := cx) law15_alive.E law15_alive.h fuel Try.f7 [] .bool .ro a
noncomputable def F_law15_alive : FSpec cx.toNm := { ps := [], nres := 1, rt := .bool, rm := .ro, f := s_law15_alive }
theorem ok_law15_alive : FnOk Try.prog F_law15_alive 7 := fn_of (F := F_law15_alive) (hn := law15_alive.h) (E := law15_alive.E) cxOk (tysT _ _ _) (fs_cons ok_tree_Token (fs_cons ok_tree_Other (fs_cons ok_tree_Right (fs_cons ok_tree_At (fs_cons ok_law15_small (fs_cons ok_tree_Show fs_nil)))))) follows Try.func7 (by kernel_rfl) (fun a r h => ⟨fuel, Eq.trans (b := F_law15_alive.f a) (by kernel_rfl) h⟩)
noncomputable def Fr_ref15_Of (f : ((D2) × (Unit)) → Option ((Option N1) × (Unit))) : FSpec cx.toNm := { ps := [.val ty2], nres := 1, rt := (.ptr 1), rm := .ro, f := f }
namespace ref15_Of
noncomputable def E (sf_ref15_Of : ((D2) × (Unit)) → Option ((Option N1) × (Unit))) : Env cx := { tys := tys, fs := fsOf [(18, (Fr_ref15_Of sf_ref15_Of))] }
abbrev R := Option ((Option N1) × (Unit))
abbrev C := Exit → ST cx → R
noncomputable def b : Code := bodyC Try.f18
noncomputable def h : Hint := { vs := [0, 1, 2, 3, 4], nil := [(17, (.pr .ro (.pr .ro (.pr .ro (.pr (.own .ro) .ro)))))], cuts := [(5, ([1, 3, 4], [1, 18]), ([3], [18])), (8, ([3], [18]), ([3], [18]))], ret := ([2], [1, 18]), ords := [] }
noncomputable def K0 (sf_ref15_Of : ((D2) × (Unit)) → Option ((Option N1) × (Unit))) : C := fin (S := cx) (E sf_ref15_Of) Try.f18.results.toList (.ptr 1) .ro [] []
noncomputable def c0 : Code := subC b [1]
noncomputable def K1 (sf_ref15_Of : ((D2) × (Unit)) → Option ((Option N1) × (Unit))) (k : Nat) : C := outD h c0 (K0 sf_ref15_Of)
noncomputable def K2 (sf_ref15_Of : ((D2) × (Unit)) → Option ((Option N1) × (Unit))) (k : Nat) : C := seqC (E sf_ref15_Of) h k c0 (K0 sf_ref15_Of)
noncomputable def c1 : Code := subC b [1, 1]
noncomputable def K3 (sf_ref15_Of : ((D2) × (Unit)) → Option ((Option N1) × (Unit))) (k : Nat) : C := outD h c1 (K1 sf_ref15_Of k)
noncomputable def K4 (sf_ref15_Of : ((D2) × (Unit)) → Option ((Option N1) × (Unit))) (k : Nat) : C := seqC (E sf_ref15_Of) h k c1 (K1 sf_ref15_Of k)
noncomputable def c2 : Code := subC b [1, 0, 1]
noncomputable def K5 (sf_ref15_Of : ((D2) × (Unit)) → Option ((Option N1) × (Unit))) (k : Nat) : C := outD h c2 (K4 sf_ref15_Of k)
noncomputable def K6 (sf_ref15_Of : ((D2) × (Unit)) → Option ((Option N1) × (Unit))) (k : Nat) : C := seqC (E sf_ref15_Of) h k c2 (K4 sf_ref15_Of k)
noncomputable def c3 : Code := subC b [1, 0, 1, 0, 1]
noncomputable def K7 (sf_ref15_Of : ((D2) × (Unit)) → Option ((Option N1) × (Unit))) (k : Nat) : C := outD h c3 (K5 sf_ref15_Of k)
noncomputable def K8 (sf_ref15_Of : ((D2) × (Unit)) → Option ((Option N1) × (Unit))) (k : Nat) : C := seqC (E sf_ref15_Of) h k c3 (K5 sf_ref15_Of k)
noncomputable def c4 : Code := subC b [1, 1, 1]
noncomputable def K9 (sf_ref15_Of : ((D2) × (Unit)) → Option ((Option N1) × (Unit))) (k : Nat) : C := outD h c4 (K3 sf_ref15_Of k)
noncomputable def K10 (sf_ref15_Of : ((D2) × (Unit)) → Option ((Option N1) × (Unit))) (k : Nat) : C := seqC (E sf_ref15_Of) h k c4 (K3 sf_ref15_Of k)
noncomputable def c5 : Code := subC b [1, 1, 1, 1]
noncomputable def K11 (sf_ref15_Of : ((D2) × (Unit)) → Option ((Option N1) × (Unit))) (k : Nat) : C := outD h c5 (K9 sf_ref15_Of k)
noncomputable def K12 (sf_ref15_Of : ((D2) × (Unit)) → Option ((Option N1) × (Unit))) (k : Nat) : C := seqC (E sf_ref15_Of) h k c5 (K9 sf_ref15_Of k)
noncomputable def c6 : Code := subC b [1, 1, 1, 0, 1]
noncomputable def K13 (sf_ref15_Of : ((D2) × (Unit)) → Option ((Option N1) × (Unit))) (k : Nat) : C := outD h c6 (K12 sf_ref15_Of k)
noncomputable def K14 (sf_ref15_Of : ((D2) × (Unit)) → Option ((Option N1) × (Unit))) (k : Nat) : C := seqC (E sf_ref15_Of) h k c6 (K12 sf_ref15_Of k)
noncomputable def K15 (sf_ref15_Of : ((D2) × (Unit)) → Option ((Option N1) × (Unit))) (k : Nat) : C := blockK 0 (K13 sf_ref15_Of k)
noncomputable def c7 : Code := subC b [1, 1, 1, 0, 1, 0, 0]
noncomputable def K16 (sf_ref15_Of : ((D2) × (Unit)) → Option ((Option N1) × (Unit))) (k n1 : Nat) : C := loopD (E sf_ref15_Of) h k c7 (K15 sf_ref15_Of k) n1
noncomputable def c8 : Code := subC b [1, 1, 1, 0, 1, 0, 0, 1]
noncomputable def K17 (sf_ref15_Of : ((D2) × (Unit)) → Option ((Option N1) × (Unit))) (k n1 : Nat) : C := outD h c8 (K16 sf_ref15_Of k n1)
noncomputable def K18 (sf_ref15_Of : ((D2) × (Unit)) → Option ((Option N1) × (Unit))) (k n1 : Nat) : C := seqC (E sf_ref15_Of) h k c8 (K16 sf_ref15_Of k n1)
noncomputable def c9 : Code := subC b [1, 1, 1, 0, 1, 0, 0, 0, 1]
noncomputable def K19 (sf_ref15_Of : ((D2) × (Unit)) → Option ((Option N1) × (Unit))) (k n1 : Nat) : C := outD h c9 (K18 sf_ref15_Of k n1)
noncomputable def K20 (sf_ref15_Of : ((D2) × (Unit)) → Option ((Option N1) × (Unit))) (k n1 : Nat) : C := seqC (E sf_ref15_Of) h k c9 (K18 sf_ref15_Of k n1)
noncomputable def c10 : Code := subC b [1, 1, 1, 0, 1, 0, 0, 1, 1]
noncomputable def K21 (sf_ref15_Of : ((D2) × (Unit)) → Option ((Option N1) × (Unit))) (k n1 : Nat) : C := outD h c10 (K17 sf_ref15_Of k n1)
noncomputable def K22 (sf_ref15_Of : ((D2) × (Unit)) → Option ((Option N1) × (Unit))) (k n1 : Nat) : C := seqC (E sf_ref15_Of) h k c10 (K17 sf_ref15_Of k n1)
noncomputable def K23 (sf_ref15_Of : ((D2) × (Unit)) → Option ((Option N1) × (Unit))) (k n1 : Nat) : C := blockK 1 (K22 sf_ref15_Of k n1)
noncomputable def c11 : Code := subC b [1, 1, 1, 1, 1]
noncomputable def K24 (sf_ref15_Of : ((D2) × (Unit)) → Option ((Option N1) × (Unit))) (k : Nat) : C := outD h c11 (K11 sf_ref15_Of k)
noncomputable def K25 (sf_ref15_Of : ((D2) × (Unit)) → Option ((Option N1) × (Unit))) (k : Nat) : C := seqC (E sf_ref15_Of) h k c11 (K11 sf_ref15_Of k)
abbrev T2 := D1 → R
abbrev T1 := Int → D2 → D1 → R
abbrev T0 := D2 → R
abbrev s2 : D1 → ST cx := fun (m18 : D1) => ({ vars := [(3, .addr (.mem 18) [])], scr := [], mems := [(18, ⟨ty1, (.pr .ro (.pr .ro (.pr .ro (.pr (.own .ro) .ro)))), m18⟩)] } : ST cx)
noncomputable def u2 (sf_ref15_Of : ((D2) × (Unit)) → Option ((Option N1) × (Unit))) (k : Nat) : T2 := fun (m18 : D1) => uK (run (E sf_ref15_Of) h k c5) (s2 m18) (K11 sf_ref15_Of k)
noncomputable abbrev l2 (sf_ref15_Of : ((D2) × (Unit)) → Option ((Option N1) × (Unit))) (k : Nat) : T2 := fun (m18 : D1) => cutK (run (E sf_ref15_Of) h k c5) (s2 m18) (K11 sf_ref15_Of k)
abbrev s1 : Int → D2 → D1 → ST cx := fun (x4 : Int) (m1 : D2) (m18 : D1) => ({ vars := [(1, .addr (.mem 1) []), (3, .addr (.mem 18) []), (4, .v (.int .i64) .ro x4)], scr := [], mems := [(1, ⟨ty2, .ro, m1⟩), (18, ⟨ty1, (.pr .ro (.pr .ro (.pr .ro (.pr (.own .ro) .ro)))), m18⟩)] } : ST cx)
noncomputable def u1 (sf_ref15_Of : ((D2) × (Unit)) → Option ((Option N1) × (Unit))) (k n1 : Nat) : T1 := fun (x4 : Int) (m1 : D2) (m18 : D1) => uK (loopL (E sf_ref15_Of) h k c7 (K15 sf_ref15_Of k) n1) (s1 x4 m1 m18) ()
noncomputable abbrev l1 (sf_ref15_Of : ((D2) × (Unit)) → Option ((Option N1) × (Unit))) (k n1 : Nat) : T1 := fun (x4 : Int) (m1 : D2) (m18 : D1) => cutK (loopL (E sf_ref15_Of) h k c7 (K15 sf_ref15_Of k) n1) (s1 x4 m1 m18) ()
noncomputable def u0 (sf_ref15_Of : ((D2) × (Unit)) → Option ((Option N1) × (Unit))) (k : Nat) : T0 := fun (x0 : D2) => runOf (S := cx) (E sf_ref15_Of) h k Try.f18 [.val ty2] (.ptr 1) .ro (x0, ())
def t2 (sf_ref15_Of : ((D2) × (Unit)) → Option ((Option N1) × (Unit))) : T2 := fun (m18 : D1) => 
  (some ((some (pk1 m18)), ()))
theorem e2 (sf_ref15_Of : ((D2) × (Unit)) → Option ((Option N1) × (Unit))) (k : Nat) : u2 sf_ref15_Of k = t2 sf_ref15_Of := by kernel_rfl
theorem g2 (sf_ref15_Of : ((D2) × (Unit)) → Option ((Option N1) × (Unit))) (k : Nat) : l2 sf_ref15_Of k = u2 sf_ref15_Of k := funext fun _ => cut_u _ _ _
def p2 (sf_ref15_Of : ((D2) × (Unit)) → Option ((Option N1) × (Unit))) (k : Nat) : T2 := t2 sf_ref15_Of
theorem o2 (sf_ref15_Of : ((D2) × (Unit)) → Option ((Option N1) × (Unit))) (k : Nat) : l2 sf_ref15_Of k = p2 sf_ref15_Of k := (Eq.trans (b := u2 sf_ref15_Of k) (g2 sf_ref15_Of k) (Eq.trans (b := t2 sf_ref15_Of) (e2 sf_ref15_Of k) (by kernel_rfl)))
def t1 (sf_ref15_Of : ((D2) × (Unit)) → Option ((Option N1) × (Unit))) (f1 : T1) (f2 : T2) : T1 := fun (x4 : Int) (m1 : D2) (m18 : D1) => 
  (iteB (decide (x4 < ((List.length m1.2.2.2.2.1 : Nat) : Int))) (withinR x4 (List.length m1.2.2.2.2.1) fun q1 => (bindR (sf_ref15_Of ((out0 (List.getD m1.2.2.2.2.1 q1 (pk0 (false, ((0 : Int), ((0 : Int), (([] : List UInt8), (([] : List (N0)), ((0 : Int), (0 : Int)))))))))), ())) fun r2 => (mustR (room m18.2.2.2.1 ([r2.1] : List (Option N1))) (f1 (w64 (x4 + (1 : Int))) m1 (m18.1, (m18.2.1, (m18.2.2.1, ((m18.2.2.2.1 ++ ([r2.1] : List (Option N1))), m18.2.2.2.2)))))))) (f2 m18))
theorem e1 (sf_ref15_Of : ((D2) × (Unit)) → Option ((Option N1) × (Unit))) (k n1 : Nat) : u1 sf_ref15_Of k (n1 + 1) = t1 sf_ref15_Of (l1 sf_ref15_Of k n1) (l2 sf_ref15_Of k) := by kernel_rfl
theorem g1 (sf_ref15_Of : ((D2) × (Unit)) → Option ((Option N1) × (Unit))) (k n1 : Nat) : l1 sf_ref15_Of k (n1 + 1) = u1 sf_ref15_Of k (n1 + 1) := funext fun _ => funext fun _ => funext fun _ => cut_u _ _ _
theorem d1 (sf_ref15_Of : ((D2) × (Unit)) → Option ((Option N1) × (Unit))) {x1 y1 : T1} {x2 y2 : T2} (h1 : x1 = y1) (h2 : x2 = y2) : t1 sf_ref15_Of x1 x2 = t1 sf_ref15_Of y1 y2 := by subst h1; subst h2; rfl
def p1 (sf_ref15_Of : ((D2) × (Unit)) → Option ((Option N1) × (Unit))) (k : Nat) : Nat → T1
  | 0 => fun _ _ _ => none
  | n1 + 1 => t1 sf_ref15_Of (p1 sf_ref15_Of k n1) (p2 sf_ref15_Of k)
theorem o1 (sf_ref15_Of : ((D2) × (Unit)) → Option ((Option N1) × (Unit))) (k : Nat) : ∀ n1, l1 sf_ref15_Of k n1 = p1 sf_ref15_Of k n1 := by
  intro n1
  induction n1 with
  | zero => kernel_rfl
  | succ n1 ih => exact (Eq.trans (b := u1 sf_ref15_Of k (n1 + 1)) (g1 sf_ref15_Of k n1) (Eq.trans (b := t1 sf_ref15_Of (l1 sf_ref15_Of k n1) (l2 sf_ref15_Of k)) (e1 sf_ref15_Of k n1) (Eq.trans (b := t1 sf_ref15_Of (p1 sf_ref15_Of k n1) (p2 sf_ref15_Of k)) (d1 sf_ref15_Of ih (o2 sf_ref15_Of k)) (by kernel_rfl))))
def t0 (sf_ref15_Of : ((D2) × (Unit)) → Option ((Option N1) × (Unit))) (f1 : T1) : T0 := fun (x0 : D2) => 
  (iteB x0.1 (some (none, ())) (f1 (0 : Int) x0 (x0.2.1, (x0.2.2.1, (x0.2.2.2.1, (([] : List (Option N1)), (x0.2.2.2.2.2.1, x0.2.2.2.2.2.2)))))))
theorem e0 (sf_ref15_Of : ((D2) × (Unit)) → Option ((Option N1) × (Unit))) (k : Nat) : u0 sf_ref15_Of k = t0 sf_ref15_Of (l1 sf_ref15_Of k k) := by kernel_rfl
theorem d0 (sf_ref15_Of : ((D2) × (Unit)) → Option ((Option N1) × (Unit))) {x1 y1 : T1} (h1 : x1 = y1) : t0 sf_ref15_Of x1 = t0 sf_ref15_Of y1 := by subst h1; rfl
def p0 (sf_ref15_Of : ((D2) × (Unit)) → Option ((Option N1) × (Unit))) (k : Nat) : T0 := t0 sf_ref15_Of (p1 sf_ref15_Of k k)
theorem o0 (sf_ref15_Of : ((D2) × (Unit)) → Option ((Option N1) × (Unit))) (k : Nat) : u0 sf_ref15_Of k = p0 sf_ref15_Of k := (Eq.trans (b := t0 sf_ref15_Of (l1 sf_ref15_Of k k)) (e0 sf_ref15_Of k) (Eq.trans (b := t0 sf_ref15_Of (p1 sf_ref15_Of k k)) (d0 sf_ref15_Of (o1 sf_ref15_Of k k)) (by kernel_rfl)))
end ref15_Of
def r_ref15_Of : Nat → ((D2) × (Unit)) → Option ((Option N1) × (Unit))
  | 0, _ => none
  | n + 1, a => ref15_Of.p0 (r_ref15_Of n) (fuel) a.1
theorem okr_ref15_Of : ∀ n, FnOk Try.prog (Fr_ref15_Of (r_ref15_Of n)) 18
  | 0 => fn_none (fun _ => rfl)
  | n + 1 => fn_of (F := Fr_ref15_Of (r_ref15_Of (n + 1))) (hn := ref15_Of.h) (E := ref15_Of.E (r_ref15_Of n)) cxOk (tysT _ _ _) (fs_cons (okr_ref15_Of n) fs_nil) follows Try.func18 (by kernel_rfl) (fun a r h => ⟨fuel, Eq.trans (c := some r) (congrFun (ref15_Of.o0 (r_ref15_Of n) (fuel)) a.1) h⟩)
def s_ref15_Of (a : (D2) × (Unit)) : Option ((Option N1) × (Unit)) := r_ref15_Of (fuel) a
noncomputable def F_ref15_Of : FSpec cx.toNm := Fr_ref15_Of s_ref15_Of
theorem ok_ref15_Of : FnOk Try.prog F_ref15_Of 18 := fun w Z own vs a r h1 h2 h3 h4 => (okr_ref15_Of (fuel)) w Z own vs a r h1 h2 h3 h4
noncomputable def Fr_law15_count (f : ((Option N1) × ((Int) × (Unit))) → Option ((Int) × (Unit))) : FSpec cx.toNm := { ps := [.val (.ptr 1), .val (.int .i64)], nres := 1, rt := (.int .i64), rm := .ro, f := f }
namespace law15_count
noncomputable def E (sf_law15_count : ((Option N1) × ((Int) × (Unit))) → Option ((Int) × (Unit))) : Env cx := { tys := tys, fs := fsOf [(32, (Fr_law15_count sf_law15_count))] }
abbrev R := Option ((Int) × (Unit))
abbrev C := Exit → ST cx → R
noncomputable def b : Code := bodyC Try.f32
noncomputable def h : Hint := { vs := [0, 1, 4, 5], nil := [], cuts := [(3, ([0, 1, 13], []), ([0, 1], [])), (4, ([0, 1], []), ([0, 1], [])), (5, ([0, 1, 5], []), ([1], [])), (7, ([0, 1, 5], []), ([0, 1, 5], [])), (8, ([1], []), ([1], [])), (1000000, ([0, 1, 5, 25], []), ([0, 1, 5], []))], ret := ([4], []), ords := [] }
noncomputable def K0 (sf_law15_count : ((Option N1) × ((Int) × (Unit))) → Option ((Int) × (Unit))) : C := fin (S := cx) (E sf_law15_count) Try.f32.results.toList (.int .i64) .ro [] []
noncomputable def c0 : Code := subC b [1]
noncomputable def K1 (sf_law15_count : ((Option N1) × ((Int) × (Unit))) → Option ((Int) × (Unit))) (k : Nat) : C := outD h c0 (K0 sf_law15_count)
noncomputable def K2 (sf_law15_count : ((Option N1) × ((Int) × (Unit))) → Option ((Int) × (Unit))) (k : Nat) : C := seqC (E sf_law15_count) h k c0 (K0 sf_law15_count)
noncomputable def c1 : Code := subC b [1, 1]
noncomputable def K3 (sf_law15_count : ((Option N1) × ((Int) × (Unit))) → Option ((Int) × (Unit))) (k : Nat) : C := outD h c1 (K1 sf_law15_count k)
noncomputable def K4 (sf_law15_count : ((Option N1) × ((Int) × (Unit))) → Option ((Int) × (Unit))) (k : Nat) : C := seqC (E sf_law15_count) h k c1 (K1 sf_law15_count k)
noncomputable def c2 : Code := subC b [1, 1, 1]
noncomputable def K5 (sf_law15_count : ((Option N1) × ((Int) × (Unit))) → Option ((Int) × (Unit))) (k : Nat) : C := outD h c2 (K3 sf_law15_count k)
noncomputable def K6 (sf_law15_count : ((Option N1) × ((Int) × (Unit))) → Option ((Int) × (Unit))) (k : Nat) : C := seqC (E sf_law15_count) h k c2 (K3 sf_law15_count k)
noncomputable def c3 : Code := subC b [1, 1, 0, 1]
noncomputable def K7 (sf_law15_count : ((Option N1) × ((Int) × (Unit))) → Option ((Int) × (Unit))) (k : Nat) : C := outD h c3 (K6 sf_law15_count k)
noncomputable def K8 (sf_law15_count : ((Option N1) × ((Int) × (Unit))) → Option ((Int) × (Unit))) (k : Nat) : C := seqC (E sf_law15_count) h k c3 (K6 sf_law15_count k)
noncomputable def c4 : Code := subC b [1, 1, 0, 1, 0, 1]
noncomputable def K9 (sf_law15_count : ((Option N1) × ((Int) × (Unit))) → Option ((Int) × (Unit))) (k : Nat) : C := outD h c4 (K7 sf_law15_count k)
noncomputable def K10 (sf_law15_count : ((Option N1) × ((Int) × (Unit))) → Option ((Int) × (Unit))) (k : Nat) : C := seqC (E sf_law15_count) h k c4 (K7 sf_law15_count k)
noncomputable def c5 : Code := subC b [1, 1, 1, 1]
noncomputable def K11 (sf_law15_count : ((Option N1) × ((Int) × (Unit))) → Option ((Int) × (Unit))) (k : Nat) : C := outD h c5 (K5 sf_law15_count k)
noncomputable def K12 (sf_law15_count : ((Option N1) × ((Int) × (Unit))) → Option ((Int) × (Unit))) (k : Nat) : C := seqC (E sf_law15_count) h k c5 (K5 sf_law15_count k)
noncomputable def c6 : Code := subC b [1, 1, 1, 0, 1]
noncomputable def K13 (sf_law15_count : ((Option N1) × ((Int) × (Unit))) → Option ((Int) × (Unit))) (k : Nat) : C := outD h c6 (K12 sf_law15_count k)
noncomputable def K14 (sf_law15_count : ((Option N1) × ((Int) × (Unit))) → Option ((Int) × (Unit))) (k : Nat) : C := seqC (E sf_law15_count) h k c6 (K12 sf_law15_count k)
noncomputable def K15 (sf_law15_count : ((Option N1) × ((Int) × (Unit))) → Option ((Int) × (Unit))) (k : Nat) : C := blockK 0 (K13 sf_law15_count k)
noncomputable def c7 : Code := subC b [1, 1, 1, 0, 1, 0, 0]
noncomputable def K16 (sf_law15_count : ((Option N1) × ((Int) × (Unit))) → Option ((Int) × (Unit))) (k n3 : Nat) : C := loopD (E sf_law15_count) h k c7 (K15 sf_law15_count k) n3
noncomputable def c8 : Code := subC b [1, 1, 1, 0, 1, 0, 0, 1]
noncomputable def K17 (sf_law15_count : ((Option N1) × ((Int) × (Unit))) → Option ((Int) × (Unit))) (k n3 : Nat) : C := outD h c8 (K16 sf_law15_count k n3)
noncomputable def K18 (sf_law15_count : ((Option N1) × ((Int) × (Unit))) → Option ((Int) × (Unit))) (k n3 : Nat) : C := seqC (E sf_law15_count) h k c8 (K16 sf_law15_count k n3)
noncomputable def c9 : Code := subC b [1, 1, 1, 0, 1, 0, 0, 0, 1]
noncomputable def K19 (sf_law15_count : ((Option N1) × ((Int) × (Unit))) → Option ((Int) × (Unit))) (k n3 : Nat) : C := outD h c9 (K18 sf_law15_count k n3)
noncomputable def K20 (sf_law15_count : ((Option N1) × ((Int) × (Unit))) → Option ((Int) × (Unit))) (k n3 : Nat) : C := seqC (E sf_law15_count) h k c9 (K18 sf_law15_count k n3)
noncomputable def c10 : Code := subC b [1, 1, 1, 0, 1, 0, 0, 1, 1]
noncomputable def K21 (sf_law15_count : ((Option N1) × ((Int) × (Unit))) → Option ((Int) × (Unit))) (k n3 : Nat) : C := outD h c10 (K17 sf_law15_count k n3)
noncomputable def K22 (sf_law15_count : ((Option N1) × ((Int) × (Unit))) → Option ((Int) × (Unit))) (k n3 : Nat) : C := seqC (E sf_law15_count) h k c10 (K17 sf_law15_count k n3)
noncomputable def K23 (sf_law15_count : ((Option N1) × ((Int) × (Unit))) → Option ((Int) × (Unit))) (k n3 : Nat) : C := blockK 1 (K22 sf_law15_count k n3)
noncomputable def c11 : Code := subC b [1, 1, 1, 1, 1]
noncomputable def K24 (sf_law15_count : ((Option N1) × ((Int) × (Unit))) → Option ((Int) × (Unit))) (k : Nat) : C := outD h c11 (K11 sf_law15_count k)
noncomputable def K25 (sf_law15_count : ((Option N1) × ((Int) × (Unit))) → Option ((Int) × (Unit))) (k : Nat) : C := seqC (E sf_law15_count) h k c11 (K11 sf_law15_count k)
abbrev T5 := (Option N1) → Int → Int → R
abbrev T6 := Int → R
abbrev T4 := (Option N1) → Int → Int → Bool → R
abbrev T3 := (Option N1) → Int → Int → R
abbrev T2 := (Option N1) → Int → R
abbrev T1 := (Option N1) → Int → Bool → R
abbrev T0 := (Option N1) → Int → R
abbrev s5 : (Option N1) → Int → Int → ST cx := fun (x0 : Option N1) (x1 x5 : Int) => ({ vars := [(0, .v (.ptr 1) .ro x0), (1, .v (.int .i64) .ro x1), (5, .v (.int .i64) .ro x5)], scr := [], mems := [] } : ST cx)
noncomputable def u5 (sf_law15_count : ((Option N1) × ((Int) × (Unit))) → Option ((Int) × (Unit))) (k n3 : Nat) : T5 := fun (x0 : Option N1) (x1 x5 : Int) => uK (run (E sf_law15_count) h k c8) (s5 x0 x1 x5) (K17 sf_law15_count k n3)
noncomputable abbrev l5 (sf_law15_count : ((Option N1) × ((Int) × (Unit))) → Option ((Int) × (Unit))) (k n3 : Nat) : T5 := fun (x0 : Option N1) (x1 x5 : Int) => cutK (run (E sf_law15_count) h k c8) (s5 x0 x1 x5) (K17 sf_law15_count k n3)
abbrev s6 : Int → ST cx := fun (x1 : Int) => ({ vars := [(1, .v (.int .i64) .ro x1)], scr := [], mems := [] } : ST cx)
noncomputable def u6 (sf_law15_count : ((Option N1) × ((Int) × (Unit))) → Option ((Int) × (Unit))) (k : Nat) : T6 := fun (x1 : Int) => uK (run (E sf_law15_count) h k c5) (s6 x1) (K11 sf_law15_count k)
noncomputable abbrev l6 (sf_law15_count : ((Option N1) × ((Int) × (Unit))) → Option ((Int) × (Unit))) (k : Nat) : T6 := fun (x1 : Int) => cutK (run (E sf_law15_count) h k c5) (s6 x1) (K11 sf_law15_count k)
abbrev s4 : (Option N1) → Int → Int → Bool → ST cx := fun (x0 : Option N1) (x1 x5 : Int) (x25 : Bool) => ({ vars := [(0, .v (.ptr 1) .ro x0), (1, .v (.int .i64) .ro x1), (5, .v (.int .i64) .ro x5), (25, .v .bool .ro x25)], scr := [], mems := [] } : ST cx)
noncomputable def u4 (sf_law15_count : ((Option N1) × ((Int) × (Unit))) → Option ((Int) × (Unit))) (k n3 : Nat) : T4 := fun (x0 : Option N1) (x1 x5 : Int) (x25 : Bool) => uK (run (E sf_law15_count) h k c9) (s4 x0 x1 x5 x25) (K19 sf_law15_count k n3)
noncomputable abbrev l4 (sf_law15_count : ((Option N1) × ((Int) × (Unit))) → Option ((Int) × (Unit))) (k n3 : Nat) : T4 := fun (x0 : Option N1) (x1 x5 : Int) (x25 : Bool) => cutK (run (E sf_law15_count) h k c9) (s4 x0 x1 x5 x25) (K19 sf_law15_count k n3)
abbrev s3 : (Option N1) → Int → Int → ST cx := fun (x0 : Option N1) (x1 x5 : Int) => ({ vars := [(0, .v (.ptr 1) .ro x0), (1, .v (.int .i64) .ro x1), (5, .v (.int .i64) .ro x5)], scr := [], mems := [] } : ST cx)
noncomputable def u3 (sf_law15_count : ((Option N1) × ((Int) × (Unit))) → Option ((Int) × (Unit))) (k n3 : Nat) : T3 := fun (x0 : Option N1) (x1 x5 : Int) => uK (loopL (E sf_law15_count) h k c7 (K15 sf_law15_count k) n3) (s3 x0 x1 x5) ()
noncomputable abbrev l3 (sf_law15_count : ((Option N1) × ((Int) × (Unit))) → Option ((Int) × (Unit))) (k n3 : Nat) : T3 := fun (x0 : Option N1) (x1 x5 : Int) => cutK (loopL (E sf_law15_count) h k c7 (K15 sf_law15_count k) n3) (s3 x0 x1 x5) ()
abbrev s2 : (Option N1) → Int → ST cx := fun (x0 : Option N1) (x1 : Int) => ({ vars := [(0, .v (.ptr 1) .ro x0), (1, .v (.int .i64) .ro x1)], scr := [], mems := [] } : ST cx)
noncomputable def u2 (sf_law15_count : ((Option N1) × ((Int) × (Unit))) → Option ((Int) × (Unit))) (k : Nat) : T2 := fun (x0 : Option N1) (x1 : Int) => uK (run (E sf_law15_count) h k c2) (s2 x0 x1) (K5 sf_law15_count k)
noncomputable abbrev l2 (sf_law15_count : ((Option N1) × ((Int) × (Unit))) → Option ((Int) × (Unit))) (k : Nat) : T2 := fun (x0 : Option N1) (x1 : Int) => cutK (run (E sf_law15_count) h k c2) (s2 x0 x1) (K5 sf_law15_count k)
abbrev s1 : (Option N1) → Int → Bool → ST cx := fun (x0 : Option N1) (x1 : Int) (x13 : Bool) => ({ vars := [(0, .v (.ptr 1) .ro x0), (1, .v (.int .i64) .ro x1), (13, .v .bool .ro x13)], scr := [], mems := [] } : ST cx)
noncomputable def u1 (sf_law15_count : ((Option N1) × ((Int) × (Unit))) → Option ((Int) × (Unit))) (k : Nat) : T1 := fun (x0 : Option N1) (x1 : Int) (x13 : Bool) => uK (run (E sf_law15_count) h k c3) (s1 x0 x1 x13) (K7 sf_law15_count k)
noncomputable abbrev l1 (sf_law15_count : ((Option N1) × ((Int) × (Unit))) → Option ((Int) × (Unit))) (k : Nat) : T1 := fun (x0 : Option N1) (x1 : Int) (x13 : Bool) => cutK (run (E sf_law15_count) h k c3) (s1 x0 x1 x13) (K7 sf_law15_count k)
noncomputable def u0 (sf_law15_count : ((Option N1) × ((Int) × (Unit))) → Option ((Int) × (Unit))) (k : Nat) : T0 := fun (x0 : Option N1) (x1 : Int) => runOf (S := cx) (E sf_law15_count) h k Try.f32 [.val (.ptr 1), .val (.int .i64)] (.int .i64) .ro (x0, x1, ())
def t5 (sf_law15_count : ((Option N1) × ((Int) × (Unit))) → Option ((Int) × (Unit))) (f3 : T3) : T5 := fun (x0 : Option N1) (x1 x5 : Int) => 
  (bindR x0 fun z2 => (withinR x5 (List.length (out1 z2).2.2.2.1) fun q3 => (bindR (sf_law15_count ((List.getD (out1 z2).2.2.2.1 q3 none), (x1, ()))) fun r4 => (f3 x0 r4.1 (w64 (x5 + (1 : Int)))))))
theorem e5 (sf_law15_count : ((Option N1) × ((Int) × (Unit))) → Option ((Int) × (Unit))) (k n3 : Nat) : u5 sf_law15_count k n3 = t5 sf_law15_count (l3 sf_law15_count k n3) := by kernel_rfl
theorem g5 (sf_law15_count : ((Option N1) × ((Int) × (Unit))) → Option ((Int) × (Unit))) (k n3 : Nat) : l5 sf_law15_count k n3 = u5 sf_law15_count k n3 := funext fun _ => funext fun _ => funext fun _ => cut_u _ _ _
theorem d5 (sf_law15_count : ((Option N1) × ((Int) × (Unit))) → Option ((Int) × (Unit))) {x3 y3 : T3} (h3 : x3 = y3) : t5 sf_law15_count x3 = t5 sf_law15_count y3 := by subst h3; rfl
def p5 (sf_law15_count : ((Option N1) × ((Int) × (Unit))) → Option ((Int) × (Unit))) (k : Nat) (a3 : T3) : T5 := t5 sf_law15_count a3
theorem o5 (sf_law15_count : ((Option N1) × ((Int) × (Unit))) → Option ((Int) × (Unit))) (k n3 : Nat) (a3 : T3) (h3 : l3 sf_law15_count k n3 = a3) : l5 sf_law15_count k n3 = p5 sf_law15_count k a3 := (Eq.trans (b := u5 sf_law15_count k n3) (g5 sf_law15_count k n3) (Eq.trans (b := t5 sf_law15_count (l3 sf_law15_count k n3)) (e5 sf_law15_count k n3) (Eq.trans (b := t5 sf_law15_count a3) (d5 sf_law15_count h3) (by kernel_rfl))))
def t6 (sf_law15_count : ((Option N1) × ((Int) × (Unit))) → Option ((Int) × (Unit))) : T6 := fun (x1 : Int) => 
  (some (x1, ()))
theorem e6 (sf_law15_count : ((Option N1) × ((Int) × (Unit))) → Option ((Int) × (Unit))) (k : Nat) : u6 sf_law15_count k = t6 sf_law15_count := by kernel_rfl
theorem g6 (sf_law15_count : ((Option N1) × ((Int) × (Unit))) → Option ((Int) × (Unit))) (k : Nat) : l6 sf_law15_count k = u6 sf_law15_count k := funext fun _ => cut_u _ _ _
def p6 (sf_law15_count : ((Option N1) × ((Int) × (Unit))) → Option ((Int) × (Unit))) (k : Nat) : T6 := t6 sf_law15_count
theorem o6 (sf_law15_count : ((Option N1) × ((Int) × (Unit))) → Option ((Int) × (Unit))) (k : Nat) : l6 sf_law15_count k = p6 sf_law15_count k := (Eq.trans (b := u6 sf_law15_count k) (g6 sf_law15_count k) (Eq.trans (b := t6 sf_law15_count) (e6 sf_law15_count k) (by kernel_rfl)))
def t4 (sf_law15_count : ((Option N1) × ((Int) × (Unit))) → Option ((Int) × (Unit))) (f5 : T5) (f6 : T6) : T4 := fun (x0 : Option N1) (x1 x5 : Int) (x25 : Bool) => 
  (iteB x25 (f5 x0 x1 x5) (f6 x1))
theorem e4 (sf_law15_count : ((Option N1) × ((Int) × (Unit))) → Option ((Int) × (Unit))) (k n3 : Nat) : u4 sf_law15_count k n3 = t4 sf_law15_count (l5 sf_law15_count k n3) (l6 sf_law15_count k) := by kernel_rfl
theorem g4 (sf_law15_count : ((Option N1) × ((Int) × (Unit))) → Option ((Int) × (Unit))) (k n3 : Nat) : l4 sf_law15_count k n3 = u4 sf_law15_count k n3 := funext fun _ => funext fun _ => funext fun _ => funext fun _ => cut_u _ _ _
theorem d4 (sf_law15_count : ((Option N1) × ((Int) × (Unit))) → Option ((Int) × (Unit))) {x5 y5 : T5} {x6 y6 : T6} (h5 : x5 = y5) (h6 : x6 = y6) : t4 sf_law15_count x5 x6 = t4 sf_law15_count y5 y6 := by subst h5; subst h6; rfl
def p4 (sf_law15_count : ((Option N1) × ((Int) × (Unit))) → Option ((Int) × (Unit))) (k : Nat) (a3 : T3) : T4 := t4 sf_law15_count (p5 sf_law15_count k a3) (p6 sf_law15_count k)
theorem o4 (sf_law15_count : ((Option N1) × ((Int) × (Unit))) → Option ((Int) × (Unit))) (k n3 : Nat) (a3 : T3) (h3 : l3 sf_law15_count k n3 = a3) : l4 sf_law15_count k n3 = p4 sf_law15_count k a3 := (Eq.trans (b := u4 sf_law15_count k n3) (g4 sf_law15_count k n3) (Eq.trans (b := t4 sf_law15_count (l5 sf_law15_count k n3) (l6 sf_law15_count k)) (e4 sf_law15_count k n3) (Eq.trans (b := t4 sf_law15_count (p5 sf_law15_count k a3) (p6 sf_law15_count k)) (d4 sf_law15_count (o5 sf_law15_count k n3 a3 h3) (o6 sf_law15_count k)) (by kernel_rfl))))
def t3 (sf_law15_count : ((Option N1) × ((Int) × (Unit))) → Option ((Int) × (Unit))) (f4 : T4) : T3 := fun (x0 : Option N1) (x1 x5 : Int) => 
  (bindR x0 fun z1 => (iteB (decide (x5 < ((List.length (out1 z1).2.2.2.1 : Nat) : Int))) (f4 x0 x1 x5 (decide (x1 ≤ (3000 : Int)))) (f4 x0 x1 x5 false)))
theorem e3 (sf_law15_count : ((Option N1) × ((Int) × (Unit))) → Option ((Int) × (Unit))) (k n3 : Nat) : u3 sf_law15_count k (n3 + 1) = t3 sf_law15_count (l4 sf_law15_count k n3) := by kernel_rfl
theorem g3 (sf_law15_count : ((Option N1) × ((Int) × (Unit))) → Option ((Int) × (Unit))) (k n3 : Nat) : l3 sf_law15_count k (n3 + 1) = u3 sf_law15_count k (n3 + 1) := funext fun _ => funext fun _ => funext fun _ => cut_u _ _ _
theorem d3 (sf_law15_count : ((Option N1) × ((Int) × (Unit))) → Option ((Int) × (Unit))) {x4 y4 : T4} (h4 : x4 = y4) : t3 sf_law15_count x4 = t3 sf_law15_count y4 := by subst h4; rfl
def p3 (sf_law15_count : ((Option N1) × ((Int) × (Unit))) → Option ((Int) × (Unit))) (k : Nat) : Nat → T3
  | 0 => fun _ _ _ => none
  | n3 + 1 => t3 sf_law15_count (p4 sf_law15_count k (p3 sf_law15_count k n3))
theorem o3 (sf_law15_count : ((Option N1) × ((Int) × (Unit))) → Option ((Int) × (Unit))) (k : Nat) : ∀ n3, l3 sf_law15_count k n3 = p3 sf_law15_count k n3 := by
  intro n3
  induction n3 with
  | zero => kernel_rfl
  | succ n3 ih => exact (Eq.trans (b := u3 sf_law15_count k (n3 + 1)) (g3 sf_law15_count k n3) (Eq.trans (b := t3 sf_law15_count (l4 sf_law15_count k n3)) (e3 sf_law15_count k n3) (Eq.trans (b := t3 sf_law15_count (p4 sf_law15_count k (p3 sf_law15_count k n3))) (d3 sf_law15_count (o4 sf_law15_count k n3 (p3 sf_law15_count k n3) ih)) (by kernel_rfl))))
def t2 (sf_law15_count : ((Option N1) × ((Int) × (Unit))) → Option ((Int) × (Unit))) (f3 : T3) : T2 := fun (x0 : Option N1) (x1 : Int) => 
  (f3 x0 x1 (0 : Int))
theorem e2 (sf_law15_count : ((Option N1) × ((Int) × (Unit))) → Option ((Int) × (Unit))) (k : Nat) : u2 sf_law15_count k = t2 sf_law15_count (l3 sf_law15_count k k) := by kernel_rfl
theorem g2 (sf_law15_count : ((Option N1) × ((Int) × (Unit))) → Option ((Int) × (Unit))) (k : Nat) : l2 sf_law15_count k = u2 sf_law15_count k := funext fun _ => funext fun _ => cut_u _ _ _
theorem d2 (sf_law15_count : ((Option N1) × ((Int) × (Unit))) → Option ((Int) × (Unit))) {x3 y3 : T3} (h3 : x3 = y3) : t2 sf_law15_count x3 = t2 sf_law15_count y3 := by subst h3; rfl
def p2 (sf_law15_count : ((Option N1) × ((Int) × (Unit))) → Option ((Int) × (Unit))) (k : Nat) : T2 := t2 sf_law15_count (p3 sf_law15_count k k)
theorem o2 (sf_law15_count : ((Option N1) × ((Int) × (Unit))) → Option ((Int) × (Unit))) (k : Nat) : l2 sf_law15_count k = p2 sf_law15_count k := (Eq.trans (b := u2 sf_law15_count k) (g2 sf_law15_count k) (Eq.trans (b := t2 sf_law15_count (l3 sf_law15_count k k)) (e2 sf_law15_count k) (Eq.trans (b := t2 sf_law15_count (p3 sf_law15_count k k)) (d2 sf_law15_count (o3 sf_law15_count k k)) (by kernel_rfl))))
def t1 (sf_law15_count : ((Option N1) × ((Int) × (Unit))) → Option ((Int) × (Unit))) (f2 : T2) : T1 := fun (x0 : Option N1) (x1 : Int) (x13 : Bool) => 
  (iteB x13 (some (x1, ())) (f2 x0 x1))
theorem e1 (sf_law15_count : ((Option N1) × ((Int) × (Unit))) → Option ((Int) × (Unit))) (k : Nat) : u1 sf_law15_count k = t1 sf_law15_count (l2 sf_law15_count k) := by kernel_rfl
theorem g1 (sf_law15_count : ((Option N1) × ((Int) × (Unit))) → Option ((Int) × (Unit))) (k : Nat) : l1 sf_law15_count k = u1 sf_law15_count k := funext fun _ => funext fun _ => funext fun _ => cut_u _ _ _
theorem d1 (sf_law15_count : ((Option N1) × ((Int) × (Unit))) → Option ((Int) × (Unit))) {x2 y2 : T2} (h2 : x2 = y2) : t1 sf_law15_count x2 = t1 sf_law15_count y2 := by subst h2; rfl
def p1 (sf_law15_count : ((Option N1) × ((Int) × (Unit))) → Option ((Int) × (Unit))) (k : Nat) : T1 := t1 sf_law15_count (p2 sf_law15_count k)
theorem o1 (sf_law15_count : ((Option N1) × ((Int) × (Unit))) → Option ((Int) × (Unit))) (k : Nat) : l1 sf_law15_count k = p1 sf_law15_count k := (Eq.trans (b := u1 sf_law15_count k) (g1 sf_law15_count k) (Eq.trans (b := t1 sf_law15_count (l2 sf_law15_count k)) (e1 sf_law15_count k) (Eq.trans (b := t1 sf_law15_count (p2 sf_law15_count k)) (d1 sf_law15_count (o2 sf_law15_count k)) (by kernel_rfl))))
def t0 (sf_law15_count : ((Option N1) × ((Int) × (Unit))) → Option ((Int) × (Unit))) (f1 : T1) : T0 := fun (x0 : Option N1) (x1 : Int) => 
  (iteB (Option.isNone x0) (f1 x0 (w64 (x1 + (1 : Int))) true) (f1 x0 (w64 (x1 + (1 : Int))) (decide ((3000 : Int) < (w64 (x1 + (1 : Int)))))))
theorem e0 (sf_law15_count : ((Option N1) × ((Int) × (Unit))) → Option ((Int) × (Unit))) (k : Nat) : u0 sf_law15_count k = t0 sf_law15_count (l1 sf_law15_count k) := by kernel_rfl
theorem d0 (sf_law15_count : ((Option N1) × ((Int) × (Unit))) → Option ((Int) × (Unit))) {x1 y1 : T1} (h1 : x1 = y1) : t0 sf_law15_count x1 = t0 sf_law15_count y1 := by subst h1; rfl
def p0 (sf_law15_count : ((Option N1) × ((Int) × (Unit))) → Option ((Int) × (Unit))) (k : Nat) : T0 := t0 sf_law15_count (p1 sf_law15_count k)
theorem o0 (sf_law15_count : ((Option N1) × ((Int) × (Unit))) → Option ((Int) × (Unit))) (k : Nat) : u0 sf_law15_count k = p0 sf_law15_count k := (Eq.trans (b := t0 sf_law15_count (l1 sf_law15_count k)) (e0 sf_law15_count k) (Eq.trans (b := t0 sf_law15_count (p1 sf_law15_count k)) (d0 sf_law15_count (o1 sf_law15_count k)) (by kernel_rfl)))
end law15_count
def r_law15_count : Nat → ((Option N1) × ((Int) × (Unit))) → Option ((Int) × (Unit))
  | 0, _ => none
  | n + 1, a => law15_count.p0 (r_law15_count n) (fuel) a.1 a.2.1
theorem okr_law15_count : ∀ n, FnOk Try.prog (Fr_law15_count (r_law15_count n)) 32
  | 0 => fn_none (fun _ => rfl)
  | n + 1 => fn_of (F := Fr_law15_count (r_law15_count (n + 1))) (hn := law15_count.h) (E := law15_count.E (r_law15_count n)) cxOk (tysT _ _ _) (fs_cons (okr_law15_count n) fs_nil) follows Try.func32 (by kernel_rfl) (fun a r h => ⟨fuel, Eq.trans (c := some r) (congrFun (congrFun (law15_count.o0 (r_law15_count n) (fuel)) a.1) a.2.1) h⟩)
def s_law15_count (a : (Option N1) × ((Int) × (Unit))) : Option ((Int) × (Unit)) := r_law15_count (fuel) a
noncomputable def F_law15_count : FSpec cx.toNm := Fr_law15_count s_law15_count
theorem ok_law15_count : FnOk Try.prog F_law15_count 32 := fun w Z own vs a r h1 h2 h3 h4 => (okr_law15_count (fuel)) w Z own vs a r h1 h2 h3 h4
namespace law15_Great
noncomputable def E : Env cx := { tys := tys, fs := fsOf [(32, F_law15_count)] }
abbrev R := Option ((Bool) × (Unit))
abbrev C := Exit → ST cx → R
noncomputable def b : Code := bodyC Try.f10
noncomputable def h : Hint := { vs := [0, 2], nil := [], cuts := [], ret := ([2], []), ords := [] }
noncomputable def K0 : C := fin (S := cx) E Try.f10.results.toList .bool .ro [] []
noncomputable def c0 : Code := subC b [1]
noncomputable def K1 (k : Nat) : C := outD h c0 K0
noncomputable def K2 (k : Nat) : C := seqC E h k c0 K0
noncomputable def c1 : Code := subC b [1, 1]
noncomputable def K3 (k : Nat) : C := outD h c1 (K1 k)
noncomputable def K4 (k : Nat) : C := seqC E h k c1 (K1 k)
abbrev T0 := (Option N1) → R
noncomputable def u0 (k : Nat) : T0 := fun (x0 : Option N1) => runOf (S := cx) E h k Try.f10 [.val (.ptr 1)] .bool .ro (x0, ())
def t0 : T0 := fun (x0 : Option N1) => 
  (bindR (s_law15_count (x0, ((0 : Int), ()))) fun r1 => (some ((decide ((3000 : Int) < r1.1)), ())))
theorem e0 (k : Nat) : u0 k = t0 := by kernel_rfl
def p0 (k : Nat) : T0 := t0
theorem o0 (k : Nat) : u0 k = p0 k := (Eq.trans (b := t0) (e0 k) (by kernel_rfl))
end law15_Great
def s_law15_Great (a : (Option N1) × (Unit)) : Option ((Bool) × (Unit)) := law15_Great.p0 (fuel) a.1
noncomputable def F_law15_Great : FSpec cx.toNm := { ps := [.val (.ptr 1)], nres := 1, rt := .bool, rm := .ro, f := s_law15_Great }
theorem w_law15_Great (a : (Option N1) × (Unit)) : runOf (S := cx) law15_Great.E law15_Great.h (fuel) Try.f10 F_law15_Great.ps F_law15_Great.rt F_law15_Great.rm a = s_law15_Great a := Eq.trans (b := law15_Great.u0 (fuel) a.1) (by kernel_rfl) (Eq.trans (b := law15_Great.p0 (fuel) a.1) (congrFun (law15_Great.o0 (fuel)) a.1) (by kernel_rfl))
theorem ok_law15_Great : FnOk Try.prog F_law15_Great 10 := fn_of (F := F_law15_Great) (hn := law15_Great.h) (E := law15_Great.E) cxOk (tysT _ _ _) (fs_cons ok_law15_count fs_nil) follows Try.func10 (by kernel_rfl) (fun a r h => ⟨fuel, Eq.trans (w_law15_Great a) h⟩)
noncomputable def Fr_law15_bare (f : ((Option N1) × (Unit)) → Option ((Bool) × (Unit))) : FSpec cx.toNm := { ps := [.val (.ptr 1)], nres := 1, rt := .bool, rm := .ro, f := f }
namespace law15_bare
noncomputable def E (sf_law15_bare : ((Option N1) × (Unit)) → Option ((Bool) × (Unit))) : Env cx := { tys := tys, fs := fsOf [(25, (Fr_law15_bare sf_law15_bare))] }
abbrev R := Option ((Bool) × (Unit))
abbrev C := Exit → ST cx → R
noncomputable def b : Code := bodyC Try.f25
noncomputable def h : Hint := { vs := [0, 2, 3], nil := [], cuts := [(4, ([0, 3], []), ([], [])), (5, ([0, 3], []), ([0, 3], [])), (7, ([0, 3, 32], []), ([0, 3], [])), (8, ([], []), ([], []))], ret := ([2], []), ords := [] }
noncomputable def K0 (sf_law15_bare : ((Option N1) × (Unit)) → Option ((Bool) × (Unit))) : C := fin (S := cx) (E sf_law15_bare) Try.f25.results.toList .bool .ro [] []
noncomputable def c0 : Code := subC b [1]
noncomputable def K1 (sf_law15_bare : ((Option N1) × (Unit)) → Option ((Bool) × (Unit))) (k : Nat) : C := outD h c0 (K0 sf_law15_bare)
noncomputable def K2 (sf_law15_bare : ((Option N1) × (Unit)) → Option ((Bool) × (Unit))) (k : Nat) : C := seqC (E sf_law15_bare) h k c0 (K0 sf_law15_bare)
noncomputable def c1 : Code := subC b [1, 1]
noncomputable def K3 (sf_law15_bare : ((Option N1) × (Unit)) → Option ((Bool) × (Unit))) (k : Nat) : C := outD h c1 (K1 sf_law15_bare k)
noncomputable def K4 (sf_law15_bare : ((Option N1) × (Unit)) → Option ((Bool) × (Unit))) (k : Nat) : C := seqC (E sf_law15_bare) h k c1 (K1 sf_law15_bare k)
noncomputable def c2 : Code := subC b [1, 0, 1]
noncomputable def K5 (sf_law15_bare : ((Option N1) × (Unit)) → Option ((Bool) × (Unit))) (k : Nat) : C := outD h c2 (K4 sf_law15_bare k)
noncomputable def K6 (sf_law15_bare : ((Option N1) × (Unit)) → Option ((Bool) × (Unit))) (k : Nat) : C := seqC (E sf_law15_bare) h k c2 (K4 sf_law15_bare k)
noncomputable def c3 : Code := subC b [1, 0, 1, 0, 1]
noncomputable def K7 (sf_law15_bare : ((Option N1) × (Unit)) → Option ((Bool) × (Unit))) (k : Nat) : C := outD h c3 (K5 sf_law15_bare k)
noncomputable def K8 (sf_law15_bare : ((Option N1) × (Unit)) → Option ((Bool) × (Unit))) (k : Nat) : C := seqC (E sf_law15_bare) h k c3 (K5 sf_law15_bare k)
noncomputable def c4 : Code := subC b [1, 1, 1]
noncomputable def K9 (sf_law15_bare : ((Option N1) × (Unit)) → Option ((Bool) × (Unit))) (k : Nat) : C := outD h c4 (K3 sf_law15_bare k)
noncomputable def K10 (sf_law15_bare : ((Option N1) × (Unit)) → Option ((Bool) × (Unit))) (k : Nat) : C := seqC (E sf_law15_bare) h k c4 (K3 sf_law15_bare k)
noncomputable def c5 : Code := subC b [1, 1, 0, 1]
noncomputable def K11 (sf_law15_bare : ((Option N1) × (Unit)) → Option ((Bool) × (Unit))) (k : Nat) : C := outD h c5 (K10 sf_law15_bare k)
noncomputable def K12 (sf_law15_bare : ((Option N1) × (Unit)) → Option ((Bool) × (Unit))) (k : Nat) : C := seqC (E sf_law15_bare) h k c5 (K10 sf_law15_bare k)
noncomputable def K13 (sf_law15_bare : ((Option N1) × (Unit)) → Option ((Bool) × (Unit))) (k : Nat) : C := blockK 0 (K11 sf_law15_bare k)
noncomputable def c6 : Code := subC b [1, 1, 0, 1, 0, 0]
noncomputable def K14 (sf_law15_bare : ((Option N1) × (Unit)) → Option ((Bool) × (Unit))) (k n1 : Nat) : C := loopD (E sf_law15_bare) h k c6 (K13 sf_law15_bare k) n1
noncomputable def c7 : Code := subC b [1, 1, 0, 1, 0, 0, 1]
noncomputable def K15 (sf_law15_bare : ((Option N1) × (Unit)) → Option ((Bool) × (Unit))) (k n1 : Nat) : C := outD h c7 (K14 sf_law15_bare k n1)
noncomputable def K16 (sf_law15_bare : ((Option N1) × (Unit)) → Option ((Bool) × (Unit))) (k n1 : Nat) : C := seqC (E sf_law15_bare) h k c7 (K14 sf_law15_bare k n1)
noncomputable def c8 : Code := subC b [1, 1, 0, 1, 0, 0, 0, 1]
noncomputable def K17 (sf_law15_bare : ((Option N1) × (Unit)) → Option ((Bool) × (Unit))) (k n1 : Nat) : C := outD h c8 (K16 sf_law15_bare k n1)
noncomputable def K18 (sf_law15_bare : ((Option N1) × (Unit)) → Option ((Bool) × (Unit))) (k n1 : Nat) : C := seqC (E sf_law15_bare) h k c8 (K16 sf_law15_bare k n1)
noncomputable def c9 : Code := subC b [1, 1, 0, 1, 0, 0, 1, 1]
noncomputable def K19 (sf_law15_bare : ((Option N1) × (Unit)) → Option ((Bool) × (Unit))) (k n1 : Nat) : C := outD h c9 (K15 sf_law15_bare k n1)
noncomputable def K20 (sf_law15_bare : ((Option N1) × (Unit)) → Option ((Bool) × (Unit))) (k n1 : Nat) : C := seqC (E sf_law15_bare) h k c9 (K15 sf_law15_bare k n1)
noncomputable def K21 (sf_law15_bare : ((Option N1) × (Unit)) → Option ((Bool) × (Unit))) (k n1 : Nat) : C := blockK 1 (K20 sf_law15_bare k n1)
noncomputable def c10 : Code := subC b [1, 1, 0, 1, 0, 0, 1, 0, 0, 1]
noncomputable def K22 (sf_law15_bare : ((Option N1) × (Unit)) → Option ((Bool) × (Unit))) (k n1 : Nat) : C := outD h c10 (K21 sf_law15_bare k n1)
noncomputable def K23 (sf_law15_bare : ((Option N1) × (Unit)) → Option ((Bool) × (Unit))) (k n1 : Nat) : C := seqC (E sf_law15_bare) h k c10 (K21 sf_law15_bare k n1)
noncomputable def c11 : Code := subC b [1, 1, 0, 1, 0, 0, 1, 0, 0, 1, 0, 1]
noncomputable def K24 (sf_law15_bare : ((Option N1) × (Unit)) → Option ((Bool) × (Unit))) (k n1 : Nat) : C := outD h c11 (K22 sf_law15_bare k n1)
noncomputable def K25 (sf_law15_bare : ((Option N1) × (Unit)) → Option ((Bool) × (Unit))) (k n1 : Nat) : C := seqC (E sf_law15_bare) h k c11 (K22 sf_law15_bare k n1)
noncomputable def c12 : Code := subC b [1, 1, 1, 1]
noncomputable def K26 (sf_law15_bare : ((Option N1) × (Unit)) → Option ((Bool) × (Unit))) (k : Nat) : C := outD h c12 (K9 sf_law15_bare k)
noncomputable def K27 (sf_law15_bare : ((Option N1) × (Unit)) → Option ((Bool) × (Unit))) (k : Nat) : C := seqC (E sf_law15_bare) h k c12 (K9 sf_law15_bare k)
abbrev T4 := (Option N1) → Int → R
abbrev T2 := (Option N1) → Int → Bool → R
abbrev T3 := R
abbrev T1 := (Option N1) → Int → R
abbrev T0 := (Option N1) → R
abbrev s4 : (Option N1) → Int → ST cx := fun (x0 : Option N1) (x3 : Int) => ({ vars := [(0, .v (.ptr 1) .ro x0), (3, .v (.int .i64) .ro x3)], scr := [], mems := [] } : ST cx)
noncomputable def u4 (sf_law15_bare : ((Option N1) × (Unit)) → Option ((Bool) × (Unit))) (k n1 : Nat) : T4 := fun (x0 : Option N1) (x3 : Int) => uK (run (E sf_law15_bare) h k c9) (s4 x0 x3) (K19 sf_law15_bare k n1)
noncomputable abbrev l4 (sf_law15_bare : ((Option N1) × (Unit)) → Option ((Bool) × (Unit))) (k n1 : Nat) : T4 := fun (x0 : Option N1) (x3 : Int) => cutK (run (E sf_law15_bare) h k c9) (s4 x0 x3) (K19 sf_law15_bare k n1)
abbrev s2 : (Option N1) → Int → Bool → ST cx := fun (x0 : Option N1) (x3 : Int) (x32 : Bool) => ({ vars := [(0, .v (.ptr 1) .ro x0), (3, .v (.int .i64) .ro x3), (32, .v .bool .ro x32)], scr := [], mems := [] } : ST cx)
noncomputable def u2 (sf_law15_bare : ((Option N1) × (Unit)) → Option ((Bool) × (Unit))) (k n1 : Nat) : T2 := fun (x0 : Option N1) (x3 : Int) (x32 : Bool) => uK (run (E sf_law15_bare) h k c10) (s2 x0 x3 x32) (K22 sf_law15_bare k n1)
noncomputable abbrev l2 (sf_law15_bare : ((Option N1) × (Unit)) → Option ((Bool) × (Unit))) (k n1 : Nat) : T2 := fun (x0 : Option N1) (x3 : Int) (x32 : Bool) => cutK (run (E sf_law15_bare) h k c10) (s2 x0 x3 x32) (K22 sf_law15_bare k n1)
abbrev s3 : ST cx := ({ vars := [], scr := [], mems := [] } : ST cx)
noncomputable def u3 (sf_law15_bare : ((Option N1) × (Unit)) → Option ((Bool) × (Unit))) (k : Nat) : T3 := uK (run (E sf_law15_bare) h k c4) s3 (K9 sf_law15_bare k)
noncomputable abbrev l3 (sf_law15_bare : ((Option N1) × (Unit)) → Option ((Bool) × (Unit))) (k : Nat) : T3 := cutK (run (E sf_law15_bare) h k c4) s3 (K9 sf_law15_bare k)
abbrev s1 : (Option N1) → Int → ST cx := fun (x0 : Option N1) (x3 : Int) => ({ vars := [(0, .v (.ptr 1) .ro x0), (3, .v (.int .i64) .ro x3)], scr := [], mems := [] } : ST cx)
noncomputable def u1 (sf_law15_bare : ((Option N1) × (Unit)) → Option ((Bool) × (Unit))) (k n1 : Nat) : T1 := fun (x0 : Option N1) (x3 : Int) => uK (loopL (E sf_law15_bare) h k c6 (K13 sf_law15_bare k) n1) (s1 x0 x3) ()
noncomputable abbrev l1 (sf_law15_bare : ((Option N1) × (Unit)) → Option ((Bool) × (Unit))) (k n1 : Nat) : T1 := fun (x0 : Option N1) (x3 : Int) => cutK (loopL (E sf_law15_bare) h k c6 (K13 sf_law15_bare k) n1) (s1 x0 x3) ()
noncomputable def u0 (sf_law15_bare : ((Option N1) × (Unit)) → Option ((Bool) × (Unit))) (k : Nat) : T0 := fun (x0 : Option N1) => runOf (S := cx) (E sf_law15_bare) h k Try.f25 [.val (.ptr 1)] .bool .ro (x0, ())
def t4 (sf_law15_bare : ((Option N1) × (Unit)) → Option ((Bool) × (Unit))) (f1 : T1) : T4 := fun (x0 : Option N1) (x3 : Int) => 
  (f1 x0 (w64 (x3 + (1 : Int))))
theorem e4 (sf_law15_bare : ((Option N1) × (Unit)) → Option ((Bool) × (Unit))) (k n1 : Nat) : u4 sf_law15_bare k n1 = t4 sf_law15_bare (l1 sf_law15_bare k n1) := by kernel_rfl
theorem g4 (sf_law15_bare : ((Option N1) × (Unit)) → Option ((Bool) × (Unit))) (k n1 : Nat) : l4 sf_law15_bare k n1 = u4 sf_law15_bare k n1 := funext fun _ => funext fun _ => cut_u _ _ _
theorem d4 (sf_law15_bare : ((Option N1) × (Unit)) → Option ((Bool) × (Unit))) {x1 y1 : T1} (h1 : x1 = y1) : t4 sf_law15_bare x1 = t4 sf_law15_bare y1 := by subst h1; rfl
def p4 (sf_law15_bare : ((Option N1) × (Unit)) → Option ((Bool) × (Unit))) (k : Nat) (a1 : T1) : T4 := t4 sf_law15_bare a1
theorem o4 (sf_law15_bare : ((Option N1) × (Unit)) → Option ((Bool) × (Unit))) (k n1 : Nat) (a1 : T1) (h1 : l1 sf_law15_bare k n1 = a1) : l4 sf_law15_bare k n1 = p4 sf_law15_bare k a1 := (Eq.trans (b := u4 sf_law15_bare k n1) (g4 sf_law15_bare k n1) (Eq.trans (b := t4 sf_law15_bare (l1 sf_law15_bare k n1)) (e4 sf_law15_bare k n1) (Eq.trans (b := t4 sf_law15_bare a1) (d4 sf_law15_bare h1) (by kernel_rfl))))
def t2 (sf_law15_bare : ((Option N1) × (Unit)) → Option ((Bool) × (Unit))) (f4 : T4) : T2 := fun (x0 : Option N1) (x3 : Int) (x32 : Bool) => 
  (iteB x32 (some (true, ())) (f4 x0 x3))
theorem e2 (sf_law15_bare : ((Option N1) × (Unit)) → Option ((Bool) × (Unit))) (k n1 : Nat) : u2 sf_law15_bare k n1 = t2 sf_law15_bare (l4 sf_law15_bare k n1) := by kernel_rfl
theorem g2 (sf_law15_bare : ((Option N1) × (Unit)) → Option ((Bool) × (Unit))) (k n1 : Nat) : l2 sf_law15_bare k n1 = u2 sf_law15_bare k n1 := funext fun _ => funext fun _ => funext fun _ => cut_u _ _ _
theorem d2 (sf_law15_bare : ((Option N1) × (Unit)) → Option ((Bool) × (Unit))) {x4 y4 : T4} (h4 : x4 = y4) : t2 sf_law15_bare x4 = t2 sf_law15_bare y4 := by subst h4; rfl
def p2 (sf_law15_bare : ((Option N1) × (Unit)) → Option ((Bool) × (Unit))) (k : Nat) (a1 : T1) : T2 := t2 sf_law15_bare (p4 sf_law15_bare k a1)
theorem o2 (sf_law15_bare : ((Option N1) × (Unit)) → Option ((Bool) × (Unit))) (k n1 : Nat) (a1 : T1) (h1 : l1 sf_law15_bare k n1 = a1) : l2 sf_law15_bare k n1 = p2 sf_law15_bare k a1 := (Eq.trans (b := u2 sf_law15_bare k n1) (g2 sf_law15_bare k n1) (Eq.trans (b := t2 sf_law15_bare (l4 sf_law15_bare k n1)) (e2 sf_law15_bare k n1) (Eq.trans (b := t2 sf_law15_bare (p4 sf_law15_bare k a1)) (d2 sf_law15_bare (o4 sf_law15_bare k n1 a1 h1)) (by kernel_rfl))))
def t3 (sf_law15_bare : ((Option N1) × (Unit)) → Option ((Bool) × (Unit))) : T3 := 
  (some (false, ()))
theorem e3 (sf_law15_bare : ((Option N1) × (Unit)) → Option ((Bool) × (Unit))) (k : Nat) : u3 sf_law15_bare k = t3 sf_law15_bare := by kernel_rfl
theorem g3 (sf_law15_bare : ((Option N1) × (Unit)) → Option ((Bool) × (Unit))) (k : Nat) : l3 sf_law15_bare k = u3 sf_law15_bare k := cut_u _ _ _
def p3 (sf_law15_bare : ((Option N1) × (Unit)) → Option ((Bool) × (Unit))) (k : Nat) : T3 := t3 sf_law15_bare
theorem o3 (sf_law15_bare : ((Option N1) × (Unit)) → Option ((Bool) × (Unit))) (k : Nat) : l3 sf_law15_bare k = p3 sf_law15_bare k := (Eq.trans (b := u3 sf_law15_bare k) (g3 sf_law15_bare k) (Eq.trans (b := t3 sf_law15_bare) (e3 sf_law15_bare k) (by kernel_rfl)))
def t1 (sf_law15_bare : ((Option N1) × (Unit)) → Option ((Bool) × (Unit))) (f2 : T2) (f3 : T3) : T1 := fun (x0 : Option N1) (x3 : Int) => 
  (bindR x0 fun z1 => (iteB (decide (x3 < ((List.length (out1 z1).2.2.2.1 : Nat) : Int))) (bindR x0 fun z2 => (withinR x3 (List.length (out1 z2).2.2.2.1) fun q3 => (iteB (Option.isNone (List.getD (out1 z2).2.2.2.1 q3 none)) (f2 x0 x3 true) (bindR x0 fun z4 => (withinR x3 (List.length (out1 z4).2.2.2.1) fun q5 => (bindR (sf_law15_bare ((List.getD (out1 z4).2.2.2.1 q5 none), ())) fun r6 => (f2 x0 x3 r6.1))))))) f3))
theorem e1 (sf_law15_bare : ((Option N1) × (Unit)) → Option ((Bool) × (Unit))) (k n1 : Nat) : u1 sf_law15_bare k (n1 + 1) = t1 sf_law15_bare (l2 sf_law15_bare k n1) (l3 sf_law15_bare k) := by kernel_rfl
theorem g1 (sf_law15_bare : ((Option N1) × (Unit)) → Option ((Bool) × (Unit))) (k n1 : Nat) : l1 sf_law15_bare k (n1 + 1) = u1 sf_law15_bare k (n1 + 1) := funext fun _ => funext fun _ => cut_u _ _ _
theorem d1 (sf_law15_bare : ((Option N1) × (Unit)) → Option ((Bool) × (Unit))) {x2 y2 : T2} {x3 y3 : T3} (h2 : x2 = y2) (h3 : x3 = y3) : t1 sf_law15_bare x2 x3 = t1 sf_law15_bare y2 y3 := by subst h2; subst h3; rfl
def p1 (sf_law15_bare : ((Option N1) × (Unit)) → Option ((Bool) × (Unit))) (k : Nat) : Nat → T1
  | 0 => fun _ _ => none
  | n1 + 1 => t1 sf_law15_bare (p2 sf_law15_bare k (p1 sf_law15_bare k n1)) (p3 sf_law15_bare k)
theorem o1 (sf_law15_bare : ((Option N1) × (Unit)) → Option ((Bool) × (Unit))) (k : Nat) : ∀ n1, l1 sf_law15_bare k n1 = p1 sf_law15_bare k n1 := by
  intro n1
  induction n1 with
  | zero => kernel_rfl
  | succ n1 ih => exact (Eq.trans (b := u1 sf_law15_bare k (n1 + 1)) (g1 sf_law15_bare k n1) (Eq.trans (b := t1 sf_law15_bare (l2 sf_law15_bare k n1) (l3 sf_law15_bare k)) (e1 sf_law15_bare k n1) (Eq.trans (b := t1 sf_law15_bare (p2 sf_law15_bare k (p1 sf_law15_bare k n1)) (p3 sf_law15_bare k)) (d1 sf_law15_bare (o2 sf_law15_bare k n1 (p1 sf_law15_bare k n1) ih) (o3 sf_law15_bare k)) (by kernel_rfl))))
def t0 (sf_law15_bare : ((Option N1) × (Unit)) → Option ((Bool) × (Unit))) (f1 : T1) : T0 := fun (x0 : Option N1) => 
  (iteB (Option.isNone x0) (some (false, ())) (f1 x0 (0 : Int)))
theorem e0 (sf_law15_bare : ((Option N1) × (Unit)) → Option ((Bool) × (Unit))) (k : Nat) : u0 sf_law15_bare k = t0 sf_law15_bare (l1 sf_law15_bare k k) := by kernel_rfl
theorem d0 (sf_law15_bare : ((Option N1) × (Unit)) → Option ((Bool) × (Unit))) {x1 y1 : T1} (h1 : x1 = y1) : t0 sf_law15_bare x1 = t0 sf_law15_bare y1 := by subst h1; rfl
def p0 (sf_law15_bare : ((Option N1) × (Unit)) → Option ((Bool) × (Unit))) (k : Nat) : T0 := t0 sf_law15_bare (p1 sf_law15_bare k k)
theorem o0 (sf_law15_bare : ((Option N1) × (Unit)) → Option ((Bool) × (Unit))) (k : Nat) : u0 sf_law15_bare k = p0 sf_law15_bare k := (Eq.trans (b := t0 sf_law15_bare (l1 sf_law15_bare k k)) (e0 sf_law15_bare k) (Eq.trans (b := t0 sf_law15_bare (p1 sf_law15_bare k k)) (d0 sf_law15_bare (o1 sf_law15_bare k k)) (by kernel_rfl)))
end law15_bare
def r_law15_bare : Nat → ((Option N1) × (Unit)) → Option ((Bool) × (Unit))
  | 0, _ => none
  | n + 1, a => law15_bare.p0 (r_law15_bare n) (fuel) a.1
theorem okr_law15_bare : ∀ n, FnOk Try.prog (Fr_law15_bare (r_law15_bare n)) 25
  | 0 => fn_none (fun _ => rfl)
  | n + 1 => fn_of (F := Fr_law15_bare (r_law15_bare (n + 1))) (hn := law15_bare.h) (E := law15_bare.E (r_law15_bare n)) cxOk (tysT _ _ _) (fs_cons (okr_law15_bare n) fs_nil) follows Try.func25 (by kernel_rfl) (fun a r h => ⟨fuel, Eq.trans (c := some r) (congrFun (law15_bare.o0 (r_law15_bare n) (fuel)) a.1) h⟩)
def s_law15_bare (a : (Option N1) × (Unit)) : Option ((Bool) × (Unit)) := r_law15_bare (fuel) a
noncomputable def F_law15_bare : FSpec cx.toNm := Fr_law15_bare s_law15_bare
theorem ok_law15_bare : FnOk Try.prog F_law15_bare 25 := fun w Z own vs a r h1 h2 h3 h4 => (okr_law15_bare (fuel)) w Z own vs a r h1 h2 h3 h4
noncomputable def Fr_ref15_Put (f : ((Option N1) × ((List (Int)) × ((Option N1) × (Unit)))) → Option ((Option N1) × (Unit))) : FSpec cx.toNm := { ps := [.val (.ptr 1), .val (.slice 3 (.int .i64)), .val (.ptr 1)], nres := 1, rt := (.ptr 1), rm := .ro, f := f }
namespace ref15_Put
noncomputable def E (sf_ref15_Put : ((Option N1) × ((List (Int)) × ((Option N1) × (Unit)))) → Option ((Option N1) × (Unit))) : Env cx := { tys := tys, fs := fsOf [(26, (Fr_ref15_Put sf_ref15_Put))] }
abbrev R := Option ((Option N1) × (Unit))
abbrev C := Exit → ST cx → R
noncomputable def b : Code := bodyC Try.f26
noncomputable def h : Hint := { vs := [0, 1, 2, 6, 7, 8, 9], nil := [(30, (.pr .ro (.pr .ro (.pr .ro (.pr (.own .ro) .ro)))))], cuts := [(5, ([0, 1, 2, 7, 8], [31]), ([7], [31])), (6, ([0, 1, 2, 7, 8], [31]), ([0, 1, 2, 7, 8], [31])), (10, ([0, 1, 2, 7, 8, 9], [31]), ([0, 1, 2, 7, 8], [31])), (12, ([7], [31]), ([7], [31]))], ret := ([6], [31]), ords := [] }
noncomputable def K0 (sf_ref15_Put : ((Option N1) × ((List (Int)) × ((Option N1) × (Unit)))) → Option ((Option N1) × (Unit))) : C := fin (S := cx) (E sf_ref15_Put) Try.f26.results.toList (.ptr 1) .ro [] []
noncomputable def c0 : Code := subC b [1]
noncomputable def K1 (sf_ref15_Put : ((Option N1) × ((List (Int)) × ((Option N1) × (Unit)))) → Option ((Option N1) × (Unit))) (k : Nat) : C := outD h c0 (K0 sf_ref15_Put)
noncomputable def K2 (sf_ref15_Put : ((Option N1) × ((List (Int)) × ((Option N1) × (Unit)))) → Option ((Option N1) × (Unit))) (k : Nat) : C := seqC (E sf_ref15_Put) h k c0 (K0 sf_ref15_Put)
noncomputable def c1 : Code := subC b [1, 1]
noncomputable def K3 (sf_ref15_Put : ((Option N1) × ((List (Int)) × ((Option N1) × (Unit)))) → Option ((Option N1) × (Unit))) (k : Nat) : C := outD h c1 (K1 sf_ref15_Put k)
noncomputable def K4 (sf_ref15_Put : ((Option N1) × ((List (Int)) × ((Option N1) × (Unit)))) → Option ((Option N1) × (Unit))) (k : Nat) : C := seqC (E sf_ref15_Put) h k c1 (K1 sf_ref15_Put k)
noncomputable def c2 : Code := subC b [1, 0, 1]
noncomputable def K5 (sf_ref15_Put : ((Option N1) × ((List (Int)) × ((Option N1) × (Unit)))) → Option ((Option N1) × (Unit))) (k : Nat) : C := outD h c2 (K4 sf_ref15_Put k)
noncomputable def K6 (sf_ref15_Put : ((Option N1) × ((List (Int)) × ((Option N1) × (Unit)))) → Option ((Option N1) × (Unit))) (k : Nat) : C := seqC (E sf_ref15_Put) h k c2 (K4 sf_ref15_Put k)
noncomputable def c3 : Code := subC b [1, 0, 1, 0, 1]
noncomputable def K7 (sf_ref15_Put : ((Option N1) × ((List (Int)) × ((Option N1) × (Unit)))) → Option ((Option N1) × (Unit))) (k : Nat) : C := outD h c3 (K5 sf_ref15_Put k)
noncomputable def K8 (sf_ref15_Put : ((Option N1) × ((List (Int)) × ((Option N1) × (Unit)))) → Option ((Option N1) × (Unit))) (k : Nat) : C := seqC (E sf_ref15_Put) h k c3 (K5 sf_ref15_Put k)
noncomputable def c4 : Code := subC b [1, 1, 1]
noncomputable def K9 (sf_ref15_Put : ((Option N1) × ((List (Int)) × ((Option N1) × (Unit)))) → Option ((Option N1) × (Unit))) (k : Nat) : C := outD h c4 (K3 sf_ref15_Put k)
noncomputable def K10 (sf_ref15_Put : ((Option N1) × ((List (Int)) × ((Option N1) × (Unit)))) → Option ((Option N1) × (Unit))) (k : Nat) : C := seqC (E sf_ref15_Put) h k c4 (K3 sf_ref15_Put k)
noncomputable def c5 : Code := subC b [1, 1, 1, 1]
noncomputable def K11 (sf_ref15_Put : ((Option N1) × ((List (Int)) × ((Option N1) × (Unit)))) → Option ((Option N1) × (Unit))) (k : Nat) : C := outD h c5 (K9 sf_ref15_Put k)
noncomputable def K12 (sf_ref15_Put : ((Option N1) × ((List (Int)) × ((Option N1) × (Unit)))) → Option ((Option N1) × (Unit))) (k : Nat) : C := seqC (E sf_ref15_Put) h k c5 (K9 sf_ref15_Put k)
noncomputable def c6 : Code := subC b [1, 1, 1, 0, 1]
noncomputable def K13 (sf_ref15_Put : ((Option N1) × ((List (Int)) × ((Option N1) × (Unit)))) → Option ((Option N1) × (Unit))) (k : Nat) : C := outD h c6 (K12 sf_ref15_Put k)
noncomputable def K14 (sf_ref15_Put : ((Option N1) × ((List (Int)) × ((Option N1) × (Unit)))) → Option ((Option N1) × (Unit))) (k : Nat) : C := seqC (E sf_ref15_Put) h k c6 (K12 sf_ref15_Put k)
noncomputable def K15 (sf_ref15_Put : ((Option N1) × ((List (Int)) × ((Option N1) × (Unit)))) → Option ((Option N1) × (Unit))) (k : Nat) : C := blockK 0 (K13 sf_ref15_Put k)
noncomputable def c7 : Code := subC b [1, 1, 1, 0, 1, 0, 0]
noncomputable def K16 (sf_ref15_Put : ((Option N1) × ((List (Int)) × ((Option N1) × (Unit)))) → Option ((Option N1) × (Unit))) (k n1 : Nat) : C := loopD (E sf_ref15_Put) h k c7 (K15 sf_ref15_Put k) n1
noncomputable def c8 : Code := subC b [1, 1, 1, 0, 1, 0, 0, 1]
noncomputable def K17 (sf_ref15_Put : ((Option N1) × ((List (Int)) × ((Option N1) × (Unit)))) → Option ((Option N1) × (Unit))) (k n1 : Nat) : C := outD h c8 (K16 sf_ref15_Put k n1)
noncomputable def K18 (sf_ref15_Put : ((Option N1) × ((List (Int)) × ((Option N1) × (Unit)))) → Option ((Option N1) × (Unit))) (k n1 : Nat) : C := seqC (E sf_ref15_Put) h k c8 (K16 sf_ref15_Put k n1)
noncomputable def c9 : Code := subC b [1, 1, 1, 0, 1, 0, 0, 0, 1]
noncomputable def K19 (sf_ref15_Put : ((Option N1) × ((List (Int)) × ((Option N1) × (Unit)))) → Option ((Option N1) × (Unit))) (k n1 : Nat) : C := outD h c9 (K18 sf_ref15_Put k n1)
noncomputable def K20 (sf_ref15_Put : ((Option N1) × ((List (Int)) × ((Option N1) × (Unit)))) → Option ((Option N1) × (Unit))) (k n1 : Nat) : C := seqC (E sf_ref15_Put) h k c9 (K18 sf_ref15_Put k n1)
noncomputable def c10 : Code := subC b [1, 1, 1, 0, 1, 0, 0, 1, 1]
noncomputable def K21 (sf_ref15_Put : ((Option N1) × ((List (Int)) × ((Option N1) × (Unit)))) → Option ((Option N1) × (Unit))) (k n1 : Nat) : C := outD h c10 (K17 sf_ref15_Put k n1)
noncomputable def K22 (sf_ref15_Put : ((Option N1) × ((List (Int)) × ((Option N1) × (Unit)))) → Option ((Option N1) × (Unit))) (k n1 : Nat) : C := seqC (E sf_ref15_Put) h k c10 (K17 sf_ref15_Put k n1)
noncomputable def K23 (sf_ref15_Put : ((Option N1) × ((List (Int)) × ((Option N1) × (Unit)))) → Option ((Option N1) × (Unit))) (k n1 : Nat) : C := blockK 1 (K22 sf_ref15_Put k n1)
noncomputable def c11 : Code := subC b [1, 1, 1, 0, 1, 0, 0, 1, 0, 0, 1]
noncomputable def K24 (sf_ref15_Put : ((Option N1) × ((List (Int)) × ((Option N1) × (Unit)))) → Option ((Option N1) × (Unit))) (k n1 : Nat) : C := outD h c11 (K23 sf_ref15_Put k n1)
noncomputable def K25 (sf_ref15_Put : ((Option N1) × ((List (Int)) × ((Option N1) × (Unit)))) → Option ((Option N1) × (Unit))) (k n1 : Nat) : C := seqC (E sf_ref15_Put) h k c11 (K23 sf_ref15_Put k n1)
noncomputable def c12 : Code := subC b [1, 1, 1, 0, 1, 0, 0, 1, 0, 0, 1, 1]
noncomputable def K26 (sf_ref15_Put : ((Option N1) × ((List (Int)) × ((Option N1) × (Unit)))) → Option ((Option N1) × (Unit))) (k n1 : Nat) : C := outD h c12 (K24 sf_ref15_Put k n1)
noncomputable def K27 (sf_ref15_Put : ((Option N1) × ((List (Int)) × ((Option N1) × (Unit)))) → Option ((Option N1) × (Unit))) (k n1 : Nat) : C := seqC (E sf_ref15_Put) h k c12 (K24 sf_ref15_Put k n1)
noncomputable def c13 : Code := subC b [1, 1, 1, 0, 1, 0, 0, 1, 0, 0, 1, 0, 1]
noncomputable def K28 (sf_ref15_Put : ((Option N1) × ((List (Int)) × ((Option N1) × (Unit)))) → Option ((Option N1) × (Unit))) (k n1 : Nat) : C := outD h c13 (K27 sf_ref15_Put k n1)
noncomputable def K29 (sf_ref15_Put : ((Option N1) × ((List (Int)) × ((Option N1) × (Unit)))) → Option ((Option N1) × (Unit))) (k n1 : Nat) : C := seqC (E sf_ref15_Put) h k c13 (K27 sf_ref15_Put k n1)
noncomputable def c14 : Code := subC b [1, 1, 1, 0, 1, 0, 0, 1, 0, 0, 1, 1, 1]
noncomputable def K30 (sf_ref15_Put : ((Option N1) × ((List (Int)) × ((Option N1) × (Unit)))) → Option ((Option N1) × (Unit))) (k n1 : Nat) : C := outD h c14 (K26 sf_ref15_Put k n1)
noncomputable def K31 (sf_ref15_Put : ((Option N1) × ((List (Int)) × ((Option N1) × (Unit)))) → Option ((Option N1) × (Unit))) (k n1 : Nat) : C := seqC (E sf_ref15_Put) h k c14 (K26 sf_ref15_Put k n1)
noncomputable def c15 : Code := subC b [1, 1, 1, 1, 1]
noncomputable def K32 (sf_ref15_Put : ((Option N1) × ((List (Int)) × ((Option N1) × (Unit)))) → Option ((Option N1) × (Unit))) (k : Nat) : C := outD h c15 (K11 sf_ref15_Put k)
noncomputable def K33 (sf_ref15_Put : ((Option N1) × ((List (Int)) × ((Option N1) × (Unit)))) → Option ((Option N1) × (Unit))) (k : Nat) : C := seqC (E sf_ref15_Put) h k c15 (K11 sf_ref15_Put k)
abbrev T4 := (Option N1) → (List (Int)) → (Option N1) → Int → D1 → R
abbrev T2 := (Option N1) → (List (Int)) → (Option N1) → Int → (Option N1) → D1 → R
abbrev T3 := D1 → R
abbrev T1 := (Option N1) → (List (Int)) → (Option N1) → Int → D1 → R
abbrev T0 := (Option N1) → (List (Int)) → (Option N1) → R
abbrev s4 : (Option N1) → (List (Int)) → (Option N1) → Int → D1 → ST cx := fun (x0 : Option N1) (x1 : List (Int)) (x2 : Option N1) (x8 : Int) (m31 : D1) => ({ vars := [(0, .v (.ptr 1) .ro x0), (1, .v (.slice 3 (.int .i64)) .ro x1), (2, .v (.ptr 1) .ro x2), (7, .addr (.mem 31) []), (8, .v (.int .i64) .ro x8)], scr := [], mems := [(31, ⟨ty1, (.pr .ro (.pr .ro (.pr .ro (.pr (.own .ro) .ro)))), m31⟩)] } : ST cx)
noncomputable def u4 (sf_ref15_Put : ((Option N1) × ((List (Int)) × ((Option N1) × (Unit)))) → Option ((Option N1) × (Unit))) (k n1 : Nat) : T4 := fun (x0 : Option N1) (x1 : List (Int)) (x2 : Option N1) (x8 : Int) (m31 : D1) => uK (run (E sf_ref15_Put) h k c10) (s4 x0 x1 x2 x8 m31) (K21 sf_ref15_Put k n1)
noncomputable abbrev l4 (sf_ref15_Put : ((Option N1) × ((List (Int)) × ((Option N1) × (Unit)))) → Option ((Option N1) × (Unit))) (k n1 : Nat) : T4 := fun (x0 : Option N1) (x1 : List (Int)) (x2 : Option N1) (x8 : Int) (m31 : D1) => cutK (run (E sf_ref15_Put) h k c10) (s4 x0 x1 x2 x8 m31) (K21 sf_ref15_Put k n1)
abbrev s2 : (Option N1) → (List (Int)) → (Option N1) → Int → (Option N1) → D1 → ST cx := fun (x0 : Option N1) (x1 : List (Int)) (x2 : Option N1) (x8 : Int) (x9 : Option N1) (m31 : D1) => ({ vars := [(0, .v (.ptr 1) .ro x0), (1, .v (.slice 3 (.int .i64)) .ro x1), (2, .v (.ptr 1) .ro x2), (7, .addr (.mem 31) []), (8, .v (.int .i64) .ro x8), (9, .v (.ptr 1) .ro x9)], scr := [], mems := [(31, ⟨ty1, (.pr .ro (.pr .ro (.pr .ro (.pr (.own .ro) .ro)))), m31⟩)] } : ST cx)
noncomputable def u2 (sf_ref15_Put : ((Option N1) × ((List (Int)) × ((Option N1) × (Unit)))) → Option ((Option N1) × (Unit))) (k n1 : Nat) : T2 := fun (x0 : Option N1) (x1 : List (Int)) (x2 : Option N1) (x8 : Int) (x9 : Option N1) (m31 : D1) => uK (run (E sf_ref15_Put) h k c12) (s2 x0 x1 x2 x8 x9 m31) (K26 sf_ref15_Put k n1)
noncomputable abbrev l2 (sf_ref15_Put : ((Option N1) × ((List (Int)) × ((Option N1) × (Unit)))) → Option ((Option N1) × (Unit))) (k n1 : Nat) : T2 := fun (x0 : Option N1) (x1 : List (Int)) (x2 : Option N1) (x8 : Int) (x9 : Option N1) (m31 : D1) => cutK (run (E sf_ref15_Put) h k c12) (s2 x0 x1 x2 x8 x9 m31) (K26 sf_ref15_Put k n1)
abbrev s3 : D1 → ST cx := fun (m31 : D1) => ({ vars := [(7, .addr (.mem 31) [])], scr := [], mems := [(31, ⟨ty1, (.pr .ro (.pr .ro (.pr .ro (.pr (.own .ro) .ro)))), m31⟩)] } : ST cx)
noncomputable def u3 (sf_ref15_Put : ((Option N1) × ((List (Int)) × ((Option N1) × (Unit)))) → Option ((Option N1) × (Unit))) (k : Nat) : T3 := fun (m31 : D1) => uK (run (E sf_ref15_Put) h k c5) (s3 m31) (K11 sf_ref15_Put k)
noncomputable abbrev l3 (sf_ref15_Put : ((Option N1) × ((List (Int)) × ((Option N1) × (Unit)))) → Option ((Option N1) × (Unit))) (k : Nat) : T3 := fun (m31 : D1) => cutK (run (E sf_ref15_Put) h k c5) (s3 m31) (K11 sf_ref15_Put k)
abbrev s1 : (Option N1) → (List (Int)) → (Option N1) → Int → D1 → ST cx := fun (x0 : Option N1) (x1 : List (Int)) (x2 : Option N1) (x8 : Int) (m31 : D1) => ({ vars := [(0, .v (.ptr 1) .ro x0), (1, .v (.slice 3 (.int .i64)) .ro x1), (2, .v (.ptr 1) .ro x2), (7, .addr (.mem 31) []), (8, .v (.int .i64) .ro x8)], scr := [], mems := [(31, ⟨ty1, (.pr .ro (.pr .ro (.pr .ro (.pr (.own .ro) .ro)))), m31⟩)] } : ST cx)
noncomputable def u1 (sf_ref15_Put : ((Option N1) × ((List (Int)) × ((Option N1) × (Unit)))) → Option ((Option N1) × (Unit))) (k n1 : Nat) : T1 := fun (x0 : Option N1) (x1 : List (Int)) (x2 : Option N1) (x8 : Int) (m31 : D1) => uK (loopL (E sf_ref15_Put) h k c7 (K15 sf_ref15_Put k) n1) (s1 x0 x1 x2 x8 m31) ()
noncomputable abbrev l1 (sf_ref15_Put : ((Option N1) × ((List (Int)) × ((Option N1) × (Unit)))) → Option ((Option N1) × (Unit))) (k n1 : Nat) : T1 := fun (x0 : Option N1) (x1 : List (Int)) (x2 : Option N1) (x8 : Int) (m31 : D1) => cutK (loopL (E sf_ref15_Put) h k c7 (K15 sf_ref15_Put k) n1) (s1 x0 x1 x2 x8 m31) ()
noncomputable def u0 (sf_ref15_Put : ((Option N1) × ((List (Int)) × ((Option N1) × (Unit)))) → Option ((Option N1) × (Unit))) (k : Nat) : T0 := fun (x0 : Option N1) (x1 : List (Int)) (x2 : Option N1) => runOf (S := cx) (E sf_ref15_Put) h k Try.f26 [.val (.ptr 1), .val (.slice 3 (.int .i64)), .val (.ptr 1)] (.ptr 1) .ro (x0, x1, x2, ())
def t4 (sf_ref15_Put : ((Option N1) × ((List (Int)) × ((Option N1) × (Unit)))) → Option ((Option N1) × (Unit))) (f1 : T1) : T4 := fun (x0 : Option N1) (x1 : List (Int)) (x2 : Option N1) (x8 : Int) (m31 : D1) => 
  (f1 x0 x1 x2 (w64 (x8 + (1 : Int))) m31)
theorem e4 (sf_ref15_Put : ((Option N1) × ((List (Int)) × ((Option N1) × (Unit)))) → Option ((Option N1) × (Unit))) (k n1 : Nat) : u4 sf_ref15_Put k n1 = t4 sf_ref15_Put (l1 sf_ref15_Put k n1) := by kernel_rfl
theorem g4 (sf_ref15_Put : ((Option N1) × ((List (Int)) × ((Option N1) × (Unit)))) → Option ((Option N1) × (Unit))) (k n1 : Nat) : l4 sf_ref15_Put k n1 = u4 sf_ref15_Put k n1 := funext fun _ => funext fun _ => funext fun _ => funext fun _ => funext fun _ => cut_u _ _ _
theorem d4 (sf_ref15_Put : ((Option N1) × ((List (Int)) × ((Option N1) × (Unit)))) → Option ((Option N1) × (Unit))) {x1 y1 : T1} (h1 : x1 = y1) : t4 sf_ref15_Put x1 = t4 sf_ref15_Put y1 := by subst h1; rfl
def p4 (sf_ref15_Put : ((Option N1) × ((List (Int)) × ((Option N1) × (Unit)))) → Option ((Option N1) × (Unit))) (k : Nat) (a1 : T1) : T4 := t4 sf_ref15_Put a1
theorem o4 (sf_ref15_Put : ((Option N1) × ((List (Int)) × ((Option N1) × (Unit)))) → Option ((Option N1) × (Unit))) (k n1 : Nat) (a1 : T1) (h1 : l1 sf_ref15_Put k n1 = a1) : l4 sf_ref15_Put k n1 = p4 sf_ref15_Put k a1 := (Eq.trans (b := u4 sf_ref15_Put k n1) (g4 sf_ref15_Put k n1) (Eq.trans (b := t4 sf_ref15_Put (l1 sf_ref15_Put k n1)) (e4 sf_ref15_Put k n1) (Eq.trans (b := t4 sf_ref15_Put a1) (d4 sf_ref15_Put h1) (by kernel_rfl))))
def t2 (sf_ref15_Put : ((Option N1) × ((List (Int)) × ((Option N1) × (Unit)))) → Option ((Option N1) × (Unit))) (f4 : T4) : T2 := fun (x0 : Option N1) (x1 : List (Int)) (x2 : Option N1) (x8 : Int) (x9 : Option N1) (m31 : D1) => 
  (mustR (room m31.2.2.2.1 ([x9] : List (Option N1))) (bindR x9 fun z10 => (f4 x0 x1 x2 x8 (m31.1, (m31.2.1, (m31.2.2.1, ((m31.2.2.2.1 ++ ([x9] : List (Option N1))), ((w64 (m31.2.2.2.2.1 + (out1 z10).2.2.2.2.1)), m31.2.2.2.2.2))))))))
theorem e2 (sf_ref15_Put : ((Option N1) × ((List (Int)) × ((Option N1) × (Unit)))) → Option ((Option N1) × (Unit))) (k n1 : Nat) : u2 sf_ref15_Put k n1 = t2 sf_ref15_Put (l4 sf_ref15_Put k n1) := by kernel_rfl
theorem g2 (sf_ref15_Put : ((Option N1) × ((List (Int)) × ((Option N1) × (Unit)))) → Option ((Option N1) × (Unit))) (k n1 : Nat) : l2 sf_ref15_Put k n1 = u2 sf_ref15_Put k n1 := funext fun _ => funext fun _ => funext fun _ => funext fun _ => funext fun _ => funext fun _ => cut_u _ _ _
theorem d2 (sf_ref15_Put : ((Option N1) × ((List (Int)) × ((Option N1) × (Unit)))) → Option ((Option N1) × (Unit))) {x4 y4 : T4} (h4 : x4 = y4) : t2 sf_ref15_Put x4 = t2 sf_ref15_Put y4 := by subst h4; rfl
def p2 (sf_ref15_Put : ((Option N1) × ((List (Int)) × ((Option N1) × (Unit)))) → Option ((Option N1) × (Unit))) (k : Nat) (a1 : T1) : T2 := t2 sf_ref15_Put (p4 sf_ref15_Put k a1)
theorem o2 (sf_ref15_Put : ((Option N1) × ((List (Int)) × ((Option N1) × (Unit)))) → Option ((Option N1) × (Unit))) (k n1 : Nat) (a1 : T1) (h1 : l1 sf_ref15_Put k n1 = a1) : l2 sf_ref15_Put k n1 = p2 sf_ref15_Put k a1 := (Eq.trans (b := u2 sf_ref15_Put k n1) (g2 sf_ref15_Put k n1) (Eq.trans (b := t2 sf_ref15_Put (l4 sf_ref15_Put k n1)) (e2 sf_ref15_Put k n1) (Eq.trans (b := t2 sf_ref15_Put (p4 sf_ref15_Put k a1)) (d2 sf_ref15_Put (o4 sf_ref15_Put k n1 a1 h1)) (by kernel_rfl))))
def t3 (sf_ref15_Put : ((Option N1) × ((List (Int)) × ((Option N1) × (Unit)))) → Option ((Option N1) × (Unit))) : T3 := fun (m31 : D1) => 
  (some ((some (pk1 m31)), ()))
theorem e3 (sf_ref15_Put : ((Option N1) × ((List (Int)) × ((Option N1) × (Unit)))) → Option ((Option N1) × (Unit))) (k : Nat) : u3 sf_ref15_Put k = t3 sf_ref15_Put := by kernel_rfl
theorem g3 (sf_ref15_Put : ((Option N1) × ((List (Int)) × ((Option N1) × (Unit)))) → Option ((Option N1) × (Unit))) (k : Nat) : l3 sf_ref15_Put k = u3 sf_ref15_Put k := funext fun _ => cut_u _ _ _
def p3 (sf_ref15_Put : ((Option N1) × ((List (Int)) × ((Option N1) × (Unit)))) → Option ((Option N1) × (Unit))) (k : Nat) : T3 := t3 sf_ref15_Put
theorem o3 (sf_ref15_Put : ((Option N1) × ((List (Int)) × ((Option N1) × (Unit)))) → Option ((Option N1) × (Unit))) (k : Nat) : l3 sf_ref15_Put k = p3 sf_ref15_Put k := (Eq.trans (b := u3 sf_ref15_Put k) (g3 sf_ref15_Put k) (Eq.trans (b := t3 sf_ref15_Put) (e3 sf_ref15_Put k) (by kernel_rfl)))
def t1 (sf_ref15_Put : ((Option N1) × ((List (Int)) × ((Option N1) × (Unit)))) → Option ((Option N1) × (Unit))) (f2 : T2) (f3 : T3) : T1 := fun (x0 : Option N1) (x1 : List (Int)) (x2 : Option N1) (x8 : Int) (m31 : D1) => 
  (bindR x0 fun z5 => (iteB (decide (x8 < ((List.length (out1 z5).2.2.2.1 : Nat) : Int))) (bindR x0 fun z6 => (withinR x8 (List.length (out1 z6).2.2.2.1) fun q7 => (withinR (0 : Int) (List.length x1) fun q8 => (iteB (decide (x8 = (List.getD x1 q8 (0 : Int)))) (mustR (decide (0 ≤ (1 : Int))) (mustR (decide ((1 : Int) ≤ (((List.length x1) : Nat) : Int))) (bindR (sf_ref15_Put ((List.getD (out1 z6).2.2.2.1 q7 none), ((List.drop (Int.toNat (1 : Int)) (List.take (List.length x1) x1)), (x2, ())))) fun r9 => (f2 x0 x1 x2 x8 r9.1 m31)))) (f2 x0 x1 x2 x8 (List.getD (out1 z6).2.2.2.1 q7 none) m31))))) (f3 m31)))
theorem e1 (sf_ref15_Put : ((Option N1) × ((List (Int)) × ((Option N1) × (Unit)))) → Option ((Option N1) × (Unit))) (k n1 : Nat) : u1 sf_ref15_Put k (n1 + 1) = t1 sf_ref15_Put (l2 sf_ref15_Put k n1) (l3 sf_ref15_Put k) := by kernel_rfl
theorem g1 (sf_ref15_Put : ((Option N1) × ((List (Int)) × ((Option N1) × (Unit)))) → Option ((Option N1) × (Unit))) (k n1 : Nat) : l1 sf_ref15_Put k (n1 + 1) = u1 sf_ref15_Put k (n1 + 1) := funext fun _ => funext fun _ => funext fun _ => funext fun _ => funext fun _ => cut_u _ _ _
theorem d1 (sf_ref15_Put : ((Option N1) × ((List (Int)) × ((Option N1) × (Unit)))) → Option ((Option N1) × (Unit))) {x2 y2 : T2} {x3 y3 : T3} (h2 : x2 = y2) (h3 : x3 = y3) : t1 sf_ref15_Put x2 x3 = t1 sf_ref15_Put y2 y3 := by subst h2; subst h3; rfl
def p1 (sf_ref15_Put : ((Option N1) × ((List (Int)) × ((Option N1) × (Unit)))) → Option ((Option N1) × (Unit))) (k : Nat) : Nat → T1
  | 0 => fun _ _ _ _ _ => none
  | n1 + 1 => t1 sf_ref15_Put (p2 sf_ref15_Put k (p1 sf_ref15_Put k n1)) (p3 sf_ref15_Put k)
theorem o1 (sf_ref15_Put : ((Option N1) × ((List (Int)) × ((Option N1) × (Unit)))) → Option ((Option N1) × (Unit))) (k : Nat) : ∀ n1, l1 sf_ref15_Put k n1 = p1 sf_ref15_Put k n1 := by
  intro n1
  induction n1 with
  | zero => kernel_rfl
  | succ n1 ih => exact (Eq.trans (b := u1 sf_ref15_Put k (n1 + 1)) (g1 sf_ref15_Put k n1) (Eq.trans (b := t1 sf_ref15_Put (l2 sf_ref15_Put k n1) (l3 sf_ref15_Put k)) (e1 sf_ref15_Put k n1) (Eq.trans (b := t1 sf_ref15_Put (p2 sf_ref15_Put k (p1 sf_ref15_Put k n1)) (p3 sf_ref15_Put k)) (d1 sf_ref15_Put (o2 sf_ref15_Put k n1 (p1 sf_ref15_Put k n1) ih) (o3 sf_ref15_Put k)) (by kernel_rfl))))
def t0 (sf_ref15_Put : ((Option N1) × ((List (Int)) × ((Option N1) × (Unit)))) → Option ((Option N1) × (Unit))) (f1 : T1) : T0 := fun (x0 : Option N1) (x1 : List (Int)) (x2 : Option N1) => 
  (iteB (decide (((List.length x1 : Nat) : Int) = (0 : Int))) (some (x2, ())) (bindR x0 fun z1 => (bindR x0 fun z2 => (bindR x0 fun z3 => (bindR x0 fun z4 => (f1 x0 x1 x2 (0 : Int) ((out1 z1).1, ((out1 z2).2.1, ((out1 z3).2.2.1, (([] : List (Option N1)), ((0 : Int), (out1 z4).2.2.2.2.2)))))))))))
theorem e0 (sf_ref15_Put : ((Option N1) × ((List (Int)) × ((Option N1) × (Unit)))) → Option ((Option N1) × (Unit))) (k : Nat) : u0 sf_ref15_Put k = t0 sf_ref15_Put (l1 sf_ref15_Put k k) := by kernel_rfl
theorem d0 (sf_ref15_Put : ((Option N1) × ((List (Int)) × ((Option N1) × (Unit)))) → Option ((Option N1) × (Unit))) {x1 y1 : T1} (h1 : x1 = y1) : t0 sf_ref15_Put x1 = t0 sf_ref15_Put y1 := by subst h1; rfl
def p0 (sf_ref15_Put : ((Option N1) × ((List (Int)) × ((Option N1) × (Unit)))) → Option ((Option N1) × (Unit))) (k : Nat) : T0 := t0 sf_ref15_Put (p1 sf_ref15_Put k k)
theorem o0 (sf_ref15_Put : ((Option N1) × ((List (Int)) × ((Option N1) × (Unit)))) → Option ((Option N1) × (Unit))) (k : Nat) : u0 sf_ref15_Put k = p0 sf_ref15_Put k := (Eq.trans (b := t0 sf_ref15_Put (l1 sf_ref15_Put k k)) (e0 sf_ref15_Put k) (Eq.trans (b := t0 sf_ref15_Put (p1 sf_ref15_Put k k)) (d0 sf_ref15_Put (o1 sf_ref15_Put k k)) (by kernel_rfl)))
end ref15_Put
def r_ref15_Put : Nat → ((Option N1) × ((List (Int)) × ((Option N1) × (Unit)))) → Option ((Option N1) × (Unit))
  | 0, _ => none
  | n + 1, a => ref15_Put.p0 (r_ref15_Put n) (fuel) a.1 a.2.1 a.2.2.1
theorem okr_ref15_Put : ∀ n, FnOk Try.prog (Fr_ref15_Put (r_ref15_Put n)) 26
  | 0 => fn_none (fun _ => rfl)
  | n + 1 => fn_of (F := Fr_ref15_Put (r_ref15_Put (n + 1))) (hn := ref15_Put.h) (E := ref15_Put.E (r_ref15_Put n)) cxOk (tysT _ _ _) (fs_cons (okr_ref15_Put n) fs_nil) follows Try.func26 (by kernel_rfl) (fun a r h => ⟨fuel, Eq.trans (c := some r) (congrFun (congrFun (congrFun (ref15_Put.o0 (r_ref15_Put n) (fuel)) a.1) a.2.1) a.2.2.1) h⟩)
def s_ref15_Put (a : (Option N1) × ((List (Int)) × ((Option N1) × (Unit)))) : Option ((Option N1) × (Unit)) := r_ref15_Put (fuel) a
noncomputable def F_ref15_Put : FSpec cx.toNm := Fr_ref15_Put s_ref15_Put
theorem ok_ref15_Put : FnOk Try.prog F_ref15_Put 26 := fun w Z own vs a r h1 h2 h3 h4 => (okr_ref15_Put (fuel)) w Z own vs a r h1 h2 h3 h4
namespace ref15_name
noncomputable def E : Env cx := { tys := tys, fs := fsOf [] }
abbrev R := Option ((List UInt8) × (Unit))
abbrev C := Exit → ST cx → R
noncomputable def b : Code := bodyC Try.f45
noncomputable def h : Hint := { vs := [0, 1, 2, 4], nil := [], cuts := [(2, ([1, 2, 13], [2]), ([1, 2], [2])), (3, ([1, 2], [2]), ([1, 2], [2]))], ret := ([4], [2]), ords := [] }
noncomputable def K0 : C := fin (S := cx) E Try.f45.results.toList .str .ro [] []
noncomputable def c0 : Code := subC b [1]
noncomputable def K1 (k : Nat) : C := outD h c0 K0
noncomputable def K2 (k : Nat) : C := seqC E h k c0 K0
noncomputable def c1 : Code := subC b [1, 1]
noncomputable def K3 (k : Nat) : C := outD h c1 (K1 k)
noncomputable def K4 (k : Nat) : C := seqC E h k c1 (K1 k)
noncomputable def c2 : Code := subC b [1, 0, 1]
noncomputable def K5 (k : Nat) : C := outD h c2 (K4 k)
noncomputable def K6 (k : Nat) : C := seqC E h k c2 (K4 k)
noncomputable def c3 : Code := subC b [1, 0, 1, 0, 1]
noncomputable def K7 (k : Nat) : C := outD h c3 (K5 k)
noncomputable def K8 (k : Nat) : C := seqC E h k c3 (K5 k)
noncomputable def c4 : Code := subC b [1, 1, 1]
noncomputable def K9 (k : Nat) : C := outD h c4 (K3 k)
noncomputable def K10 (k : Nat) : C := seqC E h k c4 (K3 k)
abbrev T2 := Int → D0 → R
abbrev T1 := Int → Bool → D0 → R
abbrev T0 := D0 → Int → R
abbrev s2 : Int → D0 → ST cx := fun (x1 : Int) (m2 : D0) => ({ vars := [(1, .v (.int .i64) .ro x1), (2, .addr (.mem 2) [])], scr := [], mems := [(2, ⟨ty0, .ro, m2⟩)] } : ST cx)
noncomputable def u2 (k : Nat) : T2 := fun (x1 : Int) (m2 : D0) => uK (run E h k c1) (s2 x1 m2) (K3 k)
noncomputable abbrev l2 (k : Nat) : T2 := fun (x1 : Int) (m2 : D0) => cutK (run E h k c1) (s2 x1 m2) (K3 k)
abbrev s1 : Int → Bool → D0 → ST cx := fun (x1 : Int) (x13 : Bool) (m2 : D0) => ({ vars := [(1, .v (.int .i64) .ro x1), (2, .addr (.mem 2) []), (13, .v .bool .ro x13)], scr := [], mems := [(2, ⟨ty0, .ro, m2⟩)] } : ST cx)
noncomputable def u1 (k : Nat) : T1 := fun (x1 : Int) (x13 : Bool) (m2 : D0) => uK (run E h k c2) (s1 x1 x13 m2) (K5 k)
noncomputable abbrev l1 (k : Nat) : T1 := fun (x1 : Int) (x13 : Bool) (m2 : D0) => cutK (run E h k c2) (s1 x1 x13 m2) (K5 k)
noncomputable def u0 (k : Nat) : T0 := fun (x0 : D0) (x1 : Int) => runOf (S := cx) E h k Try.f45 [.val ty0, .val (.int .i64)] .str .ro (x0, x1, ())
def t2 : T2 := fun (x1 : Int) (m2 : D0) => 
  (withinR x1 (List.length m2.1) fun q1 => (some ((List.getD m2.1 q1 ([] : List UInt8)), ())))
theorem e2 (k : Nat) : u2 k = t2 := by kernel_rfl
theorem g2 (k : Nat) : l2 k = u2 k := funext fun _ => funext fun _ => cut_u _ _ _
def p2 (k : Nat) : T2 := t2
theorem o2 (k : Nat) : l2 k = p2 k := (Eq.trans (b := u2 k) (g2 k) (Eq.trans (b := t2) (e2 k) (by kernel_rfl)))
def t1 (f2 : T2) : T1 := fun (x1 : Int) (x13 : Bool) (m2 : D0) => 
  (iteB x13 (some (([63] : List UInt8), ())) (f2 x1 m2))
theorem e1 (k : Nat) : u1 k = t1 (l2 k) := by kernel_rfl
theorem g1 (k : Nat) : l1 k = u1 k := funext fun _ => funext fun _ => funext fun _ => cut_u _ _ _
theorem d1 {x2 y2 : T2} (h2 : x2 = y2) : t1 x2 = t1 y2 := by subst h2; rfl
def p1 (k : Nat) : T1 := t1 (p2 k)
theorem o1 (k : Nat) : l1 k = p1 k := (Eq.trans (b := u1 k) (g1 k) (Eq.trans (b := t1 (l2 k)) (e1 k) (Eq.trans (b := t1 (p2 k)) (d1 (o2 k)) (by kernel_rfl))))
def t0 (f1 : T1) : T0 := fun (x0 : D0) (x1 : Int) => 
  (iteB (decide (x1 < (0 : Int))) (f1 x1 true x0) (f1 x1 (decide (((List.length x0.1 : Nat) : Int) ≤ x1)) x0))
theorem e0 (k : Nat) : u0 k = t0 (l1 k) := by kernel_rfl
theorem d0 {x1 y1 : T1} (h1 : x1 = y1) : t0 x1 = t0 y1 := by subst h1; rfl
def p0 (k : Nat) : T0 := t0 (p1 k)
theorem o0 (k : Nat) : u0 k = p0 k := (Eq.trans (b := t0 (l1 k)) (e0 k) (Eq.trans (b := t0 (p1 k)) (d0 (o1 k)) (by kernel_rfl)))
end ref15_name
def s_ref15_name (a : (D0) × ((Int) × (Unit))) : Option ((List UInt8) × (Unit)) := ref15_name.p0 (fuel) a.1 a.2.1
noncomputable def F_ref15_name : FSpec cx.toNm := { ps := [.val ty0, .val (.int .i64)], nres := 1, rt := .str, rm := .ro, f := s_ref15_name }
theorem w_ref15_name (a : (D0) × ((Int) × (Unit))) : runOf (S := cx) ref15_name.E ref15_name.h (fuel) Try.f45 F_ref15_name.ps F_ref15_name.rt F_ref15_name.rm a = s_ref15_name a := Eq.trans (b := ref15_name.u0 (fuel) a.1 a.2.1) (by kernel_rfl) (Eq.trans (b := ref15_name.p0 (fuel) a.1 a.2.1) (congrFun (congrFun (ref15_name.o0 (fuel)) a.1) a.2.1) (by kernel_rfl))
theorem ok_ref15_name : FnOk Try.prog F_ref15_name 45 := fn_of (F := F_ref15_name) (hn := ref15_name.h) (E := ref15_name.E) cxOk (tysT _ _ _) fs_nil follows Try.func45 (by kernel_rfl) (fun a r h => ⟨fuel, Eq.trans (w_ref15_name a) h⟩)
noncomputable def Fr_ref15_Show (f : ((D0) × ((Option N1) × (Unit))) → Option ((List UInt8) × (Unit))) : FSpec cx.toNm := { ps := [.val ty0, .val (.ptr 1)], nres := 1, rt := .str, rm := .ro, f := f }
namespace ref15_Show
noncomputable def E (sf_ref15_Show : ((D0) × ((Option N1) × (Unit))) → Option ((List UInt8) × (Unit))) : Env cx := { tys := tys, fs := fsOf [(27, (Fr_ref15_Show sf_ref15_Show)), (45, F_ref15_name)] }
abbrev R := Option ((List UInt8) × (Unit))
abbrev C := Exit → ST cx → R
noncomputable def b : Code := bodyC Try.f27
noncomputable def h : Hint := { vs := [0, 1, 2, 4, 5, 6], nil := [], cuts := [(7, ([1, 2, 5, 6], [2]), ([5], [])), (8, ([1, 2, 5, 6], [2]), ([1, 2, 5, 6], [2])), (11, ([1, 2, 5, 6], [2]), ([1, 2, 5, 6], [2])), (12, ([5], []), ([5], []))], ret := ([4], [2]), ords := [(4, [0, 1, 2, 3, 4, 7, 8, 9, 10, 5, 6, 11, 12])] }
noncomputable def K0 (sf_ref15_Show : ((D0) × ((Option N1) × (Unit))) → Option ((List UInt8) × (Unit))) : C := fin (S := cx) (E sf_ref15_Show) Try.f27.results.toList .str .ro [] []
noncomputable def c0 : Code := subC b [1]
noncomputable def K1 (sf_ref15_Show : ((D0) × ((Option N1) × (Unit))) → Option ((List UInt8) × (Unit))) (k : Nat) : C := outD h c0 (K0 sf_ref15_Show)
noncomputable def K2 (sf_ref15_Show : ((D0) × ((Option N1) × (Unit))) → Option ((List UInt8) × (Unit))) (k : Nat) : C := seqC (E sf_ref15_Show) h k c0 (K0 sf_ref15_Show)
noncomputable def c1 : Code := subC b [1, 1]
noncomputable def K3 (sf_ref15_Show : ((D0) × ((Option N1) × (Unit))) → Option ((List UInt8) × (Unit))) (k : Nat) : C := outD h c1 (K1 sf_ref15_Show k)
noncomputable def K4 (sf_ref15_Show : ((D0) × ((Option N1) × (Unit))) → Option ((List UInt8) × (Unit))) (k : Nat) : C := seqC (E sf_ref15_Show) h k c1 (K1 sf_ref15_Show k)
noncomputable def c2 : Code := subC b [1, 0, 1]
noncomputable def K5 (sf_ref15_Show : ((D0) × ((Option N1) × (Unit))) → Option ((List UInt8) × (Unit))) (k : Nat) : C := outD h c2 (K4 sf_ref15_Show k)
noncomputable def K6 (sf_ref15_Show : ((D0) × ((Option N1) × (Unit))) → Option ((List UInt8) × (Unit))) (k : Nat) : C := seqC (E sf_ref15_Show) h k c2 (K4 sf_ref15_Show k)
noncomputable def c3 : Code := subC b [1, 0, 1, 0, 1]
noncomputable def K7 (sf_ref15_Show : ((D0) × ((Option N1) × (Unit))) → Option ((List UInt8) × (Unit))) (k : Nat) : C := outD h c3 (K5 sf_ref15_Show k)
noncomputable def K8 (sf_ref15_Show : ((D0) × ((Option N1) × (Unit))) → Option ((List UInt8) × (Unit))) (k : Nat) : C := seqC (E sf_ref15_Show) h k c3 (K5 sf_ref15_Show k)
noncomputable def c4 : Code := subC b [1, 1, 1]
noncomputable def K9 (sf_ref15_Show : ((D0) × ((Option N1) × (Unit))) → Option ((List UInt8) × (Unit))) (k : Nat) : C := outD h c4 (K3 sf_ref15_Show k)
noncomputable def K10 (sf_ref15_Show : ((D0) × ((Option N1) × (Unit))) → Option ((List UInt8) × (Unit))) (k : Nat) : C := seqC (E sf_ref15_Show) h k c4 (K3 sf_ref15_Show k)
noncomputable def c5 : Code := subC b [1, 1, 0, 1]
noncomputable def K11 (sf_ref15_Show : ((D0) × ((Option N1) × (Unit))) → Option ((List UInt8) × (Unit))) (k : Nat) : C := outD h c5 (K10 sf_ref15_Show k)
noncomputable def K12 (sf_ref15_Show : ((D0) × ((Option N1) × (Unit))) → Option ((List UInt8) × (Unit))) (k : Nat) : C := seqC (E sf_ref15_Show) h k c5 (K10 sf_ref15_Show k)
noncomputable def c6 : Code := subC b [1, 1, 0, 1, 0, 1]
noncomputable def K13 (sf_ref15_Show : ((D0) × ((Option N1) × (Unit))) → Option ((List UInt8) × (Unit))) (k : Nat) : C := outD h c6 (K11 sf_ref15_Show k)
noncomputable def K14 (sf_ref15_Show : ((D0) × ((Option N1) × (Unit))) → Option ((List UInt8) × (Unit))) (k : Nat) : C := seqC (E sf_ref15_Show) h k c6 (K11 sf_ref15_Show k)
noncomputable def c7 : Code := subC b [1, 1, 1, 1]
noncomputable def K15 (sf_ref15_Show : ((D0) × ((Option N1) × (Unit))) → Option ((List UInt8) × (Unit))) (k : Nat) : C := outD h c7 (K9 sf_ref15_Show k)
noncomputable def K16 (sf_ref15_Show : ((D0) × ((Option N1) × (Unit))) → Option ((List UInt8) × (Unit))) (k : Nat) : C := seqC (E sf_ref15_Show) h k c7 (K9 sf_ref15_Show k)
noncomputable def c8 : Code := subC b [1, 1, 1, 1, 1]
noncomputable def K17 (sf_ref15_Show : ((D0) × ((Option N1) × (Unit))) → Option ((List UInt8) × (Unit))) (k : Nat) : C := outD h c8 (K15 sf_ref15_Show k)
noncomputable def K18 (sf_ref15_Show : ((D0) × ((Option N1) × (Unit))) → Option ((List UInt8) × (Unit))) (k : Nat) : C := seqC (E sf_ref15_Show) h k c8 (K15 sf_ref15_Show k)
noncomputable def c9 : Code := subC b [1, 1, 1, 1, 0, 1]
noncomputable def K19 (sf_ref15_Show : ((D0) × ((Option N1) × (Unit))) → Option ((List UInt8) × (Unit))) (k : Nat) : C := outD h c9 (K18 sf_ref15_Show k)
noncomputable def K20 (sf_ref15_Show : ((D0) × ((Option N1) × (Unit))) → Option ((List UInt8) × (Unit))) (k : Nat) : C := seqC (E sf_ref15_Show) h k c9 (K18 sf_ref15_Show k)
noncomputable def K21 (sf_ref15_Show : ((D0) × ((Option N1) × (Unit))) → Option ((List UInt8) × (Unit))) (k : Nat) : C := blockK 0 (K19 sf_ref15_Show k)
noncomputable def c10 : Code := subC b [1, 1, 1, 1, 0, 1, 0, 0]
noncomputable def K22 (sf_ref15_Show : ((D0) × ((Option N1) × (Unit))) → Option ((List UInt8) × (Unit))) (k n1 : Nat) : C := loopD (E sf_ref15_Show) h k c10 (K21 sf_ref15_Show k) n1
noncomputable def c11 : Code := subC b [1, 1, 1, 1, 0, 1, 0, 0, 1]
noncomputable def K23 (sf_ref15_Show : ((D0) × ((Option N1) × (Unit))) → Option ((List UInt8) × (Unit))) (k n1 : Nat) : C := outD h c11 (K22 sf_ref15_Show k n1)
noncomputable def K24 (sf_ref15_Show : ((D0) × ((Option N1) × (Unit))) → Option ((List UInt8) × (Unit))) (k n1 : Nat) : C := seqC (E sf_ref15_Show) h k c11 (K22 sf_ref15_Show k n1)
noncomputable def c12 : Code := subC b [1, 1, 1, 1, 0, 1, 0, 0, 0, 1]
noncomputable def K25 (sf_ref15_Show : ((D0) × ((Option N1) × (Unit))) → Option ((List UInt8) × (Unit))) (k n1 : Nat) : C := outD h c12 (K24 sf_ref15_Show k n1)
noncomputable def K26 (sf_ref15_Show : ((D0) × ((Option N1) × (Unit))) → Option ((List UInt8) × (Unit))) (k n1 : Nat) : C := seqC (E sf_ref15_Show) h k c12 (K24 sf_ref15_Show k n1)
noncomputable def c13 : Code := subC b [1, 1, 1, 1, 0, 1, 0, 0, 1, 1]
noncomputable def K27 (sf_ref15_Show : ((D0) × ((Option N1) × (Unit))) → Option ((List UInt8) × (Unit))) (k n1 : Nat) : C := outD h c13 (K23 sf_ref15_Show k n1)
noncomputable def K28 (sf_ref15_Show : ((D0) × ((Option N1) × (Unit))) → Option ((List UInt8) × (Unit))) (k n1 : Nat) : C := seqC (E sf_ref15_Show) h k c13 (K23 sf_ref15_Show k n1)
noncomputable def K29 (sf_ref15_Show : ((D0) × ((Option N1) × (Unit))) → Option ((List UInt8) × (Unit))) (k n1 : Nat) : C := blockK 1 (K28 sf_ref15_Show k n1)
noncomputable def c14 : Code := subC b [1, 1, 1, 1, 0, 1, 0, 0, 1, 0, 0, 1]
noncomputable def K30 (sf_ref15_Show : ((D0) × ((Option N1) × (Unit))) → Option ((List UInt8) × (Unit))) (k n1 : Nat) : C := outD h c14 (K29 sf_ref15_Show k n1)
noncomputable def K31 (sf_ref15_Show : ((D0) × ((Option N1) × (Unit))) → Option ((List UInt8) × (Unit))) (k n1 : Nat) : C := seqC (E sf_ref15_Show) h k c14 (K29 sf_ref15_Show k n1)
noncomputable def c15 : Code := subC b [1, 1, 1, 1, 0, 1, 0, 0, 1, 0, 0, 0, 1]
noncomputable def K32 (sf_ref15_Show : ((D0) × ((Option N1) × (Unit))) → Option ((List UInt8) × (Unit))) (k n1 : Nat) : C := outD h c15 (K31 sf_ref15_Show k n1)
noncomputable def K33 (sf_ref15_Show : ((D0) × ((Option N1) × (Unit))) → Option ((List UInt8) × (Unit))) (k n1 : Nat) : C := seqC (E sf_ref15_Show) h k c15 (K31 sf_ref15_Show k n1)
noncomputable def c16 : Code := subC b [1, 1, 1, 1, 1, 1]
noncomputable def K34 (sf_ref15_Show : ((D0) × ((Option N1) × (Unit))) → Option ((List UInt8) × (Unit))) (k : Nat) : C := outD h c16 (K17 sf_ref15_Show k)
noncomputable def K35 (sf_ref15_Show : ((D0) × ((Option N1) × (Unit))) → Option ((List UInt8) × (Unit))) (k : Nat) : C := seqC (E sf_ref15_Show) h k c16 (K17 sf_ref15_Show k)
abbrev T4 := (Option N1) → (List UInt8) → Int → D0 → R
abbrev T2 := (Option N1) → (List UInt8) → Int → D0 → R
abbrev T3 := (List UInt8) → R
abbrev T1 := (Option N1) → (List UInt8) → Int → D0 → R
abbrev T0 := D0 → (Option N1) → R
abbrev s4 : (Option N1) → (List UInt8) → Int → D0 → ST cx := fun (x1 : Option N1) (x5 : List UInt8) (x6 : Int) (m2 : D0) => ({ vars := [(1, .v (.ptr 1) .ro x1), (2, .addr (.mem 2) []), (5, .v .str .ro x5), (6, .v (.int .i64) .ro x6)], scr := [], mems := [(2, ⟨ty0, .ro, m2⟩)] } : ST cx)
noncomputable def u4 (sf_ref15_Show : ((D0) × ((Option N1) × (Unit))) → Option ((List UInt8) × (Unit))) (k n1 : Nat) : T4 := fun (x1 : Option N1) (x5 : List UInt8) (x6 : Int) (m2 : D0) => uK (run (E sf_ref15_Show) h k c13) (s4 x1 x5 x6 m2) (K27 sf_ref15_Show k n1)
noncomputable abbrev l4 (sf_ref15_Show : ((D0) × ((Option N1) × (Unit))) → Option ((List UInt8) × (Unit))) (k n1 : Nat) : T4 := fun (x1 : Option N1) (x5 : List UInt8) (x6 : Int) (m2 : D0) => cutK (run (E sf_ref15_Show) h k c13) (s4 x1 x5 x6 m2) (K27 sf_ref15_Show k n1)
abbrev s2 : (Option N1) → (List UInt8) → Int → D0 → ST cx := fun (x1 : Option N1) (x5 : List UInt8) (x6 : Int) (m2 : D0) => ({ vars := [(1, .v (.ptr 1) .ro x1), (2, .addr (.mem 2) []), (5, .v .str .ro x5), (6, .v (.int .i64) .ro x6)], scr := [], mems := [(2, ⟨ty0, .ro, m2⟩)] } : ST cx)
noncomputable def u2 (sf_ref15_Show : ((D0) × ((Option N1) × (Unit))) → Option ((List UInt8) × (Unit))) (k n1 : Nat) : T2 := fun (x1 : Option N1) (x5 : List UInt8) (x6 : Int) (m2 : D0) => uK (run (E sf_ref15_Show) h k c14) (s2 x1 x5 x6 m2) (K30 sf_ref15_Show k n1)
noncomputable abbrev l2 (sf_ref15_Show : ((D0) × ((Option N1) × (Unit))) → Option ((List UInt8) × (Unit))) (k n1 : Nat) : T2 := fun (x1 : Option N1) (x5 : List UInt8) (x6 : Int) (m2 : D0) => cutK (run (E sf_ref15_Show) h k c14) (s2 x1 x5 x6 m2) (K30 sf_ref15_Show k n1)
abbrev s3 : (List UInt8) → ST cx := fun (x5 : List UInt8) => ({ vars := [(5, .v .str .ro x5)], scr := [], mems := [] } : ST cx)
noncomputable def u3 (sf_ref15_Show : ((D0) × ((Option N1) × (Unit))) → Option ((List UInt8) × (Unit))) (k : Nat) : T3 := fun (x5 : List UInt8) => uK (run (E sf_ref15_Show) h k c8) (s3 x5) (K17 sf_ref15_Show k)
noncomputable abbrev l3 (sf_ref15_Show : ((D0) × ((Option N1) × (Unit))) → Option ((List UInt8) × (Unit))) (k : Nat) : T3 := fun (x5 : List UInt8) => cutK (run (E sf_ref15_Show) h k c8) (s3 x5) (K17 sf_ref15_Show k)
abbrev s1 : (Option N1) → (List UInt8) → Int → D0 → ST cx := fun (x1 : Option N1) (x5 : List UInt8) (x6 : Int) (m2 : D0) => ({ vars := [(1, .v (.ptr 1) .ro x1), (2, .addr (.mem 2) []), (5, .v .str .ro x5), (6, .v (.int .i64) .ro x6)], scr := [], mems := [(2, ⟨ty0, .ro, m2⟩)] } : ST cx)
noncomputable def u1 (sf_ref15_Show : ((D0) × ((Option N1) × (Unit))) → Option ((List UInt8) × (Unit))) (k n1 : Nat) : T1 := fun (x1 : Option N1) (x5 : List UInt8) (x6 : Int) (m2 : D0) => uK (loopL (E sf_ref15_Show) h k c10 (K21 sf_ref15_Show k) n1) (s1 x1 x5 x6 m2) ()
noncomputable abbrev l1 (sf_ref15_Show : ((D0) × ((Option N1) × (Unit))) → Option ((List UInt8) × (Unit))) (k n1 : Nat) : T1 := fun (x1 : Option N1) (x5 : List UInt8) (x6 : Int) (m2 : D0) => cutK (loopL (E sf_ref15_Show) h k c10 (K21 sf_ref15_Show k) n1) (s1 x1 x5 x6 m2) ()
noncomputable def u0 (sf_ref15_Show : ((D0) × ((Option N1) × (Unit))) → Option ((List UInt8) × (Unit))) (k : Nat) : T0 := fun (x0 : D0) (x1 : Option N1) => runOf (S := cx) (E sf_ref15_Show) h k Try.f27 [.val ty0, .val (.ptr 1)] .str .ro (x0, x1, ())
def t4 (sf_ref15_Show : ((D0) × ((Option N1) × (Unit))) → Option ((List UInt8) × (Unit))) (f1 : T1) : T4 := fun (x1 : Option N1) (x5 : List UInt8) (x6 : Int) (m2 : D0) => 
  (f1 x1 x5 (w64 (x6 + (1 : Int))) m2)
theorem e4 (sf_ref15_Show : ((D0) × ((Option N1) × (Unit))) → Option ((List UInt8) × (Unit))) (k n1 : Nat) : u4 sf_ref15_Show k n1 = t4 sf_ref15_Show (l1 sf_ref15_Show k n1) := by kernel_rfl
theorem g4 (sf_ref15_Show : ((D0) × ((Option N1) × (Unit))) → Option ((List UInt8) × (Unit))) (k n1 : Nat) : l4 sf_ref15_Show k n1 = u4 sf_ref15_Show k n1 := funext fun _ => funext fun _ => funext fun _ => funext fun _ => cut_u _ _ _
theorem d4 (sf_ref15_Show : ((D0) × ((Option N1) × (Unit))) → Option ((List UInt8) × (Unit))) {x1 y1 : T1} (h1 : x1 = y1) : t4 sf_ref15_Show x1 = t4 sf_ref15_Show y1 := by subst h1; rfl
def p4 (sf_ref15_Show : ((D0) × ((Option N1) × (Unit))) → Option ((List UInt8) × (Unit))) (k : Nat) (a1 : T1) : T4 := t4 sf_ref15_Show a1
theorem o4 (sf_ref15_Show : ((D0) × ((Option N1) × (Unit))) → Option ((List UInt8) × (Unit))) (k n1 : Nat) (a1 : T1) (h1 : l1 sf_ref15_Show k n1 = a1) : l4 sf_ref15_Show k n1 = p4 sf_ref15_Show k a1 := (Eq.trans (b := u4 sf_ref15_Show k n1) (g4 sf_ref15_Show k n1) (Eq.trans (b := t4 sf_ref15_Show (l1 sf_ref15_Show k n1)) (e4 sf_ref15_Show k n1) (Eq.trans (b := t4 sf_ref15_Show a1) (d4 sf_ref15_Show h1) (by kernel_rfl))))
def t2 (sf_ref15_Show : ((D0) × ((Option N1) × (Unit))) → Option ((List UInt8) × (Unit))) (f4 : T4) : T2 := fun (x1 : Option N1) (x5 : List UInt8) (x6 : Int) (m2 : D0) => 
  (bindR x1 fun z8 => (withinR x6 (List.length (out1 z8).2.2.2.1) fun q9 => (bindR (sf_ref15_Show (m2, ((List.getD (out1 z8).2.2.2.1 q9 none), ()))) fun r10 => (mustR (decide (List.length x5 + List.length r10.1 ≤ 140737488355328)) (f4 x1 (x5 ++ r10.1) x6 m2)))))
theorem e2 (sf_ref15_Show : ((D0) × ((Option N1) × (Unit))) → Option ((List UInt8) × (Unit))) (k n1 : Nat) : u2 sf_ref15_Show k n1 = t2 sf_ref15_Show (l4 sf_ref15_Show k n1) := by kernel_rfl
theorem g2 (sf_ref15_Show : ((D0) × ((Option N1) × (Unit))) → Option ((List UInt8) × (Unit))) (k n1 : Nat) : l2 sf_ref15_Show k n1 = u2 sf_ref15_Show k n1 := funext fun _ => funext fun _ => funext fun _ => funext fun _ => cut_u _ _ _
theorem d2 (sf_ref15_Show : ((D0) × ((Option N1) × (Unit))) → Option ((List UInt8) × (Unit))) {x4 y4 : T4} (h4 : x4 = y4) : t2 sf_ref15_Show x4 = t2 sf_ref15_Show y4 := by subst h4; rfl
def p2 (sf_ref15_Show : ((D0) × ((Option N1) × (Unit))) → Option ((List UInt8) × (Unit))) (k : Nat) (a1 : T1) : T2 := t2 sf_ref15_Show (p4 sf_ref15_Show k a1)
theorem o2 (sf_ref15_Show : ((D0) × ((Option N1) × (Unit))) → Option ((List UInt8) × (Unit))) (k n1 : Nat) (a1 : T1) (h1 : l1 sf_ref15_Show k n1 = a1) : l2 sf_ref15_Show k n1 = p2 sf_ref15_Show k a1 := (Eq.trans (b := u2 sf_ref15_Show k n1) (g2 sf_ref15_Show k n1) (Eq.trans (b := t2 sf_ref15_Show (l4 sf_ref15_Show k n1)) (e2 sf_ref15_Show k n1) (Eq.trans (b := t2 sf_ref15_Show (p4 sf_ref15_Show k a1)) (d2 sf_ref15_Show (o4 sf_ref15_Show k n1 a1 h1)) (by kernel_rfl))))
def t3 (sf_ref15_Show : ((D0) × ((Option N1) × (Unit))) → Option ((List UInt8) × (Unit))) : T3 := fun (x5 : List UInt8) => 
  (mustR (decide (List.length x5 + List.length ([41] : List UInt8) ≤ 140737488355328)) (some ((x5 ++ ([41] : List UInt8)), ())))
theorem e3 (sf_ref15_Show : ((D0) × ((Option N1) × (Unit))) → Option ((List UInt8) × (Unit))) (k : Nat) : u3 sf_ref15_Show k = t3 sf_ref15_Show := by kernel_rfl
theorem g3 (sf_ref15_Show : ((D0) × ((Option N1) × (Unit))) → Option ((List UInt8) × (Unit))) (k : Nat) : l3 sf_ref15_Show k = u3 sf_ref15_Show k := funext fun _ => cut_u _ _ _
def p3 (sf_ref15_Show : ((D0) × ((Option N1) × (Unit))) → Option ((List UInt8) × (Unit))) (k : Nat) : T3 := t3 sf_ref15_Show
theorem o3 (sf_ref15_Show : ((D0) × ((Option N1) × (Unit))) → Option ((List UInt8) × (Unit))) (k : Nat) : l3 sf_ref15_Show k = p3 sf_ref15_Show k := (Eq.trans (b := u3 sf_ref15_Show k) (g3 sf_ref15_Show k) (Eq.trans (b := t3 sf_ref15_Show) (e3 sf_ref15_Show k) (by kernel_rfl)))
def t1 (sf_ref15_Show : ((D0) × ((Option N1) × (Unit))) → Option ((List UInt8) × (Unit))) (f2 : T2) (f3 : T3) : T1 := fun (x1 : Option N1) (x5 : List UInt8) (x6 : Int) (m2 : D0) => 
  (bindR x1 fun z7 => (iteB (decide (x6 < ((List.length (out1 z7).2.2.2.1 : Nat) : Int))) (iteB (decide ((0 : Int) < x6)) (mustR (decide (List.length x5 + List.length ([32] : List UInt8) ≤ 140737488355328)) (f2 x1 (x5 ++ ([32] : List UInt8)) x6 m2)) (f2 x1 x5 x6 m2)) (f3 x5)))
theorem e1 (sf_ref15_Show : ((D0) × ((Option N1) × (Unit))) → Option ((List UInt8) × (Unit))) (k n1 : Nat) : u1 sf_ref15_Show k (n1 + 1) = t1 sf_ref15_Show (l2 sf_ref15_Show k n1) (l3 sf_ref15_Show k) := by kernel_rfl
theorem g1 (sf_ref15_Show : ((D0) × ((Option N1) × (Unit))) → Option ((List UInt8) × (Unit))) (k n1 : Nat) : l1 sf_ref15_Show k (n1 + 1) = u1 sf_ref15_Show k (n1 + 1) := funext fun _ => funext fun _ => funext fun _ => funext fun _ => cut_u _ _ _
theorem d1 (sf_ref15_Show : ((D0) × ((Option N1) × (Unit))) → Option ((List UInt8) × (Unit))) {x2 y2 : T2} {x3 y3 : T3} (h2 : x2 = y2) (h3 : x3 = y3) : t1 sf_ref15_Show x2 x3 = t1 sf_ref15_Show y2 y3 := by subst h2; subst h3; rfl
def p1 (sf_ref15_Show : ((D0) × ((Option N1) × (Unit))) → Option ((List UInt8) × (Unit))) (k : Nat) : Nat → T1
  | 0 => fun _ _ _ _ => none
  | n1 + 1 => t1 sf_ref15_Show (p2 sf_ref15_Show k (p1 sf_ref15_Show k n1)) (p3 sf_ref15_Show k)
theorem o1 (sf_ref15_Show : ((D0) × ((Option N1) × (Unit))) → Option ((List UInt8) × (Unit))) (k : Nat) : ∀ n1, l1 sf_ref15_Show k n1 = p1 sf_ref15_Show k n1 := by
  intro n1
  induction n1 with
  | zero => kernel_rfl
  | succ n1 ih => exact (Eq.trans (b := u1 sf_ref15_Show k (n1 + 1)) (g1 sf_ref15_Show k n1) (Eq.trans (b := t1 sf_ref15_Show (l2 sf_ref15_Show k n1) (l3 sf_ref15_Show k)) (e1 sf_ref15_Show k n1) (Eq.trans (b := t1 sf_ref15_Show (p2 sf_ref15_Show k (p1 sf_ref15_Show k n1)) (p3 sf_ref15_Show k)) (d1 sf_ref15_Show (o2 sf_ref15_Show k n1 (p1 sf_ref15_Show k n1) ih) (o3 sf_ref15_Show k)) (by kernel_rfl))))
def t0 (sf_ref15_Show : ((D0) × ((Option N1) × (Unit))) → Option ((List UInt8) × (Unit))) (f1 : T1) : T0 := fun (x0 : D0) (x1 : Option N1) => 
  (iteB (Option.isNone x1) (some (([] : List UInt8), ())) (bindR x1 fun z1 => (iteB (decide ((out1 z1).2.1 = (-1 : Int))) (bindR x1 fun z2 => (bindR x1 fun z3 => (bindR (s_ref15_name (x0, ((out1 z2).1, ()))) fun r4 => (mustR (decide (List.length r4.1 + List.length ([58] : List UInt8) ≤ 140737488355328)) (mustR (decide (List.length (r4.1 ++ ([58] : List UInt8)) + List.length (out1 z3).2.2.1 ≤ 140737488355328)) (some (((r4.1 ++ ([58] : List UInt8)) ++ (out1 z3).2.2.1), ()))))))) (bindR x1 fun z5 => (bindR (s_ref15_name (x0, ((out1 z5).1, ()))) fun r6 => (mustR (decide (List.length r6.1 + List.length ([40] : List UInt8) ≤ 140737488355328)) (f1 x1 (r6.1 ++ ([40] : List UInt8)) (0 : Int) x0)))))))
theorem e0 (sf_ref15_Show : ((D0) × ((Option N1) × (Unit))) → Option ((List UInt8) × (Unit))) (k : Nat) : u0 sf_ref15_Show k = t0 sf_ref15_Show (l1 sf_ref15_Show k k) := by kernel_rfl
theorem d0 (sf_ref15_Show : ((D0) × ((Option N1) × (Unit))) → Option ((List UInt8) × (Unit))) {x1 y1 : T1} (h1 : x1 = y1) : t0 sf_ref15_Show x1 = t0 sf_ref15_Show y1 := by subst h1; rfl
def p0 (sf_ref15_Show : ((D0) × ((Option N1) × (Unit))) → Option ((List UInt8) × (Unit))) (k : Nat) : T0 := t0 sf_ref15_Show (p1 sf_ref15_Show k k)
theorem o0 (sf_ref15_Show : ((D0) × ((Option N1) × (Unit))) → Option ((List UInt8) × (Unit))) (k : Nat) : u0 sf_ref15_Show k = p0 sf_ref15_Show k := (Eq.trans (b := t0 sf_ref15_Show (l1 sf_ref15_Show k k)) (e0 sf_ref15_Show k) (Eq.trans (b := t0 sf_ref15_Show (p1 sf_ref15_Show k k)) (d0 sf_ref15_Show (o1 sf_ref15_Show k k)) (by kernel_rfl)))
end ref15_Show
def r_ref15_Show : Nat → ((D0) × ((Option N1) × (Unit))) → Option ((List UInt8) × (Unit))
  | 0, _ => none
  | n + 1, a => ref15_Show.p0 (r_ref15_Show n) (fuel) a.1 a.2.1
theorem okr_ref15_Show : ∀ n, FnOk Try.prog (Fr_ref15_Show (r_ref15_Show n)) 27
  | 0 => fn_none (fun _ => rfl)
  | n + 1 => fn_of (F := Fr_ref15_Show (r_ref15_Show (n + 1))) (hn := ref15_Show.h) (E := ref15_Show.E (r_ref15_Show n)) cxOk (tysT _ _ _) (fs_cons (okr_ref15_Show n) (fs_cons ok_ref15_name fs_nil)) follows Try.func27 (by kernel_rfl) (fun a r h => ⟨fuel, Eq.trans (c := some r) (congrFun (congrFun (ref15_Show.o0 (r_ref15_Show n) (fuel)) a.1) a.2.1) h⟩)
def s_ref15_Show (a : (D0) × ((Option N1) × (Unit))) : Option ((List UInt8) × (Unit)) := r_ref15_Show (fuel) a
noncomputable def F_ref15_Show : FSpec cx.toNm := Fr_ref15_Show s_ref15_Show
theorem ok_ref15_Show : FnOk Try.prog F_ref15_Show 27 := fun w Z own vs a r h1 h2 h3 h4 => (okr_ref15_Show (fuel)) w Z own vs a r h1 h2 h3 h4
noncomputable def Fr_tree_put (f : ((Option N1) × ((List (Int)) × ((Option N1) × (Unit)))) → Option ((Option N1) × (Unit))) : FSpec cx.toNm := { ps := [.val (.ptr 1), .val (.slice 3 (.int .i64)), .val (.ptr 1)], nres := 1, rt := (.ptr 1), rm := .ro, f := f }
namespace tree_put
noncomputable def E (sf_tree_put : ((Option N1) × ((List (Int)) × ((Option N1) × (Unit)))) → Option ((Option N1) × (Unit))) : Env cx := { tys := tys, fs := fsOf [(39, F_slices_Clone), (40, F_tree_toks), (46, (Fr_tree_put sf_tree_put))] }
abbrev R := Option ((Option N1) × (Unit))
abbrev C := Exit → ST cx → R
noncomputable def b : Code := bodyC Try.f46
noncomputable def h : Hint := { vs := [0, 1, 2, 6, 7], nil := [(7, (.pr .ro (.pr .ro (.pr .ro (.pr (.own .ro) .ro)))))], cuts := [], ret := ([6], [7]), ords := [] }
noncomputable def K0 (sf_tree_put : ((Option N1) × ((List (Int)) × ((Option N1) × (Unit)))) → Option ((Option N1) × (Unit))) : C := fin (S := cx) (E sf_tree_put) Try.f46.results.toList (.ptr 1) .ro [] []
noncomputable def c0 : Code := subC b [1]
noncomputable def K1 (sf_tree_put : ((Option N1) × ((List (Int)) × ((Option N1) × (Unit)))) → Option ((Option N1) × (Unit))) (k : Nat) : C := outD h c0 (K0 sf_tree_put)
noncomputable def K2 (sf_tree_put : ((Option N1) × ((List (Int)) × ((Option N1) × (Unit)))) → Option ((Option N1) × (Unit))) (k : Nat) : C := seqC (E sf_tree_put) h k c0 (K0 sf_tree_put)
noncomputable def c1 : Code := subC b [1, 1]
noncomputable def K3 (sf_tree_put : ((Option N1) × ((List (Int)) × ((Option N1) × (Unit)))) → Option ((Option N1) × (Unit))) (k : Nat) : C := outD h c1 (K1 sf_tree_put k)
noncomputable def K4 (sf_tree_put : ((Option N1) × ((List (Int)) × ((Option N1) × (Unit)))) → Option ((Option N1) × (Unit))) (k : Nat) : C := seqC (E sf_tree_put) h k c1 (K1 sf_tree_put k)
noncomputable def c2 : Code := subC b [1, 0, 1]
noncomputable def K5 (sf_tree_put : ((Option N1) × ((List (Int)) × ((Option N1) × (Unit)))) → Option ((Option N1) × (Unit))) (k : Nat) : C := outD h c2 (K4 sf_tree_put k)
noncomputable def K6 (sf_tree_put : ((Option N1) × ((List (Int)) × ((Option N1) × (Unit)))) → Option ((Option N1) × (Unit))) (k : Nat) : C := seqC (E sf_tree_put) h k c2 (K4 sf_tree_put k)
noncomputable def c3 : Code := subC b [1, 0, 1, 0, 1]
noncomputable def K7 (sf_tree_put : ((Option N1) × ((List (Int)) × ((Option N1) × (Unit)))) → Option ((Option N1) × (Unit))) (k : Nat) : C := outD h c3 (K5 sf_tree_put k)
noncomputable def K8 (sf_tree_put : ((Option N1) × ((List (Int)) × ((Option N1) × (Unit)))) → Option ((Option N1) × (Unit))) (k : Nat) : C := seqC (E sf_tree_put) h k c3 (K5 sf_tree_put k)
noncomputable def c4 : Code := subC b [1, 1, 1]
noncomputable def K9 (sf_tree_put : ((Option N1) × ((List (Int)) × ((Option N1) × (Unit)))) → Option ((Option N1) × (Unit))) (k : Nat) : C := outD h c4 (K3 sf_tree_put k)
noncomputable def K10 (sf_tree_put : ((Option N1) × ((List (Int)) × ((Option N1) × (Unit)))) → Option ((Option N1) × (Unit))) (k : Nat) : C := seqC (E sf_tree_put) h k c4 (K3 sf_tree_put k)
noncomputable def c5 : Code := subC b [1, 1, 1, 1]
noncomputable def K11 (sf_tree_put : ((Option N1) × ((List (Int)) × ((Option N1) × (Unit)))) → Option ((Option N1) × (Unit))) (k : Nat) : C := outD h c5 (K9 sf_tree_put k)
noncomputable def K12 (sf_tree_put : ((Option N1) × ((List (Int)) × ((Option N1) × (Unit)))) → Option ((Option N1) × (Unit))) (k : Nat) : C := seqC (E sf_tree_put) h k c5 (K9 sf_tree_put k)
noncomputable def c6 : Code := subC b [1, 1, 1, 1, 1]
noncomputable def K13 (sf_tree_put : ((Option N1) × ((List (Int)) × ((Option N1) × (Unit)))) → Option ((Option N1) × (Unit))) (k : Nat) : C := outD h c6 (K11 sf_tree_put k)
noncomputable def K14 (sf_tree_put : ((Option N1) × ((List (Int)) × ((Option N1) × (Unit)))) → Option ((Option N1) × (Unit))) (k : Nat) : C := seqC (E sf_tree_put) h k c6 (K11 sf_tree_put k)
noncomputable def c7 : Code := subC b [1, 1, 1, 1, 1, 1]
noncomputable def K15 (sf_tree_put : ((Option N1) × ((List (Int)) × ((Option N1) × (Unit)))) → Option ((Option N1) × (Unit))) (k : Nat) : C := outD h c7 (K13 sf_tree_put k)
noncomputable def K16 (sf_tree_put : ((Option N1) × ((List (Int)) × ((Option N1) × (Unit)))) → Option ((Option N1) × (Unit))) (k : Nat) : C := seqC (E sf_tree_put) h k c7 (K13 sf_tree_put k)
noncomputable def c8 : Code := subC b [1, 1, 1, 1, 1, 1, 1]
noncomputable def K17 (sf_tree_put : ((Option N1) × ((List (Int)) × ((Option N1) × (Unit)))) → Option ((Option N1) × (Unit))) (k : Nat) : C := outD h c8 (K15 sf_tree_put k)
noncomputable def K18 (sf_tree_put : ((Option N1) × ((List (Int)) × ((Option N1) × (Unit)))) → Option ((Option N1) × (Unit))) (k : Nat) : C := seqC (E sf_tree_put) h k c8 (K15 sf_tree_put k)
abbrev T0 := (Option N1) → (List (Int)) → (Option N1) → R
noncomputable def u0 (sf_tree_put : ((Option N1) × ((List (Int)) × ((Option N1) × (Unit)))) → Option ((Option N1) × (Unit))) (k : Nat) : T0 := fun (x0 : Option N1) (x1 : List (Int)) (x2 : Option N1) => runOf (S := cx) (E sf_tree_put) h k Try.f46 [.val (.ptr 1), .val (.slice 3 (.int .i64)), .val (.ptr 1)] (.ptr 1) .ro (x0, x1, x2, ())
def t0 (sf_tree_put : ((Option N1) × ((List (Int)) × ((Option N1) × (Unit)))) → Option ((Option N1) × (Unit))) : T0 := fun (x0 : Option N1) (x1 : List (Int)) (x2 : Option N1) => 
  (iteB (decide (((List.length x1 : Nat) : Int) = (0 : Int))) (some (x2, ())) (bindR x0 fun z1 => (bindR x0 fun z2 => (bindR (s_slices_Clone ((out1 z2).2.2.2.1, ())) fun r3 => (withinR (0 : Int) (List.length x1) fun q4 => (bindR x0 fun z5 => (withinR (0 : Int) (List.length x1) fun q6 => (withinR (List.getD x1 q6 (0 : Int)) (List.length (out1 z5).2.2.2.1) fun q7 => (mustR (decide (0 ≤ (1 : Int))) (mustR (decide ((1 : Int) ≤ (((List.length x1) : Nat) : Int))) (bindR (sf_tree_put ((List.getD (out1 z5).2.2.2.1 q7 none), ((List.drop (Int.toNat (1 : Int)) (List.take (List.length x1) x1)), (x2, ())))) fun r8 => (withinR (List.getD x1 q4 (0 : Int)) (List.length r3.1) fun q9 => (bindR (s_tree_toks ((List.set r3.1 q9 r8.1), ())) fun r10 => (some ((some (pk1 ((out1 z1).1, ((out1 z1).2.1, ((out1 z1).2.2.1, ((List.set r3.1 q9 r8.1), (r10.1, (out1 z1).2.2.2.2.2))))))), ())))))))))))))))
theorem e0 (sf_tree_put : ((Option N1) × ((List (Int)) × ((Option N1) × (Unit)))) → Option ((Option N1) × (Unit))) (k : Nat) : u0 sf_tree_put k = t0 sf_tree_put := by kernel_rfl
def p0 (sf_tree_put : ((Option N1) × ((List (Int)) × ((Option N1) × (Unit)))) → Option ((Option N1) × (Unit))) (k : Nat) : T0 := t0 sf_tree_put
theorem o0 (sf_tree_put : ((Option N1) × ((List (Int)) × ((Option N1) × (Unit)))) → Option ((Option N1) × (Unit))) (k : Nat) : u0 sf_tree_put k = p0 sf_tree_put k := (Eq.trans (b := t0 sf_tree_put) (e0 sf_tree_put k) (by kernel_rfl))
end tree_put
def r_tree_put : Nat → ((Option N1) × ((List (Int)) × ((Option N1) × (Unit)))) → Option ((Option N1) × (Unit))
  | 0, _ => none
  | n + 1, a => tree_put.p0 (r_tree_put n) (fuel) a.1 a.2.1 a.2.2.1
theorem okr_tree_put : ∀ n, FnOk Try.prog (Fr_tree_put (r_tree_put n)) 46
  | 0 => fn_none (fun _ => rfl)
  | n + 1 => fn_of (F := Fr_tree_put (r_tree_put (n + 1))) (hn := tree_put.h) (E := tree_put.E (r_tree_put n)) cxOk (tysT _ _ _) (fs_cons ok_slices_Clone (fs_cons ok_tree_toks (fs_cons (okr_tree_put n) fs_nil))) follows Try.func46 (by kernel_rfl) (fun a r h => ⟨fuel, Eq.trans (c := some r) (congrFun (congrFun (congrFun (tree_put.o0 (r_tree_put n) (fuel)) a.1) a.2.1) a.2.2.1) h⟩)
def s_tree_put (a : (Option N1) × ((List (Int)) × ((Option N1) × (Unit)))) : Option ((Option N1) × (Unit)) := r_tree_put (fuel) a
noncomputable def F_tree_put : FSpec cx.toNm := Fr_tree_put s_tree_put
theorem ok_tree_put : FnOk Try.prog F_tree_put 46 := fun w Z own vs a r h1 h2 h3 h4 => (okr_tree_put (fuel)) w Z own vs a r h1 h2 h3 h4
namespace tree_Put
noncomputable def E : Env cx := { tys := tys, fs := fsOf [(28, F_tree_At), (46, F_tree_put)] }
abbrev R := Option (((Option N1) × (Int)) × (Unit))
abbrev C := Exit → ST cx → R
noncomputable def b : Code := bodyC Try.f29
noncomputable def h : Hint := { vs := [0, 1, 2, 6, 7, 8, 9], nil := [], cuts := [(5, ([0, 1, 2, 19], []), ([0, 1, 2], [])), (6, ([0, 1, 2], []), ([0, 1, 2], []))], ret := ([6, 7], []), ords := [] }
noncomputable def K0 : C := fin (S := cx) E Try.f29.results.toList (.pair (.ptr 1) (.int .i64)) .ro [] []
noncomputable def c0 : Code := subC b [1]
noncomputable def K1 (k : Nat) : C := outD h c0 K0
noncomputable def K2 (k : Nat) : C := seqC E h k c0 K0
noncomputable def c1 : Code := subC b [1, 1]
noncomputable def K3 (k : Nat) : C := outD h c1 (K1 k)
noncomputable def K4 (k : Nat) : C := seqC E h k c1 (K1 k)
noncomputable def c2 : Code := subC b [1, 1, 1]
noncomputable def K5 (k : Nat) : C := outD h c2 (K3 k)
noncomputable def K6 (k : Nat) : C := seqC E h k c2 (K3 k)
noncomputable def K7 (k : Nat) : C := blockK 0 (K6 k)
noncomputable def c3 : Code := subC b [1, 1, 0, 0, 1]
noncomputable def K8 (k : Nat) : C := outD h c3 (K7 k)
noncomputable def K9 (k : Nat) : C := seqC E h k c3 (K7 k)
noncomputable def c4 : Code := subC b [1, 1, 0, 0, 1, 0, 1]
noncomputable def K10 (k : Nat) : C := outD h c4 (K8 k)
noncomputable def K11 (k : Nat) : C := seqC E h k c4 (K8 k)
noncomputable def c5 : Code := subC b [1, 1, 0, 0, 1, 1, 1]
noncomputable def K12 (k : Nat) : C := outD h c5 (K8 k)
noncomputable def K13 (k : Nat) : C := seqC E h k c5 (K8 k)
noncomputable def c6 : Code := subC b [1, 1, 0, 0, 1, 1, 1, 0, 1]
noncomputable def K14 (k : Nat) : C := outD h c6 (K12 k)
noncomputable def K15 (k : Nat) : C := seqC E h k c6 (K12 k)
noncomputable def c7 : Code := subC b [1, 1, 1, 1]
noncomputable def K16 (k : Nat) : C := outD h c7 (K5 k)
noncomputable def K17 (k : Nat) : C := seqC E h k c7 (K5 k)
abbrev T2 := (Option N1) → (List (Int)) → (Option N1) → R
abbrev T1 := (Option N1) → (List (Int)) → (Option N1) → Bool → R
abbrev T0 := (Option N1) → (List (Int)) → (Option N1) → R
abbrev s2 : (Option N1) → (List (Int)) → (Option N1) → ST cx := fun (x0 : Option N1) (x1 : List (Int)) (x2 : Option N1) => ({ vars := [(0, .v (.ptr 1) .ro x0), (1, .v (.slice 3 (.int .i64)) .ro x1), (2, .v (.ptr 1) .ro x2)], scr := [], mems := [] } : ST cx)
noncomputable def u2 (k : Nat) : T2 := fun (x0 : Option N1) (x1 : List (Int)) (x2 : Option N1) => uK (run E h k c2) (s2 x0 x1 x2) (K5 k)
noncomputable abbrev l2 (k : Nat) : T2 := fun (x0 : Option N1) (x1 : List (Int)) (x2 : Option N1) => cutK (run E h k c2) (s2 x0 x1 x2) (K5 k)
abbrev s1 : (Option N1) → (List (Int)) → (Option N1) → Bool → ST cx := fun (x0 : Option N1) (x1 : List (Int)) (x2 : Option N1) (x19 : Bool) => ({ vars := [(0, .v (.ptr 1) .ro x0), (1, .v (.slice 3 (.int .i64)) .ro x1), (2, .v (.ptr 1) .ro x2), (19, .v .bool .ro x19)], scr := [], mems := [] } : ST cx)
noncomputable def u1 (k : Nat) : T1 := fun (x0 : Option N1) (x1 : List (Int)) (x2 : Option N1) (x19 : Bool) => uK (run E h k c5) (s1 x0 x1 x2 x19) (K12 k)
noncomputable abbrev l1 (k : Nat) : T1 := fun (x0 : Option N1) (x1 : List (Int)) (x2 : Option N1) (x19 : Bool) => cutK (run E h k c5) (s1 x0 x1 x2 x19) (K12 k)
noncomputable def u0 (k : Nat) : T0 := fun (x0 : Option N1) (x1 : List (Int)) (x2 : Option N1) => runOf (S := cx) E h k Try.f29 [.val (.ptr 1), .val (.slice 3 (.int .i64)), .val (.ptr 1)] (.pair (.ptr 1) (.int .i64)) .ro (x0, x1, x2, ())
def t2 : T2 := fun (x0 : Option N1) (x1 : List (Int)) (x2 : Option N1) => 
  (bindR (s_tree_put (x0, (x1, (x2, ())))) fun r4 => (some ((r4.1, (0 : Int)), ())))
theorem e2 (k : Nat) : u2 k = t2 := by kernel_rfl
theorem g2 (k : Nat) : l2 k = u2 k := funext fun _ => funext fun _ => funext fun _ => cut_u _ _ _
def p2 (k : Nat) : T2 := t2
theorem o2 (k : Nat) : l2 k = p2 k := (Eq.trans (b := u2 k) (g2 k) (Eq.trans (b := t2) (e2 k) (by kernel_rfl)))
def t1 (f2 : T2) : T1 := fun (x0 : Option N1) (x1 : List (Int)) (x2 : Option N1) (x19 : Bool) => 
  (iteB x19 (some ((none, (8 : Int)), ())) (f2 x0 x1 x2))
theorem e1 (k : Nat) : u1 k = t1 (l2 k) := by kernel_rfl
theorem g1 (k : Nat) : l1 k = u1 k := funext fun _ => funext fun _ => funext fun _ => funext fun _ => cut_u _ _ _
theorem d1 {x2 y2 : T2} (h2 : x2 = y2) : t1 x2 = t1 y2 := by subst h2; rfl
def p1 (k : Nat) : T1 := t1 (p2 k)
theorem o1 (k : Nat) : l1 k = p1 k := (Eq.trans (b := u1 k) (g1 k) (Eq.trans (b := t1 (l2 k)) (e1 k) (Eq.trans (b := t1 (p2 k)) (d1 (o2 k)) (by kernel_rfl))))
def t0 (f1 : T1) : T0 := fun (x0 : Option N1) (x1 : List (Int)) (x2 : Option N1) => 
  (bindR (s_tree_At (x0, (x1, ()))) fun r1 => (iteB (notB r1.1.2) (some ((none, (7 : Int)), ())) (iteB (Option.isNone x2) (f1 x0 x1 x2 true) (bindR x2 fun z2 => (bindR r1.1.1 fun z3 => (f1 x0 x1 x2 (!decide ((out1 z2).1 = (out1 z3).1))))))))
theorem e0 (k : Nat) : u0 k = t0 (l1 k) := by kernel_rfl
theorem d0 {x1 y1 : T1} (h1 : x1 = y1) : t0 x1 = t0 y1 := by subst h1; rfl
def p0 (k : Nat) : T0 := t0 (p1 k)
theorem o0 (k : Nat) : u0 k = p0 k := (Eq.trans (b := t0 (l1 k)) (e0 k) (Eq.trans (b := t0 (p1 k)) (d0 (o1 k)) (by kernel_rfl)))
end tree_Put
def s_tree_Put (a : (Option N1) × ((List (Int)) × ((Option N1) × (Unit)))) : Option (((Option N1) × (Int)) × (Unit)) := tree_Put.p0 (fuel) a.1 a.2.1 a.2.2.1
noncomputable def F_tree_Put : FSpec cx.toNm := { ps := [.val (.ptr 1), .val (.slice 3 (.int .i64)), .val (.ptr 1)], nres := 2, rt := (.pair (.ptr 1) (.int .i64)), rm := .ro, f := s_tree_Put }
theorem w_tree_Put (a : (Option N1) × ((List (Int)) × ((Option N1) × (Unit)))) : runOf (S := cx) tree_Put.E tree_Put.h (fuel) Try.f29 F_tree_Put.ps F_tree_Put.rt F_tree_Put.rm a = s_tree_Put a := Eq.trans (b := tree_Put.u0 (fuel) a.1 a.2.1 a.2.2.1) (by kernel_rfl) (Eq.trans (b := tree_Put.p0 (fuel) a.1 a.2.1 a.2.2.1) (congrFun (congrFun (congrFun (tree_Put.o0 (fuel)) a.1) a.2.1) a.2.2.1) (by kernel_rfl))
theorem ok_tree_Put : FnOk Try.prog F_tree_Put 29 := fn_of (F := F_tree_Put) (hn := tree_Put.h) (E := tree_Put.E) cxOk (tysT _ _ _) (fs_cons ok_tree_At (fs_cons ok_tree_put fs_nil)) follows Try.func29 (by kernel_rfl) (fun a r h => ⟨fuel, Eq.trans (w_tree_Put a) h⟩)
noncomputable def Fr_ref15_Same (f : ((Option N1) × ((Option N1) × (Unit))) → Option ((Bool) × (Unit))) : FSpec cx.toNm := { ps := [.val (.ptr 1), .val (.ptr 1)], nres := 1, rt := .bool, rm := .ro, f := f }
namespace ref15_Same
noncomputable def E (sf_ref15_Same : ((Option N1) × ((Option N1) × (Unit))) → Option ((Bool) × (Unit))) : Env cx := { tys := tys, fs := fsOf [(17, (Fr_ref15_Same sf_ref15_Same))] }
abbrev R := Option ((Bool) × (Unit))
abbrev C := Exit → ST cx → R
noncomputable def b : Code := bodyC Try.f17
noncomputable def h : Hint := { vs := [0, 1, 4, 5], nil := [], cuts := [(2, ([0, 1, 11], []), ([0, 1], [])), (3, ([0, 1], []), ([0, 1], [])), (4, ([0, 1, 61], []), ([0, 1], [])), (5, ([0, 1], []), ([0, 1], [])), (6, ([0, 1, 5], []), ([], [])), (10, ([], []), ([], []))], ret := ([4], []), ords := [] }
noncomputable def K0 (sf_ref15_Same : ((Option N1) × ((Option N1) × (Unit))) → Option ((Bool) × (Unit))) : C := fin (S := cx) (E sf_ref15_Same) Try.f17.results.toList .bool .ro [] []
noncomputable def c0 : Code := subC b [1]
noncomputable def K1 (sf_ref15_Same : ((Option N1) × ((Option N1) × (Unit))) → Option ((Bool) × (Unit))) (k : Nat) : C := outD h c0 (K0 sf_ref15_Same)
noncomputable def K2 (sf_ref15_Same : ((Option N1) × ((Option N1) × (Unit))) → Option ((Bool) × (Unit))) (k : Nat) : C := seqC (E sf_ref15_Same) h k c0 (K0 sf_ref15_Same)
noncomputable def c1 : Code := subC b [1, 1]
noncomputable def K3 (sf_ref15_Same : ((Option N1) × ((Option N1) × (Unit))) → Option ((Bool) × (Unit))) (k : Nat) : C := outD h c1 (K1 sf_ref15_Same k)
noncomputable def K4 (sf_ref15_Same : ((Option N1) × ((Option N1) × (Unit))) → Option ((Bool) × (Unit))) (k : Nat) : C := seqC (E sf_ref15_Same) h k c1 (K1 sf_ref15_Same k)
noncomputable def c2 : Code := subC b [1, 0, 1]
noncomputable def K5 (sf_ref15_Same : ((Option N1) × ((Option N1) × (Unit))) → Option ((Bool) × (Unit))) (k : Nat) : C := outD h c2 (K4 sf_ref15_Same k)
noncomputable def K6 (sf_ref15_Same : ((Option N1) × ((Option N1) × (Unit))) → Option ((Bool) × (Unit))) (k : Nat) : C := seqC (E sf_ref15_Same) h k c2 (K4 sf_ref15_Same k)
noncomputable def c3 : Code := subC b [1, 0, 1, 0, 1]
noncomputable def K7 (sf_ref15_Same : ((Option N1) × ((Option N1) × (Unit))) → Option ((Bool) × (Unit))) (k : Nat) : C := outD h c3 (K5 sf_ref15_Same k)
noncomputable def K8 (sf_ref15_Same : ((Option N1) × ((Option N1) × (Unit))) → Option ((Bool) × (Unit))) (k : Nat) : C := seqC (E sf_ref15_Same) h k c3 (K5 sf_ref15_Same k)
noncomputable def c4 : Code := subC b [1, 1, 1]
noncomputable def K9 (sf_ref15_Same : ((Option N1) × ((Option N1) × (Unit))) → Option ((Bool) × (Unit))) (k : Nat) : C := outD h c4 (K3 sf_ref15_Same k)
noncomputable def K10 (sf_ref15_Same : ((Option N1) × ((Option N1) × (Unit))) → Option ((Bool) × (Unit))) (k : Nat) : C := seqC (E sf_ref15_Same) h k c4 (K3 sf_ref15_Same k)
noncomputable def c5 : Code := subC b [1, 1, 0, 1]
noncomputable def K11 (sf_ref15_Same : ((Option N1) × ((Option N1) × (Unit))) → Option ((Bool) × (Unit))) (k : Nat) : C := outD h c5 (K10 sf_ref15_Same k)
noncomputable def K12 (sf_ref15_Same : ((Option N1) × ((Option N1) × (Unit))) → Option ((Bool) × (Unit))) (k : Nat) : C := seqC (E sf_ref15_Same) h k c5 (K10 sf_ref15_Same k)
noncomputable def c6 : Code := subC b [1, 1, 0, 1, 0, 1]
noncomputable def K13 (sf_ref15_Same : ((Option N1) × ((Option N1) × (Unit))) → Option ((Bool) × (Unit))) (k : Nat) : C := outD h c6 (K11 sf_ref15_Same k)
noncomputable def K14 (sf_ref15_Same : ((Option N1) × ((Option N1) × (Unit))) → Option ((Bool) × (Unit))) (k : Nat) : C := seqC (E sf_ref15_Same) h k c6 (K11 sf_ref15_Same k)
noncomputable def c7 : Code := subC b [1, 1, 1, 1]
noncomputable def K15 (sf_ref15_Same : ((Option N1) × ((Option N1) × (Unit))) → Option ((Bool) × (Unit))) (k : Nat) : C := outD h c7 (K9 sf_ref15_Same k)
noncomputable def K16 (sf_ref15_Same : ((Option N1) × ((Option N1) × (Unit))) → Option ((Bool) × (Unit))) (k : Nat) : C := seqC (E sf_ref15_Same) h k c7 (K9 sf_ref15_Same k)
noncomputable def c8 : Code := subC b [1, 1, 1, 0, 1]
noncomputable def K17 (sf_ref15_Same : ((Option N1) × ((Option N1) × (Unit))) → Option ((Bool) × (Unit))) (k : Nat) : C := outD h c8 (K16 sf_ref15_Same k)
noncomputable def K18 (sf_ref15_Same : ((Option N1) × ((Option N1) × (Unit))) → Option ((Bool) × (Unit))) (k : Nat) : C := seqC (E sf_ref15_Same) h k c8 (K16 sf_ref15_Same k)
noncomputable def K19 (sf_ref15_Same : ((Option N1) × ((Option N1) × (Unit))) → Option ((Bool) × (Unit))) (k : Nat) : C := blockK 0 (K17 sf_ref15_Same k)
noncomputable def c9 : Code := subC b [1, 1, 1, 0, 1, 0, 0]
noncomputable def K20 (sf_ref15_Same : ((Option N1) × ((Option N1) × (Unit))) → Option ((Bool) × (Unit))) (k n5 : Nat) : C := loopD (E sf_ref15_Same) h k c9 (K19 sf_ref15_Same k) n5
noncomputable def c10 : Code := subC b [1, 1, 1, 0, 1, 0, 0, 1]
noncomputable def K21 (sf_ref15_Same : ((Option N1) × ((Option N1) × (Unit))) → Option ((Bool) × (Unit))) (k n5 : Nat) : C := outD h c10 (K20 sf_ref15_Same k n5)
noncomputable def K22 (sf_ref15_Same : ((Option N1) × ((Option N1) × (Unit))) → Option ((Bool) × (Unit))) (k n5 : Nat) : C := seqC (E sf_ref15_Same) h k c10 (K20 sf_ref15_Same k n5)
noncomputable def c11 : Code := subC b [1, 1, 1, 0, 1, 0, 0, 0, 1]
noncomputable def K23 (sf_ref15_Same : ((Option N1) × ((Option N1) × (Unit))) → Option ((Bool) × (Unit))) (k n5 : Nat) : C := outD h c11 (K22 sf_ref15_Same k n5)
noncomputable def K24 (sf_ref15_Same : ((Option N1) × ((Option N1) × (Unit))) → Option ((Bool) × (Unit))) (k n5 : Nat) : C := seqC (E sf_ref15_Same) h k c11 (K22 sf_ref15_Same k n5)
noncomputable def c12 : Code := subC b [1, 1, 1, 0, 1, 0, 0, 1, 1]
noncomputable def K25 (sf_ref15_Same : ((Option N1) × ((Option N1) × (Unit))) → Option ((Bool) × (Unit))) (k n5 : Nat) : C := outD h c12 (K21 sf_ref15_Same k n5)
noncomputable def K26 (sf_ref15_Same : ((Option N1) × ((Option N1) × (Unit))) → Option ((Bool) × (Unit))) (k n5 : Nat) : C := seqC (E sf_ref15_Same) h k c12 (K21 sf_ref15_Same k n5)
noncomputable def K27 (sf_ref15_Same : ((Option N1) × ((Option N1) × (Unit))) → Option ((Bool) × (Unit))) (k n5 : Nat) : C := blockK 1 (K26 sf_ref15_Same k n5)
noncomputable def c13 : Code := subC b [1, 1, 1, 0, 1, 0, 0, 1, 0, 0, 1]
noncomputable def K28 (sf_ref15_Same : ((Option N1) × ((Option N1) × (Unit))) → Option ((Bool) × (Unit))) (k n5 : Nat) : C := outD h c13 (K27 sf_ref15_Same k n5)
noncomputable def K29 (sf_ref15_Same : ((Option N1) × ((Option N1) × (Unit))) → Option ((Bool) × (Unit))) (k n5 : Nat) : C := seqC (E sf_ref15_Same) h k c13 (K27 sf_ref15_Same k n5)
noncomputable def c14 : Code := subC b [1, 1, 1, 0, 1, 0, 0, 1, 0, 0, 1, 0, 1]
noncomputable def K30 (sf_ref15_Same : ((Option N1) × ((Option N1) × (Unit))) → Option ((Bool) × (Unit))) (k n5 : Nat) : C := outD h c14 (K28 sf_ref15_Same k n5)
noncomputable def K31 (sf_ref15_Same : ((Option N1) × ((Option N1) × (Unit))) → Option ((Bool) × (Unit))) (k n5 : Nat) : C := seqC (E sf_ref15_Same) h k c14 (K28 sf_ref15_Same k n5)
noncomputable def c15 : Code := subC b [1, 1, 1, 1, 1]
noncomputable def K32 (sf_ref15_Same : ((Option N1) × ((Option N1) × (Unit))) → Option ((Bool) × (Unit))) (k : Nat) : C := outD h c15 (K15 sf_ref15_Same k)
noncomputable def K33 (sf_ref15_Same : ((Option N1) × ((Option N1) × (Unit))) → Option ((Bool) × (Unit))) (k : Nat) : C := seqC (E sf_ref15_Same) h k c15 (K15 sf_ref15_Same k)
abbrev T6 := R
abbrev T5 := (Option N1) → (Option N1) → Int → R
abbrev T4 := (Option N1) → (Option N1) → R
abbrev T3 := (Option N1) → (Option N1) → Bool → R
abbrev T2 := (Option N1) → (Option N1) → R
abbrev T1 := (Option N1) → (Option N1) → Bool → R
abbrev T0 := (Option N1) → (Option N1) → R
abbrev s6 : ST cx := ({ vars := [], scr := [], mems := [] } : ST cx)
noncomputable def u6 (sf_ref15_Same : ((Option N1) × ((Option N1) × (Unit))) → Option ((Bool) × (Unit))) (k : Nat) : T6 := uK (run (E sf_ref15_Same) h k c7) s6 (K15 sf_ref15_Same k)
noncomputable abbrev l6 (sf_ref15_Same : ((Option N1) × ((Option N1) × (Unit))) → Option ((Bool) × (Unit))) (k : Nat) : T6 := cutK (run (E sf_ref15_Same) h k c7) s6 (K15 sf_ref15_Same k)
abbrev s5 : (Option N1) → (Option N1) → Int → ST cx := fun (x0 x1 : Option N1) (x5 : Int) => ({ vars := [(0, .v (.ptr 1) .ro x0), (1, .v (.ptr 1) .ro x1), (5, .v (.int .i64) .ro x5)], scr := [], mems := [] } : ST cx)
noncomputable def u5 (sf_ref15_Same : ((Option N1) × ((Option N1) × (Unit))) → Option ((Bool) × (Unit))) (k n5 : Nat) : T5 := fun (x0 x1 : Option N1) (x5 : Int) => uK (loopL (E sf_ref15_Same) h k c9 (K19 sf_ref15_Same k) n5) (s5 x0 x1 x5) ()
noncomputable abbrev l5 (sf_ref15_Same : ((Option N1) × ((Option N1) × (Unit))) → Option ((Bool) × (Unit))) (k n5 : Nat) : T5 := fun (x0 x1 : Option N1) (x5 : Int) => cutK (loopL (E sf_ref15_Same) h k c9 (K19 sf_ref15_Same k) n5) (s5 x0 x1 x5) ()
abbrev s4 : (Option N1) → (Option N1) → ST cx := fun (x0 x1 : Option N1) => ({ vars := [(0, .v (.ptr 1) .ro x0), (1, .v (.ptr 1) .ro x1)], scr := [], mems := [] } : ST cx)
noncomputable def u4 (sf_ref15_Same : ((Option N1) × ((Option N1) × (Unit))) → Option ((Bool) × (Unit))) (k : Nat) : T4 := fun (x0 x1 : Option N1) => uK (run (E sf_ref15_Same) h k c4) (s4 x0 x1) (K9 sf_ref15_Same k)
noncomputable abbrev l4 (sf_ref15_Same : ((Option N1) × ((Option N1) × (Unit))) → Option ((Bool) × (Unit))) (k : Nat) : T4 := fun (x0 x1 : Option N1) => cutK (run (E sf_ref15_Same) h k c4) (s4 x0 x1) (K9 sf_ref15_Same k)
abbrev s3 : (Option N1) → (Option N1) → Bool → ST cx := fun (x0 x1 : Option N1) (x61 : Bool) => ({ vars := [(0, .v (.ptr 1) .ro x0), (1, .v (.ptr 1) .ro x1), (61, .v .bool .ro x61)], scr := [], mems := [] } : ST cx)
noncomputable def u3 (sf_ref15_Same : ((Option N1) × ((Option N1) × (Unit))) → Option ((Bool) × (Unit))) (k : Nat) : T3 := fun (x0 x1 : Option N1) (x61 : Bool) => uK (run (E sf_ref15_Same) h k c5) (s3 x0 x1 x61) (K11 sf_ref15_Same k)
noncomputable abbrev l3 (sf_ref15_Same : ((Option N1) × ((Option N1) × (Unit))) → Option ((Bool) × (Unit))) (k : Nat) : T3 := fun (x0 x1 : Option N1) (x61 : Bool) => cutK (run (E sf_ref15_Same) h k c5) (s3 x0 x1 x61) (K11 sf_ref15_Same k)
abbrev s2 : (Option N1) → (Option N1) → ST cx := fun (x0 x1 : Option N1) => ({ vars := [(0, .v (.ptr 1) .ro x0), (1, .v (.ptr 1) .ro x1)], scr := [], mems := [] } : ST cx)
noncomputable def u2 (sf_ref15_Same : ((Option N1) × ((Option N1) × (Unit))) → Option ((Bool) × (Unit))) (k : Nat) : T2 := fun (x0 x1 : Option N1) => uK (run (E sf_ref15_Same) h k c1) (s2 x0 x1) (K3 sf_ref15_Same k)
noncomputable abbrev l2 (sf_ref15_Same : ((Option N1) × ((Option N1) × (Unit))) → Option ((Bool) × (Unit))) (k : Nat) : T2 := fun (x0 x1 : Option N1) => cutK (run (E sf_ref15_Same) h k c1) (s2 x0 x1) (K3 sf_ref15_Same k)
abbrev s1 : (Option N1) → (Option N1) → Bool → ST cx := fun (x0 x1 : Option N1) (x11 : Bool) => ({ vars := [(0, .v (.ptr 1) .ro x0), (1, .v (.ptr 1) .ro x1), (11, .v .bool .ro x11)], scr := [], mems := [] } : ST cx)
noncomputable def u1 (sf_ref15_Same : ((Option N1) × ((Option N1) × (Unit))) → Option ((Bool) × (Unit))) (k : Nat) : T1 := fun (x0 x1 : Option N1) (x11 : Bool) => uK (run (E sf_ref15_Same) h k c2) (s1 x0 x1 x11) (K5 sf_ref15_Same k)
noncomputable abbrev l1 (sf_ref15_Same : ((Option N1) × ((Option N1) × (Unit))) → Option ((Bool) × (Unit))) (k : Nat) : T1 := fun (x0 x1 : Option N1) (x11 : Bool) => cutK (run (E sf_ref15_Same) h k c2) (s1 x0 x1 x11) (K5 sf_ref15_Same k)
noncomputable def u0 (sf_ref15_Same : ((Option N1) × ((Option N1) × (Unit))) → Option ((Bool) × (Unit))) (k : Nat) : T0 := fun (x0 x1 : Option N1) => runOf (S := cx) (E sf_ref15_Same) h k Try.f17 [.val (.ptr 1), .val (.ptr 1)] .bool .ro (x0, x1, ())
def t6 (sf_ref15_Same : ((Option N1) × ((Option N1) × (Unit))) → Option ((Bool) × (Unit))) : T6 := 
  (some (true, ()))
theorem e6 (sf_ref15_Same : ((Option N1) × ((Option N1) × (Unit))) → Option ((Bool) × (Unit))) (k : Nat) : u6 sf_ref15_Same k = t6 sf_ref15_Same := by kernel_rfl
theorem g6 (sf_ref15_Same : ((Option N1) × ((Option N1) × (Unit))) → Option ((Bool) × (Unit))) (k : Nat) : l6 sf_ref15_Same k = u6 sf_ref15_Same k := cut_u _ _ _
def p6 (sf_ref15_Same : ((Option N1) × ((Option N1) × (Unit))) → Option ((Bool) × (Unit))) (k : Nat) : T6 := t6 sf_ref15_Same
theorem o6 (sf_ref15_Same : ((Option N1) × ((Option N1) × (Unit))) → Option ((Bool) × (Unit))) (k : Nat) : l6 sf_ref15_Same k = p6 sf_ref15_Same k := (Eq.trans (b := u6 sf_ref15_Same k) (g6 sf_ref15_Same k) (Eq.trans (b := t6 sf_ref15_Same) (e6 sf_ref15_Same k) (by kernel_rfl)))
def t5 (sf_ref15_Same : ((Option N1) × ((Option N1) × (Unit))) → Option ((Bool) × (Unit))) (f5 : T5) (f6 : T6) : T5 := fun (x0 x1 : Option N1) (x5 : Int) => 
  (bindR x0 fun z9 => (iteB (decide (x5 < ((List.length (out1 z9).2.2.2.1 : Nat) : Int))) (bindR x0 fun z10 => (withinR x5 (List.length (out1 z10).2.2.2.1) fun q11 => (bindR x1 fun z12 => (withinR x5 (List.length (out1 z12).2.2.2.1) fun q13 => (bindR (sf_ref15_Same ((List.getD (out1 z10).2.2.2.1 q11 none), ((List.getD (out1 z12).2.2.2.1 q13 none), ()))) fun r14 => (iteB (notB r14.1) (some (false, ())) (f5 x0 x1 (w64 (x5 + (1 : Int)))))))))) f6))
theorem e5 (sf_ref15_Same : ((Option N1) × ((Option N1) × (Unit))) → Option ((Bool) × (Unit))) (k n5 : Nat) : u5 sf_ref15_Same k (n5 + 1) = t5 sf_ref15_Same (l5 sf_ref15_Same k n5) (l6 sf_ref15_Same k) := by kernel_rfl
theorem g5 (sf_ref15_Same : ((Option N1) × ((Option N1) × (Unit))) → Option ((Bool) × (Unit))) (k n5 : Nat) : l5 sf_ref15_Same k (n5 + 1) = u5 sf_ref15_Same k (n5 + 1) := funext fun _ => funext fun _ => funext fun _ => cut_u _ _ _
theorem d5 (sf_ref15_Same : ((Option N1) × ((Option N1) × (Unit))) → Option ((Bool) × (Unit))) {x5 y5 : T5} {x6 y6 : T6} (h5 : x5 = y5) (h6 : x6 = y6) : t5 sf_ref15_Same x5 x6 = t5 sf_ref15_Same y5 y6 := by subst h5; subst h6; rfl
def p5 (sf_ref15_Same : ((Option N1) × ((Option N1) × (Unit))) → Option ((Bool) × (Unit))) (k : Nat) : Nat → T5
  | 0 => fun _ _ _ => none
  | n5 + 1 => t5 sf_ref15_Same (p5 sf_ref15_Same k n5) (p6 sf_ref15_Same k)
theorem o5 (sf_ref15_Same : ((Option N1) × ((Option N1) × (Unit))) → Option ((Bool) × (Unit))) (k : Nat) : ∀ n5, l5 sf_ref15_Same k n5 = p5 sf_ref15_Same k n5 := by
  intro n5
  induction n5 with
  | zero => kernel_rfl
  | succ n5 ih => exact (Eq.trans (b := u5 sf_ref15_Same k (n5 + 1)) (g5 sf_ref15_Same k n5) (Eq.trans (b := t5 sf_ref15_Same (l5 sf_ref15_Same k n5) (l6 sf_ref15_Same k)) (e5 sf_ref15_Same k n5) (Eq.trans (b := t5 sf_ref15_Same (p5 sf_ref15_Same k n5) (p6 sf_ref15_Same k)) (d5 sf_ref15_Same ih (o6 sf_ref15_Same k)) (by kernel_rfl))))
def t4 (sf_ref15_Same : ((Option N1) × ((Option N1) × (Unit))) → Option ((Bool) × (Unit))) (f5 : T5) : T4 := fun (x0 x1 : Option N1) => 
  (f5 x0 x1 (0 : Int))
theorem e4 (sf_ref15_Same : ((Option N1) × ((Option N1) × (Unit))) → Option ((Bool) × (Unit))) (k : Nat) : u4 sf_ref15_Same k = t4 sf_ref15_Same (l5 sf_ref15_Same k k) := by kernel_rfl
theorem g4 (sf_ref15_Same : ((Option N1) × ((Option N1) × (Unit))) → Option ((Bool) × (Unit))) (k : Nat) : l4 sf_ref15_Same k = u4 sf_ref15_Same k := funext fun _ => funext fun _ => cut_u _ _ _
theorem d4 (sf_ref15_Same : ((Option N1) × ((Option N1) × (Unit))) → Option ((Bool) × (Unit))) {x5 y5 : T5} (h5 : x5 = y5) : t4 sf_ref15_Same x5 = t4 sf_ref15_Same y5 := by subst h5; rfl
def p4 (sf_ref15_Same : ((Option N1) × ((Option N1) × (Unit))) → Option ((Bool) × (Unit))) (k : Nat) : T4 := t4 sf_ref15_Same (p5 sf_ref15_Same k k)
theorem o4 (sf_ref15_Same : ((Option N1) × ((Option N1) × (Unit))) → Option ((Bool) × (Unit))) (k : Nat) : l4 sf_ref15_Same k = p4 sf_ref15_Same k := (Eq.trans (b := u4 sf_ref15_Same k) (g4 sf_ref15_Same k) (Eq.trans (b := t4 sf_ref15_Same (l5 sf_ref15_Same k k)) (e4 sf_ref15_Same k) (Eq.trans (b := t4 sf_ref15_Same (p5 sf_ref15_Same k k)) (d4 sf_ref15_Same (o5 sf_ref15_Same k k)) (by kernel_rfl))))
def t3 (sf_ref15_Same : ((Option N1) × ((Option N1) × (Unit))) → Option ((Bool) × (Unit))) (f4 : T4) : T3 := fun (x0 x1 : Option N1) (x61 : Bool) => 
  (iteB x61 (some (false, ())) (f4 x0 x1))
theorem e3 (sf_ref15_Same : ((Option N1) × ((Option N1) × (Unit))) → Option ((Bool) × (Unit))) (k : Nat) : u3 sf_ref15_Same k = t3 sf_ref15_Same (l4 sf_ref15_Same k) := by kernel_rfl
theorem g3 (sf_ref15_Same : ((Option N1) × ((Option N1) × (Unit))) → Option ((Bool) × (Unit))) (k : Nat) : l3 sf_ref15_Same k = u3 sf_ref15_Same k := funext fun _ => funext fun _ => funext fun _ => cut_u _ _ _
theorem d3 (sf_ref15_Same : ((Option N1) × ((Option N1) × (Unit))) → Option ((Bool) × (Unit))) {x4 y4 : T4} (h4 : x4 = y4) : t3 sf_ref15_Same x4 = t3 sf_ref15_Same y4 := by subst h4; rfl
def p3 (sf_ref15_Same : ((Option N1) × ((Option N1) × (Unit))) → Option ((Bool) × (Unit))) (k : Nat) : T3 := t3 sf_ref15_Same (p4 sf_ref15_Same k)
theorem o3 (sf_ref15_Same : ((Option N1) × ((Option N1) × (Unit))) → Option ((Bool) × (Unit))) (k : Nat) : l3 sf_ref15_Same k = p3 sf_ref15_Same k := (Eq.trans (b := u3 sf_ref15_Same k) (g3 sf_ref15_Same k) (Eq.trans (b := t3 sf_ref15_Same (l4 sf_ref15_Same k)) (e3 sf_ref15_Same k) (Eq.trans (b := t3 sf_ref15_Same (p4 sf_ref15_Same k)) (d3 sf_ref15_Same (o4 sf_ref15_Same k)) (by kernel_rfl))))
def t2 (sf_ref15_Same : ((Option N1) × ((Option N1) × (Unit))) → Option ((Bool) × (Unit))) (f3 : T3) : T2 := fun (x0 x1 : Option N1) => 
  (bindR x0 fun z1 => (bindR x1 fun z2 => (iteB (!decide ((out1 z1).1 = (out1 z2).1)) (f3 x0 x1 true) (bindR x0 fun z3 => (bindR x1 fun z4 => (iteB (!decide ((out1 z3).2.1 = (out1 z4).2.1)) (f3 x0 x1 true) (bindR x0 fun z5 => (bindR x1 fun z6 => (iteB (!(decide ((out1 z5).2.2.1 = (out1 z6).2.2.1))) (f3 x0 x1 true) (bindR x0 fun z7 => (bindR x1 fun z8 => (f3 x0 x1 (!decide (((List.length (out1 z7).2.2.2.1 : Nat) : Int) = ((List.length (out1 z8).2.2.2.1 : Nat) : Int)))))))))))))))
theorem e2 (sf_ref15_Same : ((Option N1) × ((Option N1) × (Unit))) → Option ((Bool) × (Unit))) (k : Nat) : u2 sf_ref15_Same k = t2 sf_ref15_Same (l3 sf_ref15_Same k) := by kernel_rfl
theorem g2 (sf_ref15_Same : ((Option N1) × ((Option N1) × (Unit))) → Option ((Bool) × (Unit))) (k : Nat) : l2 sf_ref15_Same k = u2 sf_ref15_Same k := funext fun _ => funext fun _ => cut_u _ _ _
theorem d2 (sf_ref15_Same : ((Option N1) × ((Option N1) × (Unit))) → Option ((Bool) × (Unit))) {x3 y3 : T3} (h3 : x3 = y3) : t2 sf_ref15_Same x3 = t2 sf_ref15_Same y3 := by subst h3; rfl
def p2 (sf_ref15_Same : ((Option N1) × ((Option N1) × (Unit))) → Option ((Bool) × (Unit))) (k : Nat) : T2 := t2 sf_ref15_Same (p3 sf_ref15_Same k)
theorem o2 (sf_ref15_Same : ((Option N1) × ((Option N1) × (Unit))) → Option ((Bool) × (Unit))) (k : Nat) : l2 sf_ref15_Same k = p2 sf_ref15_Same k := (Eq.trans (b := u2 sf_ref15_Same k) (g2 sf_ref15_Same k) (Eq.trans (b := t2 sf_ref15_Same (l3 sf_ref15_Same k)) (e2 sf_ref15_Same k) (Eq.trans (b := t2 sf_ref15_Same (p3 sf_ref15_Same k)) (d2 sf_ref15_Same (o3 sf_ref15_Same k)) (by kernel_rfl))))
def t1 (sf_ref15_Same : ((Option N1) × ((Option N1) × (Unit))) → Option ((Bool) × (Unit))) (f2 : T2) : T1 := fun (x0 x1 : Option N1) (x11 : Bool) => 
  (iteB x11 (iteB (Option.isNone x0) (some ((Option.isNone x1), ())) (some (false, ()))) (f2 x0 x1))
theorem e1 (sf_ref15_Same : ((Option N1) × ((Option N1) × (Unit))) → Option ((Bool) × (Unit))) (k : Nat) : u1 sf_ref15_Same k = t1 sf_ref15_Same (l2 sf_ref15_Same k) := by kernel_rfl
theorem g1 (sf_ref15_Same : ((Option N1) × ((Option N1) × (Unit))) → Option ((Bool) × (Unit))) (k : Nat) : l1 sf_ref15_Same k = u1 sf_ref15_Same k := funext fun _ => funext fun _ => funext fun _ => cut_u _ _ _
theorem d1 (sf_ref15_Same : ((Option N1) × ((Option N1) × (Unit))) → Option ((Bool) × (Unit))) {x2 y2 : T2} (h2 : x2 = y2) : t1 sf_ref15_Same x2 = t1 sf_ref15_Same y2 := by subst h2; rfl
def p1 (sf_ref15_Same : ((Option N1) × ((Option N1) × (Unit))) → Option ((Bool) × (Unit))) (k : Nat) : T1 := t1 sf_ref15_Same (p2 sf_ref15_Same k)
theorem o1 (sf_ref15_Same : ((Option N1) × ((Option N1) × (Unit))) → Option ((Bool) × (Unit))) (k : Nat) : l1 sf_ref15_Same k = p1 sf_ref15_Same k := (Eq.trans (b := u1 sf_ref15_Same k) (g1 sf_ref15_Same k) (Eq.trans (b := t1 sf_ref15_Same (l2 sf_ref15_Same k)) (e1 sf_ref15_Same k) (Eq.trans (b := t1 sf_ref15_Same (p2 sf_ref15_Same k)) (d1 sf_ref15_Same (o2 sf_ref15_Same k)) (by kernel_rfl))))
def t0 (sf_ref15_Same : ((Option N1) × ((Option N1) × (Unit))) → Option ((Bool) × (Unit))) (f1 : T1) : T0 := fun (x0 x1 : Option N1) => 
  (iteB (Option.isNone x0) (f1 x0 x1 true) (f1 x0 x1 (Option.isNone x1)))
theorem e0 (sf_ref15_Same : ((Option N1) × ((Option N1) × (Unit))) → Option ((Bool) × (Unit))) (k : Nat) : u0 sf_ref15_Same k = t0 sf_ref15_Same (l1 sf_ref15_Same k) := by kernel_rfl
theorem d0 (sf_ref15_Same : ((Option N1) × ((Option N1) × (Unit))) → Option ((Bool) × (Unit))) {x1 y1 : T1} (h1 : x1 = y1) : t0 sf_ref15_Same x1 = t0 sf_ref15_Same y1 := by subst h1; rfl
def p0 (sf_ref15_Same : ((Option N1) × ((Option N1) × (Unit))) → Option ((Bool) × (Unit))) (k : Nat) : T0 := t0 sf_ref15_Same (p1 sf_ref15_Same k)
theorem o0 (sf_ref15_Same : ((Option N1) × ((Option N1) × (Unit))) → Option ((Bool) × (Unit))) (k : Nat) : u0 sf_ref15_Same k = p0 sf_ref15_Same k := (Eq.trans (b := t0 sf_ref15_Same (l1 sf_ref15_Same k)) (e0 sf_ref15_Same k) (Eq.trans (b := t0 sf_ref15_Same (p1 sf_ref15_Same k)) (d0 sf_ref15_Same (o1 sf_ref15_Same k)) (by kernel_rfl)))
end ref15_Same
def r_ref15_Same : Nat → ((Option N1) × ((Option N1) × (Unit))) → Option ((Bool) × (Unit))
  | 0, _ => none
  | n + 1, a => ref15_Same.p0 (r_ref15_Same n) (fuel) a.1 a.2.1
theorem okr_ref15_Same : ∀ n, FnOk Try.prog (Fr_ref15_Same (r_ref15_Same n)) 17
  | 0 => fn_none (fun _ => rfl)
  | n + 1 => fn_of (F := Fr_ref15_Same (r_ref15_Same (n + 1))) (hn := ref15_Same.h) (E := ref15_Same.E (r_ref15_Same n)) cxOk (tysT _ _ _) (fs_cons (okr_ref15_Same n) fs_nil) follows Try.func17 (by kernel_rfl) (fun a r h => ⟨fuel, Eq.trans (c := some r) (congrFun (congrFun (ref15_Same.o0 (r_ref15_Same n) (fuel)) a.1) a.2.1) h⟩)
def s_ref15_Same (a : (Option N1) × ((Option N1) × (Unit))) : Option ((Bool) × (Unit)) := r_ref15_Same (fuel) a
noncomputable def F_ref15_Same : FSpec cx.toNm := Fr_ref15_Same s_ref15_Same
theorem ok_ref15_Same : FnOk Try.prog F_ref15_Same 17 := fun w Z own vs a r h1 h2 h3 h4 => (okr_ref15_Same (fuel)) w Z own vs a r h1 h2 h3 h4
end
end Go.Proofs.Ytdnkjfmneppkoaa.Vm.Tr
namespace Go.Proofs.Ytdnkjfmneppkoaa.Vm.Tr
open Go Go.Proofs.Ytdnkjfmneppkoaa.Vm
set_option maxRecDepth 100000
theorem alive_is : s_law15_alive () = some (true, ()) := by kernel_rfl
end Go.Proofs.Ytdnkjfmneppkoaa.Vm.Tr
