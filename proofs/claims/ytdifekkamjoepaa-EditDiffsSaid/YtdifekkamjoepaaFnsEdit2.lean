/- What the laws of edits compute, as plain functions; that they do. -/
import Derived.Test.YtdifekkamjoepaaFnsEdit
namespace Go.Proofs.Ytdifekkamjoepaa.Vm.Rp
open Go Go.Proofs.Ytdifekkamjoepaa.Vm Go.Proofs
set_option linter.unusedVariables false
set_option maxRecDepth 100000
noncomputable section
namespace law04_EditDiffs
noncomputable def E : Env cx := { tys := tys, fs := fsOf [(19, F_ref04_Check), (24, F_ref04_Apply), (49, F_ref01_Bytes), (52, F_ref01_Edge), (63, F_law04_alive), (70, F_edit_Diff)] }
abbrev R := Option ((Bool) × (Unit))
abbrev C := Exit → ST cx → R
noncomputable def b : Code := bodyC Try.f15
noncomputable def h : Hint := { vs := [0, 1, 4, 5, 6, 7, 8, 9, 10, 11, 12, 13], nil := [], cuts := [(5, ([0, 1, 5, 6, 7], []), ([1, 5, 6], [])), (7, ([0, 1, 5, 6, 7], []), ([0, 1, 5, 6, 7], [])), (8, ([1, 5, 6], []), ([1, 5, 6], [])), (9, ([1, 5, 6, 8], []), ([5, 6], [])), (11, ([1, 5, 6, 8], []), ([1, 5, 6, 8], [])), (12, ([5, 6], []), ([5, 6], [])), (14, ([5, 6, 9, 65], [9]), ([5, 6, 9], [9])), (15, ([5, 6, 9], [9]), ([5, 6, 9], [9])), (17, ([5, 6, 9, 10, 11], [9]), ([5, 6, 9, 10], [9])), (18, ([5, 6, 9, 10, 11], [9]), ([5, 6, 9, 10, 11], [9])), (19, ([5, 6, 9, 10, 11], [9]), ([5, 6, 9, 10, 11], [9])), (20, ([5, 6, 9, 10, 11, 94], [9]), ([5, 6, 9, 10, 11], [9])), (21, ([5, 6, 9, 10], [9]), ([5, 6, 9, 10], [9])), (24, ([5, 6, 9, 10, 12], [9]), ([], [])), (25, ([5, 6, 9, 10, 12], [9]), ([5, 6, 9, 10, 12], [9])), (28, ([5, 6, 9, 10, 12, 140], [9]), ([5, 6, 9, 10, 12], [9])), (29, ([], []), ([], []))], ret := ([4], [9]), ords := [] }
noncomputable def K0 : C := fin (S := cx) E Try.f15.results.toList .bool .ro [] []
noncomputable def c0 : Code := subC b [1]
noncomputable def K1 (k : Nat) : C := outD h c0 K0
noncomputable def K2 (k : Nat) : C := seqC E h k c0 K0
noncomputable def c1 : Code := subC b [1, 1]
noncomputable def K3 (k : Nat) : C := outD h c1 (K1 k)
noncomputable def K4 (k : Nat) : C := seqC E h k c1 (K1 k)
noncomputable def c2 : Code := subC b [1, 0, 1]
noncomputable def K5 (k : Nat) : C := outD h c2 (K4 k)
noncomputable def K6 (k : Nat) : C := seqC E h k c2 (K4 k)
noncomputable def c3 : Code := subC b [1, 0, 1, 0, 1]
noncomputable def K7 (k : Nat) : C := outD h c3 (K5 k)
noncomputable def K8 (k : Nat) : C := seqC E h k c3 (K5 k)
noncomputable def c4 : Code := subC b [1, 1, 1]
noncomputable def K9 (k : Nat) : C := outD h c4 (K3 k)
noncomputable def K10 (k : Nat) : C := seqC E h k c4 (K3 k)
noncomputable def c5 : Code := subC b [1, 1, 1, 1]
noncomputable def K11 (k : Nat) : C := outD h c5 (K9 k)
noncomputable def K12 (k : Nat) : C := seqC E h k c5 (K9 k)
noncomputable def c6 : Code := subC b [1, 1, 1, 0, 1]
noncomputable def K13 (k : Nat) : C := outD h c6 (K12 k)
noncomputable def K14 (k : Nat) : C := seqC E h k c6 (K12 k)
noncomputable def K15 (k : Nat) : C := blockK 0 (K13 k)
noncomputable def c7 : Code := subC b [1, 1, 1, 0, 1, 0, 0]
noncomputable def K16 (k n1 : Nat) : C := loopD E h k c7 (K15 k) n1
noncomputable def c8 : Code := subC b [1, 1, 1, 0, 1, 0, 0, 1]
noncomputable def K17 (k n1 : Nat) : C := outD h c8 (K16 k n1)
noncomputable def K18 (k n1 : Nat) : C := seqC E h k c8 (K16 k n1)
noncomputable def c9 : Code := subC b [1, 1, 1, 0, 1, 0, 0, 0, 1]
noncomputable def K19 (k n1 : Nat) : C := outD h c9 (K18 k n1)
noncomputable def K20 (k n1 : Nat) : C := seqC E h k c9 (K18 k n1)
noncomputable def c10 : Code := subC b [1, 1, 1, 0, 1, 0, 0, 1, 1]
noncomputable def K21 (k n1 : Nat) : C := outD h c10 (K17 k n1)
noncomputable def K22 (k n1 : Nat) : C := seqC E h k c10 (K17 k n1)
noncomputable def K23 (k n1 : Nat) : C := blockK 1 (K22 k n1)
noncomputable def c11 : Code := subC b [1, 1, 1, 1, 1]
noncomputable def K24 (k : Nat) : C := outD h c11 (K11 k)
noncomputable def K25 (k : Nat) : C := seqC E h k c11 (K11 k)
noncomputable def c12 : Code := subC b [1, 1, 1, 1, 0, 1]
noncomputable def K26 (k : Nat) : C := outD h c12 (K25 k)
noncomputable def K27 (k : Nat) : C := seqC E h k c12 (K25 k)
noncomputable def K28 (k : Nat) : C := blockK 2 (K26 k)
noncomputable def c13 : Code := subC b [1, 1, 1, 1, 0, 1, 0, 0]
noncomputable def K29 (k n4 : Nat) : C := loopD E h k c13 (K28 k) n4
noncomputable def c14 : Code := subC b [1, 1, 1, 1, 0, 1, 0, 0, 1]
noncomputable def K30 (k n4 : Nat) : C := outD h c14 (K29 k n4)
noncomputable def K31 (k n4 : Nat) : C := seqC E h k c14 (K29 k n4)
noncomputable def c15 : Code := subC b [1, 1, 1, 1, 0, 1, 0, 0, 0, 1]
noncomputable def K32 (k n4 : Nat) : C := outD h c15 (K31 k n4)
noncomputable def K33 (k n4 : Nat) : C := seqC E h k c15 (K31 k n4)
noncomputable def c16 : Code := subC b [1, 1, 1, 1, 0, 1, 0, 0, 1, 1]
noncomputable def K34 (k n4 : Nat) : C := outD h c16 (K30 k n4)
noncomputable def K35 (k n4 : Nat) : C := seqC E h k c16 (K30 k n4)
noncomputable def K36 (k n4 : Nat) : C := blockK 3 (K35 k n4)
noncomputable def c17 : Code := subC b [1, 1, 1, 1, 1, 1]
noncomputable def K37 (k : Nat) : C := outD h c17 (K24 k)
noncomputable def K38 (k : Nat) : C := seqC E h k c17 (K24 k)
noncomputable def c18 : Code := subC b [1, 1, 1, 1, 1, 1, 1]
noncomputable def K39 (k : Nat) : C := outD h c18 (K37 k)
noncomputable def K40 (k : Nat) : C := seqC E h k c18 (K37 k)
noncomputable def c19 : Code := subC b [1, 1, 1, 1, 1, 1, 0, 1]
noncomputable def K41 (k : Nat) : C := outD h c19 (K40 k)
noncomputable def K42 (k : Nat) : C := seqC E h k c19 (K40 k)
noncomputable def c20 : Code := subC b [1, 1, 1, 1, 1, 1, 0, 1, 0, 1]
noncomputable def K43 (k : Nat) : C := outD h c20 (K41 k)
noncomputable def K44 (k : Nat) : C := seqC E h k c20 (K41 k)
noncomputable def c21 : Code := subC b [1, 1, 1, 1, 1, 1, 1, 1]
noncomputable def K45 (k : Nat) : C := outD h c21 (K39 k)
noncomputable def K46 (k : Nat) : C := seqC E h k c21 (K39 k)
noncomputable def c22 : Code := subC b [1, 1, 1, 1, 1, 1, 1, 1, 1]
noncomputable def K47 (k : Nat) : C := outD h c22 (K45 k)
noncomputable def K48 (k : Nat) : C := seqC E h k c22 (K45 k)
noncomputable def c23 : Code := subC b [1, 1, 1, 1, 1, 1, 1, 1, 0, 1]
noncomputable def K49 (k : Nat) : C := outD h c23 (K48 k)
noncomputable def K50 (k : Nat) : C := seqC E h k c23 (K48 k)
noncomputable def K51 (k : Nat) : C := blockK 4 (K49 k)
noncomputable def c24 : Code := subC b [1, 1, 1, 1, 1, 1, 1, 1, 0, 1, 0, 0]
noncomputable def K52 (k n9 : Nat) : C := loopD E h k c24 (K51 k) n9
noncomputable def c25 : Code := subC b [1, 1, 1, 1, 1, 1, 1, 1, 0, 1, 0, 0, 1]
noncomputable def K53 (k n9 : Nat) : C := outD h c25 (K52 k n9)
noncomputable def K54 (k n9 : Nat) : C := seqC E h k c25 (K52 k n9)
noncomputable def c26 : Code := subC b [1, 1, 1, 1, 1, 1, 1, 1, 0, 1, 0, 0, 0, 1]
noncomputable def K55 (k n9 : Nat) : C := outD h c26 (K54 k n9)
noncomputable def K56 (k n9 : Nat) : C := seqC E h k c26 (K54 k n9)
noncomputable def c27 : Code := subC b [1, 1, 1, 1, 1, 1, 1, 1, 0, 1, 0, 0, 1, 1]
noncomputable def K57 (k n9 : Nat) : C := outD h c27 (K53 k n9)
noncomputable def K58 (k n9 : Nat) : C := seqC E h k c27 (K53 k n9)
noncomputable def K59 (k n9 : Nat) : C := blockK 5 (K58 k n9)
noncomputable def c28 : Code := subC b [1, 1, 1, 1, 1, 1, 1, 1, 0, 1, 0, 0, 1, 0, 0, 1]
noncomputable def K60 (k n9 : Nat) : C := outD h c28 (K59 k n9)
noncomputable def K61 (k n9 : Nat) : C := seqC E h k c28 (K59 k n9)
noncomputable def c29 : Code := subC b [1, 1, 1, 1, 1, 1, 1, 1, 1, 1]
noncomputable def K62 (k : Nat) : C := outD h c29 (K47 k)
noncomputable def K63 (k : Nat) : C := seqC E h k c29 (K47 k)
noncomputable def c30 : Code := subC b [1, 1, 1, 1, 1, 1, 1, 1, 1, 0, 1]
noncomputable def K64 (k : Nat) : C := outD h c30 (K63 k)
noncomputable def K65 (k : Nat) : C := seqC E h k c30 (K63 k)
noncomputable def c31 : Code := subC b [1, 1, 1, 1, 1, 1, 1, 1, 1, 0, 1, 0, 1]
noncomputable def K66 (k : Nat) : C := outD h c31 (K64 k)
noncomputable def K67 (k : Nat) : C := seqC E h k c31 (K64 k)
noncomputable def c32 : Code := subC b [1, 1, 1, 1, 1, 1, 1, 1, 1, 1, 1]
noncomputable def K68 (k : Nat) : C := outD h c32 (K62 k)
noncomputable def K69 (k : Nat) : C := seqC E h k c32 (K62 k)
noncomputable def c33 : Code := subC b [1, 1, 1, 1, 1, 1, 1, 1, 1, 1, 0, 1]
noncomputable def K70 (k : Nat) : C := outD h c33 (K69 k)
noncomputable def K71 (k : Nat) : C := seqC E h k c33 (K69 k)
noncomputable def K72 (k : Nat) : C := blockK 6 (K70 k)
noncomputable def c34 : Code := subC b [1, 1, 1, 1, 1, 1, 1, 1, 1, 1, 0, 1, 0, 0]
noncomputable def K73 (k n14 : Nat) : C := loopD E h k c34 (K72 k) n14
noncomputable def c35 : Code := subC b [1, 1, 1, 1, 1, 1, 1, 1, 1, 1, 0, 1, 0, 0, 1]
noncomputable def K74 (k n14 : Nat) : C := outD h c35 (K73 k n14)
noncomputable def K75 (k n14 : Nat) : C := seqC E h k c35 (K73 k n14)
noncomputable def c36 : Code := subC b [1, 1, 1, 1, 1, 1, 1, 1, 1, 1, 0, 1, 0, 0, 0, 1]
noncomputable def K76 (k n14 : Nat) : C := outD h c36 (K75 k n14)
noncomputable def K77 (k n14 : Nat) : C := seqC E h k c36 (K75 k n14)
noncomputable def c37 : Code := subC b [1, 1, 1, 1, 1, 1, 1, 1, 1, 1, 0, 1, 0, 0, 1, 1]
noncomputable def K78 (k n14 : Nat) : C := outD h c37 (K74 k n14)
noncomputable def K79 (k n14 : Nat) : C := seqC E h k c37 (K74 k n14)
noncomputable def K80 (k n14 : Nat) : C := blockK 7 (K79 k n14)
noncomputable def c38 : Code := subC b [1, 1, 1, 1, 1, 1, 1, 1, 1, 1, 0, 1, 0, 0, 1, 0, 0, 1]
noncomputable def K81 (k n14 : Nat) : C := outD h c38 (K80 k n14)
noncomputable def K82 (k n14 : Nat) : C := seqC E h k c38 (K80 k n14)
noncomputable def c39 : Code := subC b [1, 1, 1, 1, 1, 1, 1, 1, 1, 1, 0, 1, 0, 0, 1, 0, 0, 1, 1]
noncomputable def K83 (k n14 : Nat) : C := outD h c39 (K81 k n14)
noncomputable def K84 (k n14 : Nat) : C := seqC E h k c39 (K81 k n14)
noncomputable def c40 : Code := subC b [1, 1, 1, 1, 1, 1, 1, 1, 1, 1, 0, 1, 0, 0, 1, 0, 0, 1, 1, 0, 1]
noncomputable def K85 (k n14 : Nat) : C := outD h c40 (K83 k n14)
noncomputable def K86 (k n14 : Nat) : C := seqC E h k c40 (K83 k n14)
noncomputable def c41 : Code := subC b [1, 1, 1, 1, 1, 1, 1, 1, 1, 1, 1, 1]
noncomputable def K87 (k : Nat) : C := outD h c41 (K68 k)
noncomputable def K88 (k : Nat) : C := seqC E h k c41 (K68 k)
abbrev T2 := (List (Int)) → (List (Int)) → (List UInt8) → (List UInt8) → Int → R
abbrev T5 := (List (Int)) → (List UInt8) → (List UInt8) → Int → R
abbrev T13 := (List UInt8) → (List UInt8) → Int → Int → ((Int) × ((Int) × (List UInt8))) → R
abbrev T12 := (List UInt8) → (List UInt8) → Int → Int → Bool → ((Int) × ((Int) × (List UInt8))) → R
abbrev T10 := (List UInt8) → (List UInt8) → Int → Int → ((Int) × ((Int) × (List UInt8))) → R
abbrev T17 := (List UInt8) → (List UInt8) → Int → Int → ((Int) × ((Int) × (List UInt8))) → R
abbrev T15 := (List UInt8) → (List UInt8) → Int → Int → Bool → ((Int) × ((Int) × (List UInt8))) → R
abbrev T16 := R
abbrev T14 := (List UInt8) → (List UInt8) → Int → Int → ((Int) × ((Int) × (List UInt8))) → R
abbrev T11 := (List UInt8) → (List UInt8) → Int → ((Int) × ((Int) × (List UInt8))) → R
abbrev T9 := (List UInt8) → (List UInt8) → Int → Int → ((Int) × ((Int) × (List UInt8))) → R
abbrev T8 := (List UInt8) → (List UInt8) → ((Int) × ((Int) × (List UInt8))) → R
abbrev T7 := (List UInt8) → (List UInt8) → Bool → ((Int) × ((Int) × (List UInt8))) → R
abbrev T6 := (List UInt8) → (List UInt8) → R
abbrev T4 := (List (Int)) → (List UInt8) → (List UInt8) → Int → R
abbrev T3 := (List (Int)) → (List UInt8) → (List UInt8) → R
abbrev T1 := (List (Int)) → (List (Int)) → (List UInt8) → (List UInt8) → Int → R
abbrev T0 := (List (Int)) → (List (Int)) → R
abbrev s2 : (List (Int)) → (List (Int)) → (List UInt8) → (List UInt8) → Int → ST cx := fun (x0 x1 : List (Int)) (x5 x6 : List UInt8) (x7 : Int) => ({ vars := [(0, .v (.slice 3 (.int .i64)) .ro x0), (1, .v (.slice 3 (.int .i64)) .ro x1), (5, .v .str .ro x5), (6, .v .str .ro x6), (7, .v (.int .i64) .ro x7)], scr := [], mems := [] } : ST cx)
noncomputable def u2 (k n1 : Nat) : T2 := fun (x0 x1 : List (Int)) (x5 x6 : List UInt8) (x7 : Int) => uK (run E h k c8) (s2 x0 x1 x5 x6 x7) (K17 k n1)
noncomputable abbrev l2 (k n1 : Nat) : T2 := fun (x0 x1 : List (Int)) (x5 x6 : List UInt8) (x7 : Int) => cutK (run E h k c8) (s2 x0 x1 x5 x6 x7) (K17 k n1)
abbrev s5 : (List (Int)) → (List UInt8) → (List UInt8) → Int → ST cx := fun (x1 : List (Int)) (x5 x6 : List UInt8) (x8 : Int) => ({ vars := [(1, .v (.slice 3 (.int .i64)) .ro x1), (5, .v .str .ro x5), (6, .v .str .ro x6), (8, .v (.int .i64) .ro x8)], scr := [], mems := [] } : ST cx)
noncomputable def u5 (k n4 : Nat) : T5 := fun (x1 : List (Int)) (x5 x6 : List UInt8) (x8 : Int) => uK (run E h k c14) (s5 x1 x5 x6 x8) (K30 k n4)
noncomputable abbrev l5 (k n4 : Nat) : T5 := fun (x1 : List (Int)) (x5 x6 : List UInt8) (x8 : Int) => cutK (run E h k c14) (s5 x1 x5 x6 x8) (K30 k n4)
abbrev s13 : (List UInt8) → (List UInt8) → Int → Int → ((Int) × ((Int) × (List UInt8))) → ST cx := fun (x5 x6 : List UInt8) (x10 x11 : Int) (m9 : (Int) × ((Int) × (List UInt8))) => ({ vars := [(5, .v .str .ro x5), (6, .v .str .ro x6), (9, .addr (.mem 9) []), (10, .v (.int .i64) .ro x10), (11, .v (.int .i64) .ro x11)], scr := [], mems := [(9, ⟨(.agg (.pair (.int .i64) (.pair (.int .i64) .str))), .ro, m9⟩)] } : ST cx)
noncomputable def u13 (k n9 : Nat) : T13 := fun (x5 x6 : List UInt8) (x10 x11 : Int) (m9 : (Int) × ((Int) × (List UInt8))) => uK (run E h k c27) (s13 x5 x6 x10 x11 m9) (K57 k n9)
noncomputable abbrev l13 (k n9 : Nat) : T13 := fun (x5 x6 : List UInt8) (x10 x11 : Int) (m9 : (Int) × ((Int) × (List UInt8))) => cutK (run E h k c27) (s13 x5 x6 x10 x11 m9) (K57 k n9)
abbrev s12 : (List UInt8) → (List UInt8) → Int → Int → Bool → ((Int) × ((Int) × (List UInt8))) → ST cx := fun (x5 x6 : List UInt8) (x10 x11 : Int) (x94 : Bool) (m9 : (Int) × ((Int) × (List UInt8))) => ({ vars := [(5, .v .str .ro x5), (6, .v .str .ro x6), (9, .addr (.mem 9) []), (10, .v (.int .i64) .ro x10), (11, .v (.int .i64) .ro x11), (94, .v .bool .ro x94)], scr := [], mems := [(9, ⟨(.agg (.pair (.int .i64) (.pair (.int .i64) .str))), .ro, m9⟩)] } : ST cx)
noncomputable def u12 (k n9 : Nat) : T12 := fun (x5 x6 : List UInt8) (x10 x11 : Int) (x94 : Bool) (m9 : (Int) × ((Int) × (List UInt8))) => uK (run E h k c28) (s12 x5 x6 x10 x11 x94 m9) (K60 k n9)
noncomputable abbrev l12 (k n9 : Nat) : T12 := fun (x5 x6 : List UInt8) (x10 x11 : Int) (x94 : Bool) (m9 : (Int) × ((Int) × (List UInt8))) => cutK (run E h k c28) (s12 x5 x6 x10 x11 x94 m9) (K60 k n9)
abbrev s10 : (List UInt8) → (List UInt8) → Int → Int → ((Int) × ((Int) × (List UInt8))) → ST cx := fun (x5 x6 : List UInt8) (x10 x11 : Int) (m9 : (Int) × ((Int) × (List UInt8))) => ({ vars := [(5, .v .str .ro x5), (6, .v .str .ro x6), (9, .addr (.mem 9) []), (10, .v (.int .i64) .ro x10), (11, .v (.int .i64) .ro x11)], scr := [], mems := [(9, ⟨(.agg (.pair (.int .i64) (.pair (.int .i64) .str))), .ro, m9⟩)] } : ST cx)
noncomputable def u10 (k n9 : Nat) : T10 := fun (x5 x6 : List UInt8) (x10 x11 : Int) (m9 : (Int) × ((Int) × (List UInt8))) => uK (run E h k c25) (s10 x5 x6 x10 x11 m9) (K53 k n9)
noncomputable abbrev l10 (k n9 : Nat) : T10 := fun (x5 x6 : List UInt8) (x10 x11 : Int) (m9 : (Int) × ((Int) × (List UInt8))) => cutK (run E h k c25) (s10 x5 x6 x10 x11 m9) (K53 k n9)
abbrev s17 : (List UInt8) → (List UInt8) → Int → Int → ((Int) × ((Int) × (List UInt8))) → ST cx := fun (x5 x6 : List UInt8) (x10 x12 : Int) (m9 : (Int) × ((Int) × (List UInt8))) => ({ vars := [(5, .v .str .ro x5), (6, .v .str .ro x6), (9, .addr (.mem 9) []), (10, .v (.int .i64) .ro x10), (12, .v (.int .i64) .ro x12)], scr := [], mems := [(9, ⟨(.agg (.pair (.int .i64) (.pair (.int .i64) .str))), .ro, m9⟩)] } : ST cx)
noncomputable def u17 (k n14 : Nat) : T17 := fun (x5 x6 : List UInt8) (x10 x12 : Int) (m9 : (Int) × ((Int) × (List UInt8))) => uK (run E h k c37) (s17 x5 x6 x10 x12 m9) (K78 k n14)
noncomputable abbrev l17 (k n14 : Nat) : T17 := fun (x5 x6 : List UInt8) (x10 x12 : Int) (m9 : (Int) × ((Int) × (List UInt8))) => cutK (run E h k c37) (s17 x5 x6 x10 x12 m9) (K78 k n14)
abbrev s15 : (List UInt8) → (List UInt8) → Int → Int → Bool → ((Int) × ((Int) × (List UInt8))) → ST cx := fun (x5 x6 : List UInt8) (x10 x12 : Int) (x140 : Bool) (m9 : (Int) × ((Int) × (List UInt8))) => ({ vars := [(5, .v .str .ro x5), (6, .v .str .ro x6), (9, .addr (.mem 9) []), (10, .v (.int .i64) .ro x10), (12, .v (.int .i64) .ro x12), (140, .v .bool .ro x140)], scr := [], mems := [(9, ⟨(.agg (.pair (.int .i64) (.pair (.int .i64) .str))), .ro, m9⟩)] } : ST cx)
noncomputable def u15 (k n14 : Nat) : T15 := fun (x5 x6 : List UInt8) (x10 x12 : Int) (x140 : Bool) (m9 : (Int) × ((Int) × (List UInt8))) => uK (run E h k c39) (s15 x5 x6 x10 x12 x140 m9) (K83 k n14)
noncomputable abbrev l15 (k n14 : Nat) : T15 := fun (x5 x6 : List UInt8) (x10 x12 : Int) (x140 : Bool) (m9 : (Int) × ((Int) × (List UInt8))) => cutK (run E h k c39) (s15 x5 x6 x10 x12 x140 m9) (K83 k n14)
abbrev s16 : ST cx := ({ vars := [], scr := [], mems := [] } : ST cx)
noncomputable def u16 (k : Nat) : T16 := uK (run E h k c32) s16 (K68 k)
noncomputable abbrev l16 (k : Nat) : T16 := cutK (run E h k c32) s16 (K68 k)
abbrev s14 : (List UInt8) → (List UInt8) → Int → Int → ((Int) × ((Int) × (List UInt8))) → ST cx := fun (x5 x6 : List UInt8) (x10 x12 : Int) (m9 : (Int) × ((Int) × (List UInt8))) => ({ vars := [(5, .v .str .ro x5), (6, .v .str .ro x6), (9, .addr (.mem 9) []), (10, .v (.int .i64) .ro x10), (12, .v (.int .i64) .ro x12)], scr := [], mems := [(9, ⟨(.agg (.pair (.int .i64) (.pair (.int .i64) .str))), .ro, m9⟩)] } : ST cx)
noncomputable def u14 (k n14 : Nat) : T14 := fun (x5 x6 : List UInt8) (x10 x12 : Int) (m9 : (Int) × ((Int) × (List UInt8))) => uK (loopL E h k c34 (K72 k) n14) (s14 x5 x6 x10 x12 m9) ()
noncomputable abbrev l14 (k n14 : Nat) : T14 := fun (x5 x6 : List UInt8) (x10 x12 : Int) (m9 : (Int) × ((Int) × (List UInt8))) => cutK (loopL E h k c34 (K72 k) n14) (s14 x5 x6 x10 x12 m9) ()
abbrev s11 : (List UInt8) → (List UInt8) → Int → ((Int) × ((Int) × (List UInt8))) → ST cx := fun (x5 x6 : List UInt8) (x10 : Int) (m9 : (Int) × ((Int) × (List UInt8))) => ({ vars := [(5, .v .str .ro x5), (6, .v .str .ro x6), (9, .addr (.mem 9) []), (10, .v (.int .i64) .ro x10)], scr := [], mems := [(9, ⟨(.agg (.pair (.int .i64) (.pair (.int .i64) .str))), .ro, m9⟩)] } : ST cx)
noncomputable def u11 (k : Nat) : T11 := fun (x5 x6 : List UInt8) (x10 : Int) (m9 : (Int) × ((Int) × (List UInt8))) => uK (run E h k c22) (s11 x5 x6 x10 m9) (K47 k)
noncomputable abbrev l11 (k : Nat) : T11 := fun (x5 x6 : List UInt8) (x10 : Int) (m9 : (Int) × ((Int) × (List UInt8))) => cutK (run E h k c22) (s11 x5 x6 x10 m9) (K47 k)
abbrev s9 : (List UInt8) → (List UInt8) → Int → Int → ((Int) × ((Int) × (List UInt8))) → ST cx := fun (x5 x6 : List UInt8) (x10 x11 : Int) (m9 : (Int) × ((Int) × (List UInt8))) => ({ vars := [(5, .v .str .ro x5), (6, .v .str .ro x6), (9, .addr (.mem 9) []), (10, .v (.int .i64) .ro x10), (11, .v (.int .i64) .ro x11)], scr := [], mems := [(9, ⟨(.agg (.pair (.int .i64) (.pair (.int .i64) .str))), .ro, m9⟩)] } : ST cx)
noncomputable def u9 (k n9 : Nat) : T9 := fun (x5 x6 : List UInt8) (x10 x11 : Int) (m9 : (Int) × ((Int) × (List UInt8))) => uK (loopL E h k c24 (K51 k) n9) (s9 x5 x6 x10 x11 m9) ()
noncomputable abbrev l9 (k n9 : Nat) : T9 := fun (x5 x6 : List UInt8) (x10 x11 : Int) (m9 : (Int) × ((Int) × (List UInt8))) => cutK (loopL E h k c24 (K51 k) n9) (s9 x5 x6 x10 x11 m9) ()
abbrev s8 : (List UInt8) → (List UInt8) → ((Int) × ((Int) × (List UInt8))) → ST cx := fun (x5 x6 : List UInt8) (m9 : (Int) × ((Int) × (List UInt8))) => ({ vars := [(5, .v .str .ro x5), (6, .v .str .ro x6), (9, .addr (.mem 9) [])], scr := [], mems := [(9, ⟨(.agg (.pair (.int .i64) (.pair (.int .i64) .str))), .ro, m9⟩)] } : ST cx)
noncomputable def u8 (k : Nat) : T8 := fun (x5 x6 : List UInt8) (m9 : (Int) × ((Int) × (List UInt8))) => uK (run E h k c18) (s8 x5 x6 m9) (K39 k)
noncomputable abbrev l8 (k : Nat) : T8 := fun (x5 x6 : List UInt8) (m9 : (Int) × ((Int) × (List UInt8))) => cutK (run E h k c18) (s8 x5 x6 m9) (K39 k)
abbrev s7 : (List UInt8) → (List UInt8) → Bool → ((Int) × ((Int) × (List UInt8))) → ST cx := fun (x5 x6 : List UInt8) (x65 : Bool) (m9 : (Int) × ((Int) × (List UInt8))) => ({ vars := [(5, .v .str .ro x5), (6, .v .str .ro x6), (9, .addr (.mem 9) []), (65, .v .bool .ro x65)], scr := [], mems := [(9, ⟨(.agg (.pair (.int .i64) (.pair (.int .i64) .str))), .ro, m9⟩)] } : ST cx)
noncomputable def u7 (k : Nat) : T7 := fun (x5 x6 : List UInt8) (x65 : Bool) (m9 : (Int) × ((Int) × (List UInt8))) => uK (run E h k c19) (s7 x5 x6 x65 m9) (K41 k)
noncomputable abbrev l7 (k : Nat) : T7 := fun (x5 x6 : List UInt8) (x65 : Bool) (m9 : (Int) × ((Int) × (List UInt8))) => cutK (run E h k c19) (s7 x5 x6 x65 m9) (K41 k)
abbrev s6 : (List UInt8) → (List UInt8) → ST cx := fun (x5 x6 : List UInt8) => ({ vars := [(5, .v .str .ro x5), (6, .v .str .ro x6)], scr := [], mems := [] } : ST cx)
noncomputable def u6 (k : Nat) : T6 := fun (x5 x6 : List UInt8) => uK (run E h k c11) (s6 x5 x6) (K24 k)
noncomputable abbrev l6 (k : Nat) : T6 := fun (x5 x6 : List UInt8) => cutK (run E h k c11) (s6 x5 x6) (K24 k)
abbrev s4 : (List (Int)) → (List UInt8) → (List UInt8) → Int → ST cx := fun (x1 : List (Int)) (x5 x6 : List UInt8) (x8 : Int) => ({ vars := [(1, .v (.slice 3 (.int .i64)) .ro x1), (5, .v .str .ro x5), (6, .v .str .ro x6), (8, .v (.int .i64) .ro x8)], scr := [], mems := [] } : ST cx)
noncomputable def u4 (k n4 : Nat) : T4 := fun (x1 : List (Int)) (x5 x6 : List UInt8) (x8 : Int) => uK (loopL E h k c13 (K28 k) n4) (s4 x1 x5 x6 x8) ()
noncomputable abbrev l4 (k n4 : Nat) : T4 := fun (x1 : List (Int)) (x5 x6 : List UInt8) (x8 : Int) => cutK (loopL E h k c13 (K28 k) n4) (s4 x1 x5 x6 x8) ()
abbrev s3 : (List (Int)) → (List UInt8) → (List UInt8) → ST cx := fun (x1 : List (Int)) (x5 x6 : List UInt8) => ({ vars := [(1, .v (.slice 3 (.int .i64)) .ro x1), (5, .v .str .ro x5), (6, .v .str .ro x6)], scr := [], mems := [] } : ST cx)
noncomputable def u3 (k : Nat) : T3 := fun (x1 : List (Int)) (x5 x6 : List UInt8) => uK (run E h k c5) (s3 x1 x5 x6) (K11 k)
noncomputable abbrev l3 (k : Nat) : T3 := fun (x1 : List (Int)) (x5 x6 : List UInt8) => cutK (run E h k c5) (s3 x1 x5 x6) (K11 k)
abbrev s1 : (List (Int)) → (List (Int)) → (List UInt8) → (List UInt8) → Int → ST cx := fun (x0 x1 : List (Int)) (x5 x6 : List UInt8) (x7 : Int) => ({ vars := [(0, .v (.slice 3 (.int .i64)) .ro x0), (1, .v (.slice 3 (.int .i64)) .ro x1), (5, .v .str .ro x5), (6, .v .str .ro x6), (7, .v (.int .i64) .ro x7)], scr := [], mems := [] } : ST cx)
noncomputable def u1 (k n1 : Nat) : T1 := fun (x0 x1 : List (Int)) (x5 x6 : List UInt8) (x7 : Int) => uK (loopL E h k c7 (K15 k) n1) (s1 x0 x1 x5 x6 x7) ()
noncomputable abbrev l1 (k n1 : Nat) : T1 := fun (x0 x1 : List (Int)) (x5 x6 : List UInt8) (x7 : Int) => cutK (loopL E h k c7 (K15 k) n1) (s1 x0 x1 x5 x6 x7) ()
noncomputable def u0 (k : Nat) : T0 := fun (x0 x1 : List (Int)) => runOf (S := cx) E h k Try.f15 [.val (.slice 3 (.int .i64)), .val (.slice 3 (.int .i64))] .bool .ro (x0, x1, ())
def t2 (f1 : T1) : T2 := fun (x0 x1 : List (Int)) (x5 x6 : List UInt8) (x7 : Int) => 
  (withinR x7 (List.length x0) fun q2 => (bindR (s_ref01_Bytes ((List.getD x0 q2 (0 : Int)), ())) fun r3 => (mustR (decide (List.length x5 + List.length r3.1 ≤ 140737488355328)) (f1 x0 x1 (x5 ++ r3.1) x6 (w64 (x7 + (1 : Int)))))))
theorem e2 (k n1 : Nat) : u2 k n1 = t2 (l1 k n1) := by kernel_rfl
theorem g2 (k n1 : Nat) : l2 k n1 = u2 k n1 := funext fun _ => funext fun _ => funext fun _ => funext fun _ => funext fun _ => cut_u _ _ _
theorem d2 {x1 y1 : T1} (h1 : x1 = y1) : t2 x1 = t2 y1 := by subst h1; rfl
def p2 (k : Nat) (a1 : T1) : T2 := t2 a1
theorem o2 (k n1 : Nat) (a1 : T1) (h1 : l1 k n1 = a1) : l2 k n1 = p2 k a1 := (Eq.trans (b := u2 k n1) (g2 k n1) (Eq.trans (b := t2 (l1 k n1)) (e2 k n1) (Eq.trans (b := t2 a1) (d2 h1) (by kernel_rfl))))
def t5 (f4 : T4) : T5 := fun (x1 : List (Int)) (x5 x6 : List UInt8) (x8 : Int) => 
  (withinR x8 (List.length x1) fun q4 => (bindR (s_ref01_Bytes ((List.getD x1 q4 (0 : Int)), ())) fun r5 => (mustR (decide (List.length x6 + List.length r5.1 ≤ 140737488355328)) (f4 x1 x5 (x6 ++ r5.1) (w64 (x8 + (1 : Int)))))))
theorem e5 (k n4 : Nat) : u5 k n4 = t5 (l4 k n4) := by kernel_rfl
theorem g5 (k n4 : Nat) : l5 k n4 = u5 k n4 := funext fun _ => funext fun _ => funext fun _ => funext fun _ => cut_u _ _ _
theorem d5 {x4 y4 : T4} (h4 : x4 = y4) : t5 x4 = t5 y4 := by subst h4; rfl
def p5 (k : Nat) (a4 : T4) : T5 := t5 a4
theorem o5 (k n4 : Nat) (a4 : T4) (h4 : l4 k n4 = a4) : l5 k n4 = p5 k a4 := (Eq.trans (b := u5 k n4) (g5 k n4) (Eq.trans (b := t5 (l4 k n4)) (e5 k n4) (Eq.trans (b := t5 a4) (d5 h4) (by kernel_rfl))))
def t13 (f9 : T9) : T13 := fun (x5 x6 : List UInt8) (x10 x11 : Int) (m9 : (Int) × ((Int) × (List UInt8))) => 
  (f9 x5 x6 x10 (w64 (x11 + (1 : Int))) m9)
theorem e13 (k n9 : Nat) : u13 k n9 = t13 (l9 k n9) := by kernel_rfl
theorem g13 (k n9 : Nat) : l13 k n9 = u13 k n9 := funext fun _ => funext fun _ => funext fun _ => funext fun _ => funext fun _ => cut_u _ _ _
theorem d13 {x9 y9 : T9} (h9 : x9 = y9) : t13 x9 = t13 y9 := by subst h9; rfl
def p13 (k : Nat) (a9 : T9) : T13 := t13 a9
theorem o13 (k n9 : Nat) (a9 : T9) (h9 : l9 k n9 = a9) : l13 k n9 = p13 k a9 := (Eq.trans (b := u13 k n9) (g13 k n9) (Eq.trans (b := t13 (l9 k n9)) (e13 k n9) (Eq.trans (b := t13 a9) (d13 h9) (by kernel_rfl))))
def t12 (f13 : T13) : T12 := fun (x5 x6 : List UInt8) (x10 x11 : Int) (x94 : Bool) (m9 : (Int) × ((Int) × (List UInt8))) => 
  (iteB x94 (f13 x5 x6 x11 x11 m9) (f13 x5 x6 x10 x11 m9))
theorem e12 (k n9 : Nat) : u12 k n9 = t12 (l13 k n9) := by kernel_rfl
theorem g12 (k n9 : Nat) : l12 k n9 = u12 k n9 := funext fun _ => funext fun _ => funext fun _ => funext fun _ => funext fun _ => funext fun _ => cut_u _ _ _
theorem d12 {x13 y13 : T13} (h13 : x13 = y13) : t12 x13 = t12 y13 := by subst h13; rfl
def p12 (k : Nat) (a9 : T9) : T12 := t12 (p13 k a9)
theorem o12 (k n9 : Nat) (a9 : T9) (h9 : l9 k n9 = a9) : l12 k n9 = p12 k a9 := (Eq.trans (b := u12 k n9) (g12 k n9) (Eq.trans (b := t12 (l13 k n9)) (e12 k n9) (Eq.trans (b := t12 (p13 k a9)) (d12 (o13 k n9 a9 h9)) (by kernel_rfl))))
def t10 (f12 : T12) : T10 := fun (x5 x6 : List UInt8) (x10 x11 : Int) (m9 : (Int) × ((Int) × (List UInt8))) => 
  (mustR (decide (0 ≤ x11)) (mustR (decide (x11 ≤ (((List.length x5) : Nat) : Int))) (mustR (decide (0 ≤ x11)) (mustR (decide (x11 ≤ (((List.length x6) : Nat) : Int))) (iteB (decide ((List.drop 0 (List.take (Int.toNat x11) x5)) = (List.drop 0 (List.take (Int.toNat x11) x6)))) (bindR (s_ref01_Edge (x5, (x11, ()))) fun r9 => (iteB r9.1 (bindR (s_ref01_Edge (x6, (x11, ()))) fun r10 => (f12 x5 x6 x10 x11 r10.1 m9)) (f12 x5 x6 x10 x11 false m9))) (f12 x5 x6 x10 x11 false m9))))))
theorem e10 (k n9 : Nat) : u10 k n9 = t10 (l12 k n9) := by kernel_rfl
theorem g10 (k n9 : Nat) : l10 k n9 = u10 k n9 := funext fun _ => funext fun _ => funext fun _ => funext fun _ => funext fun _ => cut_u _ _ _
theorem d10 {x12 y12 : T12} (h12 : x12 = y12) : t10 x12 = t10 y12 := by subst h12; rfl
def p10 (k : Nat) (a9 : T9) : T10 := t10 (p12 k a9)
theorem o10 (k n9 : Nat) (a9 : T9) (h9 : l9 k n9 = a9) : l10 k n9 = p10 k a9 := (Eq.trans (b := u10 k n9) (g10 k n9) (Eq.trans (b := t10 (l12 k n9)) (e10 k n9) (Eq.trans (b := t10 (p12 k a9)) (d10 (o12 k n9 a9 h9)) (by kernel_rfl))))
def t17 (f14 : T14) : T17 := fun (x5 x6 : List UInt8) (x10 x12 : Int) (m9 : (Int) × ((Int) × (List UInt8))) => 
  (f14 x5 x6 x10 (w64 (x12 + (1 : Int))) m9)
theorem e17 (k n14 : Nat) : u17 k n14 = t17 (l14 k n14) := by kernel_rfl
theorem g17 (k n14 : Nat) : l17 k n14 = u17 k n14 := funext fun _ => funext fun _ => funext fun _ => funext fun _ => funext fun _ => cut_u _ _ _
theorem d17 {x14 y14 : T14} (h14 : x14 = y14) : t17 x14 = t17 y14 := by subst h14; rfl
def p17 (k : Nat) (a14 : T14) : T17 := t17 a14
theorem o17 (k n14 : Nat) (a14 : T14) (h14 : l14 k n14 = a14) : l17 k n14 = p17 k a14 := (Eq.trans (b := u17 k n14) (g17 k n14) (Eq.trans (b := t17 (l14 k n14)) (e17 k n14) (Eq.trans (b := t17 a14) (d17 h14) (by kernel_rfl))))
def t15 (f17 : T17) : T15 := fun (x5 x6 : List UInt8) (x10 x12 : Int) (x140 : Bool) (m9 : (Int) × ((Int) × (List UInt8))) => 
  (iteB x140 (some (false, ())) (f17 x5 x6 x10 x12 m9))
theorem e15 (k n14 : Nat) : u15 k n14 = t15 (l17 k n14) := by kernel_rfl
theorem g15 (k n14 : Nat) : l15 k n14 = u15 k n14 := funext fun _ => funext fun _ => funext fun _ => funext fun _ => funext fun _ => funext fun _ => cut_u _ _ _
theorem d15 {x17 y17 : T17} (h17 : x17 = y17) : t15 x17 = t15 y17 := by subst h17; rfl
def p15 (k : Nat) (a14 : T14) : T15 := t15 (p17 k a14)
theorem o15 (k n14 : Nat) (a14 : T14) (h14 : l14 k n14 = a14) : l15 k n14 = p15 k a14 := (Eq.trans (b := u15 k n14) (g15 k n14) (Eq.trans (b := t15 (l17 k n14)) (e15 k n14) (Eq.trans (b := t15 (p17 k a14)) (d15 (o17 k n14 a14 h14)) (by kernel_rfl))))
def t16 : T16 := 
  (some (true, ()))
theorem e16 (k : Nat) : u16 k = t16 := by kernel_rfl
theorem g16 (k : Nat) : l16 k = u16 k := cut_u _ _ _
def p16 (k : Nat) : T16 := t16
theorem o16 (k : Nat) : l16 k = p16 k := (Eq.trans (b := u16 k) (g16 k) (Eq.trans (b := t16) (e16 k) (by kernel_rfl)))
def t14 (f15 : T15) (f16 : T16) : T14 := fun (x5 x6 : List UInt8) (x10 x12 : Int) (m9 : (Int) × ((Int) × (List UInt8))) => 
  (iteB (decide (x12 < m9.2.1)) (iteB (decide (x10 ≤ (w64 (((List.length x6 : Nat) : Int) - (w64 ((w64 (((List.length x5 : Nat) : Int) - x10)) - x12)))))) (bindR (s_ref01_Edge (x5, ((w64 (x10 + x12)), ()))) fun r11 => (iteB r11.1 (bindR (s_ref01_Edge (x6, ((w64 (((List.length x6 : Nat) : Int) - (w64 ((w64 (((List.length x5 : Nat) : Int) - x10)) - x12)))), ()))) fun r12 => (iteB r12.1 (mustR (decide (0 ≤ (w64 (x10 + x12)))) (mustR (decide ((w64 (x10 + x12)) ≤ (((List.length x5) : Nat) : Int))) (mustR (decide (0 ≤ (w64 (((List.length x6 : Nat) : Int) - (w64 ((w64 (((List.length x5 : Nat) : Int) - x10)) - x12)))))) (mustR (decide ((w64 (((List.length x6 : Nat) : Int) - (w64 ((w64 (((List.length x5 : Nat) : Int) - x10)) - x12)))) ≤ (((List.length x6) : Nat) : Int))) (f15 x5 x6 x10 x12 (decide ((List.drop (Int.toNat (w64 (x10 + x12))) (List.take (List.length x5) x5)) = (List.drop (Int.toNat (w64 (((List.length x6 : Nat) : Int) - (w64 ((w64 (((List.length x5 : Nat) : Int) - x10)) - x12))))) (List.take (List.length x6) x6)))) m9))))) (f15 x5 x6 x10 x12 false m9))) (f15 x5 x6 x10 x12 false m9))) (f15 x5 x6 x10 x12 false m9)) f16)
theorem e14 (k n14 : Nat) : u14 k (n14 + 1) = t14 (l15 k n14) (l16 k) := by kernel_rfl
theorem g14 (k n14 : Nat) : l14 k (n14 + 1) = u14 k (n14 + 1) := funext fun _ => funext fun _ => funext fun _ => funext fun _ => funext fun _ => cut_u _ _ _
theorem d14 {x15 y15 : T15} {x16 y16 : T16} (h15 : x15 = y15) (h16 : x16 = y16) : t14 x15 x16 = t14 y15 y16 := by subst h15; subst h16; rfl
def p14 (k : Nat) : Nat → T14
  | 0 => fun _ _ _ _ _ => none
  | n14 + 1 => t14 (p15 k (p14 k n14)) (p16 k)
theorem o14 (k : Nat) : ∀ n14, l14 k n14 = p14 k n14 := by
  intro n14
  induction n14 with
  | zero => kernel_rfl
  | succ n14 ih => exact (Eq.trans (b := u14 k (n14 + 1)) (g14 k n14) (Eq.trans (b := t14 (l15 k n14) (l16 k)) (e14 k n14) (Eq.trans (b := t14 (p15 k (p14 k n14)) (p16 k)) (d14 (o15 k n14 (p14 k n14) ih) (o16 k)) (by kernel_rfl))))
def t11 (f14 : T14) : T11 := fun (x5 x6 : List UInt8) (x10 : Int) (m9 : (Int) × ((Int) × (List UInt8))) => 
  (iteB (!decide (m9.1 = x10)) (some (false, ())) (f14 x5 x6 x10 (0 : Int) m9))
theorem e11 (k : Nat) : u11 k = t11 (l14 k k) := by kernel_rfl
theorem g11 (k : Nat) : l11 k = u11 k := funext fun _ => funext fun _ => funext fun _ => funext fun _ => cut_u _ _ _
theorem d11 {x14 y14 : T14} (h14 : x14 = y14) : t11 x14 = t11 y14 := by subst h14; rfl
def p11 (k : Nat) : T11 := t11 (p14 k k)
theorem o11 (k : Nat) : l11 k = p11 k := (Eq.trans (b := u11 k) (g11 k) (Eq.trans (b := t11 (l14 k k)) (e11 k) (Eq.trans (b := t11 (p14 k k)) (d11 (o14 k k)) (by kernel_rfl))))
def t9 (f10 : T10) (f11 : T11) : T9 := fun (x5 x6 : List UInt8) (x10 x11 : Int) (m9 : (Int) × ((Int) × (List UInt8))) => 
  (iteB (decide (x11 ≤ ((List.length x5 : Nat) : Int))) (iteB (decide (x11 ≤ ((List.length x6 : Nat) : Int))) (f10 x5 x6 x10 x11 m9) (f11 x5 x6 x10 m9)) (f11 x5 x6 x10 m9))
theorem e9 (k n9 : Nat) : u9 k (n9 + 1) = t9 (l10 k n9) (l11 k) := by kernel_rfl
theorem g9 (k n9 : Nat) : l9 k (n9 + 1) = u9 k (n9 + 1) := funext fun _ => funext fun _ => funext fun _ => funext fun _ => funext fun _ => cut_u _ _ _
theorem d9 {x10 y10 : T10} {x11 y11 : T11} (h10 : x10 = y10) (h11 : x11 = y11) : t9 x10 x11 = t9 y10 y11 := by subst h10; subst h11; rfl
def p9 (k : Nat) : Nat → T9
  | 0 => fun _ _ _ _ _ => none
  | n9 + 1 => t9 (p10 k (p9 k n9)) (p11 k)
theorem o9 (k : Nat) : ∀ n9, l9 k n9 = p9 k n9 := by
  intro n9
  induction n9 with
  | zero => kernel_rfl
  | succ n9 ih => exact (Eq.trans (b := u9 k (n9 + 1)) (g9 k n9) (Eq.trans (b := t9 (l10 k n9) (l11 k)) (e9 k n9) (Eq.trans (b := t9 (p10 k (p9 k n9)) (p11 k)) (d9 (o10 k n9 (p9 k n9) ih) (o11 k)) (by kernel_rfl))))
def t8 (f9 : T9) : T8 := fun (x5 x6 : List UInt8) (m9 : (Int) × ((Int) × (List UInt8))) => 
  (f9 x5 x6 (0 : Int) (0 : Int) m9)
theorem e8 (k : Nat) : u8 k = t8 (l9 k k) := by kernel_rfl
theorem g8 (k : Nat) : l8 k = u8 k := funext fun _ => funext fun _ => funext fun _ => cut_u _ _ _
theorem d8 {x9 y9 : T9} (h9 : x9 = y9) : t8 x9 = t8 y9 := by subst h9; rfl
def p8 (k : Nat) : T8 := t8 (p9 k k)
theorem o8 (k : Nat) : l8 k = p8 k := (Eq.trans (b := u8 k) (g8 k) (Eq.trans (b := t8 (l9 k k)) (e8 k) (Eq.trans (b := t8 (p9 k k)) (d8 (o9 k k)) (by kernel_rfl))))
def t7 (f8 : T8) : T7 := fun (x5 x6 : List UInt8) (x65 : Bool) (m9 : (Int) × ((Int) × (List UInt8))) => 
  (iteB x65 (some (false, ())) (f8 x5 x6 m9))
theorem e7 (k : Nat) : u7 k = t7 (l8 k) := by kernel_rfl
theorem g7 (k : Nat) : l7 k = u7 k := funext fun _ => funext fun _ => funext fun _ => funext fun _ => cut_u _ _ _
theorem d7 {x8 y8 : T8} (h8 : x8 = y8) : t7 x8 = t7 y8 := by subst h8; rfl
def p7 (k : Nat) : T7 := t7 (p8 k)
theorem o7 (k : Nat) : l7 k = p7 k := (Eq.trans (b := u7 k) (g7 k) (Eq.trans (b := t7 (l8 k)) (e7 k) (Eq.trans (b := t7 (p8 k)) (d7 (o8 k)) (by kernel_rfl))))
def t6 (f7 : T7) : T6 := fun (x5 x6 : List UInt8) => 
  (bindR (s_edit_Diff (x5, (x6, ()))) fun r6 => (bindR (s_ref04_Check (x5, (([r6.1] : List ((Int) × ((Int) × (List UInt8)))), ()))) fun r7 => (iteB (!decide (r7.1 = (0 : Int))) (f7 x5 x6 true r6.1) (bindR (s_ref04_Apply (x5, (([r6.1] : List ((Int) × ((Int) × (List UInt8)))), ()))) fun r8 => (f7 x5 x6 (!(decide (r8.1 = x6))) r6.1)))))
theorem e6 (k : Nat) : u6 k = t6 (l7 k) := by kernel_rfl
theorem g6 (k : Nat) : l6 k = u6 k := funext fun _ => funext fun _ => cut_u _ _ _
theorem d6 {x7 y7 : T7} (h7 : x7 = y7) : t6 x7 = t6 y7 := by subst h7; rfl
def p6 (k : Nat) : T6 := t6 (p7 k)
theorem o6 (k : Nat) : l6 k = p6 k := (Eq.trans (b := u6 k) (g6 k) (Eq.trans (b := t6 (l7 k)) (e6 k) (Eq.trans (b := t6 (p7 k)) (d6 (o7 k)) (by kernel_rfl))))
def t4 (f5 : T5) (f6 : T6) : T4 := fun (x1 : List (Int)) (x5 x6 : List UInt8) (x8 : Int) => 
  (iteB (decide (x8 < ((List.length x1 : Nat) : Int))) (iteB (decide (x8 < (60 : Int))) (f5 x1 x5 x6 x8) (f6 x5 x6)) (f6 x5 x6))
theorem e4 (k n4 : Nat) : u4 k (n4 + 1) = t4 (l5 k n4) (l6 k) := by kernel_rfl
theorem g4 (k n4 : Nat) : l4 k (n4 + 1) = u4 k (n4 + 1) := funext fun _ => funext fun _ => funext fun _ => funext fun _ => cut_u _ _ _
theorem d4 {x5 y5 : T5} {x6 y6 : T6} (h5 : x5 = y5) (h6 : x6 = y6) : t4 x5 x6 = t4 y5 y6 := by subst h5; subst h6; rfl
def p4 (k : Nat) : Nat → T4
  | 0 => fun _ _ _ _ => none
  | n4 + 1 => t4 (p5 k (p4 k n4)) (p6 k)
theorem o4 (k : Nat) : ∀ n4, l4 k n4 = p4 k n4 := by
  intro n4
  induction n4 with
  | zero => kernel_rfl
  | succ n4 ih => exact (Eq.trans (b := u4 k (n4 + 1)) (g4 k n4) (Eq.trans (b := t4 (l5 k n4) (l6 k)) (e4 k n4) (Eq.trans (b := t4 (p5 k (p4 k n4)) (p6 k)) (d4 (o5 k n4 (p4 k n4) ih) (o6 k)) (by kernel_rfl))))
def t3 (f4 : T4) : T3 := fun (x1 : List (Int)) (x5 x6 : List UInt8) => 
  (f4 x1 x5 x6 (0 : Int))
theorem e3 (k : Nat) : u3 k = t3 (l4 k k) := by kernel_rfl
theorem g3 (k : Nat) : l3 k = u3 k := funext fun _ => funext fun _ => funext fun _ => cut_u _ _ _
theorem d3 {x4 y4 : T4} (h4 : x4 = y4) : t3 x4 = t3 y4 := by subst h4; rfl
def p3 (k : Nat) : T3 := t3 (p4 k k)
theorem o3 (k : Nat) : l3 k = p3 k := (Eq.trans (b := u3 k) (g3 k) (Eq.trans (b := t3 (l4 k k)) (e3 k) (Eq.trans (b := t3 (p4 k k)) (d3 (o4 k k)) (by kernel_rfl))))
def t1 (f2 : T2) (f3 : T3) : T1 := fun (x0 x1 : List (Int)) (x5 x6 : List UInt8) (x7 : Int) => 
  (iteB (decide (x7 < ((List.length x0 : Nat) : Int))) (iteB (decide (x7 < (60 : Int))) (f2 x0 x1 x5 x6 x7) (f3 x1 x5 x6)) (f3 x1 x5 x6))
theorem e1 (k n1 : Nat) : u1 k (n1 + 1) = t1 (l2 k n1) (l3 k) := by kernel_rfl
theorem g1 (k n1 : Nat) : l1 k (n1 + 1) = u1 k (n1 + 1) := funext fun _ => funext fun _ => funext fun _ => funext fun _ => funext fun _ => cut_u _ _ _
theorem d1 {x2 y2 : T2} {x3 y3 : T3} (h2 : x2 = y2) (h3 : x3 = y3) : t1 x2 x3 = t1 y2 y3 := by subst h2; subst h3; rfl
def p1 (k : Nat) : Nat → T1
  | 0 => fun _ _ _ _ _ => none
  | n1 + 1 => t1 (p2 k (p1 k n1)) (p3 k)
theorem o1 (k : Nat) : ∀ n1, l1 k n1 = p1 k n1 := by
  intro n1
  induction n1 with
  | zero => kernel_rfl
  | succ n1 ih => exact (Eq.trans (b := u1 k (n1 + 1)) (g1 k n1) (Eq.trans (b := t1 (l2 k n1) (l3 k)) (e1 k n1) (Eq.trans (b := t1 (p2 k (p1 k n1)) (p3 k)) (d1 (o2 k n1 (p1 k n1) ih) (o3 k)) (by kernel_rfl))))
def t0 (f1 : T1) : T0 := fun (x0 x1 : List (Int)) => 
  (bindR (s_law04_alive ()) fun r1 => (iteB (notB r1.1) (some (false, ())) (f1 x0 x1 ([] : List UInt8) ([] : List UInt8) (0 : Int))))
theorem e0 (k : Nat) : u0 k = t0 (l1 k k) := by kernel_rfl
theorem d0 {x1 y1 : T1} (h1 : x1 = y1) : t0 x1 = t0 y1 := by subst h1; rfl
def p0 (k : Nat) : T0 := t0 (p1 k k)
theorem o0 (k : Nat) : u0 k = p0 k := (Eq.trans (b := t0 (l1 k k)) (e0 k) (Eq.trans (b := t0 (p1 k k)) (d0 (o1 k k)) (by kernel_rfl)))
end law04_EditDiffs
def s_law04_EditDiffs (a : (List (Int)) × ((List (Int)) × (Unit))) : Option ((Bool) × (Unit)) := law04_EditDiffs.p0 (fuel) a.1 a.2.1
noncomputable def F_law04_EditDiffs : FSpec cx.toNm := { ps := [.val (.slice 3 (.int .i64)), .val (.slice 3 (.int .i64))], nres := 1, rt := .bool, rm := .ro, f := s_law04_EditDiffs }
theorem ok_law04_EditDiffs : FnOk Try.prog F_law04_EditDiffs 15 := fn_of (hn := law04_EditDiffs.h) (E := law04_EditDiffs.E) cxOk (tysT _) (fs_cons ok_ref04_Check (fs_cons ok_ref04_Apply (fs_cons ok_ref01_Bytes (fs_cons ok_ref01_Edge (fs_cons ok_law04_alive (fs_cons ok_edit_Diff fs_nil)))))) follows Try.func15 (by kernel_rfl) (fun a r h => ⟨fuel, (congrFun (congrFun (law04_EditDiffs.o0 (fuel)) a.1) a.2.1).trans h⟩)
end
end Go.Proofs.Ytdifekkamjoepaa.Vm.Rp
