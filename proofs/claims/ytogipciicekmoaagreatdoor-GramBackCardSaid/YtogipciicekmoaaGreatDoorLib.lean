/- Data; some functions of strings at one byte; names. -/
import Derived.Test.YtogipciicekmoaaGreatDoorVm3
import Derived.Test.YtogipciicekmoaaGreatDoorChecked
import Derived.KernelRfl
import Derived.Shelf.Strings.Search2
import Derived.Shelf.Strings.Count
import Derived.Shelf.Strings.Trim
import Derived.Shelf.Strings.OnBuilder
import Derived.Test.YtogipciicekmoaaGreatDoorProg
import Derived.Tactics
import Derived.Tactics2
import Derived.LoopTactic
import Derived.Laws.RangeString
import Derived.Laws.RangeAny
import Derived.WalkKit
namespace Go.Proofs.YtogipciicekmoaaGreatDoor.Vm.Gz
open Go Go.Proofs.YtogipciicekmoaaGreatDoor.Vm Go.Proofs
set_option linter.unusedVariables false
set_option maxRecDepth 100000
noncomputable section
inductive N0 where
  | mk (a0 : List ((List UInt8) × ((List UInt8) × ((Bool) × (Int))))) (a1 : List UInt8) (a2 : List ((List UInt8) × (List (List UInt8)))) (a3 : List ((Int) × (List (List UInt8)))) (a4 : Bool) : N0
def pk0 (b : ((List ((List UInt8) × ((List UInt8) × ((Bool) × (Int))))) × ((List UInt8) × ((List ((List UInt8) × (List (List UInt8)))) × (List ((Int) × (List (List UInt8))))))) × (Bool)) : N0 := .mk b.1.1 b.1.2.1 b.1.2.2.1 b.1.2.2.2 b.2
def out0 : N0 → ((List ((List UInt8) × ((List UInt8) × ((Bool) × (Int))))) × ((List UInt8) × ((List ((List UInt8) × (List (List UInt8)))) × (List ((Int) × (List (List UInt8))))))) × (Bool)
  | .mk a0 a1 a2 a3 a4 => ((a0, (a1, (a2, a3))), a4)
inductive N1 where
  | mk (a0 : List UInt8) : N1
def pk1 (b : List UInt8) : N1 := .mk b
def out1 : N1 → List UInt8
  | .mk a0 => a0
noncomputable def cx : Cx := { N := fun n => match n with | 0 => N0 | 1 => N1 | _ + 2 => Unit, body := fun n => match n with | 0 => (.agg (.pair (.agg (.pair (.slice 36 (.agg (.pair .str (.pair .str (.pair .bool (.int .i64)))))) (.pair .str (.pair (.slice 42 (.agg (.pair .str (.slice 9 .str)))) (.slice 45 (.agg (.pair (.int .u8) (.slice 9 .str)))))))) .bool)) | 1 => (.agg .str) | _ + 2 => .unit, nsz := fun n => match n with | 0 => 5 | 1 => 1 | _ + 2 => 0, out := fun n => match n with | 0 => out0 | 1 => out1 | _ + 2 => fun _ => (), pk := fun n => match n with | 0 => pk0 | 1 => pk1 | _ + 2 => fun _ => (), dflt := fun n => match n with | 0 => pk0 ((([] : List ((List UInt8) × ((List UInt8) × ((Bool) × (Int))))), (([] : List UInt8), (([] : List ((List UInt8) × (List (List UInt8)))), ([] : List ((Int) × (List (List UInt8))))))), false) | 1 => pk1 ([] : List UInt8) | _ + 2 => () }
theorem cxOk : cx.Ok := ⟨fun n => match n with | 0 => rfl | 1 => rfl | _ + 2 => rfl, fun n x => match n, x with | 0, _ => rfl | 1, _ => rfl | _ + 2, _ => rfl, fun n x => match n, x with | 0, .mk _ _ _ _ _ => rfl | 1, .mk _ => rfl | _ + 2, _ => rfl⟩
abbrev t0 : Ty := .pair .bool (.int .i64)
abbrev t1 : Ty := .pair .str t0
abbrev t2 : Ty := .pair .str t1
abbrev t3 : Ty := .agg t2
abbrev t4 : Ty := .slice 36 t3
abbrev t5 : Ty := .slice 9 .str
abbrev t6 : Ty := .pair .str t5
abbrev t7 : Ty := .agg t6
abbrev t8 : Ty := .slice 42 t7
abbrev t9 : Ty := .pair (.int .u8) t5
abbrev t10 : Ty := .agg t9
abbrev t11 : Ty := .slice 45 t10
abbrev t12 : Ty := .pair t8 t11
abbrev t13 : Ty := .pair .str t12
abbrev t14 : Ty := .pair t4 t13
abbrev t15 : Ty := .agg t14
abbrev t16 : Ty := .pair t15 .bool
abbrev t17 : Ty := .agg t16
abbrev t18 : Ty := .pair .str .bool
abbrev t19 : Ty := .pair .str t18
abbrev t20 : Ty := .clo 23 .unit
abbrev t21 : Ty := .clo 26 .unit
abbrev t22 : Ty := .clo 29 .unit
abbrev t23 : Ty := .pair t15 (.int .i64)
abbrev t24 : Ty := .clo 50 .unit
abbrev t25 : Ty := .pair (.int .i64) (.int .i64)
abbrev t26 : Ty := .agg .str
abbrev t27 : Ty := .pair (.int .i64) t25
abbrev t28 : Ty := .agg t27
abbrev t29 : Ty := .clo 0 .unit
abbrev t30 : Ty := .slice 5 (.int .u8)
abbrev t31 : Ty := .slice 3 (.int .i64)
abbrev D0 : Type := Bool × Int
abbrev D1 : Type := (List UInt8) × D0
abbrev D2 : Type := (List UInt8) × D1
abbrev D3 : Type := List D2
abbrev D4 : Type := List (List UInt8)
abbrev D5 : Type := (List UInt8) × D4
abbrev D6 : Type := List D5
abbrev D7 : Type := Int × D4
abbrev D8 : Type := List D7
abbrev D9 : Type := D6 × D8
abbrev D10 : Type := (List UInt8) × D9
abbrev D11 : Type := D3 × D10
abbrev D12 : Type := D11 × Bool
abbrev D13 : Type := Int × Int
abbrev D14 : Type := Int × D13
abbrev D15 : Type := D12 × Unit
abbrev D16 : Type := Int × D15
abbrev D17 : Type := (List UInt8) × Unit
abbrev D18 : Type := D12 × D17
abbrev D19 : Type := Bool × Unit
abbrev D20 : Type := (List UInt8) × D17
abbrev D21 : Type := D11 × Unit
abbrev D23 : Type := (List UInt8) × Bool
abbrev D24 : Type := (List UInt8) × D23
abbrev D25 : Type := D24 × Unit
abbrev D26 : Type := D4 × Unit
abbrev D27 : Type := Int × Unit
abbrev D28 : Type := D4 × D17
abbrev D29 : Type := Int × D27
abbrev D30 : Type := Unit × Unit
abbrev D31 : Type := D3 × D30
abbrev D32 : Type := D6 × D30
abbrev D33 : Type := D8 × D30
abbrev D34 : Type := D11 × Int
abbrev D35 : Type := D34 × Unit
abbrev D36 : Type := D11 × D21
abbrev D37 : Type := D4 × D30
abbrev D38 : Type := (List UInt8) × D27
abbrev D39 : Type := D13 × Unit
abbrev D40 : Type := D4 × D26
abbrev D41 : Type := (List UInt8) × D29
abbrev D42 : Type := (List UInt8) × D41
abbrev D43 : Type := D2 × Unit
abbrev D44 : Type := D5 × Unit
abbrev D45 : Type := D7 × Unit
abbrev D46 : Type := Bool × D17
abbrev D47 : Type := D14 × Unit
abbrev m_0 : Mode := (.pr (.own .ro) (.own .ro))
abbrev m_1 : Mode := (.pr .ro m_0)
abbrev m_2 : Mode := (.pr (.own .ro) m_1)
abbrev m_3 : Mode := (.pr m_2 .ro)
def tys : List (Nat × Ty) := [(3, (.int .i64)), (4, .bool), (5, (.int .u8)), (9, .str), (22, t4), (23, t8), (24, t11), (26, t15), (29, (.int .i64)), (32, t29), (36, t3), (40, t5), (42, t7), (45, t10), (48, t30), (60, t29), (62, t29), (66, t29), (70, (.ptr 0)), (72, t17), (92, (.ptr 1)), (94, t26), (103, t31), (113, t28), (116, (.int .u64))]
theorem tysT (l : List (Nat × FSpec cx.toNm)) (b : Bool) (p : Nat) : TysOk (S := cx) Tryz.prog { tys := tys, fs := fsOf l, wr := b, pt := p } := tysOk (by kernel_rfl)
theorem follows : Tryz.prog.follows .mixedOrders = true := by kernel_rfl
abbrev vI (x : Int) : AV cx := .v (.int .i64) .ro x
abbrev vB (x : Bool) : AV cx := .v .bool .ro x
abbrev vS (x : List UInt8) : AV cx := .v .str .ro x
abbrev vR (t : Ty) (x : cx.den t) : AV cx := .v t .ro x
abbrev vA (k : Nat) : AV cx := .addr (.mem k) []
end
end Go.Proofs.YtogipciicekmoaaGreatDoor.Vm.Gz
namespace Go.Proofs
open Go.Shelf
def Tryz.lays219_ren : Go.Shelf.Ren := ⟨fun | 219 => 77 | 217 => 91 | 225 => 92 | 224 => 93 | 267 => 94 | 266 => 106 | 314 => 107 | n => n, fun | 9 => 9 | 3 => 3 | 4 => 4 | 5 => 5 | 46 => 116 | 146 => 143 | 51 => 140 | n => n, fun | 1 => 0 | n => n⟩
theorem Tryz.lays219 : Go.Proofs.Lays.n219 Tryz.prog Tryz.lays219_ren := {
  mixed := by kernel_rfl
  f217 := Tryz.func91.trans (congrArg some (by kernel_rfl))
  f219 := Tryz.func77.trans (congrArg some (by kernel_rfl))
  f224 := Tryz.func93.trans (congrArg some (by kernel_rfl))
  f225 := Tryz.func92.trans (congrArg some (by kernel_rfl))
  f266 := Tryz.func106.trans (congrArg some (by kernel_rfl))
  f267 := Tryz.func94.trans (congrArg some (by kernel_rfl))
  f314 := Tryz.func107.trans (congrArg some (by kernel_rfl))
  t3 := Tryz.underlying3
  a3 := Tryz.isAgg3
  z3 := Tryz.sizeOf3
  v3 := Tryz.zeroValue3
  t4 := Tryz.underlying4
  a4 := Tryz.isAgg4
  z4 := Tryz.sizeOf4
  v4 := Tryz.zeroValue4
  t5 := Tryz.underlying5
  a5 := Tryz.isAgg5
  z5 := Tryz.sizeOf5
  v5 := Tryz.zeroValue5
  t9 := Tryz.underlying9
  a9 := Tryz.isAgg9
  z9 := Tryz.sizeOf9
  v9 := Tryz.zeroValue9
  t46 := Tryz.underlying116
  a46 := Tryz.isAgg116
  z46 := Tryz.sizeOf116
  v46 := Tryz.zeroValue116
  t51 := Tryz.underlying140
  a51 := Tryz.isAgg140
  z51 := Tryz.sizeOf140
  v51 := Tryz.zeroValue140
  t146 := Tryz.underlying143
  a146 := Tryz.isAgg143
  z146 := Tryz.sizeOf143
  v146 := Tryz.zeroValue143
  g1 := by kernel_rfl }
theorem Tryz.stringslite_Index_one (s : ByteArray) (c : UInt8) (w : World) : Calls Tryz.prog (Tryz.lays219_ren.f 219) #[.string s, .string ⟨#[c]⟩] w fun e w' => e = .returned (.int .i64 (Lib.indexByte s.data.toList c)) ∧ w' = w := Any.stringslite_Index_one Tryz.lays219 s c w
def Tryz.lays138_ren : Go.Shelf.Ren := ⟨fun | 138 => 70 | 195 => 81 | 218 => 83 | 143 => 64 | 219 => 77 | 217 => 91 | 225 => 92 | 224 => 93 | 267 => 94 | 266 => 106 | 314 => 107 | n => n, fun | 9 => 9 | 3 => 3 | 4 => 4 | 5 => 5 | 0 => 0 | 46 => 116 | 146 => 143 | 51 => 140 | n => n, fun | 1 => 0 | n => n⟩
theorem Tryz.lays138 : Go.Proofs.Lays.n138 Tryz.prog Tryz.lays138_ren := {
  mixed := by kernel_rfl
  f138 := Tryz.func70.trans (congrArg some (by kernel_rfl))
  f143 := Tryz.func64.trans (congrArg some (by kernel_rfl))
  f195 := Tryz.func81.trans (congrArg some (by kernel_rfl))
  f217 := Tryz.func91.trans (congrArg some (by kernel_rfl))
  f218 := Tryz.func83.trans (congrArg some (by kernel_rfl))
  f219 := Tryz.func77.trans (congrArg some (by kernel_rfl))
  f224 := Tryz.func93.trans (congrArg some (by kernel_rfl))
  f225 := Tryz.func92.trans (congrArg some (by kernel_rfl))
  f266 := Tryz.func106.trans (congrArg some (by kernel_rfl))
  f267 := Tryz.func94.trans (congrArg some (by kernel_rfl))
  f314 := Tryz.func107.trans (congrArg some (by kernel_rfl))
  t0 := Tryz.underlying0
  a0 := Tryz.isAgg0
  z0 := Tryz.sizeOf0
  v0 := Tryz.zeroValue0
  t3 := Tryz.underlying3
  a3 := Tryz.isAgg3
  z3 := Tryz.sizeOf3
  v3 := Tryz.zeroValue3
  t4 := Tryz.underlying4
  a4 := Tryz.isAgg4
  z4 := Tryz.sizeOf4
  v4 := Tryz.zeroValue4
  t5 := Tryz.underlying5
  a5 := Tryz.isAgg5
  z5 := Tryz.sizeOf5
  v5 := Tryz.zeroValue5
  t9 := Tryz.underlying9
  a9 := Tryz.isAgg9
  z9 := Tryz.sizeOf9
  v9 := Tryz.zeroValue9
  t46 := Tryz.underlying116
  a46 := Tryz.isAgg116
  z46 := Tryz.sizeOf116
  v46 := Tryz.zeroValue116
  t51 := Tryz.underlying140
  a51 := Tryz.isAgg140
  z51 := Tryz.sizeOf140
  v51 := Tryz.zeroValue140
  t146 := Tryz.underlying143
  a146 := Tryz.isAgg143
  z146 := Tryz.sizeOf143
  v146 := Tryz.zeroValue143
  g1 := by kernel_rfl }
theorem Tryz.strings_Count_one (s : ByteArray) (c : UInt8) (w : World) : Calls Tryz.prog (Tryz.lays138_ren.f 138) #[.string s, .string ⟨#[c]⟩] w fun e w' => e = .returned (.int .i64 (Lib.countByte s.data.toList c)) ∧ w' = w := Any.strings_Count_one Tryz.lays138 s c w
def Tryz.lays161_ren : Go.Shelf.Ren := ⟨fun | 161 => 85 | 231 => 97 | 227 => 98 | 233 => 99 | 235 => 100 | 228 => 108 | 197 => 82 | 151 => 109 | 260 => 95 | 152 => 112 | 137 => 113 | 119 => 114 | 224 => 93 | 225 => 92 | 217 => 91 | 266 => 106 | n => n, fun | 9 => 9 | 4 => 4 | 3 => 3 | 5 => 5 | 117 => 134 | 116 => 133 | 0 => 0 | 124 => 137 | 105 => 118 | 21 => 21 | 119 => 145 | 46 => 116 | 139 => 148 | 138 => 147 | n => n, fun | 3 => 2 | 4 => 3 | n => n⟩
theorem Tryz.lays161 : Go.Proofs.Lays.n161 Tryz.prog Tryz.lays161_ren := {
  mixed := by kernel_rfl
  f119 := Tryz.func114.trans (congrArg some (by kernel_rfl))
  f137 := Tryz.func113.trans (congrArg some (by kernel_rfl))
  f151 := Tryz.func109.trans (congrArg some (by kernel_rfl))
  f152 := Tryz.func112.trans (congrArg some (by kernel_rfl))
  f161 := Tryz.func85.trans (congrArg some (by kernel_rfl))
  f197 := Tryz.func82.trans (congrArg some (by kernel_rfl))
  f217 := Tryz.func91.trans (congrArg some (by kernel_rfl))
  f224 := Tryz.func93.trans (congrArg some (by kernel_rfl))
  f225 := Tryz.func92.trans (congrArg some (by kernel_rfl))
  f227 := Tryz.func98.trans (congrArg some (by kernel_rfl))
  f228 := Tryz.func108.trans (congrArg some (by kernel_rfl))
  f231 := Tryz.func97.trans (congrArg some (by kernel_rfl))
  f233 := Tryz.func99.trans (congrArg some (by kernel_rfl))
  f235 := Tryz.func100.trans (congrArg some (by kernel_rfl))
  f260 := Tryz.func95.trans (congrArg some (by kernel_rfl))
  f266 := Tryz.func106.trans (congrArg some (by kernel_rfl))
  t0 := Tryz.underlying0
  a0 := Tryz.isAgg0
  z0 := Tryz.sizeOf0
  v0 := Tryz.zeroValue0
  t3 := Tryz.underlying3
  a3 := Tryz.isAgg3
  z3 := Tryz.sizeOf3
  v3 := Tryz.zeroValue3
  t4 := Tryz.underlying4
  a4 := Tryz.isAgg4
  z4 := Tryz.sizeOf4
  v4 := Tryz.zeroValue4
  t5 := Tryz.underlying5
  a5 := Tryz.isAgg5
  z5 := Tryz.sizeOf5
  v5 := Tryz.zeroValue5
  t9 := Tryz.underlying9
  a9 := Tryz.isAgg9
  z9 := Tryz.sizeOf9
  v9 := Tryz.zeroValue9
  t21 := Tryz.underlying21
  a21 := Tryz.isAgg21
  z21 := Tryz.sizeOf21
  v21 := Tryz.zeroValue21
  t46 := Tryz.underlying116
  a46 := Tryz.isAgg116
  z46 := Tryz.sizeOf116
  v46 := Tryz.zeroValue116
  t105 := Tryz.underlying118
  a105 := Tryz.isAgg118
  z105 := Tryz.sizeOf118
  v105 := Tryz.zeroValue118
  t116 := Tryz.underlying133
  a116 := Tryz.isAgg133
  z116 := Tryz.sizeOf133
  t117 := Tryz.underlying134
  a117 := Tryz.isAgg134
  z117 := Tryz.sizeOf134
  v117 := Tryz.zeroValue134
  t119 := Tryz.underlying145
  a119 := Tryz.isAgg145
  z119 := Tryz.sizeOf145
  t124 := Tryz.underlying137
  a124 := Tryz.isAgg137
  z124 := Tryz.sizeOf137
  v124 := Tryz.zeroValue137
  t138 := Tryz.underlying147
  a138 := Tryz.isAgg147
  z138 := Tryz.sizeOf147
  v138 := Tryz.zeroValue147
  t139 := Tryz.underlying148
  a139 := Tryz.isAgg148
  z139 := Tryz.sizeOf148
  v139 := Tryz.zeroValue148
  g3 := by kernel_rfl
  g4 := by kernel_rfl }
theorem Tryz.strings_TrimLeft_one (s : ByteArray) (c : UInt8) (hc : c.toNat < 128) (w : World) : Calls Tryz.prog (Tryz.lays161_ren.f 161) #[.string s, .string ⟨#[c]⟩] w fun e w' => e = .returned (.string ⟨(Lib.trimLeftB s.data.toList c).toArray⟩) ∧ w' = w := Any.strings_TrimLeft_one Tryz.lays161 s c hc w
def Tryz.lays156_ren : Go.Shelf.Ren := ⟨fun | 156 => 42 | 165 => 63 | 166 => 41 | 169 => 21 | 240 => 62 | 241 => 76 | 276 => 75 | 277 => 90 | n => n, fun | 31 => 40 | 9 => 9 | 3 => 3 | 4 => 4 | 0 => 0 | 20 => 20 | 72 => 50 | 76 => 79 | 70 => 47 | 37 => 48 | 75 => 78 | 127 => 85 | 164 => 110 | 5 => 5 | 80 => 58 | n => n, fun | n => n⟩
theorem Tryz.lays156 : Go.Proofs.Lays.n156 Tryz.prog Tryz.lays156_ren := {
  mixed := by kernel_rfl
  f156 := Tryz.func42.trans (congrArg some (by kernel_rfl))
  f165 := Tryz.func63.trans (congrArg some (by kernel_rfl))
  f166 := Tryz.func41.trans (congrArg some (by kernel_rfl))
  f169 := Tryz.func21.trans (congrArg some (by kernel_rfl))
  f240 := Tryz.func62.trans (congrArg some (by kernel_rfl))
  f241 := Tryz.func76.trans (congrArg some (by kernel_rfl))
  f276 := Tryz.func75.trans (congrArg some (by kernel_rfl))
  f277 := Tryz.func90.trans (congrArg some (by kernel_rfl))
  t0 := Tryz.underlying0
  a0 := Tryz.isAgg0
  z0 := Tryz.sizeOf0
  v0 := Tryz.zeroValue0
  t3 := Tryz.underlying3
  a3 := Tryz.isAgg3
  z3 := Tryz.sizeOf3
  v3 := Tryz.zeroValue3
  t4 := Tryz.underlying4
  a4 := Tryz.isAgg4
  z4 := Tryz.sizeOf4
  v4 := Tryz.zeroValue4
  t9 := Tryz.underlying9
  a9 := Tryz.isAgg9
  z9 := Tryz.sizeOf9
  v9 := Tryz.zeroValue9
  t20 := Tryz.underlying20
  a20 := Tryz.isAgg20
  z20 := Tryz.sizeOf20
  v20 := Tryz.zeroValue20
  t31 := Tryz.underlying40
  a31 := Tryz.isAgg40
  z31 := Tryz.sizeOf40
  v31 := Tryz.zeroValue40
  t37 := Tryz.underlying48
  a37 := Tryz.isAgg48
  z37 := Tryz.sizeOf48
  v37 := Tryz.zeroValue48
  t70 := Tryz.underlying47
  a70 := Tryz.isAgg47
  z70 := Tryz.sizeOf47
  v70 := Tryz.zeroValue47
  t72 := Tryz.underlying50
  a72 := Tryz.isAgg50
  z72 := Tryz.sizeOf50
  v72 := Tryz.zeroValue50
  t75 := Tryz.underlying78
  a75 := Tryz.isAgg78
  z75 := Tryz.sizeOf78
  v75 := Tryz.zeroValue78
  t76 := Tryz.underlying79
  a76 := Tryz.isAgg79
  z76 := Tryz.sizeOf79
  v76 := Tryz.zeroValue79
  t127 := Tryz.underlying85
  a127 := Tryz.isAgg85
  z127 := Tryz.sizeOf85
  v127 := Tryz.zeroValue85
  t164 := Tryz.underlying110
  a164 := Tryz.isAgg110
  z164 := Tryz.sizeOf110
  v164 := Tryz.zeroValue110 }
theorem Tryz.Builder_Extra_156 : Builder.Extra Tryz.prog Tryz.lays156_ren := {
  sizeBuilder := by kernel_rfl
  liesBuilder := by kernel_rfl
  t5 := Tryz.underlying5
  a5 := Tryz.isAgg5
  z5 := Tryz.sizeOf5
  v5 := Tryz.zeroValue5
  infoByte := by kernel_rfl
  cellsByte := by kernel_rfl
  sizeByte := by kernel_rfl
  neB5 := by decide }
open Go.RowKit in
theorem Tryz.strings_Join (bk o c : Nat) (xs : List ByteArray) (sep : ByteArray) (w : World)
    (hcells : ∀ (j : Nat) x, xs[j]? = some x → w.cell? ⟨bk, o + j, none⟩ = some (.string x))
    (hbk : bk < w.heap.size) (hN : xs.length ≤ 140737488355328) (hcap : xs.length ≤ c)
    (hlen : (Lib.join (xs.map (·.data.toList)) sep.data.toList).length ≤ 140737488355328) :
    Calls Tryz.prog 42 #[.slice (some ⟨bk, o, none⟩) xs.length c, .string sep] w fun e w' => e = .returned (.string ⟨(Lib.join (xs.map (·.data.toList)) sep.data.toList).toArray⟩) ∧ Below w.heap.size w w' :=
  Any.strings_Join Tryz.lays156 Tryz.Builder_Extra_156 bk o c xs sep w hcells hbk hN hcap hlen
theorem Tryz.strings_Join_none (a : Option Addr) (c : Nat) (sep : ByteArray) (w : World) :
    Calls Tryz.prog 42 #[.slice a 0 c, .string sep] w fun e w' => e = .returned (.string ⟨#[]⟩) ∧ w' = w := Any.strings_Join_none Tryz.lays156 Tryz.Builder_Extra_156 a c sep w
end Go.Proofs
namespace Go.Proofs.YtogipciicekmoaaGreatDoor.Vm.Gz
open Go Go.Proofs.YtogipciicekmoaaGreatDoor.Vm Go.Proofs Go.RowKit
set_option linter.unusedVariables false
set_option maxRecDepth 100000
theorem enters_at {f : Nat} {fn : Func} {c : Code} (hf : Tryz.prog.funcs[f]? = some fn) (hb : fn.body = some c) (hname : (fn.name == "runtime.NumGoroutine") = false) (vs : Array Value) (w : World) : (callFunc f vs).run Tryz.prog w = .ok (.enter f vs) w := by
  simp only [callFunc, Sem.run_bind, run_program, Result.andThen_ok, hf, hname, Bool.false_eq_true, if_false, hb, Option.isNone]
  rfl
theorem left_same {own : Nat → Option Own} {w w' : World} (hown : ∀ b, own b ≠ none → b < w.heap.size) (hb : Below w.heap.size w w') : Left own own w w' :=
  ⟨hb.os, hb.tape, hb.output, hb.size, fun b h _ => hb.block b h, fun b h => ⟨Nat.lt_of_lt_of_le (hown b h) hb.size, .inr h⟩⟩
theorem str_fn {f : Nat} {rt : Ty} {s : List UInt8 × Unit → Option (cx.den rt × Unit)} (he : ∀ vs w, (callFunc f vs).run Tryz.prog w = .ok (.enter f vs) w)
    (h : ∀ x r w, s (x, ()) = some r → Calls Tryz.prog f #[.string ⟨⟨x⟩⟩] w fun e w' => Below w.heap.size w w' ∧ ∃ v, e = .returned v ∧ ∀ w'' Z, ∃ cs, VS rt v cs ∧ cx.R w'' Z rt cs r.1) :
    FnOk Tryz.prog ({ ps := [.val .str], nres := 1, rt := rt, rm := .ro, f := s } : FSpec cx.toNm) f := by
  intro w Z own vs x r hZ hown hA hG hx
  match vs, hA with
  | [v], hA =>
    obtain ⟨⟨cs, h1, h2⟩, _⟩ := hA
    have h2 := Cx.R_str.1 h2
    have h1 : cs = [v] := h1
    rw [h1] at h2
    obtain ⟨x0, x1, rfl⟩ : ∃ (x0 : List UInt8) (x1 : Unit), (x0, x1) = x := ⟨x.1, x.2, rfl⟩
    cases (List.cons.inj h2).1
    unfold Enters
    rw [he]
    refine (h x0 r w hx).mono ?_
    rintro e w' ⟨hw, v, rfl, hv⟩
    obtain ⟨cs, k1, k2⟩ := hv w' (zoneOf Z own own w w')
    exact ⟨v, rfl, own, left_same hown hw, Res1.of ⟨cs, k1, OW_ro.2 k2⟩, trivial⟩
  | [], hA => exact hA.elim
  | _ :: _ :: _, hA => exact hA.2.elim
theorem str2_fn {f : Nat} {rt : Ty} {s : List UInt8 × (List UInt8 × Unit) → Option (cx.den rt × Unit)} (he : ∀ vs w, (callFunc f vs).run Tryz.prog w = .ok (.enter f vs) w)
    (h : ∀ x y r w, s (x, (y, ())) = some r → Calls Tryz.prog f #[.string ⟨⟨x⟩⟩, .string ⟨⟨y⟩⟩] w fun e w' => Below w.heap.size w w' ∧ ∃ v, e = .returned v ∧ ∀ w'' Z, ∃ cs, VS rt v cs ∧ cx.R w'' Z rt cs r.1) :
    FnOk Tryz.prog ({ ps := [.val .str, .val .str], nres := 1, rt := rt, rm := .ro, f := s } : FSpec cx.toNm) f := by
  intro w Z own vs x r hZ hown hA hG hx
  match vs, hA with
  | [v, u], hA =>
    obtain ⟨⟨cs, h1, h2⟩, ⟨ds, g1, g2⟩, _⟩ := hA
    have h2 := Cx.R_str.1 h2
    have g2 := Cx.R_str.1 g2
    have h1 : cs = [v] := h1
    have g1 : ds = [u] := g1
    rw [h1] at h2
    rw [g1] at g2
    obtain ⟨x0, x1, x2, rfl⟩ : ∃ (x0 : List UInt8) (x1 : List UInt8) (x2 : Unit), (x0, x1, x2) = x := ⟨x.1, x.2.1, x.2.2, rfl⟩
    cases (List.cons.inj h2).1
    cases (List.cons.inj g2).1
    unfold Enters
    rw [he]
    refine (h x0 x1 r w hx).mono ?_
    rintro e w' ⟨hw, v, rfl, hv⟩
    obtain ⟨cs, k1, k2⟩ := hv w' (zoneOf Z own own w w')
    exact ⟨v, rfl, own, left_same hown hw, Res1.of ⟨cs, k1, OW_ro.2 k2⟩, trivial⟩
  | [], hA => exact hA.elim
  | [_], hA => exact hA.2.elim
  | _ :: _ :: _ :: _, hA => exact hA.2.2.elim
def findB (c : UInt8) : List UInt8 → Int → Int
  | [], _ => -1
  | x :: l, i => match x == c with
    | true => i
    | false => findB c l (i + 1)
def countB (c : UInt8) : List UInt8 → Int → Int
  | [], n => n
  | x :: l, n => match x == c with
    | true => countB c l (n + 1)
    | false => countB c l n
def trimB (c : UInt8) : List UInt8 → List UInt8
  | [] => []
  | x :: l => match x == c with
    | true => trimB c l
    | false => x :: l
def at1 {α : Type} (f : UInt8 → α) : List UInt8 → Option α
  | [c] => some (f c)
  | _ => none
def s_stringslite_Index (a : List UInt8 × (List UInt8 × Unit)) : Option (Int × Unit) := at1 (fun c => (findB c a.1 0, ())) a.2.1
noncomputable def F_stringslite_Index : FSpec cx.toNm := { ps := [.val .str, .val .str], nres := 1, rt := .int .i64, rm := .ro, f := s_stringslite_Index }
def s_Count (a : List UInt8 × (List UInt8 × Unit)) : Option (Int × Unit) := at1 (fun c => (countB c a.1 0, ())) a.2.1
noncomputable def F_Count : FSpec cx.toNm := { ps := [.val .str, .val .str], nres := 1, rt := .int .i64, rm := .ro, f := s_Count }
def s_TrimLeft (a : List UInt8 × (List UInt8 × Unit)) : Option (List UInt8 × Unit) := mustR (decide (a.2.1 = [32])) (some (trimB 32 a.1, ()))
noncomputable def F_TrimLeft : FSpec cx.toNm := { ps := [.val .str, .val .str], nres := 1, rt := .str, rm := .ro, f := s_TrimLeft }
def s_explode (a : List UInt8 × (Int × Unit)) : Option (List (List UInt8) × Unit) := none
noncomputable def F_explode : FSpec cx.toNm := { ps := [.val .str, .val (.int .i64)], nres := 1, rt := t5, rm := .ro, f := s_explode }
theorem ok_explode : FnOk Tryz.prog F_explode 69 := fn_none (fun _ => rfl)
theorem findB_from (c : UInt8) : ∀ (l : List UInt8) (i : Int), 0 ≤ i → findB c l i = if Lib.indexByte l c = -1 then -1 else i + Lib.indexByte l c
  | [], i, _ => rfl
  | x :: l, i, hi => by
    unfold findB Lib.indexByte
    cases h : x == c with
    | true => simp
    | false =>
      simp only [Bool.false_eq_true, if_false]
      rw [findB_from c l (i + 1) (by omega)]
      have hg := Lib.indexByte_ge l c
      by_cases hk : Lib.indexByte l c = -1
      · simp [hk]
      · have h1 : (Lib.indexByte l c == -1) = false := by simpa using hk
        simp only [hk, if_false, h1, Bool.false_eq_true]
        rw [if_neg (by omega)]
        omega
theorem findB_is (c : UInt8) (l : List UInt8) : findB c l 0 = Lib.indexByte l c := by
  rw [findB_from c l 0 (by omega)]
  split
  · omega
  · omega
theorem countB_from (c : UInt8) : ∀ (l : List UInt8) (n : Int), countB c l n = n + (l.count c : Nat)
  | [], n => by simp [countB]
  | x :: l, n => by
    unfold countB
    cases h : x == c with
    | true => simp only; rw [countB_from c l (n + 1), List.count_cons, h]; simp; omega
    | false => simp only; rw [countB_from c l n, List.count_cons, h]; simp
theorem trimB_is (c : UInt8) : ∀ (l : List UInt8), trimB c l = Lib.trimLeftB l c
  | [] => rfl
  | x :: l => by
    unfold trimB Lib.trimLeftB
    rw [List.dropWhile_cons]
    cases h : x == c with
    | true => simp only [if_true]; exact trimB_is c l
    | false => simp
theorem ok_stringslite_Index : FnOk Tryz.prog F_stringslite_Index 77 := by
  refine str2_fn (fun vs w => enters_at (c := bodyC Tryz.f77) Tryz.func77 (by kernel_rfl) (by kernel_rfl) vs w) ?_
  intro x y r w h
  match y, h with
  | [c], h =>
    have h : some (findB c x 0, ()) = some r := h
    cases h
    refine (Tryz.stringslite_Index_one ⟨⟨x⟩⟩ c w).mono ?_
    rintro e w' ⟨rfl, rfl⟩
    exact ⟨Below.refl _ _, _, rfl, fun w'' Z => ⟨_, rfl, Cx.R_int.2 (by rw [findB_is])⟩⟩
  | [], h => cases h
  | _ :: _ :: _, h => cases h
theorem ok_Count : FnOk Tryz.prog F_Count 70 := by
  refine str2_fn (fun vs w => enters_at (c := bodyC Tryz.f70) Tryz.func70 (by kernel_rfl) (by kernel_rfl) vs w) ?_
  intro x y r w h
  match y, h with
  | [c], h =>
    have h : some (countB c x 0, ()) = some r := h
    cases h
    refine (Tryz.strings_Count_one ⟨⟨x⟩⟩ c w).mono ?_
    rintro e w' ⟨rfl, rfl⟩
    exact ⟨Below.refl _ _, _, rfl, fun w'' Z => ⟨_, rfl, Cx.R_int.2 (by rw [countB_from]; simp [Lib.countByte])⟩⟩
  | [], h => cases h
  | _ :: _ :: _, h => cases h
theorem ok_TrimLeft : FnOk Tryz.prog F_TrimLeft 85 := by
  refine str2_fn (fun vs w => enters_at (c := bodyC Tryz.f85) Tryz.func85 (by kernel_rfl) (by kernel_rfl) vs w) ?_
  intro x y r w h
  have h : mustR (decide (y = [32])) (some (trimB 32 x, ())) = some r := h
  cases hd : decide (y = [32]) with
  | false => rw [hd] at h; cases h
  | true =>
    rw [hd] at h
    cases h
    cases of_decide_eq_true hd
    refine (Tryz.strings_TrimLeft_one ⟨⟨x⟩⟩ 32 (by decide) w).mono ?_
    rintro e w' ⟨rfl, rfl⟩
    exact ⟨Below.refl _ _, _, rfl, fun w'' Z => ⟨_, rfl, Cx.R_str.2 (by rw [trimB_is])⟩⟩
end Go.Proofs.YtogipciicekmoaaGreatDoor.Vm.Gz
namespace Go.Proofs.YtogipciicekmoaaGreatDoor.Vm.Gz
open Go Go.Proofs.YtogipciicekmoaaGreatDoor.Vm Go.Proofs Go.RowKit
set_option linter.unusedVariables false
set_option maxRecDepth 100000
def letB (n : Nat) : Bool := decide (97 ≤ n) && decide (n ≤ 122) || decide (65 ≤ n) && decide (n ≤ 90)
def digB (n : Nat) : Bool := decide (48 ≤ n) && decide (n ≤ 57)
def nmB (first : Bool) (n : Nat) : Bool := letB n || !first && (decide (n = 95) || digB n)
def nmAll : Bool → List UInt8 → Bool
  | _, [] => true
  | b, c :: l => match nmB b c.toNat with
    | true => nmAll false l
    | false => false
def nameB (s : List UInt8) : Bool := nmAll true s && !decide (s = []) && decide (s.length ≤ 16)
def s_IsName (a : List UInt8 × Unit) : Option (Bool × Unit) := some (nameB a.1, ())
noncomputable def F_IsName : FSpec cx.toNm := { ps := [.val .str], nres := 1, rt := .bool, rm := .ro, f := s_IsName }
theorem nmAll_drop (l : List UInt8) : ∀ (p : Nat) (c : UInt8), l[p]? = some c → nmAll (decide (p = 0)) (l.drop p) = (nmB (decide (p = 0)) c.toNat && nmAll (decide (p + 1 = 0)) (l.drop (p + 1))) := by
  intro p c h
  have hp : p < l.length := (List.getElem?_eq_some_iff.1 h).1
  have e : l[p] = c := (List.getElem?_eq_some_iff.1 h).2
  rw [List.drop_eq_getElem_cons hp, e]
  have hf : decide (p + 1 = 0) = false := by simp
  rw [hf]
  show (match nmB (decide (p = 0)) c.toNat with | true => nmAll false (l.drop (p + 1)) | false => false) = _
  cases nmB (decide (p = 0)) c.toNat <;> rfl
theorem nmB_high {b : Bool} {n : Nat} (h : 128 ≤ n) : nmB b n = false := by
  unfold nmB letB digB
  have h1 : decide (n ≤ 122) = false := by simp; omega
  have h2 : decide (n ≤ 90) = false := by simp; omega
  have h3 : decide (n ≤ 57) = false := by simp; omega
  have h4 : decide (n = 95) = false := by simp; omega
  rw [h1, h2, h3, h4]
  cases b <;> simp
theorem dec_facts (s : List UInt8) (pos : Nat) (h : pos < s.length) (hb : nmAll true s = nmAll (decide (pos = 0)) (s.drop pos)) :
    (nmB (decide (pos = 0)) (Utf8.decode ⟨⟨s⟩⟩ pos).1 = true → (Utf8.decode ⟨⟨s⟩⟩ pos).2 = 1 ∧ nmAll true s = nmAll false (s.drop (pos + 1))) ∧
    (nmB (decide (pos = 0)) (Utf8.decode ⟨⟨s⟩⟩ pos).1 = false → nmAll true s = false) ∧ 1 ≤ (Utf8.decode ⟨⟨s⟩⟩ pos).2 := by
  have hsz : pos < (⟨⟨s⟩⟩ : ByteArray).size := h
  have hg : (⟨⟨s⟩⟩ : ByteArray)[pos]'hsz = s[pos] := rfl
  have hs : s[pos]? = some s[pos] := List.getElem?_eq_getElem h
  have hd := nmAll_drop s pos s[pos] hs
  rw [← hb] at hd
  by_cases ha : (s[pos]).toNat < 128
  · have e := decode_ascii ⟨⟨s⟩⟩ pos hsz (by rw [hg]; exact ha)
    rw [hg] at e
    rw [e]
    refine ⟨fun hn => ⟨rfl, ?_⟩, fun hn => ?_, Nat.le_refl _⟩
    · rw [hd, hn]; simp
    · rw [hd, hn]; simp
  · have e := decode_high ⟨⟨s⟩⟩ pos hsz (by rw [hg]; omega)
    refine ⟨fun hn => ?_, fun hn => ?_, e.2⟩
    · rw [nmB_high e.1] at hn; cases hn
    · rw [hd, nmB_high (by omega)]; rfl
theorem nm_first (d : Nat) : nmB true d = letB d := by simp [nmB]
theorem nm_next (d : Nat) : nmB false d = (letB d || (decide (d = 95) || digB d)) := by simp [nmB]
theorem nameB_false {s : List UInt8} (h : nmAll true s = false) : nameB s = false := by unfold nameB; rw [h]; rfl
theorem nm_len1 (x : UInt8) (s : List UInt8) : decide ((s.length : Int) + 1 ≤ 16) = (!false && decide ((x :: s).length ≤ 16)) := by
  simp only [Bool.not_false, Bool.true_and, List.length_cons]
  exact decide_eq_decide.2 (by omega)
theorem nm_len2 (x : UInt8) (s : List UInt8) : decide (s.length ≤ 15) = (!false && decide ((x :: s).length ≤ 16)) := by
  simp only [Bool.not_false, Bool.true_and, List.length_cons]
  exact decide_eq_decide.2 (by omega)
set_option maxHeartbeats 2000000 in
theorem name_walk (s : List UInt8) (w : World) : Calls Tryz.prog 10 #[.string ⟨⟨s⟩⟩] w fun e w' => e = .returned (.bool (nameB s)) ∧ ∃ pos, w' = w.iter ⟨⟨s⟩⟩ pos := by
  go_enter Tryz.func10, Tryz.ntmps10
  go_wp2
  go_loopw [3, 4, 5] (fun n c b w' => ∃ (pos : Nat), w' = w.iter ⟨⟨s⟩⟩ pos ∧ pos ≤ s.length ∧ nmAll true s = nmAll (decide (pos = 0)) (s.drop pos)) (fun _ _ _ w' => s.length - w'.iterPos w.heap.size)
  case atStart => exact ⟨0, rfl, Nat.zero_le _, rfl⟩
  case round =>
    obtain ⟨pos, rfl, hp, hb⟩ := hrel
    by_cases hps : pos < s.length
    · have hsz : pos < (⟨⟨s⟩⟩ : ByteArray).size := hps
      have hnx : ∀ ty, (Instr.next (.pointer (some ⟨w.heap.size, 0, none⟩)) true ty).run Tryz.prog (w.iter ⟨⟨s⟩⟩ pos) = _ := fun ty => run_next_any w ⟨⟨s⟩⟩ pos ty hsz
      obtain ⟨f1, f2, f3⟩ := dec_facts s pos hps hb
      rcases Nat.eq_zero_or_pos pos with h0 | h0
      · subst h0
        generalize Utf8.decode ⟨⟨s⟩⟩ 0 = dk at *
        obtain ⟨d, k⟩ := dk
        simp only at f1 f2 f3 hnx
        simp only [decide_true, nm_first] at f1 f2
        cases hl : letB d with
        | true =>
          obtain ⟨rfl, f1'⟩ := f1 hl
          clear f2 hb f1
          simp only [letB, Bool.or_eq_true, Bool.and_eq_true, decide_eq_true_eq] at hl
          go_wp2
          all_goals (try simp only [Bool.not_eq_true', Bool.not_eq_false', decide_eq_true_eq, decide_eq_false_iff_not, bne_iff_ne, bne_eq_false_iff_eq, Bool.and_eq_true, Bool.or_eq_true, Bool.and_eq_false_iff, Bool.or_eq_false_iff, beq_iff_eq, beq_eq_false_iff_ne, ne_eq] at *)
          all_goals first
            | (exfalso; omega)
            | (refine ⟨⟨0 + 1, rfl, by omega, ?_⟩, ?_⟩
               · rw [f1']; simp
               · simp; omega)
        | false =>
          have f2' := nameB_false (f2 hl)
          clear f1 f2 hb
          simp only [letB, Bool.or_eq_false_iff, Bool.and_eq_false_iff, decide_eq_false_iff_not] at hl
          go_wp2
          all_goals (try simp only [Bool.not_eq_true', Bool.not_eq_false', decide_eq_true_eq, decide_eq_false_iff_not, bne_iff_ne, bne_eq_false_iff_eq, Bool.and_eq_true, Bool.or_eq_true, Bool.and_eq_false_iff, Bool.or_eq_false_iff, beq_iff_eq, beq_eq_false_iff_ne, ne_eq] at *)
          all_goals first
            | (exfalso; omega)
            | (go_ret; exact ⟨by first | (rw [f2']; rfl) | rfl, _, rfl⟩)
      · generalize Utf8.decode ⟨⟨s⟩⟩ pos = dk at *
        obtain ⟨d, k⟩ := dk
        have hz : decide (pos = 0) = false := by simp; omega
        rw [hz] at f1 f2
        simp only at f1 f2 f3 hnx
        simp only [nm_next] at f1 f2
        cases hl : (letB d || (decide (d = 95) || digB d)) with
        | true =>
          obtain ⟨rfl, f1'⟩ := f1 hl
          clear f2 hb f1
          simp only [letB, digB, Bool.or_eq_true, Bool.and_eq_true, decide_eq_true_eq] at hl
          go_wp2
          all_goals (try simp only [Bool.not_eq_true', Bool.not_eq_false', decide_eq_true_eq, decide_eq_false_iff_not, bne_iff_ne, bne_eq_false_iff_eq, Bool.and_eq_true, Bool.or_eq_true, Bool.and_eq_false_iff, Bool.or_eq_false_iff, beq_iff_eq, beq_eq_false_iff_ne, ne_eq] at *)
          all_goals first
            | (exfalso; omega)
            | (refine ⟨⟨pos + 1, rfl, by omega, ?_⟩, ?_⟩
               · rw [f1']; simp
               · simp; omega)
        | false =>
          have f2' := nameB_false (f2 hl)
          clear f1 f2 hb
          simp only [letB, digB, Bool.or_eq_false_iff, Bool.and_eq_false_iff, decide_eq_false_iff_not] at hl
          go_wp2
          all_goals (try simp only [Bool.not_eq_true', Bool.not_eq_false', decide_eq_true_eq, decide_eq_false_iff_not, bne_iff_ne, bne_eq_false_iff_eq, Bool.and_eq_true, Bool.or_eq_true, Bool.and_eq_false_iff, Bool.or_eq_false_iff, beq_iff_eq, beq_eq_false_iff_ne, ne_eq] at *)
          all_goals first
            | (exfalso; omega)
            | (go_ret; exact ⟨by first | (rw [f2']; rfl) | rfl, _, rfl⟩)
    · have hsz : ¬ pos < (⟨⟨s⟩⟩ : ByteArray).size := hps
      have hnx : ∀ ty, (Instr.next (.pointer (some ⟨w.heap.size, 0, none⟩)) true ty).run Tryz.prog (w.iter ⟨⟨s⟩⟩ pos) = _ := fun ty => run_next_end w ⟨⟨s⟩⟩ pos ty hsz
      have hn : nameB s = (!decide (s = []) && decide (s.length ≤ 16)) := by
        unfold nameB
        rw [hb, List.drop_eq_nil_of_le (by omega)]
        rfl
      clear hb
      rcases s with _ | ⟨x, s⟩
      · go_wp2
        go_ret
        exact ⟨by first | (rw [hn]; rfl) | rfl, _, rfl⟩
      · have hx : decide (x :: s = []) = false := by simp
        rw [hx] at hn
        go_wp2
        go_ret
        exact ⟨by first | (rw [hn, ← nm_len1]; rfl) | (rw [hn, ← nm_len2]; rfl), _, rfl⟩
theorem ok_IsName : FnOk Tryz.prog F_IsName 10 := by
  refine str_fn (fun vs w => enters_at (c := bodyC Tryz.f10) Tryz.func10 (by kernel_rfl) (by kernel_rfl) vs w) ?_
  intro x r w h
  have h : some (nameB x, ()) = some r := h
  cases h
  refine (name_walk x w).mono ?_
  rintro e w' ⟨rfl, pos, rfl⟩
  exact ⟨(Below.refl _ w).alloc (Nat.le_refl _) _, _, rfl, fun w'' Z => ⟨_, rfl, Cx.R_bool.2 rfl⟩⟩
def s_kinds (a : Unit) : Option (List (List UInt8) × Unit) := some ([[], [108, 105, 115, 116], [100, 101, 108, 105, 109], [104, 111, 108, 101]], ())
noncomputable def F_kinds : FSpec cx.toNm := { ps := [], nres := 1, rt := t5, rm := .ro, f := s_kinds }
theorem kinds_walk (w : World) : Calls Tryz.prog 19 #[] w fun e w' => e = .returned (.slice (some ⟨w.heap.size, 0, none⟩) 4 4) ∧ w' = w.alloc (.cells #[.string ⟨#[]⟩, .string ⟨#[108, 105, 115, 116]⟩, .string ⟨#[100, 101, 108, 105, 109]⟩, .string ⟨#[104, 111, 108, 101]⟩] 9) := by
  go_enter Tryz.func19, Tryz.ntmps19
  go_wp2
  go_ret
  exact ⟨rfl, rfl⟩
theorem ok_kinds : FnOk Tryz.prog F_kinds 19 := by
  intro w Z own vs x r hZ hown hA hG hx
  match vs, hA with
  | [], hA =>
    have hx : s_kinds () = some r := hx
    cases hx
    unfold Enters
    rw [enters_at (c := bodyC Tryz.f19) Tryz.func19 (by kernel_rfl) (by kernel_rfl)]
    refine (kinds_walk w).mono ?_
    rintro e w' ⟨rfl, rfl⟩
    generalize hC : (#[.string ⟨#[]⟩, .string ⟨#[108, 105, 115, 116]⟩, .string ⟨#[100, 101, 108, 105, 109]⟩, .string ⟨#[104, 111, 108, 101]⟩] : Array Value) = C
    have hw : Below w.heap.size w (w.alloc (.cells C 9)) := (Below.refl _ w).alloc (Nat.le_refl _) _
    have hblk : (w.alloc (.cells C 9)).heap[w.heap.size]? = some (.cells C 9 (0, 0)) := (MapKept.heap_alloc w _).1
    have hlt : w.heap.size < (w.alloc (.cells C 9)).heap.size := (Array.getElem?_eq_some_iff.1 hblk).1
    have hno : own w.heap.size = none := by
      cases e : own w.heap.size with
      | none => rfl
      | some o => have := hown w.heap.size (by rw [e]; simp); omega
    generalize w.alloc (.cells C 9) = w' at *
    refine ⟨_, rfl, own, left_same hown hw, Res1.of (rt := t5) (rm := .ro) (x := [[], [108, 105, 115, 116], [100, 101, 108, 105, 109], [104, 111, 108, 101]]) ⟨[.slice (some ⟨w.heap.size, 0, none⟩) 4 4], rfl, OW_ro.2 (Cx.R_slice.2 ⟨_, 4, rfl, Nat.le_refl _, fun i y hy => ?_⟩)⟩, trivial⟩
    refine ⟨w.heap.size, 0, [.string ⟨⟨y⟩⟩], rfl, ⟨.inr (.inl (Nat.le_refl _)), hlt, hno⟩, ?_, Cx.R_str.2 rfl⟩
    unfold cellsAt
    rw [hblk]
    subst hC
    match i, hy with
    | 0, hy => cases hy; rfl
    | 1, hy => cases hy; rfl
    | 2, hy => cases hy; rfl
    | 3, hy => cases hy; rfl
    | _ + 4, hy => cases hy
  | _ :: _, hA => exact hA.elim
end Go.Proofs.YtogipciicekmoaaGreatDoor.Vm.Gz
