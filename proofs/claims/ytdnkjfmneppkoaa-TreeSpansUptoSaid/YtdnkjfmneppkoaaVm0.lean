/- A reader of the model s code over plain data, and that it is right of the machine (0). -/
import GoSem.Dispatch
import GoSem.Step
import Derived.Control
import Derived.WalkSmall
import Derived.WalkKit
import Derived.LaidEqlPtr
import Derived.LaidEql
import Derived.Laws.StructEq
namespace Go.Proofs.Ytdnkjfmneppkoaa.Vm
inductive Ty where
  | int (k : IntKind)
  | bool
  | str
  | slice (e : Nat) (t : Ty)
  | pair (a b : Ty)
  | agg (t : Ty)
  | ptr (n : Nat)
  | named (n : Nat)
  | unit
  | arr (n : Nat) (t : Ty)
  | box (t : Ty)
  | clo (f : Nat) (u : Ty)
  | map (k v : Ty)
  | lptr (n : Nat)
  deriving DecidableEq
inductive Mode where
  | ro
  | own (m : Mode)
  | pr (a b : Mode)
  | dd
  deriving DecidableEq
def Mode.isRo : Mode → Bool | .ro => true | _ => false
def Mode.mk (a b : Mode) : Mode := match a, b with | .ro, .ro => .ro | a, b => .pr a b
def Mode.fst : Mode → Mode | .pr a _ => a | .own _ => .ro | m => m
def Mode.snd : Mode → Mode | .pr _ b => b | .own _ => .ro | m => m
def Mode.elem : Mode → Mode | .own m => m | .pr _ _ => .ro | m => m
structure Nm where
  N : Nat → Type
  body : Nat → Ty
  nsz : Nat → Nat
def Nm.den (M : Nm) : Ty → Type
  | .int _ => Int
  | .bool => Bool
  | .str => List UInt8
  | .slice _ t => List (M.den t)
  | .pair a b => M.den a × M.den b
  | .agg t => M.den t
  | .ptr n => Option (M.N n)
  | .named n => M.N n
  | .unit => Unit
  | .arr _ t => List (M.den t)
  | .box t => M.den t
  | .clo _ u => M.den u
  | .map k v => List (M.den k × M.den v)
  | .lptr n => Option (Nat × M.N n)
structure Cx extends Nm where
  out : (n : Nat) → N n → toNm.den (body n)
  pk : (n : Nat) → toNm.den (body n) → N n
  dflt : (n : Nat) → N n
  /-- The variables that are never written: their blocks, what they hold. -/
  globs : List (Nat × ((t : Ty) × toNm.den t)) := []
def Nm.size (M : Nm) : Ty → Nat
  | .pair a b => M.size a + M.size b
  | .agg t => M.size t
  | .named n => M.nsz n
  | .unit => 0
  | .arr n t => n * M.size t
  | _ => 1
def Cx.zero (S : Cx) : (t : Ty) → S.den t
  | .int _ => (0 : Int)
  | .bool => false
  | .str => ([] : List UInt8)
  | .slice _ _ => []
  | .pair a b => (S.zero a, S.zero b)
  | .agg t => S.zero t
  | .ptr _ => none
  | .named n => S.dflt n
  | .unit => ()
  | .arr n t => List.replicate n (S.zero t)
  | .box t => S.zero t
  | .clo _ u => S.zero u
  | .map _ _ => []
  | .lptr _ => none
def Nm.cast (M : Nm) (a b : Ty) (x : M.den a) : Option (M.den b) :=
  match decEq a b with
  | isTrue h => some (h ▸ x)
  | isFalse _ => none
def Cx.un (S : Cx) : Ty → Ty
  | .named n => S.body n
  | t => t
def Cx.unx (S : Cx) : (t : Ty) → S.den t → S.den (S.un t)
  | .named n, x => S.out n x
  | .int _, x => x
  | .bool, x => x
  | .str, x => x
  | .slice _ _, x => x
  | .pair _ _, x => x
  | .agg _, x => x
  | .ptr _, x => x
  | .unit, x => x
  | .arr _ _, x => x
  | .box _, x => x
  | .clo _ _, x => x
  | .map _ _, x => x
  | .lptr _, x => x
def Cx.rl (S : Cx) : (t : Ty) → S.den (S.un t) → S.den t
  | .named n, x => S.pk n x
  | .int _, x => x
  | .bool, x => x
  | .str, x => x
  | .slice _ _, x => x
  | .pair _ _, x => x
  | .agg _, x => x
  | .ptr _, x => x
  | .unit, x => x
  | .arr _ _, x => x
  | .box _, x => x
  | .clo _ _, x => x
  | .map _ _, x => x
  | .lptr _, x => x
def Ty.isNamed : Ty → Bool | .named _ => true | _ => false
inductive Root where
  | slot (i : Nat)
  | mem (k : Nat)
  | lim
  deriving DecidableEq
inductive Step where
  | fst | snd | inn | idx (i : Nat) | el (i : Nat)
  deriving DecidableEq
abbrev Path := List Step
inductive Cap (M : Nm) where
  | m (k : Nat)
  | d (t : Ty) (x : M.den t)
inductive AVal (M : Nm) where
  | dead
  | und
  | v (t : Ty) (m : Mode) (x : M.den t)
  | tup (t : Ty) (m : Mode) (x : M.den t)
  | rp (t : Ty) (x : M.den t)
  | ref (r : Root) (p : Path)
  | addr (r : Root) (p : Path)
  | fn (f : Nat) (cs : List (Cap M))
structure MV (M : Nm) where
  t : Ty
  m : Mode
  x : M.den t
structure St (M : Nm) where
  vars : List (Nat × AVal M)
  scr : List (Nat × AVal M)
  mems : List (Nat × MV M)
def upd {α : Type} : List (Nat × α) → Nat → α → List (Nat × α)
  | [], d, a => [(d, a)]
  | (k, b) :: l, d, a => match k == d with
    | true => (k, a) :: l
    | false => (k, b) :: upd l d a
section
variable {M : Nm}
def St.look (st : St M) (i : Nat) : AVal M :=
  match st.vars.lookup i with
  | some a => a
  | none => match st.scr.lookup i with
    | some a => a
    | none => .dead
end
inductive OT where
  | done
  | step (i : Nat) (t : OT)
  | both (t u : OT)
structure Hint where
  vs : List Nat
  nil : List (Nat × Mode) := []
  cuts : List (Nat × (List Nat × List Nat) × (List Nat × List Nat)) := []
  exits : List (Nat × (List Nat × List Nat)) := []
  ret : List Nat × List Nat
  ords : List (Nat × List Nat) := []
  seps : List (Nat × List (Nat × Nat)) := []
  trees : List (Nat × OT) := []
  fns : List (Nat × List Bool) := []
  clos : List (Nat × Ty) := []
section
variable {M : Nm}
def Step.isIdx : Step → Bool | .idx _ => true | _ => false
def Path.plain (p : Path) : Bool := !p.any Step.isIdx
def AVal.hangs (r : Root) : AVal M → Bool
  | .ref s _ => decide (r = s)
  | .addr s p => decide (r = s) && !p.plain
  | _ => false
def Cap.rooted (r : Root) : Cap M → Bool
  | .m k => decide (r = .mem k)
  | .d _ _ => false
def AVal.rooted (r : Root) : AVal M → Bool
  | .ref s _ => decide (r = s)
  | .addr s _ => decide (r = s)
  | .fn _ cs => cs.any (Cap.rooted r)
  | _ => false
def AVal.deep : AVal M → Bool
  | .ref _ p => !p.plain
  | .addr _ p => !p.plain
  | _ => false
def killIn (f : AVal M → Bool) (l : List (Nat × AVal M)) : List (Nat × AVal M) := l.map fun x => (x.1, match f x.2 with | true => .dead | false => x.2)
def St.killBy (st : St M) (f : AVal M → Bool) : St M := { st with vars := killIn f st.vars, scr := killIn f st.scr }
def Root.isSlot : Root → Bool | .slot _ => true | _ => false
def AVal.hangT (r : Root) : AVal M → Bool
  | .ref s p => decide (r = s) && (r.isSlot || !p.plain)
  | .addr s p => decide (r = s) && !p.plain
  | _ => false
def St.killT (st : St M) (r : Root) : St M := st.killBy (AVal.hangT r)
def St.kill (st : St M) (r : Root) : St M := st.killBy (AVal.hangs r)
def St.killW (st : St M) (r : Root) : St M := st.killBy (fun a => a.hangs r || a.deep)
def AVal.rowIn (r : Root) (p : Path) : AVal M → Bool
  | .ref s q => match p with
    | [.idx _, .idx _] => match q with
      | [.idx _] => decide (r = s)
      | _ => false
    | _ => false
  | _ => false
def St.killS (st : St M) (r : Root) (p : Path) : St M := match p.plain with
  | true => st.killW r
  | false => st.killBy (fun a => a.deep && !a.rowIn r p)
def St.drop (st : St M) (r : Root) : St M := st.killBy (AVal.rooted r)
def St.put0 (h : Hint) (st : St M) (d : Nat) (a : AVal M) : St M :=
  match st.vars.lookup d with
  | some _ => { st with vars := upd st.vars d a }
  | none => match h.vs.contains d with
    | true => { st with vars := upd st.vars d a }
    | false => { st with scr := (d, a) :: st.scr }
def Cap.okAt (f : Root → Bool) : Cap M → Bool
  | .m k => f (.mem k)
  | .d _ _ => true
def AVal.based (f : Root → Bool) : AVal M → AVal M
  | .ref r p => match f r with
    | true => .ref r p
    | false => .dead
  | .addr r p => match f r with
    | true => .addr r p
    | false => .dead
  | .fn g cs => match cs.all (Cap.okAt f) with
    | true => .fn g cs
    | false => .dead
  | a => a
def St.inVars (st : St M) : Root → Bool
  | .slot s => match st.vars.lookup s with
    | some _ => true
    | none => false
  | .mem _ => true
  | .lim => false
def St.clear (st : St M) : St M := { vars := st.vars.map fun x => (x.1, x.2.based st.inVars), scr := [], mems := st.mems }
def St.put (h : Hint) (st : St M) (d : Nat) (a : AVal M) : St M :=
  match st.look d with
  | .v _ m _ => match m with
    | .ro => st.put0 h d a
    | _ => (st.kill (.slot d)).put0 h d a
  | _ => st.put0 h d a
end
def Ty.isMap : Ty → Bool | .map _ _ => true | _ => false
def Ty.isClo : Ty → Bool | .clo _ _ => true | _ => false
abbrev mapM : Mode := .pr .dd .dd
def Mode.live : Mode → Bool
  | .ro => true
  | .own m => m.live
  | .pr a b => a.live && b.live
  | .dd => false
section
variable {S : Cx}
def Cx.getP (S : Cx) : (t : Ty) → Mode → Path → S.den t → Option (MV S.toNm)
  | t, m, [], x => some ⟨t, m, x⟩
  | .pair a _, m, .fst :: p, x => S.getP a m.fst p x.1
  | .pair _ b, m, .snd :: p, x => S.getP b m.snd p x.2
  | .agg t, m, .inn :: p, x => S.getP t m p x
  | .slice _ t, m, .idx i :: p, l => S.getP t m.elem p (List.getD l i (S.zero t))
  | .arr _ t, m, .el i :: p, l => S.getP t m.elem p (List.getD l i (S.zero t))
  | _, _, _ :: _, _ => none
def Cx.setP (S : Cx) (t' : Ty) (m' : Mode) (y : S.den t') : (t : Ty) → Mode → Path → S.den t → Option (Mode × S.den t)
  | t, _, [], _ => match S.cast t' t y with
    | some z => some (m', z)
    | none => none
  | .pair a _, m, .fst :: p, x => match S.setP t' m' y a m.fst p x.1 with
    | some (n, z) => some (Mode.mk n m.snd, (z, x.2))
    | none => none
  | .pair _ b, m, .snd :: p, x => match S.setP t' m' y b m.snd p x.2 with
    | some (n, z) => some (Mode.mk m.fst n, (x.1, z))
    | none => none
  | .agg t, m, .inn :: p, x => match S.setP t' m' y t m p x with
    | some (n, z) => some (n, z)
    | none => none
  | .slice _ t, .own e, .idx i :: p, l => match S.setP t' m' y t e p (List.getD l i (S.zero t)) with
    | some (n, z) => match decEq n e with
      | isTrue _ => some (.own e, List.set l i z)
      | isFalse _ => none
    | none => none
  | .arr _ t, m, .el i :: p, l => match m with
    | .ro => match S.setP t' m' y t .ro p (List.getD l i (S.zero t)) with
      | some (n, z) => match n with
        | .ro => some (.ro, List.set l i z)
        | _ => none
      | none => none
    | _ => none
  | _, _, _ :: _, _ => none
def fieldGo : Ty → Nat → Option Path
  | .pair _ _, 0 => some [.fst]
  | .pair _ b, i + 1 => match fieldGo b i with
    | some p => some (.snd :: p)
    | none => none
  | .arr _ _, _ => none
  | _, 0 => some []
  | _, _ => none
def fieldPath : Ty → Nat → Option Path
  | .agg t, i => match fieldGo t i with
    | some p => some (.inn :: p)
    | none => none
  | _, _ => none
def partGo : Ty → Nat → Option Path
  | .arr n _, i => match decide (i < n) with
    | true => some [.el i]
    | false => none
  | t, i => fieldGo t i
def partPath : Ty → Nat → Option Path
  | .agg t, i => match partGo t i with
    | some p => some (.inn :: p)
    | none => none
  | _, _ => none
def St.root (st : St S.toNm) : Root → Option (MV S.toNm)
  | .slot i => match st.look i with
    | .v t m x => some ⟨t, m, x⟩
    | _ => none
  | .mem k => st.mems.lookup k
  | .lim => none
def St.at (st : St S.toNm) (r : Root) (p : Path) : Option (MV S.toNm) :=
  match st.root r with
  | some ⟨t, m, x⟩ => S.getP t m p x
  | none => none
def St.setRoot (st : St S.toNm) (r : Root) (c : MV S.toNm) : St S.toNm :=
  match r with
  | .slot i => match st.vars.lookup i with
    | some _ => { st with vars := upd st.vars i (.v c.t c.m c.x) }
    | none => { st with scr := upd st.scr i (.v c.t c.m c.x) }
  | .mem k => { st with mems := upd st.mems k c }
  | .lim => st
def St.setAt (st : St S.toNm) (r : Root) (p : Path) (c : MV S.toNm) : Option (St S.toNm) :=
  match st.root r with
  | some ⟨t, m, x⟩ => match S.setP c.t c.m c.x t m p x with
    | some (n, z) => some (st.setRoot r ⟨t, n, z⟩)
    | none => none
  | none => none
end
end Go.Proofs.Ytdnkjfmneppkoaa.Vm
namespace Go.Proofs.Ytdnkjfmneppkoaa.Vm
inductive PK where
  | val (t : Ty)
  | io (t : Ty) (m : Mode)
  | fn (f n : Nat)
  | own (t : Ty) (m : Mode)
  deriving DecidableEq
def PK.ty : PK → Ty | .val t => t | .io t _ => t | .fn _ _ => .unit | .own t _ => t
def packTy : List Ty → Ty
  | [] => .unit
  | t :: ts => .pair t (packTy ts)
def outs : List PK → List (Ty × Mode)
  | [] => []
  | .val _ :: l => outs l
  | .io t m :: l => (t, m) :: outs l
  | .fn _ _ :: l => outs l
  | .own _ _ :: l => outs l
def outT : List (Ty × Mode) → List Ty
  | [] => []
  | o :: l => o.1 :: outT l
def argT : List PK → List Ty
  | [] => []
  | p :: l => p.ty :: argT l
def resTy (rt : Ty) (os : List Ty) : Ty := .pair rt (packTy os)
def ioBase : Nat := 1000000
def ownBase : Nat := 2000000
structure OSpec (M : Nm) where
  e : Nat
  u : Ty
  ps : List PK
  two : Bool
  f : List (M.den u) → M.den (packTy (argT ps)) → List (M.den u) → Option (List (M.den u))
structure RSpec (M : Nm) where
  e : Nat
  u : Ty
  ps : List PK
  f : List (M.den u) → M.den (packTy (argT ps)) → Option (List (M.den u))
structure FSpec (M : Nm) where
  ps : List PK
  nres : Nat
  rt : Ty
  rm : Mode
  f : M.den (packTy (argT ps)) → Option (M.den (resTy rt (outT (outs ps))))
  o : Option (OSpec M) := none
  /-- It may give up: the type of what it panics with; what it answers, or (none) that it gives up. -/
  p : Option (Nat × (M.den (packTy (argT ps)) → Option (Option (M.den (resTy rt (outT (outs ps))))))) := none
  r : Option (RSpec M) := none
  /-- What it answers is not known but for what is told of it. -/
  l : Option (M.den (packTy (argT ps)) → Option (M.den (resTy rt (outT (outs ps))) → Prop)) := none
structure Env (S : Cx) where
  tys : List (Nat × Ty)
  fs : Nat → Option (FSpec S.toNm)
  wr : Bool := false
  /-- The type of what calls may panic with. -/
  pt : Nat := 0
def Env.is {S : Cx} (E : Env S) (n : Nat) (t : Ty) : Bool :=
  match E.tys.lookup n with
  | some u => match decEq u t with
    | isTrue _ => true
    | isFalse _ => false
  | none => false
def Env.isB {S : Cx} (E : Env S) (n : Nat) (t : Ty) : Bool :=
  match t with
  | .clo _ _ => match E.tys.lookup n with
    | some u => match u with
      | .clo _ _ => true
      | _ => false
    | none => false
  | t => E.is n t
section
variable {S : Cx} {α : Type}
abbrev AV (S : Cx) := AVal S.toNm
abbrev ST (S : Cx) := St S.toNm
def Cx.lit (S : Cx) : (t : Ty) → Value → Option (S.den t)
  | .int k, .int k' n => match decEq k k' with
    | isTrue _ => some n
    | isFalse _ => none
  | .bool, .bool b => some b
  | .str, .string s => some s.data.toList
  | .slice _ _, .slice none 0 0 => some ([] : List _)
  | .ptr _, .pointer none => some none
  | .lptr _, .pointer none => some none
  | _, _ => none
def St.av (E : Env S) (st : ST S) (x : Operand) (ty : Nat) : AV S :=
  match x with
  | .tmp s => match st.look s with
    | .v t m x => match m with
      | .ro => .v t .ro x
      | _ => .ref (.slot s) []
    | a => a
  | .const v => match v with
    | .int k n => .v (.int k) .ro n
    | .bool b => .v .bool .ro b
    | .string s => .v .str .ro s.data.toList
    | v => match E.tys.lookup ty with
      | some t => match S.lit t v with
        | some x => .v t .ro x
        | none => .dead
      | none => .dead
  | .global k => match S.globs.lookup k with
    | some y => .rp y.1 y.2
    | none => .dead
  | .func g => .v (.clo g .unit) .ro ()
def St.cont (st : ST S) : AV S → Option (MV S.toNm)
  | .v t m x => some ⟨t, m, x⟩
  | .ref r p => match st.at r p with
    | some c => match c.m.live with
      | true => some c
      | false => none
    | none => none
  | _ => none
def St.val (E : Env S) (st : ST S) (x : Operand) (ty : Nat) : Option (MV S.toNm) := st.cont (st.av E x ty)
def asInt : Option (MV S.toNm) → Option (IntKind × Int)
  | some ⟨.int k, _, x⟩ => some (k, x)
  | _ => none
def asBool : Option (MV S.toNm) → Option Bool
  | some ⟨.bool, _, x⟩ => some x
  | _ => none
-- The kernel looks through what is defined over more first. So what stands at a border ('cutK') is defined over little, what printed functions say over least, and all else over more.
def iteB (c : Bool) (a b : Option α) : Option α := match c with | true => a | false => b
def mustR (b : Bool) (κ : Option α) : Option α := match b with | true => κ | false => none
def bindR {β : Type} (x : Option β) (κ : β → Option α) : Option α := match x with | some y => κ y | none => none
def bindQ {β : Type} (x : Option (Option β)) (π : Option α) (κ : β → Option α) : Option α := match x with | none => none | some none => π | some (some y) => κ y
def one : Bool := true
def two : Bool := one
def cutK {γ : Type} (rb : ST S → γ → Option α) (st : ST S) (κ : γ) : Option α := match one with | true => rb st κ | false => none
def ask (b : Bool) (κ : Bool → Option α) : Option α := match two with | true => (match b with | true => κ true | false => κ false) | false => none
def must (b : Bool) (κ : Option α) : Option α := match two with | true => (match b with | true => κ | false => none) | false => none
def St.less (st : ST S) (k : Nat) : ST S := { st.drop (.mem k) with mems := st.mems.filter fun p => !(p.1 == k) }
def St.ptrOf (st : ST S) (A : AV S) (want : Ty) : Option (MV S.toNm × ST S) :=
  match want with
  | .ptr n => match A with
    | .addr r p => match r with
      | .mem k => match p with
        | [] => match st.mems.lookup k with
          | some ⟨t, m, x⟩ => match m.live with
            | true => match S.cast t (S.body n) x with
              | some y => some (⟨.ptr n, .ro, some (S.pk n y)⟩, st.less k)
              | none => none
            | false => none
          | none => none
        | _ => none
      | _ => none
    | _ => none
  | _ => none
def Cap.boxed (k : Nat) (t : Ty) (x : S.den t) : Cap S.toNm → Cap S.toNm
  | .m j => match decide (j = k) with
    | true => .d t x
    | false => .m j
  | c => c
def AVal.boxed (k : Nat) (t : Ty) (x : S.den t) : AV S → AV S
  | .addr r p => match decide (r = .mem k) with
    | true => match p with
      | [] => .rp t x
      | _ => .dead
    | false => .addr r p
  | .ref r p => match decide (r = .mem k) with
    | true => .dead
    | false => .ref r p
  | .fn f cs => .fn f (cs.map (Cap.boxed k t x))
  | a => a
def St.lessR (st : ST S) (k : Nat) (t : Ty) (x : S.den t) : ST S :=
  { vars := st.vars.map fun p => (p.1, AVal.boxed k t x p.2), scr := st.scr.map fun p => (p.1, AVal.boxed k t x p.2), mems := st.mems.filter fun p => !(p.1 == k) }
def capOne (st : ST S) (x : Operand) : Option (MV S.toNm × ST S) :=
  match x with
  | .tmp s => match st.look s with
    | .rp t y => some (⟨.box t, .ro, y⟩, st)
    | .addr r p => match r with
      | .mem k => match p with
        | [] => match st.mems.lookup k with
          | some ⟨t, m, y⟩ => match m.live with
            | true => some (⟨.box t, .ro, y⟩, st.lessR k t y)
            | false => none
          | none => none
        | _ => none
      | _ => none
    | _ => none
  | _ => none
def capGo : List Operand → ST S → Option (MV S.toNm × ST S)
  | [], st => some (⟨.unit, .ro, ()⟩, st)
  | x :: xs, st => match capOne st x with
    | some (c, st1) => match capGo xs st1 with
      | some (d, st2) => some (⟨.pair c.t d.t, .ro, (c.x, d.x)⟩, st2)
      | none => none
    | none => none
def capFrz : List Bool → List Operand → ST S → Option (ST S)
  | b :: bs, x :: xs, st => match b with
    | true => capFrz bs xs st
    | false => match capOne st x with
      | some (_, st') => capFrz bs xs st'
      | none => none
  | _, _, st => some st
def capsAt (st : ST S) : List Operand → Option (List (Cap S.toNm))
  | [] => some []
  | x :: xs => match capAt st x, capsAt st xs with
    | some c, some cs => some (c :: cs)
    | _, _ => none
  where
  capAt (st : ST S) : Operand → Option (Cap S.toNm)
  | .tmp s => match st.look s with
    | .rp t y => some (.d t y)
    | .addr r p => match r with
      | .mem k => match p with
        | [] => some (.m k)
        | _ => none
      | _ => none
    | _ => none
  | _ => none
def St.ptrAt (E : Env S) (st : ST S) (A : AV S) (ty : Nat) : Option (MV S.toNm × ST S) :=
  match E.tys.lookup ty with
  | some t => st.ptrOf A t
  | none => none
def St.take (E : Env S) (st : ST S) (x : Operand) (ty : Nat) : Option (MV S.toNm × ST S) :=
  match x with
  | .tmp s => match st.look s with
    | .v t m x => match m with
      | .ro => some (⟨t, .ro, x⟩, st)
      | m => match m.live with
        | true => some (⟨t, m, x⟩, (st.kill (.slot s)).setRoot (.slot s) ⟨t, .dd, x⟩)
        | false => none
    | .ref r p => match st.at r p with
      | some ⟨t, m, x⟩ => match m.live with
        | true => match (st.killT r).setAt r p ⟨t, .dd, x⟩ with
          | some st' => some (⟨t, m, x⟩, st')
          | none => none
        | false => none
      | none => none
    | A => st.ptrAt E A ty
  | x => match st.av E x ty with
    | .v t m x => some (⟨t, m, x⟩, st)
    | _ => none
def St.frz (E : Env S) (st : ST S) (x : Operand) (ty : Nat) : Option (MV S.toNm × ST S) :=
  match st.av E x ty with
  | .v t _ x => some (⟨t, .ro, x⟩, st)
  | .ref r p => match st.at r p with
    | some ⟨t, m, x⟩ => match m.live with
      | true => match (st.killT r).setAt r p ⟨t, .ro, x⟩ with
        | some st' => some (⟨t, .ro, x⟩, st')
        | none => none
      | false => none
    | none => none
  | A => st.ptrAt E A ty
def St.frzR (E : Env S) (st : ST S) (i : Nat) (t : Ty) : Option (MV S.toNm × ST S) :=
  match st.look i with
  | .addr r p => st.ptrOf (.addr r p) t
  | _ => st.frz E (.tmp i) 0
def hFrz (h : Hint) : Operand → Bool
  | .tmp i => match h.nil.lookup i with
    | some .ro => true
    | _ => false
  | _ => false
def St.takeS (E : Env S) (st : ST S) (fz : Bool) (x : Operand) (ty : Nat) : Option (MV S.toNm × ST S) := match fz with
  | true => st.frz E x ty
  | false => st.take E x ty
def St.takeT (E : Env S) (st : ST S) (x : Operand) (want : Ty) : Option (MV S.toNm × ST S) :=
  match x with
  | .tmp s => match st.look s with
    | .addr r p => st.ptrOf (.addr r p) want
    | _ => st.take E x 0
  | x => st.take E x 0
def intOp (op : BinOp) (k : IntKind) (a b : Int) : Option (MV S.toNm) :=
  match op with
  | .add => some ⟨.int k, .ro, k.wrap (a + b)⟩
  | .sub => some ⟨.int k, .ro, k.wrap (a - b)⟩
  | .mul => some ⟨.int k, .ro, k.wrap (a * b)⟩
  | .eql => some ⟨.bool, .ro, decide (a = b)⟩
  | .neq => some ⟨.bool, .ro, !decide (a = b)⟩
  | .lss => some ⟨.bool, .ro, decide (a < b)⟩
  | .leq => some ⟨.bool, .ro, decide (a ≤ b)⟩
  | .gtr => some ⟨.bool, .ro, decide (b < a)⟩
  | .geq => some ⟨.bool, .ro, decide (b ≤ a)⟩
  | _ => none
def bitI (op : BinOp) (k : IntKind) (x y : Int) : Int :=
  match op with
  | .and => k.wrap ((BitVec.ofInt k.bits x &&& BitVec.ofInt k.bits y).toNat : Int)
  | .or => k.wrap ((BitVec.ofInt k.bits x ||| BitVec.ofInt k.bits y).toNat : Int)
  | .xor => k.wrap ((BitVec.ofInt k.bits x ^^^ BitVec.ofInt k.bits y).toNat : Int)
  | _ => k.wrap ((BitVec.ofInt k.bits x &&& ~~~BitVec.ofInt k.bits y).toNat : Int)
def notI (k : IntKind) (y : Int) : Int := bitI .xor k (if k.signed then -1 else k.max) y
def shlI (k : IntKind) (x y : Int) : Int := k.wrap (x * 2 ^ min y.toNat k.bits)
def shrI (k : IntKind) (x y : Int) : Int := x.fdiv (2 ^ min y.toNat k.bits)
def binI (op : BinOp) (k : IntKind) (x y : Int) (κ : MV S.toNm → Option α) : Option α :=
  match op with
  | .quo => must (!decide (y = 0)) (κ ⟨.int k, .ro, k.wrap (Int.tdiv x y)⟩)
  | .rem => must (!decide (y = 0)) (κ ⟨.int k, .ro, Int.tmod x y⟩)
  | .and => κ ⟨.int k, .ro, bitI .and k x y⟩
  | .or => κ ⟨.int k, .ro, bitI .or k x y⟩
  | .xor => κ ⟨.int k, .ro, bitI .xor k x y⟩
  | .andNot => κ ⟨.int k, .ro, bitI .andNot k x y⟩
  | op => match intOp (S := S) op k x y with
    | some r => κ r
    | none => none
def binShift (op : BinOp) (k : IntKind) (x y : Int) (κ : MV S.toNm → Option α) : Option α :=
  match op with
  | .shl => must (decide (0 ≤ y)) (κ ⟨.int k, .ro, shlI k x y⟩)
  | .shr => must (decide (0 ≤ y)) (κ ⟨.int k, .ro, shrI k x y⟩)
  | _ => none
def isShift : BinOp → Bool
  | .shl => true
  | .shr => true
  | _ => false
def binB (op : BinOp) (x y : Bool) (κ : MV S.toNm → Option α) : Option α :=
  match op with
  | .eql => κ ⟨.bool, .ro, x == y⟩
  | .neq => κ ⟨.bool, .ro, !(x == y)⟩
  | _ => none
def binS (op : BinOp) (x y : List UInt8) (κ : MV S.toNm → Option α) : Option α :=
  match op with
  | .eql => κ ⟨.bool, .ro, decide (x = y)⟩
  | .neq => κ ⟨.bool, .ro, !decide (x = y)⟩
  | .lss => κ ⟨.bool, .ro, Op.bytesLess x y⟩
  | .leq => κ ⟨.bool, .ro, Op.bytesLess x y || decide (x = y)⟩
  | .gtr => κ ⟨.bool, .ro, !(Op.bytesLess x y || decide (x = y))⟩
  | .geq => κ ⟨.bool, .ro, !Op.bytesLess x y⟩
  | .add => must (decide (x.length + y.length ≤ 140737488355328)) (κ ⟨.str, .ro, x ++ y⟩)
  | _ => none
def binP {β γ : Type} (op : BinOp) (x : Option β) (y : Option γ) (κ : MV S.toNm → Option α) : Option α :=
  match two with
  | true => match op, y with
    | .eql, none => κ ⟨.bool, .ro, x.isNone⟩
    | .neq, none => κ ⟨.bool, .ro, !x.isNone⟩
    | _, _ => none
  | false => none
def Ty.eqable : Ty → Bool
  | .int _ => true
  | .bool => true
  | .str => true
  | .pair a b => a.eqable && b.eqable
  | .agg t => t.eqable
  | .arr _ t => match t with
    | .int _ => true
    | _ => false
  | _ => false
def Ty.tdep : Ty → Nat
  | .pair a b => max a.tdep b.tdep
  | .agg t => t.tdep + 1
  | _ => 1
def Cx.eqB (S : Cx) : (t : Ty) → S.den t → S.den t → Bool
  | .int _, x, y => (fun (a b : Int) => decide (a = b)) x y
  | .bool, x, y => @BEq.beq Bool _ x y
  | .str, x, y => (fun (a b : List UInt8) => decide (a = b)) x y
  | .pair a b, x, y => Cx.eqB S a x.1 y.1 && Cx.eqB S b x.2 y.2
  | .agg t, x, y => Cx.eqB S t x y
  | .arr _ (.int _), x, y => (fun (a b : List Int) => decide (a = b)) x y
  | _, _, _ => false
def binA (op : BinOp) (b : Bool) (κ : MV S.toNm → Option α) : Option α :=
  match op with
  | .eql => κ ⟨.bool, .ro, b⟩
  | .neq => κ ⟨.bool, .ro, !b⟩
  | _ => none
def bin (E : Env S) (xt : Nat) (op : BinOp) (a b : Option (MV S.toNm)) (κ : MV S.toNm → Option α) : Option α :=
  match a, b with
  | some ⟨.int k, _, x⟩, some ⟨.int k', _, y⟩ => match isShift op with
    | true => binShift op k x y κ
    | false => match decEq k k' with
      | isTrue _ => binI op k x y κ
      | isFalse _ => none
  | some ⟨.bool, _, x⟩, some ⟨.bool, _, y⟩ => match E.is xt .bool with
    | true => binB op x y κ
    | false => none
  | some ⟨.str, _, x⟩, some ⟨.str, _, y⟩ => binS op x y κ
  | some ⟨.ptr n, _, x⟩, some ⟨.ptr n', _, y⟩ => match E.is xt (.ptr n) with
    | true => binP (β := S.N n) (γ := S.N n') op x y κ
    | false => none
  | some ⟨.lptr n, _, x⟩, some ⟨.lptr n', _, y⟩ => match E.is xt (.lptr n) with
    | true => binP (β := Nat × S.N n) (γ := Nat × S.N n') op x y κ
    | false => none
  | some ⟨.agg t, _, x⟩, some ⟨.agg t', _, y⟩ => match t.eqable && E.is xt (.agg t) with
    | true => match S.cast (.agg t') (.agg t) y with
      | some z => binA op (S.eqB (.agg t) x z) κ
      | none => none
    | false => none
  | _, _ => none
def minI (x y : Int) : Int := min x y
def maxI (x y : Int) : Int := max x y
def negI (k : IntKind) (y : Int) : Int := k.wrap (0 - y)
def notB (y : Bool) : Bool := !y
theorem is_meet (α : Type) : ∃ f : Option α → Option α → Option α, (∀ x, f x x = x) ∧ ∀ x y r, f x y = some r → x = some r ∧ y = some r := by
  classical
  refine ⟨fun x y => if x = y then x else none, fun x => by simp, fun x y r h => ?_⟩
  by_cases e : x = y
  · subst e; simp at h; exact ⟨h, h⟩
  · simp [e] at h
noncomputable def meetK (x y : Option α) : Option α := Classical.choose (is_meet α) x y
theorem meetK_self (x : Option α) : meetK x x = x := (Classical.choose_spec (is_meet α)).1 x
theorem meetK_some {x y : Option α} {r : α} (h : meetK x y = some r) : x = some r ∧ y = some r := (Classical.choose_spec (is_meet α)).2 x y r h
noncomputable def nilK (e : Bool) (κ : Bool → Option α) : Option α := match two with | true => (match e with | true => meetK (κ true) (κ false) | false => κ false) | false => none
theorem nilK_some {e : Bool} {κ : Bool → Option α} {r : α} (h : nilK e κ = some r) : κ false = some r ∧ (e = true → κ true = some r) := by
  cases e with
  | false => exact ⟨h, fun h => by cases h⟩
  | true => have h : meetK (κ true) (κ false) = some r := h; exact ⟨(meetK_some h).2, fun _ => (meetK_some h).1⟩
theorem is_ptr (α : Type) (β : Type) : ∃ f : β → β → Option α → Option α → Option α, (∀ x y a b, x ≠ y → f x y a b = b) ∧ ∀ x a b, f x x a b = meetK a b := by
  classical
  exact ⟨fun x y a b => if x = y then meetK a b else b, fun x y a b h => by simp [h], fun x a b => by simp⟩
noncomputable def ptrS {β : Type} (x y : β) (a b : Option α) : Option α := Classical.choose (is_ptr α β) x y a b
noncomputable def ptrR {β : Type} (x y : Option β) (a b : Option α) : Option α := match x with
  | none => match y with
    | none => a
    | some _ => b
  | some x => match y with
    | none => b
    | some y => ptrS x y a b
theorem ptrR_nn {β : Type} (a b : Option α) : ptrR (none : Option β) none a b = a := rfl
theorem ptrR_ns {β : Type} (y : β) (a b : Option α) : ptrR none (some y) a b = b := rfl
theorem ptrR_sn {β : Type} (x : β) (a b : Option α) : ptrR (some x) none a b = b := rfl
theorem ptrR_ne {β : Type} (x y : β) (a b : Option α) (h : x ≠ y) : ptrR (some x) (some y) a b = b := (Classical.choose_spec (is_ptr α β)).1 x y a b h
theorem ptrR_ss {β : Type} (x : β) (a b : Option α) : ptrR (some x) (some x) a b = meetK a b := (Classical.choose_spec (is_ptr α β)).2 x a b
noncomputable def ptrK {β : Type} (x y : Option β) (κ : Bool → Option α) : Option α := match two with | true => ptrR x y (κ true) (κ false) | false => none
def isNilP : Operand → Bool
  | .const v => match v with
    | .pointer a => a.isNone
    | _ => false
  | _ => false
def lblE {β : Type} : Option (Nat × β) → Option (Nat × β) → Bool
  | none, none => true
  | some x, some y => Nat.beq x.1 y.1
  | _, _ => false
noncomputable def bin2 (E : Env S) (xt : Nat) (op : BinOp) (p : Bool) (a b : Option (MV S.toNm)) (κ : MV S.toNm → Option α) : Option α :=
  match p, a, b with
  | false, some ⟨.ptr n, _, x⟩, some ⟨.ptr n', _, y⟩ => match E.is xt (.ptr n) with
    | true => match S.cast (.ptr n') (.ptr n) y with
      | some y => match op with
        | .eql => ptrK (β := S.N n) x y fun b => κ ⟨.bool, .ro, b⟩
        | .neq => ptrK (β := S.N n) x y fun b => κ ⟨.bool, .ro, notB b⟩
        | _ => none
      | none => none
    | false => none
  | false, some ⟨.lptr n, _, x⟩, some ⟨.lptr n', _, y⟩ => match E.is xt (.lptr n) with
    | true => match S.cast (.lptr n') (.lptr n) y with
      | some y => binA op (lblE (β := S.N n) x y) κ
      | none => none
    | false => none
  | _, a, b => bin E xt op a b κ
def isNilC : Operand → Bool
  | .const v => match v with
    | .slice a n c => a.isNone && n == 0 && c == 0
    | _ => false
  | _ => false
noncomputable def binNil (E : Env S) (xt : Nat) (op : BinOp) (a : Option (MV S.toNm)) (κ : MV S.toNm → Option α) : Option α :=
  match a with
  | some ⟨.slice e t, _, l⟩ => match E.is xt (.slice e t) with
    | true => match op with
      | .eql => nilK (List.isEmpty l) fun b => κ ⟨.bool, .ro, b⟩
      | .neq => nilK (List.isEmpty l) fun b => κ ⟨.bool, .ro, notB b⟩
      | _ => none
    | false => none
  | _ => none
def within (i : Int) (n : Nat) (κ : Nat → Option α) : Option α :=
  must (decide (0 ≤ i)) (must (decide (i < (n : Int))) (κ i.toNat))
def St.newMem (h : Hint) (st : ST S) (d : Nat) (c : MV S.toNm) : ST S :=
  let st := st.drop (.mem d)
  ({ st with mems := upd st.mems d c } : ST S).put h d (.addr (.mem d) [])
def elemMode (h : Hint) (d : Option Nat) : Mode := match d with
  | some d => match h.nil.lookup d with
    | some (.own m) => m
    | _ => .ro
  | none => .ro
def wantsOwn (h : Hint) (d : Option Nat) : Bool := match d with
  | some d => match h.nil.lookup d with
    | some _ => true
    | none => false
  | none => false
def nilMode (h : Hint) (d : Nat) : Mode := match h.nil.lookup d with
  | some m => m
  | none => .ro
def Mode.fitTo : Ty → Mode → Mode
  | .slice _ _, .own m => .own m
  | .pair a b, .pr m n => .pr (Mode.fitTo a m) (Mode.fitTo b n)
  | .agg t, m => Mode.fitTo t m
  | _, _ => .ro
def buildMode (h : Hint) (d : Option Nat) (u : Ty) : Mode := match d with
  | some d => Mode.fitTo (.agg u) (nilMode h d)
  | none => .ro
def constMode (h : Hint) (d : Nat) : Ty → Mode
  | .slice _ _ => match nilMode h d with
    | .own m => .own m
    | _ => .ro
  | _ => .ro
def Ty.scalar : Ty → Bool
  | .int _ => true
  | .bool => true
  | .str => true
  | .unit => true
  | .pair a b => a.scalar && b.scalar
  | .agg t => t.scalar
  | _ => false
def PK.isIo : PK → Bool | .io _ _ => true | .own _ _ => true | _ => false
def PK.isOwn : PK → Bool | .own _ _ => true | _ => false
def PK.isFn : PK → Bool | .fn _ _ => true | _ => false
def FSpec.apart {M : Nm} (F : FSpec M) : Bool := F.rt.scalar && F.rm.isRo && !F.ps.any PK.isIo
inductive Src where
  | op (x : Operand) (ty : Nat)
  | cap (s j : Nat)
def Cap.av {M : Nm} : Cap M → AVal M
  | .m k => .addr (.mem k) []
  | .d t x => .rp t x
def St.avS (E : Env S) (st : ST S) (x : Src) : AV S :=
  match x with
  | .op x _ => st.av E x 0
  | .cap s j => match st.look s with
    | .fn _ cs => match cs[j]? with
      | some c => c.av
      | none => .dead
    | _ => .dead
def capsS (x : Operand) (n : Nat) : List Src := match x with
  | .tmp s => (List.range n).map (.cap s ·)
  | _ => []
def flatS : List PK → List Src → List Operand → List Nat → List Src → List Src
  | [], pend, xs, _, tl => pend ++ (xs.map (Src.op · 0) ++ tl)
  | _ :: ps, c :: pend, xs, ts, tl => c :: flatS ps pend xs ts tl
  | .fn _ n :: ps, [], x :: xs, ts, tl => .op x (ts.headD 0) :: flatS ps (capsS x n) xs ts.tail tl
  | .val _ :: ps, [], x :: xs, ts, tl => .op x (ts.headD 0) :: flatS ps [] xs ts.tail tl
  | .io _ _ :: ps, [], x :: xs, ts, tl => .op x (ts.headD 0) :: flatS ps [] xs ts.tail tl
  | .own _ _ :: ps, [], x :: xs, ts, tl => .op x (ts.headD 0) :: flatS ps [] xs ts.tail tl
  | .fn _ _ :: _, [], [], _, _ => []
  | .val _ :: ps, [], [], ts, t :: tl => t :: flatS ps [] [] ts tl
  | .io _ _ :: ps, [], [], ts, t :: tl => t :: flatS ps [] [] ts tl
  | .own _ _ :: ps, [], [], ts, t :: tl => t :: flatS ps [] [] ts tl
  | .val _ :: _, [], [], _, [] => []
  | .io _ _ :: _, [], [], _, [] => []
  | .own _ _ :: _, [], [], _, [] => []
def capD (st : ST S) : Cap S.toNm → Option (MV S.toNm)
  | .d t x => some ⟨.box t, .ro, x⟩
  | .m k => match st.mems.lookup k with
    | some ⟨t, m, y⟩ => match m.live with
      | true => some ⟨.box t, .ro, y⟩
      | false => none
    | none => none
def capsD (st : ST S) : List (Cap S.toNm) → Option (MV S.toNm)
  | [] => some ⟨.unit, .ro, ()⟩
  | c :: cs => match capD st c, capsD st cs with
    | some a, some b => some ⟨.pair a.t b.t, .ro, (a.x, b.x)⟩
    | _, _ => none
def St.peekP (st : ST S) (A : AV S) (want : Ty) : Option (MV S.toNm) :=
  match want with
  | .ptr n => match A with
    | .addr r p => match r with
      | .mem k => match p with
        | [] => match st.mems.lookup k with
          | some ⟨t, m, x⟩ => match m.live with
            | true => match S.cast t (S.body n) x with
              | some y => some ⟨.ptr n, .ro, some (S.pk n y)⟩
              | none => none
            | false => none
          | none => none
        | _ => none
      | _ => none
    | _ => none
  | _ => none
def St.valF (E : Env S) (st : ST S) (x : Operand) (ty : Nat) : Option (MV S.toNm) :=
  match x with
  | .tmp s => match st.look s with
    | .fn f cs => match capsD st cs with
      | some c => some ⟨.clo f c.t, .ro, c.x⟩
      | none => none
    | .addr r p => match E.tys.lookup ty with
      | some t => st.peekP (.addr r p) t
      | none => none
    | _ => st.val E (.tmp s) ty
  | x => st.val E x ty
def packOne (E : Env S) (fz : Bool) (st : ST S) (p : PK) (x : Src) : Option (S.den p.ty × ST S) :=
  match p with
  | .val t => match x with
    | .op x ty => match fz with
      | true => match st.frz E x ty with
        | some (c, st') => match S.cast c.t t c.x with
          | some y => some (y, st')
          | none => none
        | none => none
      | false => match st.valF E x ty with
        | some c => match S.cast c.t t c.x with
          | some y => some (y, st)
          | none => none
        | none => none
    | .cap s j => match st.look s with
      | .fn _ cs => match cs[j]? with
        | some c => match c with
          | .d t' y => match S.cast (.box t') t y with
            | some z => some (z, st)
            | none => none
          | .m k => match fz with
            | true => none
            | false => match capD st (.m k) with
              | some c => match S.cast c.t t c.x with
                | some z => some (z, st)
                | none => none
              | none => none
        | none => none
      | _ => none
  | .io t _ => some (S.zero t, st)
  | .own t _ => some (S.zero t, st)
  | .fn f n => match x with
    | .op o _ => match o with
      | .tmp s => match st.look s with
        | .fn f' cs => match decide (f = f' ∧ cs.length = n) with
          | true => some ((), st)
          | false => none
        | _ => none
      | _ => none
    | _ => none
def packArgs (E : Env S) (fz : Bool) : (ps : List PK) → List Src → ST S → Option (S.den (packTy (argT ps)) × ST S)
  | [], [], st => some ((), st)
  | p :: ps, x :: xs, st => match packOne E fz st p x with
    | some (y, st') => match packArgs E fz ps xs st' with
      | some (z, st'') => some ((y, z), st'')
      | none => none
    | none => none
  | _, _, _ => none
def takeOwn (E : Env S) (st : ST S) : (ps : List PK) → List Src → S.den (packTy (argT ps)) → Option (S.den (packTy (argT ps)) × ST S)
  | [], _, y => some (y, st)
  | .own t m :: ps, x :: _, y => match ps.any PK.isOwn with
    | true => none
    | false => match x with
      | .op x ty => match st.take E x ty with
        | some (c, st') => match decEq c.m m with
          | isTrue _ => match S.cast c.t t c.x with
            | some z => some ((z, y.2), st')
            | none => none
          | isFalse _ => none
        | none => none
      | _ => none
  | .val _ :: ps, _ :: xs, y => match takeOwn E st ps xs y.2 with
    | some (z, st') => some ((y.1, z), st')
    | none => none
  | .io _ _ :: ps, _ :: xs, y => match takeOwn E st ps xs y.2 with
    | some (z, st') => some ((y.1, z), st')
    | none => none
  | .fn _ _ :: ps, _ :: xs, y => match takeOwn E st ps xs y.2 with
    | some (z, st') => some ((y.1, z), st')
    | none => none
  | _ :: _, [], _ => none
def takeOwn1 (E : Env S) (st : ST S) (ps : List PK) (xs : List Src) (y : S.den (packTy (argT ps))) : Option (S.den (packTy (argT ps)) × ST S) :=
  match ps.any PK.isOwn with
  | false => some (y, st)
  | true => match takeOwn E st ps xs y with
    | some (z, st') => match st'.mems.all fun p => Nat.blt p.1 ownBase with
      | true => some (z, st'.killBy AVal.deep)
      | false => none
    | none => none
def ioOne (E : Env S) (st : ST S) (p : PK) (x : Src) (y : S.den p.ty) : Option (S.den p.ty) :=
  match p, y with
  | .val _, y => some y
  | .fn _ _, y => some y
  | .own _ _, y => some y
  | .io t m, _ => match st.avS E x with
    | .addr (.mem k) [] => match st.mems.lookup k with
      | some c => match decEq c.m m with
        | isTrue _ => S.cast c.t t c.x
        | isFalse _ => none
      | none => none
    | _ => none
def packIos (E : Env S) (st : ST S) : (ps : List PK) → List Src → S.den (packTy (argT ps)) → Option (S.den (packTy (argT ps)))
  | [], [], _ => some ()
  | p :: ps, x :: xs, y => match ioOne E st p x y.1, packIos E st ps xs y.2 with
    | some a, some b => some (a, b)
    | _, _ => none
  | _, _, _ => none
def ioMems (E : Env S) (st : ST S) : List PK → List Src → List Nat
  | .val _ :: ps, _ :: xs => ioMems E st ps xs
  | .fn _ _ :: ps, _ :: xs => ioMems E st ps xs
  | .own _ _ :: ps, _ :: xs => ioMems E st ps xs
  | .io _ _ :: ps, x :: xs => match st.avS E x with
    | .addr (.mem k) _ => k :: ioMems E st ps xs
    | _ => ioMems E st ps xs
  | _, _ => []
def frzIos (E : Env S) : List PK → List Src → ST S → Option (ST S)
  | .io _ m :: ps, x :: xs, st => match m with
    | .ro => match st.avS E x with
      | .addr (.mem k) [] => match st.mems.lookup k with
        | some ⟨t, m', y⟩ => match m' with
          | .ro => frzIos E ps xs st
          | m' => match m'.live with
            | true => match (st.killT (.mem k)).setAt (.mem k) [] ⟨t, .ro, y⟩ with
              | some st' => frzIos E ps xs st'
              | none => none
            | false => none
        | none => none
      | _ => none
    | _ => frzIos E ps xs st
  | _ :: ps, _ :: xs, st => frzIos E ps xs st
  | _, _, st => some st
def frzIos1 (E : Env S) (ps : List PK) (xs : List Src) (st : ST S) : Option (ST S) :=
  match ps.any PK.isOwn with
  | true => some st
  | false => frzIos E ps xs st
def distinct : List Nat → Bool
  | [] => true
  | k :: l => !l.contains k && distinct l
def putOuts : (ks : List Nat) → (os : List (Ty × Mode)) → S.den (packTy (outT os)) → ST S → Option (ST S)
  | [], [], _, st => some st
  | k :: ks, o :: os, y, st => putOuts ks os y.2 ((st.killW (.mem k)).setRoot (.mem k) ⟨o.1, o.2, y.1⟩)
  | _, _, _, _ => none
def putRes1 (h : Hint) (d : Nat) : (rt : Ty) → (rm : Mode) → S.den rt → ST S → ST S
  | .box t, .own m, x, st => st.newMem h d ⟨t, m, x⟩
  | rt, rm, x, st => st.put h d (.v rt rm x)
def putRes (h : Hint) (d : Option Nat) (F : FSpec S.toNm) (x : S.den F.rt) (st : ST S) : ST S := match d with
  | none => st
  | some d => match F.nres with
    | 0 => st.put h d .dead
    | 1 => putRes1 h d F.rt F.rm x st
    | _ => st.put h d (.tup F.rt F.rm x)
def St.lose (st : ST S) : List Nat → ST S
  | [] => st
  | k :: ks => (st.less k).lose ks
theorem is_all (α β : Type) : ∃ f : Option (β → Prop) → (β → Option α) → Option α, (∀ p κ r, (∀ y, p y → κ y = some r) → (∃ y, p y) → f (some p) κ = some r) ∧ ∀ p κ r, f p κ = some r → ∃ q, p = some q ∧ ∀ y, q y → κ y = some r := by
  classical
  refine ⟨fun p κ => match p with
    | none => none
    | some q => if h : ∃ r, ∀ y, q y → κ y = some r then some (Classical.choose h) else none, fun p κ r h he => ?_, fun p κ r h => ?_⟩
  · have h' : ∃ r, ∀ y, p y → κ y = some r := ⟨r, h⟩
    obtain ⟨y, hy⟩ := he
    simp only [dif_pos h']
    exact (Classical.choose_spec h' y hy).symm.trans (h y hy)
  · cases p with
    | none => cases h
    | some q =>
      simp only at h
      split at h
      · rename_i h'
        cases h
        exact ⟨q, rfl, Classical.choose_spec h'⟩
      · cases h
noncomputable def bindL {β : Type} (p : Option (β → Prop)) (κ : β → Option α) : Option α := Classical.choose (is_all α β) p κ
theorem bindL_of {β : Type} {p : β → Prop} {κ : β → Option α} {r : α} (h : ∀ y, p y → κ y = some r) (he : ∃ y, p y) : bindL (some p) κ = some r := (Classical.choose_spec (is_all α β)).1 p κ r h he
theorem bindL_some {β : Type} {p : Option (β → Prop)} {κ : β → Option α} {r : α} (h : bindL p κ = some r) : ∃ q, p = some q ∧ ∀ y, q y → κ y = some r := (Classical.choose_spec (is_all α β)).2 p κ r h
noncomputable def bindP (E : Env S) (F : FSpec S.toNm) (π : Option α) (a : S.den (packTy (argT F.ps))) (κ : S.den (resTy F.rt (outT (outs F.ps))) → Option α) : Option α :=
  match F.r with
  | some _ => none
  | none => match F.p with
    | none => match F.l with
      | none => bindR (F.f a) κ
      | some q => bindL (q a) κ
    | some q => match Nat.beq q.1 E.pt && !F.ps.any PK.isOwn with
      | true => bindQ (q.2 a) π κ
      | false => none
noncomputable def callS (π : ST S → Option α) (E : Env S) (h : Hint) (F : FSpec S.toNm) (xs : List Src) (d : Option Nat) (st : ST S) (κ : ST S → Option α) : Option α :=
  match packArgs E (!F.apart) F.ps xs st with
  | none => none
  | some (a, st') => match takeOwn1 E st' F.ps xs a with
   | none => none
   | some (a, st') => match frzIos1 E F.ps xs st' with
    | none => none
    | some st' => match distinct (ioMems E st' F.ps xs) with
    | false => none
    | true => match packIos E st' F.ps xs a with
      | none => none
      | some a => bindP E F (π ((st'.lose (ioMems E st' F.ps xs)).killBy AVal.deep)) a fun r => match putOuts (ioMems E st' F.ps xs) (outs F.ps) r.2 st' with
        | some st'' => κ (putRes h d F r.1 st'')
        | none => none
noncomputable def callK (π : ST S → Option α) (E : Env S) (h : Hint) (F : FSpec S.toNm) (xs : List Operand) (ts : List Nat) (d : Option Nat) (st : ST S) (κ : ST S → Option α) : Option α :=
  callS π E h F (flatS F.ps [] xs ts []) d st κ
noncomputable def callF (π : ST S → Option α) (E : Env S) (h : Hint) (s g n : Nat) (xs : List Operand) (ts : List Nat) (d : Option Nat) (st : ST S) (κ : ST S → Option α) : Option α :=
  match E.wr with
  | true => match E.fs g with
    | none => none
    | some F => match F.o with
      | some _ => none
      | none => callS π E h F (flatS F.ps [] xs ts (capsS (.tmp s) n)) d st κ
  | false => none
def PK.isCap : PK → Bool
  | .val (.box _) => true
  | _ => false
def packC (E : Env S) (fz : Bool) (u : Ty) (y : S.den u) : (ps : List PK) → List Operand → List Nat → ST S → Option (S.den (packTy (argT ps)) × ST S)
  | ps, [], _, st => match ps.all PK.isCap with
    | true => match S.cast u (packTy (argT ps)) y with
      | some z => some (z, st)
      | none => none
    | false => none
  | p :: ps, x :: xs, ts, st => match packOne E fz st p (.op x (ts.headD 0)) with
    | some (y1, st') => match packC E fz u y ps xs ts.tail st' with
      | some (z, st'') => some ((y1, z), st'')
      | none => none
    | none => none
  | [], _ :: _, _, _ => none
def putCall (h : Hint) (d : Option Nat) (a : AV S) (st : ST S) : ST S := match d with
  | some d => st.put h d a
  | none => st
noncomputable def callC (π : ST S → Option α) (E : Env S) (h : Hint) (g : Nat) (u : Ty) (y : S.den u) (xs : List Operand) (ts : List Nat) (d : Option Nat) (st : ST S) (κ : ST S → Option α) : Option α :=
  match E.fs g with
  | none => none
  | some F => match F.o with
    | some _ => none
    | none => match F.ps.any PK.isIo || F.ps.any PK.isFn with
      | true => none
      | false => match packC E (!F.apart) u y F.ps xs ts st with
        | none => none
        | some (a, st') => bindP E F (π st') a fun r => κ (putRes h d F r.1 st')
def tupGo : (t : Ty) → Nat → S.den t → Option (MV S.toNm)
  | .pair a _, 0, x => some ⟨a, .ro, x.1⟩
  | .pair _ b, i + 1, x => tupGo b i x.2
  | t, 0, x => some ⟨t, .ro, x⟩
  | _, _, _ => none
def bytesOf (l : List Int) : List UInt8 := l.map fun z => UInt8.ofNat z.toNat
def intsOf (l : List UInt8) : List Int := l.map fun b => (b.toNat : Int)
def buildGo (E : Env S) : (parts : List (Nat × Operand)) → (ty : Ty) → Mode → S.den ty → ST S → Option (MV S.toNm × ST S)
  | [], t, m, x, st => some (⟨t, m, x⟩, st)
  | (i, o) :: ps, t, m, x, st => match partPath t i with
    | none => none
    | some p => match S.getP t m p x with
      | none => none
      | some c => match o, c.t with
        | .const v, tc => match S.lit tc v with
          | none => none
          | some y => match S.setP tc .ro y t m p x with
            | some (n, z) => buildGo E ps t n z st
            | none => none
        | o, tc => match st.takeT E o tc with
          | none => none
          | some (c, st') => match S.setP c.t c.m c.x t m p x with
            | some (n, z) => buildGo E ps t n z st'
            | none => none
def elemOne (E : Env S) (em : Mode) (st : ST S) (o : Operand) (ety : Nat) : Option (MV S.toNm × ST S) :=
  match em with
  | .ro => st.frz E o ety
  | em => match st.take E o ety with
    | some (c, st') => match decEq c.m em with
      | isTrue _ => some (c, st')
      | isFalse _ => none
    | none => none
def elemsGo (E : Env S) (t : Ty) (em : Mode) (ety : Nat) : Nat → List (Nat × Operand) → ST S → Option (List (S.den t) × ST S)
  | _, [], st => some ([], st)
  | j, (i, o) :: ps, st => match i == j with
    | false => none
    | true => match elemOne E em st o ety with
      | none => none
      | some (c, st') => match S.cast c.t (S.un t) c.x with
        | none => none
        | some y => match elemsGo E t em ety (j + 1) ps st' with
          | some (l, st'') => some (S.rl t y :: l, st'')
          | none => none
def appTake (E : Env S) (em : Mode) (st : ST S) (x : Operand) (t : Nat) (ee : Nat) (u : Ty) : Option (List (S.den u) × ST S) :=
  match x with
  | .const v => match S.lit (.slice ee u) v with
    | some l => some (l, st)
    | none => none
  | x => match st.take E x t with
    | some (⟨.slice e3 t3, m, l⟩, st') => match m with
      | .own m' => match decEq m' em with
        | isTrue _ => match S.cast (.slice e3 t3) (.slice ee u) l with
          | some l => some (l, st')
          | none => none
        | isFalse _ => none
      | _ => none
    | _ => none
def findM {β γ : Type} (eq : β → β → Bool) (y : β) : List (β × γ) → Option γ
  | [] => none
  | e :: l => match eq y e.1 with
    | true => some e.2
    | false => findM eq y l
def putM {β γ : Type} (eq : β → β → Bool) (y : β) (z : γ) : List (β × γ) → List (β × γ)
  | [] => [(y, z)]
  | e :: l => match eq y e.1 with
    | true => (y, z) :: l
    | false => e :: putM eq y z l
def Ty.isKey : Ty → Bool
  | .agg t => match t with
    | .arr _ e => match e with
      | .int _ => true
      | _ => false
    | _ => false
  | _ => false
def appEl (E : Env S) (st : ST S) (y : Operand) (t : Nat) (u : Ty) : Mode :=
  match u.scalar with
  | true => .ro
  | false => match st.val E y t with
    | some ⟨_, m, _⟩ => match m with
      | .own em => em
      | _ => .ro
    | none => .ro
def appArg (E : Env S) (em : Mode) (st : ST S) (y : Operand) (t : Nat) (ee : Nat) (u : Ty) : Option (List (S.den u) × ST S) :=
  match u.scalar with
  | true => match em with
    | .ro => match st.val E y t with
      | some ⟨.slice e2 t2, _, l⟩ => match S.cast (.slice e2 t2) (.slice ee u) l with
        | some l => some (l, st)
        | none => none
      | _ => none
    | _ => none
  | false => match em with
    | .ro => match st.frz E y t with
      | some (⟨.slice e2 t2, _, l⟩, st') => match S.cast (.slice e2 t2) (.slice ee u) l with
        | some l => some (l, st')
        | none => none
      | _ => none
    | em => match st.take E y t with
      | some (⟨.slice e2 t2, m, l⟩, st') => match m with
        | .own m' => match decEq m' em with
          | isTrue _ => match S.cast (.slice e2 t2) (.slice ee u) l with
            | some l => some (l, st')
            | none => none
          | isFalse _ => none
        | _ => none
      | _ => none
def ofTwo : Bool → List Operand → List Operand × Option Operand
  | false, xs => (xs, none)
  | true, xs => match xs.reverse with
    | [] => ([], none)
    | x :: l => (l.reverse, some x)
def srcT : List Operand → List Nat → List Src
  | [], _ => []
  | x :: xs, ts => .op x (ts.headD 0) :: srcT xs ts.tail
def callO (E : Env S) (h : Hint) (O : OSpec S.toNm) (xs : List Operand) (ts : List Nat) (d : Option Nat) (st : ST S) (κ : ST S → Option α) : Option α :=
  match xs, ts with
  | x :: xs, t :: ts => match O.u.scalar && !O.u.isMap && !O.ps.any PK.isIo && !O.ps.any PK.isFn && E.is t (.slice O.e O.u) with
    | true => match packArgs E true O.ps (srcT (ofTwo O.two xs).1 ts) st with
      | some (y, st1) => match appTake E .ro st1 x t O.e O.u with
        | some (l, st2) => match (ofTwo O.two xs).2 with
          | none => match O.two with
            | false => bindR (O.f l y []) fun l' => κ (putCall h d (.v (.slice O.e O.u) (.own .ro) l') (st2.killBy AVal.deep))
            | true => none
          | some x2 => match appTake E .ro st2 x2 t O.e O.u with
            | some (l2, st3) => bindR (O.f l y l2) fun l' => κ (putCall h d (.v (.slice O.e O.u) (.own .ro) l') (st3.killBy AVal.deep))
            | none => none
        | none => none
      | none => none
    | false => none
  | _, _ => none
def stepNe : Step → Step → Bool
  | .idx i, .idx j => !Nat.beq i j
  | s, t => !decide (s = t)
def pathNe : Path → Path → Bool
  | s :: p, t :: q => stepNe s t || pathNe p q
  | _, _ => false
def argR (E : Env S) (st : ST S) (r : Root) (p : Path) (t : Ty) (y : Operand) (ty : Nat) (κ : S.den t → Option α) : Option α :=
  match st.av E y ty with
  | .v t' _ x => match S.cast t' t x with
    | some z => κ z
    | none => none
  | .ref r2 p2 => match st.at r2 p2 with
    | some ⟨.slice e u, m, x⟩ => match u.scalar with
      | true => match m with
        | .own m' => match m' with
          | .ro => match S.cast (.slice e u) t x with
            | some z => must (!decide (r = r2) || pathNe p p2) (κ z)
            | none => none
          | _ => none
        | _ => none
      | false => none
    | _ => none
  | _ => none
def packR (E : Env S) (st : ST S) (r : Root) (p : Path) : (ps : List PK) → List Operand → List Nat → (S.den (packTy (argT ps)) → Option α) → Option α
  | [], [], _, κ => κ ()
  | .val t :: ps, y :: ys, ts, κ => argR E st r p t y (ts.headD 0) fun x => packR E st r p ps ys ts.tail fun z => κ (x, z)
  | _, _, _, _ => none
def callR (E : Env S) (h : Hint) (R : RSpec S.toNm) (xs : List Operand) (ts : List Nat) (d : Option Nat) (st : ST S) (κ : ST S → Option α) : Option α :=
  match xs, ts with
  | x :: xs, t :: ts => match R.u.scalar && E.is t (.slice R.e R.u) with
    | true => match st.av E x t with
      | .ref r p => match st.at r p with
        | some ⟨.slice e u, m, l⟩ => match m with
          | .own m' => match m' with
            | .ro => match S.cast (.slice e u) (.slice R.e R.u) l with
              | some l => packR E st r p R.ps xs ts fun y => bindR (R.f l y) fun l' => match (st.killBy AVal.deep).setAt r p ⟨.slice R.e R.u, .own .ro, l'⟩ with
                | some st' => κ (putCall h d .dead st')
                | none => none
              | none => none
            | _ => none
          | _ => none
        | _ => none
      | _ => none
    | false => none
  | _, _ => none
noncomputable def callG (π : ST S → Option α) (E : Env S) (h : Hint) (g : Nat) (xs : List Operand) (ts : List Nat) (d : Option Nat) (st : ST S) (κ : ST S → Option α) : Option α :=
  match E.fs g with
  | none => none
  | some F => match F.o with
    | none => match F.r with
      | none => callK π E h F xs ts d st κ
      | some R => callR E h R xs ts d st κ
    | some O => callO E h O xs ts d st κ
def putK (h : Hint) (d : Option Nat) (x : AV S) (st : ST S) (κ : ST S → Option α) : Option α :=
  match d with
  | none => κ st
  | some d => match x.rooted (.slot d) with
    | true => none
    | false => κ (st.put h d x)
noncomputable def opK (π : ST S → Option α) (E : Env S) (h : Hint) (o : Oper) (st : ST S) (κ : ST S → Option α) : Option α :=
  let putd (st : ST S) (a : AV S) : ST S := match o.dst with
    | some d => st.put h d a
    | none => st
  let out (c : MV S.toNm) : Option α := κ (putd st (.v c.t c.m c.x))
  match o.op with
  | .move x => putK h o.dst (st.av E x o.type) st κ
  | .assign x => match x with
    | .const _ => match st.av E x o.type, o.dst with
      | .v t _ y, some d => κ (st.put h d (.v t (constMode h d t) y))
      | _, _ => none
    | .tmp s => match st.look s with
      | .v t m y => match m with
        | .ro => κ (putd st (.v t .ro y))
        | m => match o.dst with
          | some d => match h.nil.lookup d with
            | some _ => κ (((st.kill (.slot s)).setRoot (.slot s) ⟨t, .dd, y⟩).put h d (.v t m y))
            | none => match m.live with
              | true => κ (((st.kill (.slot s)).setRoot (.slot s) ⟨t, .ro, y⟩).put h d (.v t .ro y))
              | false => none
          | none => none
      | .ref _ _ => match wantsOwn h o.dst with
        | true => match st.take E x o.type with
          | some (c, st') => κ (putd st' (.v c.t c.m c.x))
          | none => none
        | false => match st.frz E x o.type with
          | some (c, st') => κ (putd st' (.v c.t .ro c.x))
          | none => none
      | .dead => none
      | a => putK h o.dst a st κ
    | _ => none
  | .pick c a b => match asBool (st.val E c 0) with
    | some x => ask x fun x => putK h o.dst (match x with | true => st.av E a o.type | false => st.av E b o.type) st κ
    | none => none
  | .alloc e => match E.tys.lookup e, o.dst with
    | some t, some d => match t.isMap || t.isClo with
      | false => κ (st.newMem h d ⟨t, Mode.fitTo t (nilMode h d), S.zero t⟩)
      | true => match t.isClo, h.clos.lookup d with
        | true, some (.clo f u) => κ (st.newMem h d ⟨.clo f u, .dd, S.zero (.clo f u)⟩)
        | _, _ => none
    | _, _ => none
  | .box e x => match o.dst, st.take E x e with
    | some d, some (c, st') => match E.isB e c.t with
      | true => κ (st'.newMem h d c)
      | false => none
    | _, _ => none
  | .build e ps => match E.tys.lookup e with
    | some (.agg u) => match buildGo E ps.toList (.agg u) (buildMode h o.dst u) (S.zero (.agg u)) st with
      | some (c, st') => κ (putd st' (.v c.t c.m c.x))
      | none => none
    | _ => none
  | .buildSlice e n ps => match E.tys.lookup e with
    | some (.slice ee t) => match ps.size == n && decide (n * S.size t ≤ 16777216) && (!t.isNamed || (elemMode h o.dst).isRo) with
      | true => match elemsGo E t (elemMode h o.dst) ee 0 ps.toList st with
        | some (l, st') => κ (putd st' (.v (.slice ee t) (.own (elemMode h o.dst)) l))
        | none => none
      | false => none
    | _ => none
  | .makeSlice e l c => match asInt (st.val E l 0), asInt (st.val E c 0) with
    | some (_, n), some (_, k) => match E.tys.lookup e with
      | some (.slice ee t) => match t.isMap || t.isClo || t.isNamed with
        | false => must (decide (n = k ∧ 0 ≤ n ∧ n ≤ 16777216)) (κ (putd st (.v (.slice ee t) (.own (Mode.fitTo t (elemMode h o.dst))) (List.replicate n.toNat (S.zero t)))))
        | true => none
      | _ => none
    | _, _ => none
  | .load e x => match st.av E x 0 with
    | .rp t y => match E.isB e t with
      | true => out ⟨t, .ro, y⟩
      | false => none
    | .addr r p => match st.at r p with
      | some ⟨t, m, y⟩ => match E.isB e t with
        | true => match m with
          | .ro => out ⟨t, .ro, y⟩
          | .dd => none
          | _ => putK h o.dst (.ref r p) st κ
        | false => none
      | none => none
    | _ => none
  | .store e x y => match o.dst, st.takeS E (hFrz h x) y e with
    | none, some (c, st') => match st'.av E x 0 with
      | .addr r p => match E.isB e c.t with
        | true => match (st'.killS r p).setAt r p c with
          | some st'' => κ st''
          | none => none
        | false => none
      | _ => none
    | _, _ => none
  | .nilCheck x => match st.av E x 0 with
    | .v (.ptr n) _ y => bindR (β := S.N n) y fun z => κ (putd st (.rp (S.body n) (S.out n z)))
    | .v (.lptr n) _ y => bindR (β := Nat × S.N n) y fun z => κ (putd st (.rp (S.body n) (S.out n z.2)))
    | .addr r p => putK h o.dst (.addr r p) st κ
    | .rp t y => κ (putd st (.rp t y))
    | _ => none
  | .binOp op xt x y yt => match isNilC y with
    | true => binNil E xt op (st.val E x xt) out
    | false => bin2 E xt op (isNilP y) (st.val E x xt) (st.val E y yt) out
  | .unOp op _ x => match op, st.val E x o.type with
    | .not, some ⟨.bool, _, y⟩ => out ⟨.bool, .ro, notB y⟩
    | .neg, some ⟨.int k, _, y⟩ => out ⟨.int k, .ro, negI k y⟩
    | .xor, some ⟨.int k, _, y⟩ => out ⟨.int k, .ro, notI k y⟩
    | _, _ => none
  | .convert src dst x => match E.tys.lookup src, E.tys.lookup dst, st.val E x src with
    | some _, some (.int k), some ⟨.int _, _, y⟩ => out ⟨.int k, .ro, k.wrap y⟩
    | some .str, some .str, some ⟨.str, _, y⟩ => out ⟨.str, .ro, y⟩
    | some (.slice _ (.int .u8)), some .str, some ⟨.slice _ (.int .u8), _, y⟩ => out ⟨.str, .ro, bytesOf y⟩
    | some .str, some (.slice ee (.int .u8)), some ⟨.str, _, y⟩ => out ⟨.slice ee (.int .u8), .ro, intsOf y⟩
    | _, _, _ => none
  | .fieldAddr e x f => match st.av E x 0 with
    | .rp t y => match E.is e t with
      | true => match fieldPath t f with
        | some p => match S.getP t .ro p y with
          | some c => κ (putd st (.rp c.t c.x))
          | none => none
        | none => none
      | false => none
    | .addr r p => match st.at r p with
      | some c => match E.is e c.t with
        | true => match fieldPath c.t f with
          | some q => putK h o.dst (.addr r (p ++ q)) st κ
          | none => none
        | false => none
      | none => none
    | _ => none
  | .field e x f => match st.av E x e with
    | .v t _ y => match E.is e t with
      | true => match fieldPath t f with
        | some p => match S.getP t .ro p y with
          | some c => out c
          | none => none
        | none => none
      | false => none
    | .ref r p => match st.at r p with
      | some c => match E.is e c.t with
        | true => match fieldPath c.t f with
          | some q => match st.at r (p ++ q) with
            | some ⟨t, m, y⟩ => match m with
              | .ro => out ⟨t, .ro, y⟩
              | .dd => none
              | _ => putK h o.dst (.ref r (p ++ q)) st κ
            | none => none
          | none => none
        | false => none
      | none => none
    | _ => none
  | .indexAddr e x i => match asInt (st.val E i 0) with
    | some (_, j) => match st.av E x e with
      | .v (.slice ee t) _ l => match E.is e (.slice ee t) with
        | true => within j (List.length l) fun n => κ (putd st (.rp (S.un t) (S.unx t (List.getD l n (S.zero t)))))
        | false => none
      | .ref r p => match st.at r p with
        | some ⟨.slice ee t, m, l⟩ => match E.is e (.slice ee t), m with
          | true, .own _ => within j (List.length l) fun n => putK h o.dst (.addr r (p ++ [.idx n])) st κ
          | _, _ => none
        | _ => none
      | .rp (.agg (.arr k t)) l => match E.is e (.agg (.arr k t)) with
        | true => within j k fun n => κ (putd st (.rp t (List.getD (l : List (S.den t)) n (S.zero t))))
        | false => none
      | .addr r p => match st.at r p with
        | some ⟨.agg (.arr k t), _, _⟩ => match E.is e (.agg (.arr k t)) with
          | true => within j k fun n => putK h o.dst (.addr r (p ++ [.inn, .el n])) st κ
          | false => none
        | _ => none
      | _ => none
    | none => none
  | .index e x i => match asInt (st.val E i 0) with
    | some (_, j) => match st.av E x e with
      | .v .str _ s => match E.is e .str with
        | true => within j (List.length s) fun n => out ⟨.int .u8, .ro, ((List.getD s n 0 : UInt8).toNat : Int)⟩
        | false => none
      | .v (.agg (.arr k t)) _ l => match E.is e (.agg (.arr k t)) with
        | true => within j k fun n => out ⟨t, .ro, List.getD (l : List (S.den t)) n (S.zero t)⟩
        | false => none
      | _ => none
    | none => none
  | .slice e x lo hi none => match st.frz E x e with
    | some (⟨.str, _, s⟩, st') => match E.is e .str with
      | true => bounds st lo hi (List.length s) fun a b => κ (putd st' (.v .str .ro (List.drop a (List.take b s))))
      | false => none
    | some (⟨.slice ee t, _, s⟩, st') => match E.is e (.slice ee t) with
      | true => bounds st lo hi (List.length s) fun a b => κ (putd st' (.v (.slice ee t) .ro (List.drop a (List.take b s))))
      | false => none
    | _ => none
  | .makeFunc fn first captured => match fn with
    | .func f => match first.toList with
      | [] => match h.fns.lookup (o.dst.getD 0) with
        | some bs => match capFrz bs captured.toList st with
          | some st' => match capsAt st' captured.toList with
            | some cs => match o.dst with
              | some d => κ (st'.put h d (.fn f cs))
              | none => none
            | none => none
          | none => none
        | none => match capGo captured.toList st with
          | some (c, st') => match o.dst with
            | some d => κ (st'.put h d (.v (.clo f c.t) .ro c.x))
            | none => none
          | none => none
      | _ => none
    | _ => none
  | .makeMap t res => match res with
    | none => match E.tys.lookup t, o.dst with
      | some (.map k v), some d => κ (st.put h d (.v (.map k v) mapM []))
      | _, _ => none
    | some _ => none
  | .lookup t x i two => match st.av E x t with
    | .ref r p => match st.at r p with
      | some ⟨.map k v, m, l⟩ => match m, E.is t (.map k v) && k.isKey && v.scalar, st.val E i 0 with
        | .pr _ _, true, some c => match S.cast c.t k c.x with
          | some y => match two with
            | true => κ (putd st (.tup (.pair v .bool) .ro (Option.getD (findM (S.eqB k) y (l : List (S.den k × S.den v))) (S.zero v), Option.isSome (findM (S.eqB k) y (l : List (S.den k × S.den v))))))
            | false => out ⟨v, .ro, Option.getD (findM (S.eqB k) y (l : List (S.den k × S.den v))) (S.zero v)⟩
          | none => none
        | _, _, _ => none
      | _ => none
    | _ => none
  | .mapUpdate t x i z => match o.dst, st.av E x t with
    | none, .ref r p => match r, p with
      | .slot s, [] => match st.look s with
        | .v (.map k v) m l => match m, E.is t (.map k v) && k.isKey && v.scalar, st.val E i 0, st.val E z 0 with
          | .pr _ _, true, some c, some d => match S.cast c.t k c.x, S.cast d.t v d.x with
            | some y, some y2 => κ ((st.drop (.slot s)).setRoot (.slot s) ⟨.map k v, m, putM (S.eqB k) y y2 (l : List (S.den k × S.den v))⟩)
            | _, _ => none
          | _, _, _, _ => none
        | _ => none
      | _, _ => none
    | _, _ => none
  | .extract x i => match x with
    | .tmp s => match st.look s with
      | .tup t _ y => match tupGo t i y with
        | some c => out c
        | none => none
      | _ => none
    | _ => none
  | .call c => match c.callee with
    | .value (.func g) => callG π E h g c.args.toList c.argTypes.toList o.dst st κ
    | .value (.tmp s) => match st.look s with
      | .v (.clo f u) m y => match m with
        | .ro => callC π E h f u y c.args.toList c.argTypes.toList o.dst st κ
        | _ => none
      | .fn f cs => callF π E h s f cs.length c.args.toList c.argTypes.toList o.dst st κ
      | _ => none
    | .builtin .len => match c.args.toList, c.argTypes.toList with
      | [x], [t] => match st.val E x t with
        | some ⟨.str, _, s⟩ => match E.is t .str with
          | true => out ⟨.int .i64, .ro, (List.length s : Int)⟩
          | false => none
        | some ⟨.slice ee u, _, s⟩ => match E.is t (.slice ee u) with
          | true => out ⟨.int .i64, .ro, (List.length s : Int)⟩
          | false => none
        | _ => match st.av E x t with
          | .ref r p => match st.at r p with
            | some ⟨.map k v, m, l⟩ => match m, E.is t (.map k v) with
              | .pr _ _, true => out ⟨.int .i64, .ro, (List.length (l : List (S.den k × S.den v)) : Int)⟩
              | _, _ => none
            | _ => none
          | _ => none
      | _, _ => none
    | .builtin .append => match c.args.toList, c.argTypes.toList with
      | [x, y], [t, t'] => match t == t' with
        | true => match E.tys.lookup t with
          | some (.slice ee u) => match (S.un u).isMap || (S.un u).isClo with
            | false => match appArg E (appEl E st y t u) st y t ee u with
              | some (l2, st1) => match appTake E (appEl E st y t u) st1 x t ee u with
                | some (l1, st2) => must (decide ((List.length l1 + List.length l2) * 4096 ≤ 140737488355328)) (κ (putd (st2.killBy AVal.deep) (.v (.slice ee u) (.own (appEl E st y t u)) (List.append l1 l2))))
                | none => none
              | none => none
            | true => none
          | _ => none
        | false => none
      | _, _ => none
    | .builtin .min => match c.args.toList, c.argTypes.toList with
      | [x, y], [t, u] => match asInt (st.val E x t), asInt (st.val E y u) with
        | some (k, a), some (_, b) => out ⟨.int k, .ro, minI a b⟩
        | _, _ => none
      | _, _ => none
    | .builtin .max => match c.args.toList, c.argTypes.toList with
      | [x, y], [t, u] => match asInt (st.val E x t), asInt (st.val E y u) with
        | some (k, a), some (_, b) => out ⟨.int k, .ro, maxI a b⟩
        | _, _ => none
      | _, _ => none
    | _ => none
  | _ => none
  where
  bounds (st : ST S) (lo hi : Option Operand) (n : Nat) (κ : Nat → Nat → Option α) : Option α :=
    let low (b : Nat) : Option α := match lo with
      | none => κ 0 b
      | some x => match asInt (st.val E x 0) with
        | some (_, j) => must (decide (0 ≤ j)) (must (decide (j ≤ (b : Int))) (κ j.toNat b))
        | none => none
    match hi with
    | none => low n
    | some x => match asInt (st.val E x 0) with
      | some (_, j) => must (decide (0 ≤ j)) (must (decide (j ≤ (n : Int))) (low j.toNat))
      | none => none
noncomputable def guardK (π : ST S → Option α) (E : Env S) (h : Hint) (ops : List Oper) (o : Oper) (st : ST S) (κ : ST S → Option α) : Option α :=
  match o.guard with
  | none => opK π E h o st κ
  | some (j, b) => match (ops[j]?).bind (·.dst) with
    | some d => match st.look d with
      | .v .bool m x => match m with
        | .ro => ask x fun y => match y == b with
          | true => opK π E h o (st.put h d (.v .bool .ro y)) κ
          | false => κ (match o.dst with
            | some d' => (st.put h d (.v .bool .ro y)).put h d' .und
            | none => st.put h d (.v .bool .ro y))
        | _ => none
      | .und => κ (match o.dst with
        | some d' => st.put h d' .und
        | none => st)
      | _ => none
    | none => none
noncomputable def opsK (π : ST S → Option α) (E : Env S) (h : Hint) (ops : List Oper) : List Oper → ST S → (ST S → Option α) → Option α
  | [], st, κ => κ st
  | o :: l, st, κ => guardK π E h ops o st fun st' => opsK π E h ops l st' κ
noncomputable def treeK (π : ST S → Option α) (E : Env S) (h : Hint) (ops : List Oper) : OT → ST S → (ST S → Option α) → Option α
  | .done, st, κ => κ st
  | .step i t, st, κ => match ops[i]? with
    | some o => guardK π E h ops o st fun st' => treeK π E h ops t st' κ
    | none => none
  | .both t u, st, κ => meetK (treeK π E h ops t st κ) (treeK π E h ops u st κ)
def exitKey : Code → Nat
  | .exit id => 1000000 + id
  | _ => 0
def firstRegion : Code → Nat
  | .region id _ _ => id
  | .seq a _ => firstRegion a
  | .cond _ a b => match firstRegion a with
    | 0 => exitKey b
    | n => n
  | .block _ c => firstRegion c
  | .loop c => firstRegion c
  | .scope c => firstRegion c
  | _ => 0
def rootIn (c : List Nat × List Nat) : Root → Bool
  | .slot s => c.1.contains s
  | .mem k => c.2.contains k
  | .lim => false
def St.norm (st : ST S) (c : List Nat × List Nat) : ST S :=
  { vars := c.1.map fun i => (i, (st.look i).based (rootIn c)), scr := [], mems := c.2.filterMap fun k => (st.mems.lookup k).map (k, ·) }
def Hint.inn (h : Hint) (c : Code) (st : ST S) : ST S :=
  match h.cuts.lookup (firstRegion c) with
  | some x => st.norm x.1
  | none => st
def Hint.out (h : Hint) (c : Code) (st : ST S) : ST S :=
  match h.cuts.lookup (firstRegion c) with
  | some x => st.norm x.2
  | none => st
def outC (out : ST S → ST S) (κ : Exit → ST S → Option α) : Exit → ST S → Option α := fun ex st' => match two with
  | true => match ex with
    | .normal => κ .normal (out st')
    | ex => κ ex st'
  | false => none
def loopE (again : ST S → Option α) (nrm : ST S → ST S) (κ : Exit → ST S → Option α) : Exit → ST S → Option α := fun ex st' => match ex with
  | .normal => cutK (fun s (_ : Unit) => again s) (nrm st') ()
  | ex => κ ex st'
def loopK (body : ST S → (Exit → ST S → Option α) → Option α) (nrm : ST S → ST S) (κ : Exit → ST S → Option α) : Nat → ST S → Option α
  | 0, _ => none
  | n + 1, st => body st (loopE (loopK body nrm κ n) nrm κ)
def seqK (rb : ST S → (Exit → ST S → Option α) → Option α) (inn out : ST S → ST S) (κ : Exit → ST S → Option α) : Exit → ST S → Option α
  | .normal, st => cutK rb (inn st) (outC out κ)
  | ex, st => κ ex st
def blockK (id : Nat) (κ : Exit → ST S → Option α) : Exit → ST S → Option α
  | .exit id', st => match id' == id with
    | true => κ .normal st
    | false => κ (.exit id') st
  | ex, st => κ ex st
def sepSt (st : ST S) : List (Nat × Nat) → Bool
  | [] => true
  | (t, t') :: ps => match st.look t with
    | .addr (.mem k) [] => match st.look t' with
      | .addr (.mem k') [] => match k == k' with
        | true => false
        | false => sepSt st ps
      | _ => false
    | _ => false
noncomputable def run (E : Env S) (h : Hint) (k : Nat) : Code → ST S → (Exit → ST S → Option α) → Option α
  | .skip, st, κ => κ .normal st
  | .region id ops _, st, κ => match h.trees.lookup id with
    | some t => treeK (κ (.panic [])) E h ops.toList t st.clear (κ .normal)
    | none => match h.ords.lookup id with
      | none => opsK (κ (.panic [])) E h ops.toList ops.toList st.clear (κ .normal)
      | some l => match h.seps.lookup id with
        | none => opsK (κ (.panic [])) E h ops.toList (l.filterMap (ops.toList[·]?)) st.clear (κ .normal)
        | some ps => match sepSt st ps with
          | true => opsK (κ (.panic [])) E h ops.toList (l.filterMap (ops.toList[·]?)) st.clear (κ .normal)
          | false => none
  | .seq a b, st, κ => run E h k a st (seqK (run E h k b) (h.inn b) (h.out b) κ)
  | .cond c a b, st, κ => match asBool (st.val E c 0) with
    | some x => ask x fun y => match y with
      | true => run E h k a st κ
      | false => run E h k b st κ
    | none => none
  | .block id c, st, κ => run E h k c st (blockK id κ)
  | .loop c, st, κ => cutK (fun s (_ : Unit) => loopK (run E h k c) (h.inn c) κ k s) (h.inn c st) ()
  | .exit id, st, κ => match h.exits.lookup id with
    | some x => κ (.exit id) (st.norm x)
    | none => κ (.exit id) st
  | .ret, st, κ => κ .ret (st.norm h.ret)
  | _, _, _ => none
def resFresh (i : Nat) (t : Ty) (m : Mode) (st : ST S) : Option (S.den t × ST S) :=
  match st.look i with
  | .addr r p => match r, p with
    | .mem k, [] => match decide (k < ioBase), st.mems.lookup k with
      | true, some c => match decEq c.m m with
        | isTrue _ => match S.cast c.t t c.x with
          | some y => some (y, st.less k)
          | none => none
        | isFalse _ => none
      | _, _ => none
    | _, _ => none
  | _ => none
def resOne0 (E : Env S) (r : ResultVar) (t : Ty) (m : Mode) (st : ST S) : Option (S.den t × ST S) :=
  match r with
  | .tmp i => match m with
    | .ro => match st.frzR E i t with
      | some (c, st') => match S.cast c.t t c.x with
        | some y => some (y, st')
        | none => none
      | none => none
    | m => match st.take E (.tmp i) 0 with
      | some (c, st') => match decEq c.m m with
        | isTrue _ => match S.cast c.t t c.x with
          | some y => some (y, st')
          | none => none
        | isFalse _ => none
      | none => none
  | .cell i ty => match m, st.look i with
    | .ro, .addr r p => match st.at r p with
      | some ⟨t', m', x⟩ => match m'.live && E.is ty t' with
        | true => match (st.killT r).setAt r p ⟨t', .ro, x⟩ with
          | some st' => match S.cast t' t x with
            | some y => some (y, st')
            | none => none
          | none => none
        | false => none
      | none => none
    | _, _ => none
def resOne (E : Env S) (r : ResultVar) : (t : Ty) → (m : Mode) → ST S → Option (S.den t × ST S)
  | .box t, .own m, st => match r with
    | .tmp i => resFresh i t m st
    | .cell _ _ => none
  | t, m, st => resOne0 E r t m st
def notPair : Ty → Bool
  | .pair _ _ => false
  | _ => true
def resMany (E : Env S) : List ResultVar → (t : Ty) → ST S → Option (S.den t × ST S)
  | [r], t, st => match notPair t with
    | true => resOne E r t .ro st
    | false => none
  | r :: s :: rs, .pair a b, st => match resOne E r a .ro st with
    | some (x, st') => match resMany E (s :: rs) b st' with
      | some (y, st'') => some ((x, y), st'')
      | none => none
    | none => none
  | _, _, _ => none
def resAll (E : Env S) (rs : List ResultVar) (t : Ty) (m : Mode) (st : ST S) : Option (S.den t × ST S) :=
  match rs with
  | [] => some (S.zero t, st)
  | [r] => resOne E r t m st
  | rs => resMany E rs t st
def memOne (st : ST S) (k : Nat) (t : Ty) (m : Mode) : Option (S.den t) := match st.mems.lookup k with
  | some c => match decEq c.m m with
    | isTrue _ => S.cast c.t t c.x
    | isFalse _ => none
  | none => none
def memAll (st : ST S) : List Nat → (os : List (Ty × Mode)) → Option (S.den (packTy (outT os)))
  | [], [] => some ()
  | k :: ks, o :: os => match memOne st k o.1 o.2, memAll st ks os with
    | some x, some y => some (x, y)
    | _, _ => none
  | _, _ => none
def fin (E : Env S) (rs : List ResultVar) (rt : Ty) (rm : Mode) (ks : List Nat) (os : List (Ty × Mode)) : Exit → ST S → Option (S.den (resTy rt (outT os)))
  | .ret, st => go st
  | .normal, st => go st
  | _, _ => none
  where
  go (st : ST S) : Option (S.den (resTy rt (outT os))) := match resAll E rs rt rm st with
    | some (x, st') => match memAll st' ks os with
      | some y => some (x, y)
      | none => none
    | none => none
def inA : (t : Ty) → S.den t → AV S
  | .box t, x => .rp t x
  | t, x => .v t .ro x
def capBox : (t : Ty) → S.den t → Option (Cap S.toNm)
  | .box t, y => some (.d t y)
  | _, _ => none
def capsIn : Nat → Nat → (ps : List PK) → S.den (packTy (argT ps)) → Option (List (Cap S.toNm))
  | 0, _, _, _ => some []
  | _ + 1, _, [], _ => none
  | n + 1, k, .val t :: ps, x => match capBox t x.1, capsIn n (k + 1) ps x.2 with
    | some c, some cs => some (c :: cs)
    | _, _ => none
  | n + 1, k, .io _ _ :: ps, x => match capsIn n (k + 1) ps x.2 with
    | some cs => some (.m k :: cs)
    | none => none
  | _ + 1, _, .fn _ _ :: _, _ => none
  | _ + 1, _, .own _ _ :: _, _ => none
def inF (f : Nat) : Option (List (Cap S.toNm)) → AV S
  | some cs => .fn f cs
  | none => .dead
def inV : Nat → (i s : Nat) → (ps : List PK) → S.den (packTy (argT ps)) → List (Nat × AV S)
  | _, _, _, [], _ => []
  | k, i, s + 1, _ :: ps, x => inV (k + 1) i s ps x.2
  | k, i, 0, .val t :: ps, x => (i, inA t x.1) :: inV (k + 1) (i + 1) 0 ps x.2
  | k, i, 0, .io _ _ :: ps, x => (i, .addr (.mem k) []) :: inV (k + 1) (i + 1) 0 ps x.2
  | k, i, 0, .fn f n :: ps, x => (i, inF f (capsIn n (k + 1) ps x.2)) :: inV (k + 1) (i + 1) n ps x.2
  | k, i, 0, .own t m :: ps, x => (i, .v t m x.1) :: inV (k + 1) (i + 1) 0 ps x.2
def inM : Nat → (ps : List PK) → S.den (packTy (argT ps)) → List (Nat × MV S.toNm)
  | _, [], _ => []
  | k, .val _ :: ps, x => inM (k + 1) ps x.2
  | k, .io t m :: ps, x => (k, ⟨t, m, x.1⟩) :: inM (k + 1) ps x.2
  | k, .fn _ _ :: ps, x => inM (k + 1) ps x.2
  | k, .own _ _ :: ps, x => inM (k + 1) ps x.2
def ioKs : Nat → List PK → List Nat
  | _, [] => []
  | k, .val _ :: ps => ioKs (k + 1) ps
  | k, .io _ _ :: ps => k :: ioKs (k + 1) ps
  | k, .fn _ _ :: ps => ioKs (k + 1) ps
  | k, .own _ _ :: ps => ioKs (k + 1) ps
def stIn (ps : List PK) (x : S.den (packTy (argT ps))) : ST S := { vars := inV ioBase 0 0 ps x, scr := [], mems := inM ioBase ps x }
end
end Go.Proofs.Ytdnkjfmneppkoaa.Vm
namespace Go.Proofs.Ytdnkjfmneppkoaa.Vm
open Go
def Ty.isAgg : Ty → Bool
  | .agg _ => true
  | .named _ => true
  | .arr _ _ => true
  | _ => false
def VS (t : Ty) (v : Value) (cs : List Value) : Prop :=
  match t.isAgg with
  | true => v = .agg cs.toArray
  | false => cs = [v]
def cellsAt (w : World) (b off n : Nat) : Option (List Value) :=
  match w.heap[b]? with
  | some (.cells c _ _) => if off + n ≤ c.size then some ((c.toList.drop off).take n) else none
  | _ => none
theorem cellsAt_len {w : World} {b off n : Nat} {cs : List Value} (h : cellsAt w b off n = some cs) : cs.length = n := by
  unfold cellsAt at h
  split at h
  · split at h
    · cases h; simp; omega
    · cases h
  · cases h
theorem cellsAt_same {w w' : World} {b : Nat} (h : w'.heap[b]? = w.heap[b]?) (off n : Nat) : cellsAt w' b off n = cellsAt w b off n := by
  simp only [cellsAt, h]
theorem cellsAt_lt {w : World} {b off n : Nat} {cs : List Value} (h : cellsAt w b off n = some cs) : b < w.heap.size := by
  unfold cellsAt at h
  split at h
  · rename_i h'; exact (Array.getElem?_eq_some_iff.1 h').1
  · cases h
abbrev Own := Root × Option Path
section
variable (S : Cx)
def Cx.Ok : Prop := (∀ n, S.nsz n = S.size (S.body n)) ∧ (∀ n x, S.out n (S.pk n x) = x) ∧ ∀ n x, S.pk n (S.out n x) = x
def nth {α : Type} (l : List α) (i : Nat) : Option α := l[i]?
def Plain0 (w : World) (b : Nat) : Prop := ∃ c e, w.heap[b]? = some (.cells c e (0, 0))
def Cx.R0 (rec : (n : Nat) → List Value → S.N n → Prop) (w : World) (Z : Nat → Prop) : (t : Ty) → List Value → S.den t → Prop
  | .int k, cs, x => cs = [.int k x]
  | .bool, cs, x => cs = [.bool x]
  | .str, cs, x => cs = [.string (ByteArray.mk (Array.mk x))]
  | .slice _ t, cs, l => ∃ a c, cs = [.slice a (List.length l) c] ∧ List.length l ≤ c ∧
      ∀ i y, nth l i = some y → ∃ b off cs', a = some ⟨b, off, none⟩ ∧ Z b ∧ cellsAt w b (off + i * S.size t) (S.size t) = some cs' ∧ Cx.R0 rec w Z t cs' y
  | .pair a b, cs, x => ∃ c1 c2, cs = c1 ++ c2 ∧ c1.length = S.size a ∧ Cx.R0 rec w Z a c1 x.1 ∧ Cx.R0 rec w Z b c2 x.2
  | .agg t, cs, x => Cx.R0 rec w Z t cs x
  | .ptr n, cs, x => (cs = [.pointer none] ∧ x = none) ∨ ∃ b y cs', cs = [.pointer (some ⟨b, 0, none⟩)] ∧ x = some y ∧ Z b ∧ cellsAt w b 0 (S.nsz n) = some cs' ∧ rec n cs' y ∧ Plain0 w b
  | .named n, cs, x => rec n cs x
  | .unit, cs, _ => cs = []
  | .arr n t, cs, l => List.length l = n ∧ cs.length = n * S.size t ∧ ∀ i y, nth l i = some y → Cx.R0 rec w Z t ((cs.drop (i * S.size t)).take (S.size t)) y
  | .box t, cs, x => ∃ b off cs', cs = [.pointer (some ⟨b, off, none⟩)] ∧ Z b ∧ cellsAt w b off (S.size t) = some cs' ∧ Cx.R0 rec w Z t cs' x
  | .clo f u, cs, x => ∃ vs : List Value, cs = [.func (.func f) #[] vs.toArray] ∧ Cx.R0 rec w Z u vs x
  | .map _ _, _, _ => False
  | .lptr n, cs, x => (cs = [.pointer none] ∧ x = none) ∨ ∃ b y cs', cs = [.pointer (some ⟨b, 0, none⟩)] ∧ x = some (b, y) ∧ Z b ∧ cellsAt w b 0 (S.nsz n) = some cs' ∧ rec n cs' y ∧ Plain0 w b
theorem Cx.R0_mono {rec rec' : (n : Nat) → List Value → S.N n → Prop} {w w' : World} {Z Z' : Nat → Prop}
    (hr : ∀ n cs y, rec n cs y → rec' n cs y) (hZ : ∀ b, Z b → Z' b) (hw : ∀ b, Z b → w'.heap[b]? = w.heap[b]?) :
    ∀ (t : Ty) (cs : List Value) (x : S.den t), S.R0 rec w Z t cs x → S.R0 rec' w' Z' t cs x
  | .int _, _, _, h => h
  | .bool, _, _, h => h
  | .str, _, _, h => h
  | .slice _ t, _, _, ⟨a, c, h1, h2, h3⟩ => ⟨a, c, h1, h2, fun i y hy =>
      let ⟨b, off, cs', e1, e2, e3, e4⟩ := h3 i y hy
      ⟨b, off, cs', e1, hZ _ e2, by rw [cellsAt_same (hw b e2)]; exact e3, Cx.R0_mono hr hZ hw t _ _ e4⟩⟩
  | .pair a b, _, _, ⟨c1, c2, h1, h2, h3, h4⟩ => ⟨c1, c2, h1, h2, Cx.R0_mono hr hZ hw a _ _ h3, Cx.R0_mono hr hZ hw b _ _ h4⟩
  | .agg t, _, _, h => Cx.R0_mono hr hZ hw t _ _ h
  | .ptr _, _, _, .inl h => .inl h
  | .ptr _, _, _, .inr ⟨b, y, cs', h1, h2, h3, h4, h5, c, e, h6⟩ => .inr ⟨b, y, cs', h1, h2, hZ _ h3, by rw [cellsAt_same (hw b h3)]; exact h4, hr _ _ _ h5, c, e, by rw [hw b h3]; exact h6⟩
  | .named _, _, _, h => hr _ _ _ h
  | .unit, _, _, h => h
  | .arr _ t, _, _, ⟨h1, h2, h3⟩ => ⟨h1, h2, fun i y hy => Cx.R0_mono hr hZ hw t _ _ (h3 i y hy)⟩
  | .box t, _, _, ⟨b, off, cs', h1, h2, h3, h4⟩ => ⟨b, off, cs', h1, hZ _ h2, by rw [cellsAt_same (hw b h2)]; exact h3, Cx.R0_mono hr hZ hw t _ _ h4⟩
  | .clo _ u, _, _, ⟨vs, h1, h2⟩ => ⟨vs, h1, Cx.R0_mono hr hZ hw u _ _ h2⟩
  | .map _ _, _, _, h => h.elim
  | .lptr _, _, _, .inl h => .inl h
  | .lptr _, _, _, .inr ⟨b, y, cs', h1, h2, h3, h4, h5, c, e, h6⟩ => .inr ⟨b, y, cs', h1, h2, hZ _ h3, by rw [cellsAt_same (hw b h3)]; exact h4, hr _ _ _ h5, c, e, by rw [hw b h3]; exact h6⟩
theorem list_nth {β : Type} (l l' : List β) (hl : l.length = l'.length) (h : ∀ i y y', nth l i = some y → nth l' i = some y' → y = y') : l = l' := by
  apply List.ext_getElem hl
  intro i hi hi'
  exact h i _ _ (by simp [nth, hi]) (by simp [nth, hi'])
theorem app_cancel {c1 c2 d1 d2 : List Value} (h : c1 ++ c2 = d1 ++ d2) (hl : c1.length = d1.length) : c1 = d1 ∧ c2 = d2 := List.append_inj h hl
theorem Cx.R0_fun {rec rec' : (n : Nat) → List Value → S.N n → Prop} {w : World} {Z Z' : Nat → Prop} (hr : ∀ n cs y y', rec n cs y → rec' n cs y' → y = y') :
    ∀ (t : Ty) (cs : List Value) (x x' : S.den t), S.R0 rec w Z t cs x → S.R0 rec' w Z' t cs x' → x = x'
  | .int _, _, x, x', h, h' => by
    have h : _ = [Value.int _ x] := h
    have h' : _ = [Value.int _ x'] := h'
    rw [h] at h'
    have e := (List.cons.inj h').1
    injection e
  | .bool, _, x, x', h, h' => by
    have h : _ = [Value.bool x] := h
    have h' : _ = [Value.bool x'] := h'
    rw [h] at h'
    have e := (List.cons.inj h').1
    injection e
  | .str, _, x, x', h, h' => by
    have h : _ = [Value.string (ByteArray.mk (Array.mk x))] := h
    have h' : _ = [Value.string (ByteArray.mk (Array.mk x'))] := h'
    rw [h] at h'
    have e := (List.cons.inj h').1
    injection e with e
    injection e with e
    injection e
  | .slice _ t, _, l, l', ⟨a, c, h1, h2, h3⟩, ⟨a', c', h1', h2', h3'⟩ => by
    rw [h1] at h1'
    have e := (List.cons.inj h1').1
    injection e with ea el ec
    subst ea
    refine list_nth (β := S.den t) l l' el fun i y y' hy hy' => ?_
    obtain ⟨b, off, cs', e1, e2, e3, e4⟩ := h3 i y hy
    obtain ⟨b', off', cs'', e1', e2', e3', e4'⟩ := h3' i y' hy'
    rw [e1] at e1'
    cases e1'
    rw [e3] at e3'
    cases e3'
    exact Cx.R0_fun hr t _ _ _ e4 e4'
  | .pair a b, _, x, x', ⟨c1, c2, h1, h2, h3, h4⟩, ⟨d1, d2, h1', h2', h3', h4'⟩ => by
    rw [h1] at h1'
    obtain ⟨e1, e2⟩ := app_cancel h1' (h2.trans h2'.symm)
    subst e1
    subst e2
    exact Prod.ext (Cx.R0_fun hr a _ _ _ h3 h3') (Cx.R0_fun hr b _ _ _ h4 h4')
  | .agg t, _, x, x', h, h' => Cx.R0_fun hr t _ x x' h h'
  | .ptr n, _, x, x', h, h' => by
    rcases h with ⟨h1, h2⟩ | ⟨b, y, cs', h1, h2, h3, h4, h5, _⟩ <;> rcases h' with ⟨h1', h2'⟩ | ⟨b', y', cs'', h1', h2', h3', h4', h5', _⟩
    · rw [h2, h2']
    · rw [h1] at h1'; simp at h1'
    · rw [h1] at h1'; simp at h1'
    · rw [h1] at h1'
      simp at h1'
      subst h1'
      rw [h4] at h4'
      cases h4'
      rw [h2, h2', hr _ _ _ _ h5 h5']
  | .named n, _, x, x', h, h' => hr _ _ _ _ h h'
  | .unit, _, _, _, _, _ => rfl
  | .arr n t, _, l, l', ⟨h1, h2, h3⟩, ⟨h1', h2', h3'⟩ => by
    refine list_nth (β := S.den t) l l' (h1.trans h1'.symm) fun i y y' hy hy' => ?_
    exact Cx.R0_fun hr t _ _ _ (h3 i y hy) (h3' i y' hy')
  | .box t, _, x, x', ⟨b, off, cs', h1, h2, h3, h4⟩, ⟨b', off', cs'', h1', h2', h3', h4'⟩ => by
    rw [h1] at h1'
    simp at h1'
    obtain ⟨rfl, rfl⟩ := h1'
    rw [h3] at h3'
    cases h3'
    exact Cx.R0_fun hr t _ x x' h4 h4'
  | .clo f u, _, x, x', ⟨vs, h1, h2⟩, ⟨vs', h1', h2'⟩ => by
    rw [h1] at h1'
    simp at h1'
    subst h1'
    exact Cx.R0_fun hr u _ x x' h2 h2'
  | .map _ _, _, _, _, h, _ => h.elim
  | .lptr n, _, x, x', h, h' => by
    rcases h with ⟨h1, h2⟩ | ⟨b, y, cs', h1, h2, h3, h4, h5, _⟩ <;> rcases h' with ⟨h1', h2'⟩ | ⟨b', y', cs'', h1', h2', h3', h4', h5', _⟩
    · rw [h2, h2']
    · rw [h1] at h1'; simp at h1'
    · rw [h1] at h1'; simp at h1'
    · rw [h1] at h1'
      simp at h1'
      subst h1'
      rw [h4] at h4'
      cases h4'
      rw [h2, h2', hr _ _ _ _ h5 h5']
def Cx.RN (w : World) (Z : Nat → Prop) : Nat → (n : Nat) → List Value → S.N n → Prop
  | 0 => fun _ _ _ => False
  | d + 1 => fun n cs y => S.R0 (Cx.RN w Z d) w Z (S.body n) cs (S.out n y)
theorem Cx.RN_up (w : World) (Z : Nat → Prop) : ∀ (d n : Nat) (cs : List Value) (y : S.N n), S.RN w Z d n cs y → S.RN w Z (d + 1) n cs y
  | 0, _, _, _, h => h.elim
  | d + 1, n, cs, y, h => Cx.R0_mono S (fun n cs y => Cx.RN_up w Z d n cs y) (fun _ h => h) (fun _ _ => rfl) (S.body n) cs (S.out n y) h
theorem Cx.RN_le (w : World) (Z : Nat → Prop) {d d' : Nat} (h : d ≤ d') (n : Nat) (cs : List Value) (y : S.N n) (hr : S.RN w Z d n cs y) : S.RN w Z d' n cs y := by
  induction h with
  | refl => exact hr
  | step _ ih => exact S.RN_up w Z _ n cs y ih
def Cx.R (w : World) (Z : Nat → Prop) (t : Ty) (cs : List Value) (x : S.den t) : Prop := ∃ d, S.R0 (S.RN w Z d) w Z t cs x
theorem Cx.R.deep {S : Cx} {w : World} {Z : Nat → Prop} {t : Ty} {cs : List Value} {x : S.den t} {d d' : Nat} (h : S.R0 (S.RN w Z d) w Z t cs x) (hd : d ≤ d') : S.R0 (S.RN w Z d') w Z t cs x :=
  Cx.R0_mono S (fun n cs y => S.RN_le w Z hd n cs y) (fun _ h => h) (fun _ _ => rfl) t cs x h
theorem Cx.RN_frame {w w' : World} {Z Z' : Nat → Prop} (hZ : ∀ b, Z b → Z' b) (hw : ∀ b, Z b → w'.heap[b]? = w.heap[b]?) :
    ∀ (d n : Nat) (cs : List Value) (y : S.N n), S.RN w Z d n cs y → S.RN w' Z' d n cs y
  | 0, _, _, _, h => h.elim
  | d + 1, n, cs, y, h => Cx.R0_mono S (fun n cs y => Cx.RN_frame hZ hw d n cs y) hZ hw (S.body n) cs (S.out n y) h
theorem Cx.R.frame {S : Cx} {w w' : World} {Z Z' : Nat → Prop} {t : Ty} {cs : List Value} {x : S.den t} (h : S.R w Z t cs x) (hZ : ∀ b, Z b → Z' b) (hw : ∀ b, Z b → w'.heap[b]? = w.heap[b]?) : S.R w' Z' t cs x :=
  let ⟨d, h⟩ := h
  ⟨d, Cx.R0_mono S (fun n cs y => S.RN_frame hZ hw d n cs y) hZ hw t cs x h⟩
theorem Cx.R0_len {rec : (n : Nat) → List Value → S.N n → Prop} {w : World} {Z : Nat → Prop} (hr : ∀ n cs y, rec n cs y → cs.length = S.nsz n) :
    ∀ (t : Ty) (cs : List Value) (x : S.den t), S.R0 rec w Z t cs x → cs.length = S.size t
  | .int _, _, _, h => by cases h; rfl
  | .bool, _, _, h => by cases h; rfl
  | .str, _, _, h => by cases h; rfl
  | .slice _ _, _, _, ⟨_, _, h1, _⟩ => by cases h1; rfl
  | .pair a b, _, _, ⟨c1, c2, h1, h2, h3, h4⟩ => by
      rw [h1, List.length_append, Cx.R0_len hr a _ _ h3, Cx.R0_len hr b _ _ h4]; rfl
  | .agg t, _, _, h => Cx.R0_len hr t _ _ h
  | .ptr _, _, _, .inl h => by rw [h.1]; rfl
  | .ptr _, _, _, .inr ⟨_, _, _, h1, _⟩ => by rw [h1]; rfl
  | .named _, _, _, h => hr _ _ _ h
  | .unit, _, _, h => by cases h; rfl
  | .arr _ _, _, _, ⟨_, h, _⟩ => h
  | .box _, _, _, ⟨_, _, _, h, _⟩ => by cases h; rfl
  | .clo _ _, _, _, ⟨_, h, _⟩ => by cases h; rfl
  | .map _ _, _, _, h => h.elim
  | .lptr _, _, _, .inl h => by rw [h.1]; rfl
  | .lptr _, _, _, .inr ⟨_, _, _, h1, _⟩ => by rw [h1]; rfl
theorem Cx.RN_len (ok : S.Ok) {w : World} {Z : Nat → Prop} : ∀ (d n : Nat) (cs : List Value) (y : S.N n), S.RN w Z d n cs y → cs.length = S.nsz n
  | 0, _, _, _, h => h.elim
  | d + 1, n, cs, y, h => (Cx.R0_len S (fun n cs y => Cx.RN_len ok d n cs y) (S.body n) cs (S.out n y) h).trans (ok.1 n).symm
theorem Cx.R.len {S : Cx} (ok : S.Ok) {w : World} {Z : Nat → Prop} {t : Ty} {cs : List Value} {x : S.den t} (h : S.R w Z t cs x) : cs.length = S.size t :=
  let ⟨d, h⟩ := h
  S.R0_len (S.RN_len ok d) t cs x h
theorem Cx.RN_fun (ok : S.Ok) {w : World} {Z Z' : Nat → Prop} : ∀ (d d' n : Nat) (cs : List Value) (y y' : S.N n), S.RN w Z d n cs y → S.RN w Z' d' n cs y' → y = y'
  | 0, _, _, _, _, _, h, _ => h.elim
  | _ + 1, 0, _, _, _, _, _, h => h.elim
  | d + 1, d' + 1, n, cs, y, y', h, h' => by
    have := S.R0_fun (fun n cs y y' => Cx.RN_fun ok d d' n cs y y') (S.body n) cs (S.out n y) (S.out n y') h h'
    rw [← ok.2.2 n y, ← ok.2.2 n y', this]
theorem Cx.R.fun_ {S : Cx} (ok : S.Ok) {w : World} {Z Z' : Nat → Prop} {t : Ty} {cs : List Value} {x x' : S.den t} (h : S.R w Z t cs x) (h' : S.R w Z' t cs x') : x = x' :=
  let ⟨d, h⟩ := h
  let ⟨d', h'⟩ := h'
  S.R0_fun (fun n cs y y' => S.RN_fun ok d d' n cs y y') t cs x x' h h'
theorem depth_all {P : Nat → Nat → Prop} (hP : ∀ i d d', d ≤ d' → P i d → P i d') : ∀ n, (∀ i, i < n → ∃ d, P i d) → ∃ d, ∀ i, i < n → P i d
  | 0, _ => ⟨0, fun _ h => by omega⟩
  | n + 1, h => by
    obtain ⟨d, hd⟩ := depth_all hP n (fun i hi => h i (by omega))
    obtain ⟨d', hd'⟩ := h n (by omega)
    refine ⟨max d d', fun i hi => ?_⟩
    by_cases hin : i < n
    · exact hP i d _ (by omega) (hd i hin)
    · have : i = n := by omega
      subst this; exact hP _ d' _ (by omega) hd'
theorem Cx.size_un {S : Cx} (ok : S.Ok) (t : Ty) : S.size (S.un t) = S.size t := by
  cases t with
  | named n => exact (ok.1 n).symm
  | _ => rfl
theorem Cx.un_of {S : Cx} {t : Ty} (h : t.isNamed = false) : S.un t = t := by
  cases t with
  | named n => cases h
  | _ => rfl
section
variable {S : Cx} {w : World} {Z : Nat → Prop}
theorem Cx.R_int {k : IntKind} {cs : List Value} {x : Int} : S.R w Z (.int k) cs x ↔ cs = [.int k x] := ⟨fun ⟨_, h⟩ => h, fun h => ⟨0, h⟩⟩
theorem Cx.R_bool {cs : List Value} {x : Bool} : S.R w Z .bool cs x ↔ cs = [.bool x] := ⟨fun ⟨_, h⟩ => h, fun h => ⟨0, h⟩⟩
theorem Cx.R_str {cs : List Value} {x : List UInt8} : S.R w Z .str cs x ↔ cs = [.string (ByteArray.mk (Array.mk x))] := ⟨fun ⟨_, h⟩ => h, fun h => ⟨0, h⟩⟩
theorem Cx.R_unit {cs : List Value} {x : Unit} : S.R w Z .unit cs x ↔ cs = [] := ⟨fun ⟨_, h⟩ => h, fun h => ⟨0, h⟩⟩
theorem Cx.R_agg {t : Ty} {cs : List Value} {x : S.den t} : S.R w Z (.agg t) cs x ↔ S.R w Z t cs x := ⟨fun ⟨d, h⟩ => ⟨d, h⟩, fun ⟨d, h⟩ => ⟨d, h⟩⟩
theorem Cx.R_pair {a b : Ty} {cs : List Value} {x : S.den a} {y : S.den b} :
    S.R w Z (.pair a b) cs (x, y) ↔ ∃ c1 c2, cs = c1 ++ c2 ∧ c1.length = S.size a ∧ S.R w Z a c1 x ∧ S.R w Z b c2 y := by
  constructor
  · rintro ⟨d, c1, c2, h1, h2, h3, h4⟩
    exact ⟨c1, c2, h1, h2, ⟨d, h3⟩, ⟨d, h4⟩⟩
  · rintro ⟨c1, c2, h1, h2, ⟨d, h3⟩, ⟨d', h4⟩⟩
    exact ⟨max d d', c1, c2, h1, h2, Cx.R.deep h3 (by omega), Cx.R.deep h4 (by omega)⟩
theorem Cx.R_slice {e : Nat} {t : Ty} {cs : List Value} {l : List (S.den t)} :
    S.R w Z (.slice e t) cs l ↔ ∃ a c, cs = [.slice a l.length c] ∧ l.length ≤ c ∧
      ∀ i y, nth l i = some y → ∃ b off cs', a = some ⟨b, off, none⟩ ∧ Z b ∧ cellsAt w b (off + i * S.size t) (S.size t) = some cs' ∧ S.R w Z t cs' y := by
  constructor
  · rintro ⟨d, a, c, h1, h2, h3⟩
    exact ⟨a, c, h1, h2, fun i y hy => let ⟨b, off, cs', e1, e2, e3, e4⟩ := h3 i y hy; ⟨b, off, cs', e1, e2, e3, d, e4⟩⟩
  · rintro ⟨a, c, h1, h2, h3⟩
    obtain ⟨d, hd⟩ := depth_all (P := fun i d => ∀ y, nth l i = some y → ∃ b off cs', a = some ⟨b, off, none⟩ ∧ Z b ∧ cellsAt w b (off + i * S.size t) (S.size t) = some cs' ∧ S.R0 (S.RN w Z d) w Z t cs' y)
      (fun i d d' hd h y hy => let ⟨b, off, cs', e1, e2, e3, e4⟩ := h y hy; ⟨b, off, cs', e1, e2, e3, Cx.R.deep e4 hd⟩) l.length
      (fun i hi => by
        obtain ⟨b, off, cs', e1, e2, e3, d, e4⟩ := h3 i l[i] (by simp [nth, hi])
        refine ⟨d, fun y hy => ?_⟩
        have : y = l[i] := by simp [nth, hi] at hy; exact hy.symm
        subst this
        exact ⟨b, off, cs', e1, e2, e3, e4⟩)
    refine ⟨d, a, c, h1, h2, fun i y hy => hd i ?_ y hy⟩
    rcases Nat.lt_or_ge i l.length with h | h
    · exact h
    · simp [nth, h] at hy
theorem Cx.R_ptr {n : Nat} {cs : List Value} {x : Option (S.N n)} :
    S.R w Z (.ptr n) cs x ↔ (cs = [.pointer none] ∧ x = none) ∨ ∃ b y cs', cs = [.pointer (some ⟨b, 0, none⟩)] ∧ x = some y ∧ Z b ∧ cellsAt w b 0 (S.nsz n) = some cs' ∧ S.R w Z (S.body n) cs' (S.out n y) ∧ Plain0 w b := by
  constructor
  · rintro ⟨d, h | ⟨b, y, cs', h1, h2, h3, h4, h5, h6⟩⟩
    · exact .inl h
    · cases d with
      | zero => exact h5.elim
      | succ d => exact .inr ⟨b, y, cs', h1, h2, h3, h4, ⟨d, h5⟩, h6⟩
  · rintro (h | ⟨b, y, cs', h1, h2, h3, h4, ⟨d, h5⟩, h6⟩)
    · exact ⟨0, .inl h⟩
    · exact ⟨d + 1, .inr ⟨b, y, cs', h1, h2, h3, h4, h5, h6⟩⟩
theorem Cx.R_lptr {n : Nat} {cs : List Value} {x : Option (Nat × S.N n)} :
    S.R w Z (.lptr n) cs x ↔ (cs = [.pointer none] ∧ x = none) ∨ ∃ b y cs', cs = [.pointer (some ⟨b, 0, none⟩)] ∧ x = some (b, y) ∧ Z b ∧ cellsAt w b 0 (S.nsz n) = some cs' ∧ S.R w Z (S.body n) cs' (S.out n y) ∧ Plain0 w b := by
  constructor
  · rintro ⟨d, h | ⟨b, y, cs', h1, h2, h3, h4, h5, h6⟩⟩
    · exact .inl h
    · cases d with
      | zero => exact h5.elim
      | succ d => exact .inr ⟨b, y, cs', h1, h2, h3, h4, ⟨d, h5⟩, h6⟩
  · rintro (h | ⟨b, y, cs', h1, h2, h3, h4, ⟨d, h5⟩, h6⟩)
    · exact ⟨0, .inl h⟩
    · exact ⟨d + 1, .inr ⟨b, y, cs', h1, h2, h3, h4, h5, h6⟩⟩
theorem Cx.R_arr {n : Nat} {t : Ty} {cs : List Value} {l : List (S.den t)} :
    S.R w Z (.arr n t) cs l ↔ l.length = n ∧ cs.length = n * S.size t ∧ ∀ i y, nth l i = some y → S.R w Z t ((cs.drop (i * S.size t)).take (S.size t)) y := by
  constructor
  · rintro ⟨d, h1, h2, h3⟩
    exact ⟨h1, h2, fun i y hy => ⟨d, h3 i y hy⟩⟩
  · rintro ⟨h1, h2, h3⟩
    obtain ⟨d, hd⟩ := depth_all (P := fun i d => ∀ y, nth l i = some y → S.R0 (S.RN w Z d) w Z t ((cs.drop (i * S.size t)).take (S.size t)) y)
      (fun i d d' hd h y hy => Cx.R.deep (h y hy) hd) l.length
      (fun i hi => by
        obtain ⟨d, e⟩ := h3 i l[i] (by simp [nth, hi])
        refine ⟨d, fun y hy => ?_⟩
        have : y = l[i] := by simp [nth, hi] at hy; exact hy.symm
        subst this
        exact e)
    refine ⟨d, h1, h2, fun i y hy => hd i ?_ y hy⟩
    rcases Nat.lt_or_ge i l.length with h | h
    · exact h
    · simp [nth, h] at hy
theorem Cx.R_box {t : Ty} {cs : List Value} {x : S.den t} :
    S.R w Z (.box t) cs x ↔ ∃ b off cs', cs = [.pointer (some ⟨b, off, none⟩)] ∧ Z b ∧ cellsAt w b off (S.size t) = some cs' ∧ S.R w Z t cs' x :=
  ⟨fun ⟨d, b, off, cs', h1, h2, h3, h4⟩ => ⟨b, off, cs', h1, h2, h3, d, h4⟩, fun ⟨b, off, cs', h1, h2, h3, d, h4⟩ => ⟨d, b, off, cs', h1, h2, h3, h4⟩⟩
theorem Cx.R_clo {f : Nat} {u : Ty} {cs : List Value} {x : S.den u} :
    S.R w Z (.clo f u) cs x ↔ ∃ vs : List Value, cs = [.func (.func f) #[] vs.toArray] ∧ S.R w Z u vs x :=
  ⟨fun ⟨d, vs, h1, h2⟩ => ⟨vs, h1, d, h2⟩, fun ⟨vs, h1, d, h2⟩ => ⟨d, vs, h1, h2⟩⟩
theorem Cx.R_named {n : Nat} {cs : List Value} {x : S.N n} : S.R w Z (.named n) cs x ↔ S.R w Z (S.body n) cs (S.out n x) := by
  constructor
  · rintro ⟨d, h⟩
    cases d with
    | zero => exact h.elim
    | succ d => exact ⟨d, h⟩
  · rintro ⟨d, h⟩
    exact ⟨d + 1, h⟩
theorem Cx.R_un {t : Ty} {cs : List Value} {x : S.den t} : S.R w Z t cs x ↔ S.R w Z (S.un t) cs (S.unx t x) := by
  cases t with
  | named n => exact Cx.R_named
  | _ => exact Iff.rfl
theorem Cx.R_rl (ok : S.Ok) {t : Ty} {cs : List Value} {x : S.den (S.un t)} (h : S.R w Z (S.un t) cs x) : S.R w Z t cs (S.rl t x) := by
  cases t with
  | named n => exact Cx.R_named.2 (by rw [show S.out n (S.rl (.named n) x) = x from ok.2.1 n x]; exact h)
  | _ => exact h
end
def Cx.Ents (w : World) (k v : Ty) (es : List MapEntry) (l : List (S.den k × S.den v)) : Prop := es.length = l.length ∧ ∀ (i : Nat) (e : MapEntry) (x : S.den k × S.den v), es[i]? = some e → nth l i = some x →
  (∃ kc, VS k e.key kc ∧ S.R w (fun _ => False) k kc x.1) ∧ ∃ vc, VS v e.val vc ∧ S.R w (fun _ => False) v vc x.2
def Cx.OW (w : World) (own : Nat → Option Own) (Z : Nat → Prop) (r : Root) : (t : Ty) → Mode → Path → List Value → S.den t → Prop
  | t, .ro, _, cs, x => S.R w Z t cs x
  | t, .dd, _, cs, _ => cs.length = S.size t
  | .slice e t, .own m, p, cs, l => (cs = [.slice none 0 0] ∧ l = []) ∨ ∃ b c cells, cs = [.slice (some ⟨b, 0, none⟩) (List.length l) c] ∧ own b = some (r, some p) ∧
      w.heap[b]? = some (.cells cells e (0, 0)) ∧ List.length l ≤ c ∧ c ≤ maxLen ∧ cells.size = c * S.size t ∧
      ∀ i y, nth l i = some y → Cx.OW w own Z r t m (p ++ [.idx i]) ((cells.toList.drop (i * S.size t)).take (S.size t)) y
  | .pair a b, .pr m n, p, cs, x => ∃ c1 c2, cs = c1 ++ c2 ∧ c1.length = S.size a ∧ Cx.OW w own Z r a m (p ++ [.fst]) c1 x.1 ∧ Cx.OW w own Z r b n (p ++ [.snd]) c2 x.2
  | .agg t, .pr m n, p, cs, x => Cx.OW w own Z r t (.pr m n) (p ++ [.inn]) cs x
  | .agg t, .own m, p, cs, x => Cx.OW w own Z r t (.own m) (p ++ [.inn]) cs x
  | .map k v, .pr .dd .dd, p, cs, l => ∃ b es clock, cs = [.map (some b)] ∧ own b = some (r, some p) ∧ w.heap[b]? = some (.map es clock) ∧ S.Ents w k v es.toList l
  | _, _, _, _, _ => False
end
end Go.Proofs.Ytdnkjfmneppkoaa.Vm
namespace Go.Proofs.Ytdnkjfmneppkoaa.Vm
open Go
section
variable {S : Cx}
theorem nth_lt {α : Type} {l : List α} {i : Nat} {y : α} (h : nth l i = some y) : i < l.length := (List.getElem?_eq_some_iff.1 h).1
theorem OW_ro {w : World} {own : Nat → Option Own} {Z : Nat → Prop} {r : Root} {t : Ty} {p : Path} {cs : List Value} {x : S.den t} :
    S.OW w own Z r t .ro p cs x ↔ S.R w Z t cs x := by cases t <;> exact Iff.rfl
theorem OW_dd {w : World} {own : Nat → Option Own} {Z : Nat → Prop} {r : Root} {t : Ty} {p : Path} {cs : List Value} {x : S.den t} :
    S.OW w own Z r t .dd p cs x ↔ cs.length = S.size t := by cases t <;> exact Iff.rfl
theorem OW_frame {w w' : World} {own own' : Nat → Option Own} {Z Z' : Nat → Prop} {r r' : Root}
    (hZ : ∀ b, Z b → Z' b) (hw : ∀ b, Z b → w'.heap[b]? = w.heap[b]?) :
    ∀ (t : Ty) (m : Mode) (p p' : Path) (cs : List Value) (x : S.den t),
      (∀ b q, own b = some (r, some (p ++ q)) → own' b = some (r', some (p' ++ q)) ∧ w'.heap[b]? = w.heap[b]?) →
      S.OW w own Z r t m p cs x → S.OW w' own' Z' r' t m p' cs x := by
  intro t
  induction t with
  | slice e t ih =>
    intro m p p' cs x ho h
    cases m with
    | ro => rw [OW_ro] at h ⊢; exact h.frame hZ hw
    | dd => rw [OW_dd] at h ⊢; exact h
    | pr a b => exact h.elim
    | own m =>
      rcases h with h | ⟨b, c, cells, h1, h2, h3, h4, h5, h6, h7⟩
      · exact .inl h
      · obtain ⟨ho1, ho2⟩ := ho b [] (by simpa using h2)
        refine .inr ⟨b, c, cells, h1, by simpa using ho1, by rw [ho2]; exact h3, h4, h5, h6, fun i y hy => ?_⟩
        refine ih m (p ++ [.idx i]) (p' ++ [.idx i]) _ y (fun b q hb => ?_) (h7 i y hy)
        have := ho b (.idx i :: q) (by simpa using hb)
        simpa using this
  | pair a b iha ihb =>
    intro m p p' cs x ho h
    cases m with
    | ro => rw [OW_ro] at h ⊢; exact h.frame hZ hw
    | dd => rw [OW_dd] at h ⊢; exact h
    | own m => exact h.elim
    | pr m n =>
      obtain ⟨c1, c2, h1, h2, h3, h4⟩ := h
      refine ⟨c1, c2, h1, h2, ?_, ?_⟩
      · refine iha m (p ++ [.fst]) (p' ++ [.fst]) _ _ (fun b q hb => ?_) h3
        have := ho b (.fst :: q) (by simpa using hb)
        simpa using this
      · refine ihb n (p ++ [.snd]) (p' ++ [.snd]) _ _ (fun b q hb => ?_) h4
        have := ho b (.snd :: q) (by simpa using hb)
        simpa using this
  | agg t ih =>
    intro m p p' cs x ho h
    cases m with
    | ro => rw [OW_ro] at h ⊢; exact h.frame hZ hw
    | dd => rw [OW_dd] at h ⊢; exact h
    | own m =>
      refine ih (.own m) (p ++ [Step.inn]) (p' ++ [Step.inn]) cs x (fun b q hb => ?_) h
      have := ho b (.inn :: q) (by simpa using hb)
      simpa using this
    | pr m n =>
      refine ih (.pr m n) (p ++ [Step.inn]) (p' ++ [Step.inn]) cs x (fun b q hb => ?_) h
      have := ho b (.inn :: q) (by simpa using hb)
      simpa using this
  | map k v ihk ihv =>
    intro m p p' cs x ho h
    cases m with
    | ro => rw [OW_ro] at h ⊢; exact h.frame hZ hw
    | dd => rw [OW_dd] at h ⊢; exact h
    | own m => exact h.elim
    | pr a b =>
      cases a <;> cases b <;> first | exact h.elim | skip
      obtain ⟨b, es, c, h1, h2, h3, h4, h5⟩ := h
      obtain ⟨o1, o2⟩ := ho b [] (by simpa using h2)
      exact ⟨b, es, c, h1, by simpa using o1, by rw [o2]; exact h3, h4, fun i e x he hx => by
        obtain ⟨⟨kc, a1, a2⟩, vc, a3, a4⟩ := h5 i e x he hx
        exact ⟨⟨kc, a1, a2.frame (fun _ h => h) (fun _ h => h.elim)⟩, vc, a3, a4.frame (fun _ h => h) (fun _ h => h.elim)⟩⟩
  | _ =>
    intro m p p' cs x ho h
    cases m with
    | ro => rw [OW_ro] at h ⊢; exact h.frame hZ hw
    | dd => rw [OW_dd] at h ⊢; exact h
    | own m => exact h.elim
    | pr a b => exact h.elim
theorem OW_len (ok : S.Ok) {w : World} {own : Nat → Option Own} {Z : Nat → Prop} {r : Root} : ∀ (t : Ty) (m : Mode) (p : Path) (cs : List Value) (x : S.den t),
    S.OW w own Z r t m p cs x → cs.length = S.size t := by
  intro t
  induction t with
  | slice e t ih =>
    intro m p cs x h
    cases m with
    | ro => exact (OW_ro.1 h).len ok
    | dd => exact OW_dd.1 h
    | pr a b => exact h.elim
    | own m => rcases h with h | ⟨b, c, cells, h1, _⟩ <;> simp_all [Nm.size]
  | pair a b iha ihb =>
    intro m p cs x h
    cases m with
    | ro => exact (OW_ro.1 h).len ok
    | dd => exact OW_dd.1 h
    | own m => exact h.elim
    | pr m n =>
      obtain ⟨c1, c2, h1, h2, h3, h4⟩ := h
      rw [h1, List.length_append, iha _ _ _ _ h3, ihb _ _ _ _ h4]; rfl
  | agg t ih =>
    intro m p cs x h
    cases m with
    | ro => exact (OW_ro.1 h).len ok
    | dd => exact OW_dd.1 h
    | own m => exact ih _ _ _ _ h
    | pr m n => exact ih _ _ _ _ h
  | map k v ihk ihv =>
    intro m p cs x h
    cases m with
    | ro => exact (OW_ro.1 h).len ok
    | dd => exact OW_dd.1 h
    | own m => exact h.elim
    | pr a b =>
      cases a <;> cases b <;> first | exact h.elim | skip
      obtain ⟨b, es, c, h1, _⟩ := h
      rw [h1]; rfl
  | _ =>
    intro m p cs x h
    cases m with
    | ro => exact (OW_ro.1 h).len ok
    | dd => exact OW_dd.1 h
    | own m => exact h.elim
    | pr a b => exact h.elim
theorem cellsAt_row {w : World} {b : Nat} {cells : Array Value} {e : TypeId} {f : Nat × Nat} (h : w.heap[b]? = some (.cells cells e f)) {off n : Nat} (hn : off + n ≤ cells.size) :
    cellsAt w b off n = some ((cells.toList.drop off).take n) := by simp [cellsAt, h, hn]
theorem row_fits {i l c s n : Nat} (hi : i < l) (hl : l ≤ c) (hs : n = c * s) : i * s + s ≤ n := by
  subst hs
  have : (i + 1) * s ≤ c * s := Nat.mul_le_mul_right s (by omega)
  rw [Nat.succ_mul] at this; exact this
theorem OW_R {w : World} {own : Nat → Option Own} {Z Z' : Nat → Prop} {r : Root} (hZ : ∀ b, Z b → Z' b) : ∀ (t : Ty) (m : Mode) (p : Path) (cs : List Value) (x : S.den t),
    m.live = true → (∀ b q, own b = some (r, some (p ++ q)) → Z' b) → S.OW w own Z r t m p cs x → S.R w Z' t cs x := by
  intro t
  induction t with
  | slice e t ih =>
    intro m p cs x hl ho h
    cases m with
    | ro => exact (OW_ro.1 h).frame hZ (fun _ _ => rfl)
    | dd => cases hl
    | pr a b => exact h.elim
    | own m =>
      refine Cx.R_slice.2 ?_
      rcases h with ⟨rfl, rfl⟩ | ⟨b, c, cells, h1, h2, h3, h4, h5, h6, h7⟩
      · exact ⟨none, 0, rfl, Nat.le_refl _, fun i y hy => by simp [nth] at hy⟩
      · refine ⟨some ⟨b, 0, none⟩, c, h1, h4, fun i y hy => ⟨b, 0, _, rfl, ho b [] (by simpa using h2), ?_, ih m (p ++ [.idx i]) _ y hl (fun b q hb => ho b (.idx i :: q) (by simpa using hb)) (h7 i y hy)⟩⟩
        rw [Nat.zero_add]
        exact cellsAt_row h3 (row_fits (nth_lt hy) h4 h6)
  | pair a b iha ihb =>
    intro m p cs x hl ho h
    cases m with
    | ro => exact (OW_ro.1 h).frame hZ (fun _ _ => rfl)
    | dd => cases hl
    | own m => exact h.elim
    | pr m n =>
      simp only [Mode.live, Bool.and_eq_true] at hl
      obtain ⟨c1, c2, h1, h2, h3, h4⟩ := h
      exact Cx.R_pair.2 ⟨c1, c2, h1, h2, iha m _ _ _ hl.1 (fun b q hb => ho b (.fst :: q) (by simpa using hb)) h3, ihb n _ _ _ hl.2 (fun b q hb => ho b (.snd :: q) (by simpa using hb)) h4⟩
  | agg t ih =>
    intro m p cs x hl ho h
    cases m with
    | ro => exact (OW_ro.1 h).frame hZ (fun _ _ => rfl)
    | dd => cases hl
    | own m => exact Cx.R_agg.2 (ih _ _ _ _ hl (fun b q hb => ho b (.inn :: q) (by simpa using hb)) h)
    | pr m n => exact Cx.R_agg.2 (ih _ _ _ _ hl (fun b q hb => ho b (.inn :: q) (by simpa using hb)) h)
  | map k v ihk ihv =>
    intro m p cs x hl ho h
    cases m with
    | ro => exact (OW_ro.1 h).frame hZ (fun _ _ => rfl)
    | dd => cases hl
    | own m => exact h.elim
    | pr a b => cases a <;> cases b <;> first | exact h.elim | cases hl
  | _ =>
    intro m p cs x hl ho h
    cases m with
    | ro => exact (OW_ro.1 h).frame hZ (fun _ _ => rfl)
    | dd => cases hl
    | own m => exact h.elim
    | pr a b => exact h.elim
abbrev Spot := Option (Nat × Nat)
def Cx.nav (S : Cx) (w : World) : (t : Ty) → Spot → List Value → Path → Option (Spot × List Value)
  | _, l, cs, [] => some (l, cs)
  | .pair a _, l, cs, .fst :: p => S.nav w a l (cs.take (S.size a)) p
  | .pair a b, l, cs, .snd :: p => S.nav w b (l.map fun x => (x.1, x.2 + S.size a)) (cs.drop (S.size a)) p
  | .agg t, l, cs, .inn :: p => S.nav w t l cs p
  | .slice _ t, _, cs, .idx i :: p => match cs with
    | [.slice (some ⟨b, off, none⟩) _ _] => match cellsAt w b (off + i * S.size t) (S.size t) with
      | some cs' => S.nav w t (some (b, off + i * S.size t)) cs' p
      | none => none
    | _ => none
  | .arr n t, l, cs, .el i :: p => match decide (i < n) with
    | true => S.nav w t (l.map fun x => (x.1, x.2 + i * S.size t)) ((cs.drop (i * S.size t)).take (S.size t)) p
    | false => none
  | _, _, _, _ :: _ => none
def Cx.okP (S : Cx) : (t : Ty) → Path → S.den t → Prop
  | _, [], _ => True
  | .pair a _, .fst :: p, x => S.okP a p x.1
  | .pair _ b, .snd :: p, x => S.okP b p x.2
  | .agg t, .inn :: p, x => S.okP t p x
  | .slice _ t, .idx i :: p, l => i < List.length l ∧ S.okP t p (List.getD l i (S.zero t))
  | .arr n t, .el i :: p, l => i < n ∧ S.okP t p (List.getD l i (S.zero t))
  | _, _ :: _, _ => False
theorem getD_nth {α : Type} {l : List α} {i : Nat} (d : α) (h : i < l.length) : nth l i = some (l.getD i d) := by
  simp [nth, List.getD, h]
theorem getP_el {n i : Nat} {t : Ty} {p : Path} {m : Mode} {x : S.den (.arr n t)} {c : MV S.toNm} (h : S.getP (.arr n t) m (.el i :: p) x = some c) :
    S.getP t m.elem p (List.getD x i (S.zero t)) = some c := h
theorem getP_el_eq {n i : Nat} {t : Ty} {p : Path} {m : Mode} {x : S.den (.arr n t)} : S.getP (.arr n t) m (.el i :: p) x = S.getP t m.elem p (List.getD x i (S.zero t)) := rfl
theorem getP_dd {c : MV S.toNm} : ∀ (t : Ty) (q : Path) (x : S.den t), S.getP t .dd q x = some c → c.m = .dd := by
  intro t
  induction t with
  | slice e t ih => intro q x hg; cases q with
    | nil => cases hg; rfl
    | cons s q => cases s with
      | idx i => exact ih q _ hg
      | _ => cases hg
  | pair a b iha ihb => intro q x hg; cases q with
    | nil => cases hg; rfl
    | cons s q => cases s with
      | fst => exact iha q _ hg
      | snd => exact ihb q _ hg
      | _ => cases hg
  | agg t ih => intro q x hg; cases q with
    | nil => cases hg; rfl
    | cons s q => cases s with
      | inn => exact ih q _ hg
      | _ => cases hg
  | arr n t ih => intro q x hg; cases q with
    | nil => cases hg; rfl
    | cons s q => cases s with
      | el i => exact ih q _ (getP_el hg)
      | _ => cases hg
  | _ => intro q x hg; cases q with
    | nil => cases hg; rfl
    | cons s q => cases s <;> cases hg
theorem nav_el {w : World} {n i : Nat} {t : Ty} {p : Path} {l : Spot} {cs : List Value} {r : Spot × List Value} (h : S.nav w (.arr n t) l cs (.el i :: p) = some r) :
    i < n ∧ S.nav w t (l.map fun x => (x.1, x.2 + i * S.size t)) ((cs.drop (i * S.size t)).take (S.size t)) p = some r := by
  simp only [Cx.nav] at h
  split at h
  · rename_i hi; exact ⟨of_decide_eq_true hi, h⟩
  · cases h
theorem nav_el_eq {w : World} {n i : Nat} {t : Ty} {p : Path} {l : Spot} {cs : List Value} (hi : i < n) :
    S.nav w (.arr n t) l cs (.el i :: p) = S.nav w t (l.map fun x => (x.1, x.2 + i * S.size t)) ((cs.drop (i * S.size t)).take (S.size t)) p := by
  simp only [Cx.nav, decide_eq_true hi]
theorem setP_el {t' : Ty} {m' : Mode} {y : S.den t'} {k i : Nat} {t : Ty} {p : Path} {m n : Mode} {x z : S.den (.arr k t)} (h : S.setP t' m' y (.arr k t) m (.el i :: p) x = some (n, z)) :
    m = .ro ∧ n = .ro ∧ ∃ z', S.setP t' m' y t .ro p (List.getD x i (S.zero t)) = some (.ro, z') ∧ z = List.set x i z' := by
  cases m with
  | ro =>
    simp only [Cx.setP] at h
    split at h
    · rename_i n' z' hs
      split at h
      · cases h; exact ⟨rfl, rfl, z', hs, rfl⟩
      · cases h
    · cases h
  | _ => cases h
theorem el_len {cs : List Value} {n i : Nat} {t : Ty} (h : cs.length = n * S.size t) (hi : i < n) : ((cs.drop (i * S.size t)).take (S.size t)).length = S.size t := by
  have := row_fits (n := cs.length) hi (Nat.le_refl _) h
  rw [List.length_take, List.length_drop]; omega
set_option linter.unusedVariables false
theorem OW_get (ok : S.Ok) {w : World} {own : Nat → Option Own} {Z : Nat → Prop} {r : Root} : ∀ (t : Ty) (m : Mode) (q p : Path) (l : Spot) (cs : List Value) (x : S.den t) (c : MV S.toNm),
    S.OW w own Z r t m p cs x → S.okP t q x → S.getP t m q x = some c → c.m ≠ .dd →
    ∃ l' cs', S.nav w t l cs q = some (l', cs') ∧ S.OW w own Z r c.t c.m (p ++ q) cs' c.x := by
  intro t
  induction t with
  | slice e t ih =>
    intro m q p l cs x c h hq hg hd
    cases q with
    | nil => cases hg; exact ⟨l, cs, rfl, by simpa using h⟩
    | cons s q =>
      cases s with
      | idx i =>
        obtain ⟨hi, hq⟩ := hq
        have hg' : S.getP t m.elem q (List.getD x i (S.zero t)) = some c := hg
        have hn := getD_nth (l := x) (S.zero t) hi
        cases m with
        | ro =>
          obtain ⟨a, cc, h1, h2, h3⟩ := Cx.R_slice.1 (OW_ro.1 h)
          obtain ⟨b, off, cs', e1, e2, e3, e4⟩ := h3 i _ hn
          subst e1
          obtain ⟨l', cs'', n1, n2⟩ := ih .ro q (p ++ [.idx i]) (some (b, off + i * S.size t)) cs' _ c (OW_ro.2 e4) hq hg' hd
          exact ⟨l', cs'', by rw [h1]; simp only [Cx.nav, e3]; exact n1, by simpa using n2⟩
        | dd =>
          exact absurd (getP_dd t q _ hg') hd
        | pr a b => exact h.elim
        | own m =>
          rcases h with ⟨rfl, rfl⟩ | ⟨b, cc, cells, h1, h2, h3, h4, h5, h6, h7⟩
          · simp at hi
          · obtain ⟨l', cs'', n1, n2⟩ := ih m q (p ++ [.idx i]) (some (b, 0 + i * S.size t)) _ _ c (h7 i _ hn) hq hg' hd
            refine ⟨l', cs'', ?_, by simpa using n2⟩
            rw [h1]
            simp only [Cx.nav, cellsAt_row h3 (show 0 + i * S.size t + S.size t ≤ cells.size by rw [Nat.zero_add]; exact row_fits hi h4 h6)]
            rw [Nat.zero_add] at n1 ⊢
            exact n1
      | _ => exact hq.elim
  | pair a b iha ihb =>
    intro m q p l cs x c h hq hg hd
    cases q with
    | nil => cases hg; exact ⟨l, cs, rfl, by simpa using h⟩
    | cons s q =>
      have parts : ∃ c1 c2, cs = c1 ++ c2 ∧ c1.length = S.size a ∧ (m = .dd ∨ (S.OW w own Z r a m.fst (p ++ [.fst]) c1 x.1 ∧ S.OW w own Z r b m.snd (p ++ [.snd]) c2 x.2)) := by
        cases m with
        | ro =>
          obtain ⟨c1, c2, h1, h2, h3, h4⟩ := Cx.R_pair.1 (OW_ro.1 h)
          exact ⟨c1, c2, h1, h2, .inr ⟨OW_ro.2 h3, OW_ro.2 h4⟩⟩
        | dd =>
          have := OW_dd.1 h
          exact ⟨cs.take (S.size a), cs.drop (S.size a), (List.take_append_drop _ _).symm, by rw [List.length_take, this]; simp [Nm.size], .inl rfl⟩
        | own m => exact h.elim
        | pr m n =>
          obtain ⟨c1, c2, h1, h2, h3, h4⟩ := h
          exact ⟨c1, c2, h1, h2, .inr ⟨h3, h4⟩⟩
      obtain ⟨c1, c2, rfl, h2, h3⟩ := parts
      cases s with
      | fst =>
        rcases h3 with rfl | ⟨h3, _⟩
        · exact absurd (getP_dd a q x.1 hg) hd
        · obtain ⟨l', cs'', n1, n2⟩ := iha m.fst q (p ++ [.fst]) l c1 x.1 c h3 hq hg hd
          refine ⟨l', cs'', ?_, by simpa using n2⟩
          simp only [Cx.nav, ← h2, List.take_left']
          simpa using n1
      | snd =>
        rcases h3 with rfl | ⟨_, h3⟩
        · exact absurd (getP_dd b q x.2 hg) hd
        · obtain ⟨l', cs'', n1, n2⟩ := ihb m.snd q (p ++ [.snd]) (l.map fun x => (x.1, x.2 + S.size a)) c2 x.2 c h3 hq hg hd
          refine ⟨l', cs'', ?_, by simpa using n2⟩
          simp only [Cx.nav, ← h2]
          simpa [h2] using n1
      | _ => exact hq.elim
  | agg t ih =>
    intro m q p l cs x c h hq hg hd
    cases q with
    | nil => cases hg; exact ⟨l, cs, rfl, by simpa using h⟩
    | cons s q =>
      cases s with
      | inn =>
        have h' : m = .dd ∨ S.OW w own Z r t m (p ++ [.inn]) cs x := by
          cases m with
          | ro => exact .inr (OW_ro.2 (Cx.R_agg.1 (OW_ro.1 h)))
          | dd => exact .inl rfl
          | own m => exact .inr h
          | pr m n => exact .inr h
        rcases h' with rfl | h'
        · exact absurd (getP_dd t q x hg) hd
        · obtain ⟨l', cs'', n1, n2⟩ := ih m q (p ++ [.inn]) l cs x c h' hq hg hd
          exact ⟨l', cs'', n1, by simpa using n2⟩
      | _ => exact hq.elim
  | arr n t ih =>
    intro m q p l cs x c h hq hg hd
    cases q with
    | nil => cases hg; exact ⟨l, cs, rfl, by simpa using h⟩
    | cons s q =>
      cases s with
      | el i =>
        obtain ⟨hi, hq⟩ := hq
        have hit : decide (i < n) = true := decide_eq_true hi
        have hg := getP_el hg
        cases m with
        | ro =>
          obtain ⟨h1, h2, h3⟩ := Cx.R_arr.1 (OW_ro.1 h)
          have hn := getD_nth (l := x) (S.zero t) (h1.symm ▸ hi)
          obtain ⟨l', cs'', n1, n2⟩ := ih .ro q (p ++ [.el i]) (l.map fun x => (x.1, x.2 + i * S.size t)) _ _ c (OW_ro.2 (h3 i _ hn)) hq hg hd
          refine ⟨l', cs'', ?_, by simpa using n2⟩
          simp only [Cx.nav, hit]; exact n1
        | dd => exact absurd (getP_dd t q _ hg) hd
        | own m => exact h.elim
        | pr a b => exact h.elim
      | _ => exact hq.elim
  | _ =>
    intro m q p l cs x c h hq hg hd
    cases q with
    | nil => cases hg; exact ⟨l, cs, rfl, by simpa using h⟩
    | cons s q => cases s <;> exact (hq : False).elim
end
end Go.Proofs.Ytdnkjfmneppkoaa.Vm
namespace Go.Proofs.Ytdnkjfmneppkoaa.Vm
open Go
def spl (cs : List Value) (off : Nat) (new : List Value) : List Value := cs.take off ++ new ++ cs.drop (off + new.length)
theorem spl_len {cs new : List Value} {off : Nat} (h : off + new.length ≤ cs.length) : (spl cs off new).length = cs.length := by
  simp [spl]; omega
theorem spl_all {cs new : List Value} (h : cs.length = new.length) : spl cs 0 new = new := by
  simp [spl, ← h]
theorem spl_left {a b new : List Value} {off : Nat} (h : off + new.length ≤ a.length) : spl (a ++ b) off new = spl a off new ++ b := by
  simp only [spl, List.take_append, List.drop_append, List.append_assoc]
  rw [show off - a.length = 0 by omega, show off + new.length - a.length = 0 by omega]
  simp
theorem spl_right {a b new : List Value} {off : Nat} : spl (a ++ b) (a.length + off) new = a ++ spl b off new := by
  simp only [spl, List.take_append, List.drop_append, List.append_assoc]
  rw [List.take_of_length_le (by omega), List.drop_eq_nil_of_le (by omega)]
  simp [show a.length + off - a.length = off by omega, show a.length + off + new.length - a.length = off + new.length by omega]
theorem spl_piece {cs new : List Value} {at_ n off : Nat} (h : off + new.length ≤ n) (hn : at_ + n ≤ cs.length) :
    ((spl cs (at_ + off) new).drop at_).take n = spl ((cs.drop at_).take n) off new := by
  apply List.ext_getElem?
  intro i
  simp only [spl, List.getElem?_take, List.getElem?_drop, List.getElem?_append, List.length_take, List.length_append, List.length_drop]
  by_cases hi : i < n
  · simp only [hi, if_true]
    rw [show min (at_ + off) cs.length = at_ + off by omega, show min off (min n (cs.length - at_)) = off by omega]
    by_cases h1 : i < off
    · rw [if_pos (by omega), if_pos (by omega), if_pos (by omega), if_pos (by omega)]; simp [h1]
    · by_cases h2 : i < off + new.length
      · rw [if_pos (by omega), if_neg (by omega), if_pos (by omega), if_neg (by omega)]
        congr 1; omega
      · rw [if_neg (by omega), if_neg (by omega), if_pos (by omega)]
        congr 1; omega
  · simp only [hi, if_false]
    rw [if_neg (by omega)]
    split <;> simp_all; omega
theorem spl_apart {cs new : List Value} {at_ n off : Nat} (h : at_ + n ≤ off ∨ off + new.length ≤ at_) (hn : off + new.length ≤ cs.length) :
    ((spl cs off new).drop at_).take n = (cs.drop at_).take n := by
  apply List.ext_getElem?
  intro i
  simp only [spl, List.getElem?_take, List.getElem?_drop, List.getElem?_append, List.length_take, List.length_append]
  by_cases hi : i < n
  · simp only [hi, if_true]
    rw [show min off cs.length = off by omega]
    rcases h with h | h
    · rw [if_pos (by omega), if_pos (by omega), if_pos (by omega)]
    · rw [if_neg (by omega)]
      congr 1; omega
  · simp only [hi, if_false]
def putCells (w : World) (b off : Nat) (new : List Value) : World :=
  { w with heap := w.heap.modify b fun
      | .cells c e f => .cells (spl c.toList off new).toArray e f
      | o => o }
theorem putCells_ne {w : World} {b off : Nat} {new : List Value} {b' : Nat} (h : b' ≠ b) : (putCells w b off new).heap[b']? = w.heap[b']? := by
  simp only [putCells, Array.getElem?_modify]; rw [if_neg (by omega)]
theorem putCells_at {w : World} {b off : Nat} {new : List Value} {c : Array Value} {e : TypeId} {f : Nat × Nat} (h : w.heap[b]? = some (.cells c e f)) :
    (putCells w b off new).heap[b]? = some (.cells (spl c.toList off new).toArray e f) := by
  simp [putCells, Array.getElem?_modify, h]
theorem putCells_size {w : World} {b off : Nat} {new : List Value} : (putCells w b off new).heap.size = w.heap.size := by simp [putCells]
section
variable {S : Cx}
theorem OW_agg {w : World} {own : Nat → Option Own} {Z : Nat → Prop} {r : Root} {t : Ty} {m : Mode} {p : Path} {cs : List Value} {x : S.den t} :
    S.OW w own Z r (.agg t) m p cs x ↔ S.OW w own Z r t m (p ++ [Step.inn]) cs x := by
  cases m with
  | ro => exact (OW_ro (t := .agg t) (x := x)).trans (Cx.R_agg.trans OW_ro.symm)
  | dd => exact (OW_dd (t := .agg t) (x := x)).trans (Iff.trans Iff.rfl (OW_dd (t := t) (x := x)).symm)
  | own m => exact Iff.rfl
  | pr m n => exact Iff.rfl
theorem OW_pair {w : World} {own : Nat → Option Own} {Z : Nat → Prop} {r : Root} {a b : Ty} {m : Mode} {p : Path} {cs : List Value} {x : S.den (.pair a b)}
    (h : S.OW w own Z r (.pair a b) m p cs x) : ∃ c1 c2, cs = c1 ++ c2 ∧ c1.length = S.size a ∧ S.OW w own Z r a m.fst (p ++ [Step.fst]) c1 x.1 ∧ S.OW w own Z r b m.snd (p ++ [Step.snd]) c2 x.2 := by
  cases m with
  | ro =>
    obtain ⟨c1, c2, h1, h2, h3, h4⟩ := Cx.R_pair.1 (OW_ro.1 h)
    exact ⟨c1, c2, h1, h2, OW_ro.2 h3, OW_ro.2 h4⟩
  | dd =>
    have := OW_dd.1 h
    have hs : S.size (Ty.pair a b) = S.size a + S.size b := rfl
    exact ⟨cs.take (S.size a), cs.drop (S.size a), (List.take_append_drop _ _).symm, by rw [List.length_take, this, hs]; omega, OW_dd.2 (by rw [List.length_take, this, hs]; omega), OW_dd.2 (by rw [List.length_drop, this, hs]; omega)⟩
  | own m => exact h.elim
  | pr m n => exact h
theorem OW_pair_mk {w : World} {own : Nat → Option Own} {Z : Nat → Prop} {r : Root} {a b : Ty} {m n : Mode} {p : Path} {c1 c2 : List Value} {x : S.den a} {y : S.den b}
    (h1 : c1.length = S.size a) (h2 : S.OW w own Z r a m (p ++ [Step.fst]) c1 x) (h3 : S.OW w own Z r b n (p ++ [Step.snd]) c2 y) :
    S.OW w own Z r (.pair a b) (Mode.mk m n) p (c1 ++ c2) (x, y) := by
  by_cases h : m = .ro ∧ n = .ro
  · obtain ⟨rfl, rfl⟩ := h
    exact OW_ro.2 (Cx.R_pair.2 ⟨c1, c2, rfl, h1, OW_ro.1 h2, OW_ro.1 h3⟩)
  · have : Mode.mk m n = .pr m n := by
      cases m <;> cases n <;> first | rfl | exact absurd ⟨rfl, rfl⟩ h
    rw [this]
    exact ⟨c1, c2, rfl, h1, h2, h3⟩
theorem nth_set_ne {α : Type} {l : List α} {i j : Nat} {z : α} (h : j ≠ i) : nth (l.set i z) j = nth l j := by
  simp only [nth]; rw [List.getElem?_set_ne (Ne.symm h)]
theorem nth_set_self {α : Type} {l : List α} {i : Nat} {z : α} (h : i < l.length) : nth (l.set i z) i = some z := by
  simp only [nth]; rw [List.getElem?_set_self h]
theorem plain_nil : Path.plain [] = true := rfl
theorem plain_cons {s : Step} {q : Path} : Path.plain (s :: q) = (!s.isIdx && Path.plain q) := by simp [Path.plain, Bool.not_or]
theorem nav_lab {w : World} {own : Nat → Option Own} {Z : Nat → Prop} {r : Root} {t' : Ty} {m' : Mode} {y : S.den t'} :
    ∀ (t : Ty) (m : Mode) (q p : Path) (l : Spot) (cs : List Value) (x : S.den t) (n : Mode) (z : S.den t) (b off : Nat) (cs0 : List Value),
    S.OW w own Z r t m p cs x → S.okP t q x → S.setP t' m' y t m q x = some (n, z) → S.nav w t l cs q = some (some (b, off), cs0) →
    (q.plain = true → ∃ off0, l = some (b, off0)) ∧ (q.plain = false → ∃ q1 i q2, q = q1 ++ Step.idx i :: q2 ∧ own b = some (r, some (p ++ q1))) := by
  intro t
  induction t with
  | slice e t ih =>
    intro m q p l cs x n z b off cs0 h hq hs hn
    cases q with
    | nil => cases hn; exact ⟨fun _ => ⟨off, rfl⟩, fun h => by simp [plain_nil] at h⟩
    | cons s q =>
      cases s with
      | idx i =>
        refine ⟨fun h => by simp [plain_cons, Step.isIdx] at h, fun _ => ?_⟩
        obtain ⟨hi, hq⟩ := hq
        cases m with
        | own em =>
          rcases h with ⟨_, rfl⟩ | ⟨bb, cc, cells, h1, h2, h3, h4, h5, h6, h7⟩
          · simp at hi
          · have hcell := cellsAt_row h3 (show 0 + i * S.size t + S.size t ≤ cells.size by rw [Nat.zero_add]; exact row_fits hi h4 h6)
            rw [h1] at hn
            simp only [Cx.nav, hcell] at hn
            have hs' : ∃ n' z', S.setP t' m' y t em q (List.getD x i (S.zero t)) = some (n', z') := by
              simp only [Cx.setP] at hs
              split at hs
              · rename_i n' z' he; exact ⟨n', z', he⟩
              · cases hs
            obtain ⟨n', z', hs'⟩ := hs'
            have hel := h7 i _ (getD_nth (l := x) (S.zero t) hi)
            rw [Nat.zero_add] at hn
            obtain ⟨i1, i2⟩ := ih em q (p ++ [Step.idx i]) _ _ _ n' z' b off cs0 hel hq hs' hn
            cases hp : Path.plain q with
            | true =>
              obtain ⟨off0, he⟩ := i1 hp
              cases he
              exact ⟨[], i, q, rfl, by simpa using h2⟩
            | false =>
              obtain ⟨q1, j, q2, e1, e2⟩ := i2 hp
              exact ⟨Step.idx i :: q1, j, q2, by rw [e1]; rfl, by simpa using e2⟩
        | _ => cases hs
      | _ => exact (hq : False).elim
  | pair a b iha ihb =>
    intro m q p l cs x n z b' off cs0 h hq hs hn
    cases q with
    | nil => cases hn; exact ⟨fun _ => ⟨off, rfl⟩, fun h => by simp [plain_nil] at h⟩
    | cons s q =>
      obtain ⟨c1, c2, rfl, h2, h3, h4⟩ := OW_pair h
      cases s with
      | fst =>
        have hs' : ∃ n' z', S.setP t' m' y a m.fst q x.1 = some (n', z') := by
          simp only [Cx.setP] at hs
          split at hs
          · rename_i n' z' he; exact ⟨n', z', he⟩
          · cases hs
        obtain ⟨n', z', hs'⟩ := hs'
        have hn' : S.nav w a l c1 q = some (some (b', off), cs0) := by
          simp only [Cx.nav, ← h2, List.take_left'] at hn
          simpa using hn
        obtain ⟨i1, i2⟩ := iha m.fst q (p ++ [Step.fst]) l c1 x.1 n' z' b' off cs0 h3 hq hs' hn'
        refine ⟨fun hp => i1 (by simpa [plain_cons, Step.isIdx] using hp), fun hp => ?_⟩
        obtain ⟨q1, j, q2, e1, e2⟩ := i2 (by simpa [plain_cons, Step.isIdx] using hp)
        exact ⟨Step.fst :: q1, j, q2, by rw [e1]; rfl, by simpa using e2⟩
      | snd =>
        have hs' : ∃ n' z', S.setP t' m' y b m.snd q x.2 = some (n', z') := by
          simp only [Cx.setP] at hs
          split at hs
          · rename_i n' z' he; exact ⟨n', z', he⟩
          · cases hs
        obtain ⟨n', z', hs'⟩ := hs'
        have hn' : S.nav w b (l.map fun x => (x.1, x.2 + S.size a)) c2 q = some (some (b', off), cs0) := by
          simp only [Cx.nav] at hn
          simpa [← h2] using hn
        obtain ⟨i1, i2⟩ := ihb m.snd q (p ++ [Step.snd]) _ c2 x.2 n' z' b' off cs0 h4 hq hs' hn'
        refine ⟨fun hp => ?_, fun hp => ?_⟩
        · obtain ⟨off0, he⟩ := i1 (by simpa [plain_cons, Step.isIdx] using hp)
          cases l with
          | none => cases he
          | some l => exact ⟨l.2, by simp at he; rw [← he.1]⟩
        · obtain ⟨q1, j, q2, e1, e2⟩ := i2 (by simpa [plain_cons, Step.isIdx] using hp)
          exact ⟨Step.snd :: q1, j, q2, by rw [e1]; rfl, by simpa using e2⟩
      | _ => exact (hq : False).elim
  | agg t ih =>
    intro m q p l cs x n z b off cs0 h hq hs hn
    cases q with
    | nil => cases hn; exact ⟨fun _ => ⟨off, rfl⟩, fun h => by simp [plain_nil] at h⟩
    | cons s q =>
      cases s with
      | inn =>
        have hs' : ∃ n' z', S.setP t' m' y t m q x = some (n', z') := by
          simp only [Cx.setP] at hs
          split at hs
          · rename_i n' z' he; exact ⟨n', z', he⟩
          · cases hs
        obtain ⟨n', z', hs'⟩ := hs'
        obtain ⟨i1, i2⟩ := ih m q (p ++ [Step.inn]) l cs x n' z' b off cs0 (OW_agg.1 h) hq hs' hn
        refine ⟨fun hp => i1 (by simpa [plain_cons, Step.isIdx] using hp), fun hp => ?_⟩
        obtain ⟨q1, j, q2, e1, e2⟩ := i2 (by simpa [plain_cons, Step.isIdx] using hp)
        exact ⟨Step.inn :: q1, j, q2, by rw [e1]; rfl, by simpa using e2⟩
      | _ => exact (hq : False).elim
  | arr k t ih =>
    intro m q p l cs x n z b off cs0 h hq hs hn
    cases q with
    | nil => cases hn; exact ⟨fun _ => ⟨off, rfl⟩, fun h => by simp [plain_nil] at h⟩
    | cons s q =>
      cases s with
      | el i =>
        obtain ⟨hi, hq⟩ := hq
        have hit : decide (i < k) = true := decide_eq_true hi
        cases m with
        | ro =>
          obtain ⟨h1, h2, h3⟩ := Cx.R_arr.1 (OW_ro.1 h)
          have hnn := getD_nth (l := x) (S.zero t) (h1.symm ▸ hi)
          have hs' : ∃ n' z', S.setP t' m' y t .ro q (List.getD x i (S.zero t)) = some (n', z') := by
            simp only [Cx.setP] at hs
            split at hs
            · rename_i n' z' he; exact ⟨n', z', he⟩
            · cases hs
          obtain ⟨n', z', hs'⟩ := hs'
          simp only [Cx.nav, hit] at hn
          obtain ⟨i1, i2⟩ := ih .ro q (p ++ [Step.el i]) _ _ _ n' z' b off cs0 (OW_ro.2 (h3 i _ hnn)) hq hs' hn
          refine ⟨fun hp => ?_, fun hp => ?_⟩
          · obtain ⟨off0, he⟩ := i1 (by simpa [plain_cons, Step.isIdx] using hp)
            cases l with
            | none => cases he
            | some l => exact ⟨l.2, by simp at he; rw [← he.1]⟩
          · obtain ⟨q1, j, q2, e1, e2⟩ := i2 (by simpa [plain_cons, Step.isIdx] using hp)
            exact ⟨Step.el i :: q1, j, q2, by rw [e1]; rfl, by simpa using e2⟩
        | _ => cases hs
      | _ => exact (hq : False).elim
  | _ =>
    intro m q p l cs x n z b off cs0 h hq hs hn
    cases q with
    | nil => cases hn; exact ⟨fun _ => ⟨off, rfl⟩, fun h => by simp [plain_nil] at h⟩
    | cons s q => cases s <;> exact (hq : False).elim
theorem cast_some {M : Nm} {a b : Ty} {x : M.den a} {y : M.den b} (h : M.cast a b x = some y) : ∃ e : a = b, y = e ▸ x := by
  unfold Nm.cast at h
  split at h
  · rename_i e _; exact ⟨e, by cases h; rfl⟩
  · cases h
def Wrote (q : Path) (l : Spot) (b off : Nat) (cs new cs1 : List Value) : Prop :=
  match q.plain with
  | true => ∃ off0, l = some (b, off0) ∧ off0 ≤ off ∧ off - off0 + new.length ≤ cs.length ∧ cs1 = spl cs (off - off0) new
  | false => cs1 = cs
theorem OW_set (ok : S.Ok) {w : World} {own own' : Nat → Option Own} {Z Z' : Nat → Prop} {r : Root} {t' : Ty} {m' : Mode} {y : S.den t'} {new : List Value}
    (hZ : ∀ b, Z b → Z' b) {b off : Nat} (hb : ¬ Z b) :
    ∀ (t : Ty) (m : Mode) (q p : Path) (l : Spot) (cs : List Value) (x : S.den t) (n : Mode) (z : S.den t) (cs0 : List Value),
    S.OW w own Z r t m p cs x → S.okP t q x → S.setP t' m' y t m q x = some (n, z) → S.nav w t l cs q = some (some (b, off), cs0) →
    (∀ q', own b = some (r, some (p ++ q')) → ∃ s, s ≠ [] ∧ q = q' ++ s) →
    (∀ b' q', own b' = some (r, some (p ++ q')) → (¬ ∃ s, q' = q ++ s) → own' b' = some (r, some (p ++ q'))) →
    S.OW (putCells w b off new) own' Z' r t' m' (p ++ q) new y →
    ∃ cs1, S.OW (putCells w b off new) own' Z' r t n p cs1 z ∧ Wrote q l b off cs new cs1 := by
  have hZw : ∀ b', Z b' → (putCells w b off new).heap[b']? = w.heap[b']? := fun b' h => putCells_ne (fun e => hb (e ▸ h))
  intro t
  induction t with
  | slice e t ih =>
    intro m q p l cs x n z cs0 h hq hs hn hlab hkeep hnew
    cases q with
    | nil =>
      cases hn
      simp only [Cx.setP] at hs
      split at hs
      · rename_i z' hz
        cases hs
        obtain ⟨e', rfl⟩ := cast_some hz
        subst e'
        have hl1 := OW_len ok _ _ _ _ _ h
        have hl2 := OW_len ok _ _ _ _ _ hnew
        exact ⟨new, by simpa using hnew, off, rfl, Nat.le_refl _, by rw [hl1, hl2]; omega, by rw [Nat.sub_self, spl_all (by rw [hl1, hl2])]⟩
      · cases hs
    | cons s q =>
      cases s with
      | idx i =>
        obtain ⟨hi, hq⟩ := hq
        cases m with
        | own em =>
          rcases h with ⟨_, rfl⟩ | ⟨bb, cc, cells, h1, h2, h3, h4, h5, h6, h7⟩
          · simp at hi
          · have hcell := cellsAt_row h3 (show 0 + i * S.size t + S.size t ≤ cells.size by rw [Nat.zero_add]; exact row_fits hi h4 h6)
            rw [h1] at hn
            simp only [Cx.nav, hcell] at hn
            rw [Nat.zero_add] at hn
            simp only [Cx.setP] at hs
            split at hs
            · rename_i n' z' hs'
              split at hs
              · rename_i hne _
                cases hs
                subst hne
                have hel := h7 i _ (getD_nth (l := x) (S.zero t) hi)
                have hlab' : ∀ q', own b = some (r, some (p ++ [Step.idx i] ++ q')) → ∃ s, s ≠ [] ∧ q = q' ++ s := fun q' hq' => by
                  obtain ⟨s, hs1, hs2⟩ := hlab (Step.idx i :: q') (by simpa using hq')
                  exact ⟨s, hs1, by simpa using hs2⟩
                have hkeep' : ∀ b' q', own b' = some (r, some (p ++ [Step.idx i] ++ q')) → (¬ ∃ s, q' = q ++ s) → own' b' = some (r, some (p ++ [Step.idx i] ++ q')) := fun b' q' hb' hno => by
                  have := hkeep b' (Step.idx i :: q') (by simpa using hb') (by rintro ⟨s, hs⟩; exact hno ⟨s, by simpa using hs⟩)
                  simpa using this
                obtain ⟨cs1, i1, i2⟩ := ih n' q (p ++ [Step.idx i]) _ _ _ n' z' cs0 hel hq hs' hn hlab' hkeep' (by simpa using hnew)
                have hlabs := nav_lab t n' q (p ++ [Step.idx i]) _ _ _ n' z' b off cs0 hel hq hs' hn
                have hown' : own' bb = some (r, some p) := by
                  have := hkeep bb [] (by simpa using h2) (by rintro ⟨s, hs⟩; simp at hs)
                  simpa using this
                refine ⟨cs, .inr ?_, by simp [Wrote, plain_cons, Step.isIdx]⟩
                have hfit : i * S.size t + S.size t ≤ cells.toList.length := by rw [Array.length_toList]; exact row_fits hi h4 h6
                have hlen : List.length (List.set x i z') = List.length x := List.length_set
                have h1' : cs = [.slice (some ⟨bb, 0, none⟩) (List.length (List.set x i z')) cc] := by rw [hlen]; exact h1
                have h4' : List.length (List.set x i z') ≤ cc := by rw [hlen]; exact h4
                have hat : nth (List.set x i z') i = some z' := nth_set_self hi
                cases hp : Path.plain q with
                | true =>
                  simp only [Wrote, hp] at i2
                  obtain ⟨off0, e1, e2, e3, e4⟩ := i2
                  cases e1
                  have hpl : ((cells.toList.drop (i * S.size t)).take (S.size t)).length = S.size t := by rw [List.length_take, List.length_drop]; omega
                  rw [hpl] at e3
                  refine ⟨b, cc, (spl cells.toList off new).toArray, h1', hown', putCells_at h3, h4', h5, ?_, fun j u hu => ?_⟩
                  · rw [List.size_toArray, spl_len (by omega), Array.length_toList]; exact h6
                  · by_cases hji : j = i
                    · subst hji
                      have hu' : u = z' := by
                        rw [hat] at hu; exact (Option.some.inj hu).symm
                      subst hu'
                      have := spl_piece (cs := cells.toList) (new := new) (at_ := j * S.size t) (n := S.size t) (off := off - j * S.size t) (by omega) hfit
                      rw [show j * S.size t + (off - j * S.size t) = off by omega] at this
                      simp only
                      rw [this, ← e4]
                      exact i1
                    · have hu' : nth x j = some u := by
                        have : nth (List.set x i z') j = nth x j := nth_set_ne hji
                        rw [← this]; exact hu
                      have hj := nth_lt hu'
                      have hjf : j * S.size t + S.size t ≤ cells.toList.length := by rw [Array.length_toList]; exact row_fits hj h4 h6
                      have := spl_apart (cs := cells.toList) (new := new) (at_ := j * S.size t) (n := S.size t) (off := off) (by
                        rcases Nat.lt_or_gt_of_ne hji with hlt | hgt
                        · left
                          have : (j + 1) * S.size t ≤ i * S.size t := Nat.mul_le_mul_right _ hlt
                          rw [Nat.succ_mul] at this; omega
                        · right
                          have : (i + 1) * S.size t ≤ j * S.size t := Nat.mul_le_mul_right _ hgt
                          rw [Nat.succ_mul] at this; omega) (by omega)
                      simp only
                      rw [this]
                      refine OW_frame hZ hZw t n' (p ++ [Step.idx j]) (p ++ [Step.idx j]) _ u (fun b' q' hb' => ⟨?_, ?_⟩) (h7 j u hu')
                      · have := hkeep b' (Step.idx j :: q') (by simpa using hb') (by rintro ⟨s, hs⟩; simp at hs; exact hji hs.1)
                        simpa using this
                      · refine putCells_ne (fun he => ?_)
                        subst he
                        rw [h2] at hb'; simp at hb'
                | false =>
                  simp only [Wrote, hp] at i2
                  obtain ⟨q1, j1, q2, e1, e2⟩ := hlabs.2 hp
                  have hbb : bb ≠ b := fun he => by subst he; rw [h2] at e2; simp at e2
                  subst i2
                  refine ⟨bb, cc, cells, h1', hown', by rw [putCells_ne hbb]; exact h3, h4', h5, h6, fun j u hu => ?_⟩
                  by_cases hji : j = i
                  · subst hji
                    have hu' : u = z' := by
                      rw [hat] at hu; exact (Option.some.inj hu).symm
                    subst hu'
                    exact i1
                  · have hu' : nth x j = some u := by
                      have : nth (List.set x i z') j = nth x j := nth_set_ne hji
                      rw [← this]; exact hu
                    refine OW_frame hZ hZw t n' (p ++ [Step.idx j]) (p ++ [Step.idx j]) _ u (fun b' q' hb' => ⟨?_, ?_⟩) (h7 j u hu')
                    · have := hkeep b' (Step.idx j :: q') (by simpa using hb') (by rintro ⟨s, hs⟩; simp at hs; exact hji hs.1)
                      simpa using this
                    · refine putCells_ne (fun he => ?_)
                      subst he
                      rw [e2] at hb'; simp at hb'
                      exact hji hb'.1.symm
              · cases hs
            · cases hs
        | _ => cases hs
      | _ => exact (hq : False).elim
  | pair a b2 iha ihb =>
    intro m q p l cs x n z cs0 h hq hs hn hlab hkeep hnew
    cases q with
    | nil =>
      cases hn
      simp only [Cx.setP] at hs
      split at hs
      · rename_i z' hz
        cases hs
        obtain ⟨e', rfl⟩ := cast_some hz
        subst e'
        have hl1 := OW_len ok _ _ _ _ _ h
        have hl2 := OW_len ok _ _ _ _ _ hnew
        exact ⟨new, by simpa using hnew, off, rfl, Nat.le_refl _, by rw [hl1, hl2]; omega, by rw [Nat.sub_self, spl_all (by rw [hl1, hl2])]⟩
      · cases hs
    | cons s q =>
      obtain ⟨c1, c2, rfl, h2, h3, h4⟩ := OW_pair h
      cases s with
      | fst =>
        simp only [Cx.setP] at hs
        split at hs
        · rename_i n' z' hs'
          cases hs
          have hn' : S.nav w a l c1 q = some (some (b, off), cs0) := by
            simp only [Cx.nav, ← h2, List.take_left'] at hn
            simpa using hn
          have hlab' : ∀ q', own b = some (r, some (p ++ [Step.fst] ++ q')) → ∃ s, s ≠ [] ∧ q = q' ++ s := fun q' hq' => by
            obtain ⟨s, hs1, hs2⟩ := hlab (Step.fst :: q') (by simpa using hq')
            exact ⟨s, hs1, by simpa using hs2⟩
          obtain ⟨cs1, i1, i2⟩ := iha m.fst q (p ++ [Step.fst]) l c1 x.1 n' z' cs0 h3 hq hs' hn' hlab' (fun b' q' hb' hno => by
            have := hkeep b' (Step.fst :: q') (by simpa using hb') (by rintro ⟨s, hs⟩; exact hno ⟨s, by simpa using hs⟩)
            simpa using this) (by simpa using hnew)
          have h4' : S.OW (putCells w b off new) own' Z' r b2 m.snd (p ++ [Step.snd]) c2 x.2 := by
            refine OW_frame hZ hZw b2 m.snd (p ++ [Step.snd]) (p ++ [Step.snd]) _ _ (fun b' q' hb' => ⟨?_, ?_⟩) h4
            · have := hkeep b' (Step.snd :: q') (by simpa using hb') (by rintro ⟨s, hs⟩; simp at hs)
              simpa using this
            · refine putCells_ne (fun he => ?_)
              subst he
              obtain ⟨s, _, hs2⟩ := hlab (Step.snd :: q') (by simpa using hb')
              simp at hs2
          have hl1 := OW_len ok _ _ _ _ _ i1
          refine ⟨cs1 ++ c2, OW_pair_mk hl1 i1 h4', ?_⟩
          simp only [Wrote, plain_cons, Step.isIdx, Bool.not_false, Bool.true_and] at i2 ⊢
          split at i2
          · obtain ⟨off0, e1, e2, e3, e4⟩ := i2
            refine ⟨off0, e1, e2, by simp; omega, by rw [e4, spl_left e3]⟩
          · rw [i2]
        · cases hs
      | snd =>
        simp only [Cx.setP] at hs
        split at hs
        · rename_i n' z' hs'
          cases hs
          have hn' : S.nav w b2 (l.map fun x => (x.1, x.2 + S.size a)) c2 q = some (some (b, off), cs0) := by
            simp only [Cx.nav] at hn
            simpa [← h2] using hn
          have hlab' : ∀ q', own b = some (r, some (p ++ [Step.snd] ++ q')) → ∃ s, s ≠ [] ∧ q = q' ++ s := fun q' hq' => by
            obtain ⟨s, hs1, hs2⟩ := hlab (Step.snd :: q') (by simpa using hq')
            exact ⟨s, hs1, by simpa using hs2⟩
          obtain ⟨cs1, i1, i2⟩ := ihb m.snd q (p ++ [Step.snd]) _ c2 x.2 n' z' cs0 h4 hq hs' hn' hlab' (fun b' q' hb' hno => by
            have := hkeep b' (Step.snd :: q') (by simpa using hb') (by rintro ⟨s, hs⟩; exact hno ⟨s, by simpa using hs⟩)
            simpa using this) (by simpa using hnew)
          have h3' : S.OW (putCells w b off new) own' Z' r a m.fst (p ++ [Step.fst]) c1 x.1 := by
            refine OW_frame hZ hZw a m.fst (p ++ [Step.fst]) (p ++ [Step.fst]) _ _ (fun b' q' hb' => ⟨?_, ?_⟩) h3
            · have := hkeep b' (Step.fst :: q') (by simpa using hb') (by rintro ⟨s, hs⟩; simp at hs)
              simpa using this
            · refine putCells_ne (fun he => ?_)
              subst he
              obtain ⟨s, _, hs2⟩ := hlab (Step.fst :: q') (by simpa using hb')
              simp at hs2
          refine ⟨c1 ++ cs1, OW_pair_mk h2 h3' i1, ?_⟩
          simp only [Wrote, plain_cons, Step.isIdx, Bool.not_false, Bool.true_and] at i2 ⊢
          split at i2
          · obtain ⟨off0, e1, e2, e3, e4⟩ := i2
            cases l with
            | none => cases e1
            | some l =>
              simp at e1
              obtain ⟨rfl, rfl⟩ := e1
              refine ⟨l.2, rfl, by omega, by simp; omega, ?_⟩
              rw [e4, show off - l.2 = c1.length + (off - (l.2 + S.size a)) by omega, spl_right]
          · rw [i2]
        · cases hs
      | _ => exact (hq : False).elim
  | agg t ih =>
    intro m q p l cs x n z cs0 h hq hs hn hlab hkeep hnew
    cases q with
    | nil =>
      cases hn
      simp only [Cx.setP] at hs
      split at hs
      · rename_i z' hz
        cases hs
        obtain ⟨e', rfl⟩ := cast_some hz
        subst e'
        have hl1 := OW_len ok _ _ _ _ _ h
        have hl2 := OW_len ok _ _ _ _ _ hnew
        exact ⟨new, by simpa using hnew, off, rfl, Nat.le_refl _, by rw [hl1, hl2]; omega, by rw [Nat.sub_self, spl_all (by rw [hl1, hl2])]⟩
      · cases hs
    | cons s q =>
      cases s with
      | inn =>
        simp only [Cx.setP] at hs
        split at hs
        · rename_i n' z' hs'
          cases hs
          obtain ⟨cs1, i1, i2⟩ := ih m q (p ++ [Step.inn]) l cs x n z cs0 (OW_agg.1 h) hq hs' hn (fun q' hq' => by
            obtain ⟨s, hs1, hs2⟩ := hlab (Step.inn :: q') (by simpa using hq')
            exact ⟨s, hs1, by simpa using hs2⟩) (fun b' q' hb' hno => by
            have := hkeep b' (Step.inn :: q') (by simpa using hb') (by rintro ⟨s, hs⟩; exact hno ⟨s, by simpa using hs⟩)
            simpa using this) (by simpa using hnew)
          refine ⟨cs1, OW_agg.2 i1, ?_⟩
          simp only [Wrote, plain_cons, Step.isIdx, Bool.not_false, Bool.true_and] at i2 ⊢
          exact i2
        · cases hs
      | _ => exact (hq : False).elim
  | arr k t ih =>
    intro m q p l cs x n z cs0 h hq hs hn hlab hkeep hnew
    cases q with
    | nil =>
      cases hn
      simp only [Cx.setP] at hs
      split at hs
      · rename_i z' hz
        cases hs
        obtain ⟨e', rfl⟩ := cast_some hz
        subst e'
        have hl1 := OW_len ok _ _ _ _ _ h
        have hl2 := OW_len ok _ _ _ _ _ hnew
        exact ⟨new, by simpa using hnew, off, rfl, Nat.le_refl _, by rw [hl1, hl2]; omega, by rw [Nat.sub_self, spl_all (by rw [hl1, hl2])]⟩
      · cases hs
    | cons s q =>
      cases s with
      | el i =>
        obtain ⟨hi, hq⟩ := hq
        have hit : decide (i < k) = true := decide_eq_true hi
        cases m with
        | ro =>
          obtain ⟨h1, h2, h3⟩ := Cx.R_arr.1 (OW_ro.1 h)
          have hix : i < x.length := h1.symm ▸ hi
          have hnn := getD_nth (l := x) (S.zero t) hix
          simp only [Cx.setP] at hs
          split at hs
          · rename_i n' z' hs'
            split at hs
            · cases hs
              simp only [Cx.nav, hit] at hn
              have hfit : i * S.size t + S.size t ≤ cs.length := by
                rw [h2]; exact row_fits hi (Nat.le_refl _) rfl
              have hpl : ((cs.drop (i * S.size t)).take (S.size t)).length = S.size t := by rw [List.length_take, List.length_drop]; omega
              obtain ⟨c1, i1, i2⟩ := ih .ro q (p ++ [Step.el i]) _ _ _ .ro z' cs0 (OW_ro.2 (h3 i _ hnn)) hq hs' hn (fun q' hq' => by
                obtain ⟨s, hs1, hs2⟩ := hlab (Step.el i :: q') (by simpa using hq')
                exact ⟨s, hs1, by simpa using hs2⟩) (fun b' q' hb' hno => by
                have := hkeep b' (Step.el i :: q') (by simpa using hb') (by rintro ⟨s, hs⟩; exact hno ⟨s, by simpa using hs⟩)
                simpa using this) (by simpa using hnew)
              have hat : nth (List.set x i z') i = some z' := nth_set_self hix
              have hlen : List.length (List.set x i z') = k := (List.length_set : List.length (List.set x i z') = List.length x).trans h1
              simp only [Wrote, plain_cons, Step.isIdx, Bool.not_false, Bool.true_and] at i2 ⊢
              split at i2
              · obtain ⟨off0, e1, e2, e3, e4⟩ := i2
                cases l with
                | none => cases e1
                | some l =>
                  simp at e1
                  obtain ⟨rfl, rfl⟩ := e1
                  rw [hpl] at e3
                  refine ⟨spl cs (off - l.2) new, OW_ro.2 (Cx.R_arr.2 ⟨hlen, by rw [spl_len (by omega)]; exact h2, fun j u hu => ?_⟩), l.2, rfl, by omega, by omega, rfl⟩
                  by_cases hji : j = i
                  · subst hji
                    have hu' : u = z' := by
                      rw [hat] at hu; exact (Option.some.inj hu).symm
                    subst hu'
                    have := spl_piece (cs := cs) (new := new) (at_ := j * S.size t) (n := S.size t) (off := off - l.2 - j * S.size t) (by omega) hfit
                    rw [show j * S.size t + (off - l.2 - j * S.size t) = off - l.2 by omega, show off - l.2 - j * S.size t = off - (l.2 + j * S.size t) by omega, ← e4] at this
                    rw [this]; exact OW_ro.1 i1
                  · have hu' : nth x j = some u := by
                      have : nth (List.set x i z') j = nth x j := nth_set_ne hji
                      rw [← this]; exact hu
                    have hj := nth_lt hu'
                    have := spl_apart (cs := cs) (new := new) (at_ := j * S.size t) (n := S.size t) (off := off - l.2) (by
                      rcases Nat.lt_or_gt_of_ne hji with hlt | hgt
                      · left
                        have : (j + 1) * S.size t ≤ i * S.size t := Nat.mul_le_mul_right _ hlt
                        rw [Nat.succ_mul] at this; omega
                      · right
                        have : (i + 1) * S.size t ≤ j * S.size t := Nat.mul_le_mul_right _ hgt
                        rw [Nat.succ_mul] at this; omega) (by omega)
                    rw [this]; exact (h3 j u hu').frame hZ hZw
              · subst i2
                refine ⟨cs, OW_ro.2 (Cx.R_arr.2 ⟨hlen, h2, fun j u hu => ?_⟩), rfl⟩
                by_cases hji : j = i
                · subst hji
                  have hu' : u = z' := by
                    rw [hat] at hu; exact (Option.some.inj hu).symm
                  subst hu'
                  exact OW_ro.1 i1
                · have hu' : nth x j = some u := by
                    have : nth (List.set x i z') j = nth x j := nth_set_ne hji
                    rw [← this]; exact hu
                  exact (h3 j u hu').frame hZ hZw
            · cases hs
          · cases hs
        | _ => cases hs
      | _ => exact (hq : False).elim
  | _ =>
    intro m q p l cs x n z cs0 h hq hs hn hlab hkeep hnew
    cases q with
    | nil =>
      cases hn
      simp only [Cx.setP] at hs
      split at hs
      · rename_i z' hz
        cases hs
        obtain ⟨e', rfl⟩ := cast_some hz
        subst e'
        have hl1 := OW_len ok _ _ _ _ _ h
        have hl2 := OW_len ok _ _ _ _ _ hnew
        exact ⟨new, by simpa using hnew, off, rfl, Nat.le_refl _, by rw [hl1, hl2]; omega, by rw [Nat.sub_self, spl_all (by rw [hl1, hl2])]⟩
      · cases hs
    | cons s q => cases s <;> exact (hq : False).elim
end
end Go.Proofs.Ytdnkjfmneppkoaa.Vm
namespace Go.Proofs.Ytdnkjfmneppkoaa.Vm
open Go Go.RowKit
def GlobR (S : Cx) (w : World) (Z : Nat → Prop) : Prop := ∀ b y, (b, y) ∈ S.globs → Z b ∧ ∃ cs, cellsAt w b 0 (S.size y.1) = some cs ∧ S.R w Z y.1 cs y.2
theorem GlobR.frame {S : Cx} {w w' : World} {Z Z' : Nat → Prop} (h : GlobR S w Z) (hZ : ∀ b, Z b → Z' b) (hw : ∀ b, Z b → w'.heap[b]? = w.heap[b]?) : GlobR S w' Z' := fun b y hb => by
  obtain ⟨h1, cs, h2, h3⟩ := h b y hb
  exact ⟨hZ b h1, cs, by unfold cellsAt at h2 ⊢; rw [hw b h1]; exact h2, h3.frame hZ hw⟩
theorem globR_nil {S : Cx} {w : World} {Z : Nat → Prop} (h : S.globs = []) : GlobR S w Z := fun b y hb => by rw [h] at hb; cases hb
structure Gl (S : Cx) where
  P : Program
  E : Env S
  w0 : World
  Z0 : Nat → Prop
  Mio : Nat → Prop
  pin : Nat → Option Nat
  zone : ∀ b, Z0 b → b < w0.heap.size ∧ ¬ Mio b
  glob : GlobR S w0 Z0
  defs : List Deferred := []
section
variable {S : Cx} (g : Gl S)
def Gl.Z (own : Nat → Option Own) (w : World) : Nat → Prop := fun b => (g.Z0 b ∨ g.w0.heap.size ≤ b ∨ g.Mio b) ∧ b < w.heap.size ∧ own b = none
def RootAt (own : Nat → Option Own) (a : Act) (w : World) (r : Root) (t : Ty) (l : Spot) (cs : List Value) : Prop :=
  match r with
  | .slot s => l = none ∧ VS t (a.tmps.getD s undef) cs
  | .mem k => ∃ b e c, l = some (b, 0) ∧ own b = some (.mem k, none) ∧ w.heap[b]? = some (.cells c e (0, 0)) ∧ cs = c.toList
  | .lim => False
def Place (st : ST S) (own : Nat → Option Own) (a : Act) (w : World) (r : Root) (p : Path) (l' : Spot) (cs' : List Value) (c : MV S.toNm) : Prop :=
  ∃ t m x l cs, st.root r = some ⟨t, m, x⟩ ∧ (∀ s, r = .slot s → m ≠ .ro) ∧ RootAt own a w r t l cs ∧ S.okP t p x ∧
    S.nav w t l cs p = some (l', cs') ∧ S.getP t m p x = some c
def TupR (w : World) (Z : Nat → Prop) : (t : Ty) → S.den t → List Value → Prop
  | .pair a b, x, v :: vs => (∃ cs, VS a v cs ∧ S.R w Z a cs x.1) ∧ TupR w Z b x.2 vs
  | t, x, [v] => ∃ cs, VS t v cs ∧ S.R w Z t cs x
  | _, _, _ => False
def CapR (st : ST S) (own : Nat → Option Own) (a : Act) (w : World) : Cap S.toNm → Value → Prop
  | .d t x, v => ∃ b off cs, v = .pointer (some ⟨b, off, none⟩) ∧ g.Z own w b ∧ cellsAt w b off (S.size t) = some cs ∧ S.R w (g.Z own w) t cs x
  | .m k, v => ∃ b off cs' c, Place st own a w (.mem k) [] (some (b, off)) cs' c ∧ v = .pointer (some ⟨b, off, none⟩)
def CapsR (st : ST S) (own : Nat → Option Own) (a : Act) (w : World) : List (Cap S.toNm) → List Value → Prop
  | [], [] => True
  | c :: cs, v :: vs => CapR g st own a w c v ∧ CapsR st own a w cs vs
  | _, _ => False
def TR (st : ST S) (own : Nat → Option Own) (a : Act) (w : World) (i : Nat) : AV S → Value → Prop
  | .dead, _ => True
  | .und, v => v = undef
  | .v t m x, v => ∃ cs, VS t v cs ∧ S.OW w own (g.Z own w) (.slot i) t m [] cs x
  | .tup t _ x, v => ∃ vs, v = .tuple vs ∧ TupR w (g.Z own w) t x vs.toList
  | .rp t x, v => ∃ b off cs, v = .pointer (some ⟨b, off, none⟩) ∧ g.Z own w b ∧ cellsAt w b off (S.size t) = some cs ∧ S.R w (g.Z own w) t cs x
  | .ref r p, v => ∃ l' cs' c, Place st own a w r p l' cs' c ∧ VS c.t v cs'
  | .addr r p, v => ∃ b off cs' c, Place st own a w r p (some (b, off)) cs' c ∧ v = .pointer (some ⟨b, off, none⟩)
  | .fn f cs, v => ∃ vs : List Value, v = .func (.func f) #[] vs.toArray ∧ CapsR g st own a w cs vs
def MR (own : Nat → Option Own) (w : World) (k : Nat) (c : MV S.toNm) : Prop :=
  ∃ b e cells, own b = some (.mem k, none) ∧ w.heap[b]? = some (.cells cells e (0, 0)) ∧ S.OW w own (g.Z own w) (.mem k) c.t c.m [] cells.toList c.x ∧
    ∀ b', own b' = some (.mem k, none) → b' = b
structure Rel (own : Nat → Option Own) (st : ST S) (a : Act) (w : World) : Prop where
  os : w.os = g.w0.os
  tape : w.tape = g.w0.tape
  output : w.output = g.w0.output
  size : g.w0.heap.size ≤ w.heap.size
  block : ∀ b, b < g.w0.heap.size → ¬ g.Mio b → w.heap[b]? = g.w0.heap[b]?
  fresh : ∀ b, own b ≠ none → (g.w0.heap.size ≤ b ∨ g.Mio b) ∧ b < w.heap.size
  vals : ∀ i, TR g st own a w i (st.look i) (a.tmps.getD i undef)
  mems : ∀ k c, st.mems.lookup k = some c → MR g own w k c
  defs : a.defers = g.defs
  pins : ∀ k b b', g.pin k = some b → own b' = some (.mem k, none) → b' = b
theorem Rel.glob {g : Gl S} {own : Nat → Option Own} {st : ST S} {a : Act} {w : World} (h : Rel g own st a w) : GlobR S w (g.Z own w) :=
  g.glob.frame (fun b hb => by
    obtain ⟨h1, h2⟩ := g.zone b hb
    refine ⟨.inl hb, Nat.lt_of_lt_of_le h1 h.size, ?_⟩
    cases e : own b with
    | none => rfl
    | some o =>
      rcases (h.fresh b (by rw [e]; simp)).1 with q | q
      · omega
      · exact absurd q h2) (fun b hb => by
    obtain ⟨h1, h2⟩ := g.zone b hb
    exact h.block b h1 h2)
theorem CapsR.map {g g' : Gl S} {st st' : ST S} {own own' : Nat → Option Own} {a a' : Act} {w w' : World} (F : Cap S.toNm → Cap S.toNm) : ∀ {cs : List (Cap S.toNm)} {vs : List Value},
    (∀ c ∈ cs, ∀ v, CapR g st own a w c v → CapR g' st' own' a' w' (F c) v) → CapsR g st own a w cs vs → CapsR g' st' own' a' w' (cs.map F) vs
  | [], [], _, _ => trivial
  | [], _ :: _, _, h => h.elim
  | _ :: _, [], _, h => h.elim
  | c :: _, v :: _, hm, h => ⟨hm c (List.mem_cons_self ..) v h.1, CapsR.map F (fun c hc => hm c (List.mem_cons_of_mem _ hc)) h.2⟩
theorem CapsR.mono {g g' : Gl S} {st st' : ST S} {own own' : Nat → Option Own} {a a' : Act} {w w' : World} {cs : List (Cap S.toNm)} {vs : List Value}
    (hm : ∀ c ∈ cs, ∀ v, CapR g st own a w c v → CapR g' st' own' a' w' c v) (h : CapsR g st own a w cs vs) : CapsR g' st' own' a' w' cs vs := by
  have := CapsR.map id hm h; simpa using this
theorem CapsR.len {g : Gl S} {st : ST S} {own : Nat → Option Own} {a : Act} {w : World} : ∀ {cs : List (Cap S.toNm)} {vs : List Value}, CapsR g st own a w cs vs → cs.length = vs.length
  | [], [], _ => rfl
  | [], _ :: _, h => h.elim
  | _ :: _, [], h => h.elim
  | c :: cs, v :: vs, h => by simp [CapsR.len h.2]
theorem CapsR.get {g : Gl S} {st : ST S} {own : Nat → Option Own} {a : Act} {w : World} : ∀ {cs : List (Cap S.toNm)} {vs : List Value}, CapsR g st own a w cs vs → ∀ {j : Nat} {c : Cap S.toNm}, cs[j]? = some c → ∃ v, vs[j]? = some v ∧ CapR g st own a w c v
  | [], [], _, j, c, hj => by simp at hj
  | [], _ :: _, h, _, _, _ => h.elim
  | _ :: _, [], h, _, _, _ => h.elim
  | c0 :: cs, v :: vs, h, j, c, hj => by
    cases j with
    | zero => simp at hj; subst hj; exact ⟨v, by simp, h.1⟩
    | succ j => simp at hj ⊢; exact CapsR.get h.2 hj
theorem cap_rooted {M : Nm} {r : Root} {cs : List (Cap M)} (h : cs.any (Cap.rooted r) = false) {k : Nat} (hk : Cap.m k ∈ cs) : Root.mem k ≠ r := by
  intro e
  have := List.any_eq_false.1 h _ hk
  simp [Cap.rooted, e] at this
theorem lookup_upd {α : Type} (l : List (Nat × α)) (d : Nat) (x : α) (i : Nat) : (upd l d x).lookup i = if i = d then some x else l.lookup i := by
  induction l with
  | nil =>
    by_cases h : i = d
    · subst h; simp [upd]
    · have : (i == d) = false := by simpa using h
      simp [upd, List.lookup_cons, h, this]
  | cons y l ih =>
    obtain ⟨k, b⟩ := y
    simp only [upd]
    by_cases hk : k = d
    · subst hk
      simp only [beq_self_eq_true]
      by_cases h : i = k
      · subst h; simp
      · have : (i == k) = false := by simpa using h
        simp [h, List.lookup_cons, this]
    · have : (k == d) = false := by simpa using hk
      simp only [this, List.lookup_cons, ih]
      by_cases h : i = k
      · subst h; simp [hk]
      · have h' : (i == k) = false := by simpa using h
        simp [h']
theorem lookup_killIn {M : Nm} (f : AVal M → Bool) (l : List (Nat × AVal M)) (i : Nat) : (killIn f l).lookup i = (l.lookup i).map fun a => match f a with | true => .dead | false => a := by
  induction l with
  | nil => rfl
  | cons y l ih =>
    obtain ⟨k, b⟩ := y
    simp only [killIn, List.map_cons, List.lookup_cons] at *
    cases i == k
    · exact ih
    · rfl
theorem look_killBy (st : ST S) (f : AV S → Bool) (i : Nat) (h0 : f .dead = false) : (st.killBy f).look i = match f (st.look i) with | true => .dead | false => st.look i := by
  simp only [St.look, St.killBy, lookup_killIn]
  cases st.vars.lookup i with
  | some x => simp
  | none =>
    simp only [Option.map_none]
    cases st.scr.lookup i with
    | some x => simp
    | none => simp [h0]
theorem mems_killBy (st : ST S) (f : AV S → Bool) : (st.killBy f).mems = st.mems := rfl
theorem look_put0 (h : Hint) (st : ST S) (d : Nat) (x : AV S) (i : Nat) : (st.put0 h d x).look i = if i = d then x else st.look i := by
  have vars : (({ st with vars := upd st.vars d x } : ST S)).look i = if i = d then x else st.look i := by
    simp only [St.look, lookup_upd]
    by_cases hi : i = d
    · subst hi; simp
    · simp [hi]
  unfold St.put0
  cases hs : st.vars.lookup d with
  | some _ => exact vars
  | none =>
    cases hv : h.vs.contains d with
    | true => exact vars
    | false =>
      simp only [St.look, List.lookup_cons]
      by_cases hi : i = d
      · subst hi; simp [hs]
      · have : (i == d) = false := by simpa using hi
        simp [this, hi]
theorem put0_mems (h : Hint) (st : ST S) (d : Nat) (x : AV S) : (st.put0 h d x).mems = st.mems := by
  unfold St.put0; split <;> (try split) <;> rfl
theorem put_mems (h : Hint) (st : ST S) (d : Nat) (x : AV S) : (st.put h d x).mems = st.mems := by
  unfold St.put; split
  · split <;> simp [put0_mems, St.kill, mems_killBy]
  · exact put0_mems _ _ _ _
theorem look_put (h : Hint) (st : ST S) (d : Nat) (x : AV S) (i : Nat) :
    (i = d → (st.put h d x).look i = x) ∧ (i ≠ d → (st.put h d x).look i = .dead ∨ ((st.put h d x).look i = st.look i ∧
      ∀ t m y, st.look d = .v t m y → m ≠ .ro → (st.look i).hangs (.slot d) = false)) := by
  have hk : ∀ j, (st.kill (.slot d)).look j = match (st.look j).hangs (.slot d) with | true => .dead | false => st.look j := fun j => look_killBy st _ j rfl
  have own : ∀ t m y, st.look d = .v t m y → m ≠ .ro → st.put h d x = (st.kill (.slot d)).put0 h d x := fun t m y e hm => by
    simp only [St.put, e]
  by_cases ho : ∃ t m y, st.look d = .v t m y ∧ m ≠ .ro
  · obtain ⟨t, m, y, e, hm⟩ := ho
    rw [own t m y e hm, look_put0]
    refine ⟨fun hi => by rw [if_pos hi], fun hi => ?_⟩
    rw [if_neg hi, hk]
    cases hh : (st.look i).hangs (.slot d) with
    | true => exact .inl rfl
    | false => exact .inr ⟨rfl, fun _ _ _ _ _ => rfl⟩
  · have e : st.put h d x = st.put0 h d x := by
      unfold St.put
      split
      · rename_i t m y e
        cases m <;> first | rfl | exact absurd ⟨t, _, y, e, by simp⟩ ho
      · rfl
    rw [e, look_put0]
    refine ⟨fun hi => by rw [if_pos hi], fun hi => ?_⟩
    rw [if_neg hi]
    exact .inr ⟨rfl, fun t m y e hm => absurd ⟨t, m, y, e, hm⟩ ho⟩
theorem tmps_put {a : Act} {d i : Nat} {v : Value} (hd : d < a.tmps.size) : (a.put (some d) v).tmps.getD i undef = if i = d then v else a.tmps.getD i undef := by
  simp only [Act.put, Array.getD_eq_getD_getElem?]
  by_cases h : i = d
  · subst h; simp [hd]
  · rw [Array.getElem?_setIfInBounds_ne (Ne.symm h), if_neg h]
theorem tmps_put_size {a : Act} {d : Option Nat} {v : Value} : (a.put d v).tmps.size = a.tmps.size := by cases d <;> simp [Act.put]
theorem put_defers {a : Act} {d : Option Nat} {v : Value} : (a.put d v).defers = a.defers := by cases d <;> rfl
theorem nav_plain {w : World} : ∀ (t : Ty) (q : Path) (l : Spot) (cs : List Value) (l' : Spot) (cs' : List Value), q.plain = true → S.nav w t l cs q = some (l', cs') → l = none → l' = none := by
  intro t
  induction t with
  | slice e t ih =>
    intro q l cs l' cs' hp hn hl
    cases q with
    | nil => cases hn; exact hl
    | cons s q => cases s with
      | idx i => simp [plain_cons, Step.isIdx] at hp
      | _ => cases hn
  | pair a b iha ihb =>
    intro q l cs l' cs' hp hn hl
    cases q with
    | nil => cases hn; exact hl
    | cons s q => cases s with
      | fst => exact iha q _ _ _ _ (by simpa [plain_cons, Step.isIdx] using hp) hn hl
      | snd => exact ihb q _ _ _ _ (by simpa [plain_cons, Step.isIdx] using hp) hn (by rw [hl]; rfl)
      | _ => cases hn
  | agg t ih =>
    intro q l cs l' cs' hp hn hl
    cases q with
    | nil => cases hn; exact hl
    | cons s q => cases s with
      | inn => exact ih q _ _ _ _ (by simpa [plain_cons, Step.isIdx] using hp) hn hl
      | _ => cases hn
  | arr n t ih =>
    intro q l cs l' cs' hp hn hl
    cases q with
    | nil => cases hn; exact hl
    | cons s q => cases s with
      | el i =>
        simp only [Cx.nav] at hn
        split at hn
        · exact ih q _ _ _ _ (by simpa [plain_cons, Step.isIdx] using hp) hn (by rw [hl]; rfl)
        · cases hn
      | _ => cases hn
  | _ =>
    intro q l cs l' cs' hp hn hl
    cases q with
    | nil => cases hn; exact hl
    | cons s q => cases s <;> cases hn
theorem nav_keep {w w' : World} (hw : ∀ b, b < w.heap.size → w'.heap[b]? = w.heap[b]?) : ∀ (t : Ty) (q : Path) (l : Spot) (cs : List Value) (r : Spot × List Value), S.nav w t l cs q = some r → S.nav w' t l cs q = some r := by
  intro t
  induction t with
  | slice e t ih =>
    intro q l cs r hn
    cases q with
    | nil => exact hn
    | cons s q => cases s with
      | idx i =>
        simp only [Cx.nav] at hn ⊢
        split at hn
        · rename_i b off _ _
          cases hc : cellsAt w b (off + i * S.size t) (S.size t) with
          | none => rw [hc] at hn; cases hn
          | some c =>
            rw [hc] at hn
            rw [cellsAt_same (hw b (cellsAt_lt hc)), hc]
            exact ih q _ _ _ hn
        · cases hn
      | _ => exact hn
  | pair a b iha ihb =>
    intro q l cs r hn
    cases q with
    | nil => exact hn
    | cons s q => cases s with
      | fst => exact iha q _ _ _ hn
      | snd => exact ihb q _ _ _ hn
      | _ => exact hn
  | agg t ih =>
    intro q l cs r hn
    cases q with
    | nil => exact hn
    | cons s q => cases s with
      | inn => exact ih q _ _ _ hn
      | _ => exact hn
  | arr n t ih =>
    intro q l cs r hn
    cases q with
    | nil => exact hn
    | cons s q => cases s with
      | el i =>
        simp only [Cx.nav] at hn ⊢
        split at hn
        · exact ih q _ _ _ hn
        · cases hn
      | _ => exact hn
  | _ =>
    intro q l cs r hn
    cases q with
    | nil => exact hn
    | cons s q => cases s <;> exact hn
theorem TupR_frame {w w' : World} {Z Z' : Nat → Prop} (hZ : ∀ b, Z b → Z' b) (hw : ∀ b, Z b → w'.heap[b]? = w.heap[b]?) : ∀ (t : Ty) (x : S.den t) (vs : List Value), TupR w Z t x vs → TupR w' Z' t x vs := by
  intro t
  induction t with
  | pair a b iha ihb =>
    intro x vs h
    cases vs with
    | nil => exact h.elim
    | cons v vs =>
      obtain ⟨⟨cs, h1, h2⟩, h3⟩ := h
      exact ⟨⟨cs, h1, h2.frame hZ hw⟩, ihb _ _ h3⟩
  | _ =>
    intro x vs h
    match vs, h with
    | [v], ⟨cs, h1, h2⟩ => exact ⟨cs, h1, h2.frame hZ hw⟩
variable {g}
theorem Z_keep {own : Nat → Option Own} {w w' : World} (hs : w.heap.size ≤ w'.heap.size) {b : Nat} (h : g.Z own w b) : g.Z own w' b := ⟨h.1, Nat.lt_of_lt_of_le h.2.1 hs, h.2.2⟩
theorem RootAt_keep {own : Nat → Option Own} {a : Act} {w w' : World} (hw : ∀ b, b < w.heap.size → w'.heap[b]? = w.heap[b]?) {r : Root} {t : Ty} {l : Spot} {cs : List Value} (h : RootAt own a w r t l cs) : RootAt own a w' r t l cs := by
  cases r with
  | slot s => exact h
  | mem k =>
    obtain ⟨b, e, c, h1, h2, h3, h4⟩ := h
    exact ⟨b, e, c, h1, h2, by rw [hw b (Array.getElem?_eq_some_iff.1 h3).1]; exact h3, h4⟩
  | lim => exact h
theorem Place_keep {st : ST S} {own : Nat → Option Own} {a : Act} {w w' : World} (hw : ∀ b, b < w.heap.size → w'.heap[b]? = w.heap[b]?) {r : Root} {p : Path} {l : Spot} {cs : List Value} {c : MV S.toNm}
    (h : Place st own a w r p l cs c) : Place st own a w' r p l cs c := by
  obtain ⟨t, m, x, l0, cs0, h1, h2, h3, h4, h5, h6⟩ := h
  exact ⟨t, m, x, l0, cs0, h1, h2, RootAt_keep hw h3, h4, nav_keep hw _ _ _ _ _ h5, h6⟩
theorem TR_keep {st : ST S} {own : Nat → Option Own} {a : Act} {w w' : World} (hs : w.heap.size ≤ w'.heap.size) (hw : ∀ b, b < w.heap.size → w'.heap[b]? = w.heap[b]?)
    (hf : ∀ b, own b ≠ none → b < w.heap.size) {i : Nat} {x : AV S} {v : Value} (h : TR g st own a w i x v) : TR g st own a w' i x v := by
  have hZ : ∀ b, g.Z own w b → g.Z own w' b := fun b h => Z_keep hs h
  have hZw : ∀ b, g.Z own w b → w'.heap[b]? = w.heap[b]? := fun b h => hw b h.2.1
  cases x with
  | dead => trivial
  | und => exact h
  | v t m x =>
    obtain ⟨cs, h1, h2⟩ := h
    exact ⟨cs, h1, OW_frame hZ hZw _ _ _ _ _ _ (fun b q hb => ⟨hb, hw b (hf b (by rw [hb]; simp))⟩) h2⟩
  | tup t m x =>
    obtain ⟨vs, h1, h2⟩ := h
    exact ⟨vs, h1, TupR_frame hZ hZw _ _ _ h2⟩
  | rp t x =>
    obtain ⟨b, off, cs, h1, h2, h3, h4⟩ := h
    exact ⟨b, off, cs, h1, hZ b h2, by rw [cellsAt_same (hZw b h2)]; exact h3, h4.frame hZ hZw⟩
  | ref r p =>
    obtain ⟨l, cs, c, h1, h2⟩ := h
    exact ⟨l, cs, c, Place_keep hw h1, h2⟩
  | addr r p =>
    obtain ⟨b, off, cs, c, h1, h2⟩ := h
    exact ⟨b, off, cs, c, Place_keep hw h1, h2⟩
  | fn f cs =>
    obtain ⟨vs, h1, h2⟩ := h
    refine ⟨vs, h1, h2.mono fun c _ v hc => ?_⟩
    cases c with
    | d t x =>
      obtain ⟨b, off, cs, h1, h2, h3, h4⟩ := hc
      exact ⟨b, off, cs, h1, hZ b h2, by rw [cellsAt_same (hZw b h2)]; exact h3, h4.frame hZ hZw⟩
    | m k =>
      obtain ⟨b, off, cs, c, h1, h2⟩ := hc
      exact ⟨b, off, cs, c, Place_keep hw h1, h2⟩
theorem Rel.keep {own : Nat → Option Own} {st : ST S} {a : Act} {w w' : World} (h : Rel g own st a w) (hb : Below w.heap.size w w') : Rel g own st a w' where
  os := hb.os.trans h.os
  tape := hb.tape.trans h.tape
  output := hb.output.trans h.output
  size := Nat.le_trans h.size hb.size
  block b h1 h2 := (hb.block b (Nat.lt_of_lt_of_le h1 h.size)).trans (h.block b h1 h2)
  fresh b hb' := ⟨(h.fresh b hb').1, Nat.lt_of_lt_of_le (h.fresh b hb').2 hb.size⟩
  vals i := TR_keep hb.size hb.block (fun b hb => (h.fresh b hb).2) (h.vals i)
  mems k c hk := by
    obtain ⟨b, e, cells, h1, h2, h3, h4⟩ := h.mems k c hk
    have hlt : ∀ b, own b ≠ none → b < w.heap.size := fun b hb => (h.fresh b hb).2
    exact ⟨b, e, cells, h1, by rw [hb.block b (hlt b (by rw [h1]; simp))]; exact h2,
      OW_frame (fun b h => Z_keep hb.size h) (fun b h => hb.block b h.2.1) _ _ _ _ _ _ (fun b q hq => ⟨hq, hb.block b (hlt b (by rw [hq]; simp))⟩) h3, h4⟩
  defs := h.defs
  pins := h.pins
theorem root_slot {st : ST S} {s : Nat} {t : Ty} {m : Mode} {x : S.den t} (h : st.root (.slot s) = some ⟨t, m, x⟩) : st.look s = .v t m x := by
  simp only [St.root] at h
  split at h
  · rename_i e; rw [e]; cases h; rfl
  · cases h
theorem Place_of {st st' : ST S} {own : Nat → Option Own} {a a' : Act} {w : World} {r : Root} {p : Path} {l : Spot} {cs : List Value} {c : MV S.toNm}
    (h : Place st own a w r p l cs c) (hr : st'.root r = st.root r) (ha : ∀ s, r = .slot s → a'.tmps.getD s undef = a.tmps.getD s undef) : Place st' own a' w r p l cs c := by
  obtain ⟨t, m, x, l0, cs0, h1, h2, h3, h4, h5, h6⟩ := h
  refine ⟨t, m, x, l0, cs0, hr.trans h1, h2, ?_, h4, h5, h6⟩
  cases r with
  | slot s => exact ⟨h3.1, by rw [ha s rfl]; exact h3.2⟩
  | mem k => exact h3
  | lim => exact h3
theorem Rel.put {own : Nat → Option Own} {st : ST S} {a : Act} {w : World} (h : Rel g own st a w) (hn : Hint) {d : Nat} {x : AV S} {v : Value} (hd : d < a.tmps.size)
    (hx : TR g (st.put hn d x) own (a.put (some d) v) w d x v) : Rel g own (st.put hn d x) (a.put (some d) v) w where
  os := h.os
  tape := h.tape
  output := h.output
  size := h.size
  block := h.block
  fresh := h.fresh
  mems k c hk := h.mems k c (by rw [put_mems] at hk; exact hk)
  defs := by rw [put_defers]; exact h.defs
  pins := h.pins
  vals i := by
    rw [tmps_put hd]
    obtain ⟨l1, l2⟩ := look_put hn st d x i
    by_cases hi : i = d
    · rw [l1 hi, if_pos hi, hi]; exact hx
    · rw [if_neg hi]
      rcases l2 hi with e | ⟨e, hk⟩
      · rw [e]; trivial
      · rw [e]
        have hv := h.vals i
        have place : ∀ {r p l cs c}, ((st.look i) = .ref r p ∨ ((st.look i) = .addr r p ∧ ∃ z, l = some z)) → Place st own a w r p l cs c → Place (st.put hn d x) own (a.put (some d) v) w r p l cs c := by
          intro r p l cs c hrp hp
          cases r with
          | lim => obtain ⟨_, _, _, _, _, _, _, h3, _⟩ := hp; exact h3.elim
          | mem k =>
            refine Place_of hp ?_ (fun s hs => by cases hs)
            simp only [St.root, put_mems]
          | slot s =>
            have hp0 := hp
            obtain ⟨t, m, y, l0, cs0, h1, h2, h3, h4, h5, h6⟩ := hp0
            have hlook := root_slot h1
            have hm := h2 s rfl
            have hsd : s ≠ d := by
              rintro rfl
              have hh := hk t m y hlook hm
              rcases hrp with hrp | ⟨hrp, z, hz⟩
              · rw [hrp] at hh; simp [AVal.hangs] at hh
              · rw [hrp] at hh
                simp [AVal.hangs] at hh
                have := nav_plain _ _ _ _ _ _ hh h5 h3.1
                rw [hz] at this; cases this
            refine Place_of hp ?_ (fun s' hs' => by cases hs'; rw [tmps_put hd, if_neg hsd])
            have hl : (st.put hn d x).look s = st.look s := by
              rcases (look_put hn st d x s).2 hsd with e2 | ⟨e2, _⟩
              · exfalso
                -- a value is never struck
                have : ∀ (h' : Hint), (st.put h' d x).look s = .v t m y := by
                  intro h'
                  unfold St.put
                  split
                  · rename_i t' m' y' e'
                    cases m' with
                    | ro => rw [look_put0, if_neg hsd]; exact hlook
                    | _ => rw [look_put0, if_neg hsd, St.kill, look_killBy _ _ _ rfl, hlook]; rfl
                  · rw [look_put0, if_neg hsd]; exact hlook
                rw [this hn] at e2; cases e2
              · exact e2
            simp only [St.root, hl]
        generalize hA : st.look i = A at *
        cases A with
        | dead => trivial
        | und => exact hv
        | v t m y => exact hv
        | tup t m y => exact hv
        | rp t y => exact hv
        | ref r p =>
          obtain ⟨l, cs, c, h1, h2⟩ := hv
          exact ⟨l, cs, c, place (.inl rfl) h1, h2⟩
        | addr r p =>
          obtain ⟨b, off, cs, c, h1, h2⟩ := hv
          exact ⟨b, off, cs, c, place (.inr ⟨rfl, _, rfl⟩) h1, h2⟩
        | fn f cs =>
          obtain ⟨vs, h1, h2⟩ := hv
          refine ⟨vs, h1, h2.mono fun c _ v hc => ?_⟩
          cases c with
          | d t x => exact hc
          | m k =>
            obtain ⟨b, off, cs, c, h1, h2⟩ := hc
            exact ⟨b, off, cs, c, Place_of h1 (by simp only [St.root, put_mems]) (fun s hs => by cases hs), h2⟩
end
end Go.Proofs.Ytdnkjfmneppkoaa.Vm
namespace Go.Proofs.Ytdnkjfmneppkoaa.Vm
open Go Go.RowKit
section
variable {S : Cx}
def zc : Ty → List Value
  | .int k => [.int k 0]
  | .bool => [.bool false]
  | .str => [.string ByteArray.empty]
  | .slice _ _ => [.slice none 0 0]
  | .pair a b => zc a ++ zc b
  | .agg t => zc t
  | .ptr _ => [.pointer none]
  | .lptr _ => [.pointer none]
  | .arr n t => (List.replicate n (zc t)).flatten
  | .map _ _ => [.map none]
  | .clo _ _ => [.nilFunc]
  | _ => []
def noName : Ty → Bool
  | .named _ => false
  | .box _ => false
  | .clo _ _ => false
  | .map _ _ => false
  | .arr _ t => noName t
  | .pair a b => noName a && noName b
  | .agg t => noName t
  | _ => true
def FieldsOk (S : Cx) (E : Env S) : List Field → Ty → Nat → Prop
  | f :: g :: fs, .pair a b, off => f.offset = off ∧ E.tys.lookup f.type = some a ∧ 0 < S.size a ∧ FieldsOk S E (g :: fs) b (off + S.size a)
  | [_], .pair _ _, _ => False
  | [f], u, off => f.offset = off ∧ E.tys.lookup f.type = some u ∧ 0 < S.size u
  | _, _, _ => False
def UndOk (P : Program) (E : Env S) (t : Nat) : Ty → Prop
  | .int k => P.underlying t = some (.int k)
  | .bool => P.underlying t = some .bool
  | .str => P.underlying t = some .string
  | .slice e u => P.underlying t = some (.slice e) ∧ E.tys.lookup e = some (S.un u) ∧ 0 < S.size u
  | .ptr _ => ∃ e i, P.underlying t = some (.pointer e) ∧ P.info? e = some i ∧ i.size ≠ 0
  | .lptr _ => ∃ e i, P.underlying t = some (.pointer e) ∧ P.info? e = some i ∧ i.size ≠ 0
  | .agg u => (∃ fs, P.underlying t = some (.struct fs) ∧ FieldsOk S E fs.toList u 0) ∨ ∃ n v e, u = .arr n v ∧ P.underlying t = some (.array n e) ∧ E.tys.lookup e = some v ∧ 0 < S.size v
  | .clo _ _ => ∃ ps rs v, P.underlying t = some (.func ps rs v)
  | .map k v => ∃ kt et, P.underlying t = some (.map kt et) ∧ E.tys.lookup kt = some k ∧ E.tys.lookup et = some v
  | _ => False
def EqOk (P : Program) (t : Nat) (ty : Ty) : Prop := ty.isAgg = true → ty.eqable = true → ty.tdep ≤ 100 ∧ P.stoodInHeld t = false ∧ P.eqGuardType P.depth t = false ∧ ∀ f ∈ (P.fieldsOf t).toList, f.name ≠ "_"
structure TyFact (P : Program) (E : Env S) (t : Nat) (ty : Ty) : Prop where
  und : UndOk P E t ty
  info : ∃ i z, P.info? t = some i ∧ i.size = S.size ty ∧ i.zero = some z ∧ VS ty z (zc ty) ∧ i.bytes ≤ 4096
  named : (ty.isMap || ty.isClo) = false → noName ty = true
  pos : 0 < S.size ty
  eqs : EqOk P t ty
def TysOk (P : Program) (E : Env S) : Prop := ∀ t ty, E.tys.lookup t = some ty → TyFact P E t ty
theorem Env.is_lookup {E : Env S} {n : Nat} {t : Ty} (h : E.is n t = true) : E.tys.lookup n = some t := by
  unfold Env.is at h
  split at h
  · rename_i u e
    split at h
    · rename_i hu _; rw [e, hu]
    · cases h
  · cases h
theorem isB_ne {E : Env S} {n : Nat} {t : Ty} (h : E.isB n t = true) : (∃ f u, t = .clo f u) ∨ E.tys.lookup n = some t := by
  unfold Env.isB at h
  split at h
  · exact .inl ⟨_, _, rfl⟩
  · exact .inr (Env.is_lookup h)
theorem isB_lookup {E : Env S} {n : Nat} {t : Ty} (h : E.isB n t = true) : ∃ u, E.tys.lookup n = some u ∧ S.size u = S.size t ∧ u.isAgg = t.isAgg ∧ (u.isClo = false → u = t) := by
  unfold Env.isB at h
  split at h
  · split at h
    · rename_i f u0 u e
      split at h
      · exact ⟨_, e, rfl, rfl, fun h => by cases h⟩
      · cases h
    · cases h
  · exact ⟨t, Env.is_lookup h, rfl, rfl, fun _ => rfl⟩
theorem run_cellsOf {P : Program} {t : Nat} {i : TypeInfo} (h : P.info? t = some i) (w : World) : (sizeOf t).run P w = .ok i.size w := by
  rw [run_sizeOf w h]; simp [Program.cellsOf, h]
theorem TyFact.size {P : Program} {E : Env S} {t : Nat} {ty : Ty} (h : TyFact P E t ty) (w : World) : (sizeOf t).run P w = .ok (S.size ty) w := by
  obtain ⟨i, z, h1, h2, _⟩ := h.info
  rw [run_cellsOf h1, h2]
theorem zflat_len {α : Type} (c : List α) : ∀ n, ((List.replicate n c).flatten).length = n * c.length
  | 0 => by simp
  | n + 1 => by rw [List.replicate_succ, List.flatten_cons, List.length_append, zflat_len c n, Nat.succ_mul]; omega
theorem zflat_piece {α : Type} (c : List α) : ∀ (n i : Nat), i < n → (((List.replicate n c).flatten).drop (i * c.length)).take c.length = c
  | 0, i, h => by omega
  | n + 1, 0, _ => by rw [List.replicate_succ, List.flatten_cons, Nat.zero_mul, List.drop_zero, List.take_left']; rfl
  | n + 1, i + 1, h => by
    rw [List.replicate_succ, List.flatten_cons, Nat.succ_mul, List.drop_append]
    rw [List.drop_eq_nil_of_le (by omega), List.nil_append, show i * c.length + c.length - c.length = i * c.length by omega]
    exact zflat_piece c n i (by omega)
theorem zc_len {S : Cx} : ∀ t, noName t = true → (zc t).length = S.size t := by
  intro t
  induction t with
  | pair a b iha ihb => intro h; simp only [noName, Bool.and_eq_true] at h; simp [zc, Nm.size, iha h.1, ihb h.2]
  | agg t ih => intro h; exact ih h
  | arr n t ih => intro h; simp only [zc, Nm.size]; rw [zflat_len, ih h]
  | named n => intro h; cases h
  | box _ => intro h; cases h
  | clo _ _ => intro h; cases h
  | map _ _ => intro h; cases h
  | _ => intro _; rfl
theorem nth_rep {α : Type} {x y : α} {n i : Nat} (h : nth (List.replicate n x) i = some y) : i < n ∧ y = x := by
  unfold nth at h
  rw [List.getElem?_replicate] at h
  split at h
  · exact ⟨by assumption, (Option.some.inj h).symm⟩
  · cases h
theorem R_zc {w : World} {Z : Nat → Prop} : ∀ t, noName t = true → S.R w Z t (zc t) (S.zero t) := by
  intro t
  induction t with
  | int k => intro _; exact Cx.R_int.2 rfl
  | bool => intro _; exact Cx.R_bool.2 rfl
  | str => intro _; exact Cx.R_str.2 rfl
  | slice e t ih => intro _; exact Cx.R_slice.2 ⟨none, 0, rfl, Nat.le_refl _, fun i y hy => by simp [nth, Cx.zero] at hy⟩
  | pair a b iha ihb =>
    intro h
    simp only [noName, Bool.and_eq_true] at h
    have hl : (zc a).length = S.size a := zc_len a h.1
    exact Cx.R_pair.2 ⟨zc a, zc b, rfl, hl, iha h.1, ihb h.2⟩
  | agg t ih => intro h; exact Cx.R_agg.2 (ih h)
  | ptr n => intro _; exact Cx.R_ptr.2 (.inl ⟨rfl, rfl⟩)
  | lptr n => intro _; exact Cx.R_lptr.2 (.inl ⟨rfl, rfl⟩)
  | named n => intro h; cases h
  | unit => intro _; exact Cx.R_unit.2 rfl
  | arr n t ih =>
    intro h
    have hl : (zc t).length = S.size t := zc_len t h
    refine Cx.R_arr.2 ⟨List.length_replicate, by simp only [zc]; rw [zflat_len, hl], fun i y hy => ?_⟩
    obtain ⟨hi, rfl⟩ := nth_rep hy
    simp only [zc]
    rw [← hl, zflat_piece _ _ _ hi]
    exact ih h
  | box _ => intro h; cases h
  | clo _ _ => intro h; cases h
  | map _ _ => intro h; cases h
variable {g : Gl S} {own : Nat → Option Own} {st : ST S} {a : Act} {w : World}
def Gl.A (g : Gl S) (w : World) : Nat → Prop := fun b => (g.Z0 b ∨ g.w0.heap.size ≤ b ∨ g.Mio b) ∧ b < w.heap.size
theorem Z_A {b : Nat} (h : g.Z own w b) : g.A w b := ⟨h.1, h.2.1⟩
def RoV (g : Gl S) (own : Nat → Option Own) (w : World) (t : Ty) (x : S.den t) (v : Value) : Prop := ∃ cs, VS t v cs ∧ S.R w (g.Z own w) t cs x
theorem TR_ro {t : Ty} {x : S.den t} {v : Value} {i : Nat} : TR g st own a w i (.v t .ro x) v ↔ RoV g own w t x v := by
  constructor
  · rintro ⟨cs, h1, h2⟩; exact ⟨cs, h1, OW_ro.1 h2⟩
  · rintro ⟨cs, h1, h2⟩; exact ⟨cs, h1, OW_ro.2 h2⟩
theorem str_eta (s : ByteArray) : ByteArray.mk (Array.mk s.data.toList) = s := by cases s; rfl
theorem lit_ok {t : Ty} {v : Value} {x : S.den t} (h : S.lit t v = some x) : RoV g own w t x v := by
  unfold Cx.lit at h
  split at h
  · split at h
    · rename_i hk _; subst hk; cases h; exact ⟨_, rfl, Cx.R_int.2 rfl⟩
    · cases h
  · cases h; exact ⟨_, rfl, Cx.R_bool.2 rfl⟩
  · cases h; exact ⟨_, rfl, Cx.R_str.2 (by rw [str_eta])⟩
  · cases h; exact ⟨_, rfl, Cx.R_slice.2 ⟨none, 0, rfl, Nat.le_refl _, fun i y hy => by simp [nth] at hy⟩⟩
  · cases h; exact ⟨_, rfl, Cx.R_ptr.2 (.inl ⟨rfl, rfl⟩)⟩
  · cases h; exact ⟨_, rfl, Cx.R_lptr.2 (.inl ⟨rfl, rfl⟩)⟩
  · cases h
theorem place_slot {s : Nat} {t : Ty} {m : Mode} {x : S.den t} (h : Rel g own st a w) (hl : st.look s = .v t m x) (hm : m ≠ .ro) :
    ∃ cs, Place st own a w (.slot s) [] none cs ⟨t, m, x⟩ ∧ VS t (a.tmps.getD s undef) cs ∧ S.OW w own (g.Z own w) (.slot s) t m [] cs x := by
  have hv := h.vals s
  rw [hl] at hv
  obtain ⟨cs, h1, h2⟩ := hv
  refine ⟨cs, ⟨t, m, x, none, cs, by simp [St.root, hl], fun s' hs' => hm, ⟨rfl, h1⟩, by cases t <;> trivial, by cases t <;> rfl, by cases t <;> rfl⟩, h1, h2⟩
theorem lookup_in {β : Type} : ∀ (l : List (Nat × β)) (k : Nat) (x : β), l.lookup k = some x → (k, x) ∈ l
  | (k', y) :: l, k, x, h => by
    rw [List.lookup_cons] at h
    cases hk : (k == k') with
    | true => rw [hk] at h; cases h; rw [eq_of_beq hk]; exact List.mem_cons_self ..
    | false => rw [hk] at h; exact List.mem_cons_of_mem _ (lookup_in l k x h)
theorem av_ok (E : Env S) (h : Rel g own st a w) (x : Operand) (ty i : Nat) : TR g st own a w i (st.av E x ty) (a.eval x) := by
  cases x with
  | tmp s =>
    have hv := h.vals s
    simp only [St.av, Act.eval]
    cases hl : st.look s with
    | v t m y =>
      rw [hl] at hv
      cases m with
      | ro => exact TR_ro.2 (TR_ro.1 hv)
      | own m => obtain ⟨cs, h1, h2, _⟩ := place_slot h hl (by simp); exact ⟨none, cs, _, h1, h2⟩
      | pr m n => obtain ⟨cs, h1, h2, _⟩ := place_slot h hl (by simp); exact ⟨none, cs, _, h1, h2⟩
      | dd => obtain ⟨cs, h1, h2, _⟩ := place_slot h hl (by simp); exact ⟨none, cs, _, h1, h2⟩
    | dead => trivial
    | und => rw [hl] at hv; exact hv
    | tup t m y => rw [hl] at hv; exact hv
    | rp t y => rw [hl] at hv; exact hv
    | ref r p => rw [hl] at hv; exact hv
    | addr r p => rw [hl] at hv; exact hv
    | fn f cs => rw [hl] at hv; exact hv
  | const v =>
    simp only [St.av, Act.eval]
    split
    · exact TR_ro.2 ⟨_, rfl, Cx.R_int.2 rfl⟩
    · exact TR_ro.2 ⟨_, rfl, Cx.R_bool.2 rfl⟩
    · exact TR_ro.2 ⟨_, rfl, Cx.R_str.2 (by rw [str_eta])⟩
    · split
      · split
        · rename_i hx; exact TR_ro.2 (lit_ok hx)
        · trivial
      · trivial
  | global k =>
    simp only [St.av, Act.eval]
    cases hk : S.globs.lookup k with
    | none => trivial
    | some y =>
      obtain ⟨h1, cs, h2, h3⟩ := h.glob k y (lookup_in _ _ _ hk)
      exact ⟨k, 0, cs, rfl, h1, h2, h3⟩
  | func g' => exact TR_ro.2 ⟨[.func (.func g') #[] #[]], rfl, Cx.R_clo.2 ⟨[], rfl, Cx.R_unit.2 rfl⟩⟩
theorem av_ro (E : Env S) {x : Operand} {ty : Nat} {t : Ty} {m : Mode} {y : S.den t} (h : st.av E x ty = .v t m y) : m = .ro := by
  cases x with
  | tmp s =>
    simp only [St.av] at h
    split at h
    · split at h <;> cases h; rfl
    · rename_i hne; exact absurd h (hne _ _ _)
  | const v =>
    simp only [St.av] at h
    split at h
    · cases h; rfl
    · cases h; rfl
    · cases h; rfl
    · split at h
      · split at h <;> cases h; rfl
      · cases h
  | global k =>
    simp only [St.av] at h
    split at h <;> cases h
  | func _ => cases h; rfl
theorem at_place {r : Root} {p : Path} {l : Spot} {cs : List Value} {c c' : MV S.toNm} (h : Place st own a w r p l cs c) (hc : st.at r p = some c') : c = c' := by
  obtain ⟨t, m, x, l0, cs0, h1, h2, h3, h4, h5, h6⟩ := h
  simp only [St.at, h1] at hc
  rw [hc] at h6; cases h6; rfl
theorem place_OW (ok : S.Ok) (h : Rel g own st a w) {r : Root} {p : Path} {l : Spot} {cs : List Value} {c : MV S.toNm} (hp : Place st own a w r p l cs c) (hd : c.m ≠ .dd) :
    S.OW w own (g.Z own w) r c.t c.m p cs c.x := by
  obtain ⟨t, m, x, l0, cs0, h1, h2, h3, h4, h5, h6⟩ := hp
  have hO : S.OW w own (g.Z own w) r t m [] cs0 x := by
    cases r with
    | slot s =>
      have hv := h.vals s
      rw [root_slot h1] at hv
      obtain ⟨cs', e1, e2⟩ := hv
      have : cs' = cs0 := by
        have e3 := h3.2
        unfold VS at e1 e3
        cases ht : t.isAgg
        · rw [ht] at e1 e3; exact e1.trans e3.symm
        · rw [ht] at e1 e3; have := e1.symm.trans e3; simpa using this
      subst this; exact e2
    | lim => exact h3.elim
    | mem k =>
      obtain ⟨b, e, cells, g1, g2, g3, g4⟩ := h.mems k ⟨t, m, x⟩ h1
      obtain ⟨b', e', c', f1, f2, f3, f4⟩ := h3
      have := g4 b' f2
      subst this
      rw [g2] at f3; cases f3; subst f4; exact g3
  obtain ⟨l', cs', n1, n2⟩ := OW_get ok t m p [] l0 cs0 x c hO h4 h6 hd
  rw [n1] at h5; cases h5; simpa using n2
theorem live_ne {m : Mode} (h : m.live = true) : m ≠ .dd := by rintro rfl; cases h
theorem val_ok (ok : S.Ok) (E : Env S) (h : Rel g own st a w) {x : Operand} {ty : Nat} {c : MV S.toNm} (hc : st.val E x ty = some c) :
    ∃ cs, VS c.t (a.eval x) cs ∧ S.R w (g.A w) c.t cs c.x := by
  have hv := av_ok E h x ty 0
  unfold St.val St.cont at hc
  split at hc
  · rename_i t m y e
    cases hc
    rw [e] at hv
    have hm := av_ro E e
    subst hm
    obtain ⟨cs, h1, h2⟩ := TR_ro.1 hv
    exact ⟨cs, h1, h2.frame (fun b => Z_A) (fun _ _ => rfl)⟩
  · rename_i r p e
    rw [e] at hv
    obtain ⟨l, cs, c', h1, h2⟩ := hv
    split at hc
    · rename_i c'' e2
      split at hc
      · rename_i hl
        cases hc
        have := at_place h1 e2
        subst this
        exact ⟨cs, h2, OW_R (fun b => Z_A) _ _ _ _ _ hl (fun b q hb => ⟨.inr (h.fresh b (by rw [hb]; simp)).1, (h.fresh b (by rw [hb]; simp)).2⟩) (place_OW ok h h1 (live_ne hl))⟩
      · cases hc
    · cases hc
  · cases hc
theorem int_ok (ok : S.Ok) (E : Env S) (h : Rel g own st a w) {x : Operand} {ty : Nat} {k : IntKind} {n : Int} (hc : asInt (st.val E x ty) = some (k, n)) : a.eval x = .int k n := by
  unfold asInt at hc
  split at hc
  · rename_i k' m y e
    cases hc
    obtain ⟨cs, h1, h2⟩ := val_ok ok E h e
    have := Cx.R_int.1 h2
    subst this
    exact (List.cons.inj h1).1.symm
  · cases hc
theorem bool_ok (ok : S.Ok) (E : Env S) (h : Rel g own st a w) {x : Operand} {ty : Nat} {n : Bool} (hc : asBool (st.val E x ty) = some n) : a.eval x = .bool n := by
  unfold asBool at hc
  split at hc
  · rename_i m y e
    cases hc
    obtain ⟨cs, h1, h2⟩ := val_ok ok E h e
    have := Cx.R_bool.1 h2
    subst this
    exact (List.cons.inj h1).1.symm
  · cases hc
theorem str_ok (ok : S.Ok) (E : Env S) (h : Rel g own st a w) {x : Operand} {ty : Nat} {m : Mode} {n : List UInt8} (hc : st.val E x ty = some ⟨.str, m, n⟩) : a.eval x = .string (ByteArray.mk (Array.mk n)) := by
  obtain ⟨cs, h1, h2⟩ := val_ok ok E h hc
  have := Cx.R_str.1 h2
  subst this
  exact (List.cons.inj h1).1.symm
end
end Go.Proofs.Ytdnkjfmneppkoaa.Vm
namespace Go.Proofs.Ytdnkjfmneppkoaa.Vm
open Go Go.RowKit
set_option linter.unusedVariables false
section
variable {S : Cx} {α : Type} {g : Gl S} {own : Nat → Option Own} {st : ST S} {a : Act} {w : World}
def Rd (g : Gl S) (o : Oper) (a : Act) (w : World) (κ : ST S → Option α) (r : α) : Prop :=
  ∃ v own' st', (∀ w', Below w.heap.size w w' → (execOp a.eval o).run g.P w' = .ok (.value v) w') ∧ Rel g own' st' (a.put o.dst v) w ∧ κ st' = some r
theorem TR_put (hn : Hint) {d i : Nat} {x : AV S} {v : Value} (hd : d < a.tmps.size) (hr : x.rooted (.slot d) = false) (hv : ∀ t m y, x = .v t m y → m = .ro)
    (h : TR g st own a w i x v) : TR g (st.put hn d x) own (a.put (some d) v) w d x v := by
  have place : ∀ {r p l cs c}, r ≠ .slot d → Place st own a w r p l cs c → Place (st.put hn d x) own (a.put (some d) v) w r p l cs c := by
    intro r p l cs c hne hp
    cases r with
    | lim => obtain ⟨_, _, _, _, _, _, _, h3, _⟩ := hp; exact h3.elim
    | mem k =>
      refine Place_of hp ?_ (fun s hs => by cases hs)
      simp only [St.root, put_mems]
    | slot s =>
      have hp0 := hp
      obtain ⟨t, m, y, l0, cs0, h1, _⟩ := hp0
      have hlook := root_slot h1
      have hsd : s ≠ d := fun e => hne (by rw [e])
      have hl : (st.put hn d x).look s = st.look s := by
        unfold St.put
        split
        · rename_i t' m' y' e'
          cases m' with
          | ro => rw [look_put0, if_neg hsd]
          | _ => rw [look_put0, if_neg hsd, St.kill, look_killBy _ _ _ rfl, hlook]; rfl
        · rw [look_put0, if_neg hsd]
      refine Place_of hp (by simp only [St.root, hl]) (fun s' hs' => by cases hs'; rw [tmps_put hd, if_neg hsd])
  cases x with
  | dead => trivial
  | und => exact h
  | v t m y => have := hv t m y rfl; subst this; exact TR_ro.2 (TR_ro.1 h)
  | tup t m y => exact h
  | rp t y => exact h
  | ref r p =>
    obtain ⟨l, cs, c, h1, h2⟩ := h
    exact ⟨l, cs, c, place (by simpa [AVal.rooted, eq_comm] using hr) h1, h2⟩
  | addr r p =>
    obtain ⟨b, off, cs, c, h1, h2⟩ := h
    exact ⟨b, off, cs, c, place (by simpa [AVal.rooted, eq_comm] using hr) h1, h2⟩
  | fn f cs =>
    obtain ⟨vs, h1, h2⟩ := h
    refine ⟨vs, h1, h2.mono fun c _ v hc => ?_⟩
    cases c with
    | d t x => exact hc
    | m k =>
      obtain ⟨b, off, cs, c, h1, h2⟩ := hc
      exact ⟨b, off, cs, c, place (by simp) h1, h2⟩
theorem rd_put {o : Oper} {κ : ST S → Option α} {r : α} (hn : Hint) (h : Rel g own st a w) (hd : ∀ d, o.dst = some d → d < a.tmps.size) {t : Ty} {x : S.den t} {v : Value}
    (hrun : ∀ w', Below w.heap.size w w' → (execOp a.eval o).run g.P w' = .ok (.value v) w') (hx : RoV g own w t x v)
    (hκ : κ (match o.dst with | some d => st.put hn d (.v t .ro x) | none => st) = some r) : Rd g o a w κ r := by
  refine ⟨v, own, _, hrun, ?_, hκ⟩
  cases hdst : o.dst with
  | none => exact h
  | some d => exact h.put hn (hd d hdst) (TR_ro.2 hx)
theorem rd_putK {o : Oper} {κ : ST S → Option α} {r : α} (hn : Hint) (h : Rel g own st a w) (hd : ∀ d, o.dst = some d → d < a.tmps.size) {x : AV S} {v : Value} {i : Nat}
    (hrun : ∀ w', Below w.heap.size w w' → (execOp a.eval o).run g.P w' = .ok (.value v) w') (hx : TR g st own a w i x v) (hv : ∀ t m y, x = .v t m y → m = .ro)
    (hκ : putK hn o.dst x st κ = some r) : Rd g o a w κ r := by
  unfold putK at hκ
  split at hκ
  · rename_i e
    exact ⟨v, own, st, hrun, by rw [e]; exact h, hκ⟩
  · rename_i d e
    split at hκ
    · cases hκ
    · rename_i hr
      exact ⟨v, own, _, hrun, by rw [e]; exact h.put hn (hd d e) (TR_put hn (hd d e) hr hv hx), hκ⟩
theorem must_some {b : Bool} {κ : Option α} {r : α} (h : must b κ = some r) : b = true ∧ κ = some r := by
  cases b
  · cases h
  · exact ⟨rfl, h⟩
theorem ask_some {b : Bool} {κ : Bool → Option α} {r : α} (h : ask b κ = some r) : κ b = some r := by cases b <;> exact h
theorem bindR_some {β γ : Type} {x : Option β} {κ : β → Option γ} {r : γ} (h : bindR x κ = some r) : ∃ y, x = some y ∧ κ y = some r := by
  cases x with
  | none => cases h
  | some y => exact ⟨y, rfl, h⟩
theorem within_some {i : Int} {n : Nat} {κ : Nat → Option α} {r : α} (h : within i n κ = some r) : 0 ≤ i ∧ i < n ∧ κ i.toNat = some r := by
  obtain ⟨h1, h2⟩ := must_some h
  obtain ⟨h3, h4⟩ := must_some h2
  exact ⟨of_decide_eq_true h1, of_decide_eq_true h3, h4⟩
theorem guard_int {P : Program} (op : BinOp) (t : TypeId) (x y : Operand) (k : IntKind) (n : Int) (u : Value) (w : World) : (eqGuard op t x y (.int k n) u).run P w = .ok () w := by cases op <;> rfl
theorem guard_bool {P : Program} (op : BinOp) (t : TypeId) (x y : Operand) (n : Bool) (u : Value) (w : World) : (eqGuard op t x y (.bool n) u).run P w = .ok () w := by cases op <;> rfl
theorem guard_str {P : Program} (op : BinOp) (t : TypeId) (x y : Operand) (n : ByteArray) (u : Value) (w : World) : (eqGuard op t x y (.string n) u).run P w = .ok () w := by cases op <;> rfl
theorem guard_ptr {P : Program} (op : BinOp) (t : TypeId) (x y : Operand) (n : Option Addr) (u : Value) (w : World) : (eqGuard op t x y (.pointer n) u).run P w = .ok () w := by cases op <;> rfl
def BinV (w : World) (c : MV S.toNm) (z : Value) : Prop := VS c.t z [z] ∧ S.R w (fun _ => False) c.t [z] c.x ∧ c.m = .ro
theorem binV_int {w : World} {k : IntKind} {x : Int} : BinV (S := S) w ⟨.int k, .ro, x⟩ (.int k x) := ⟨rfl, Cx.R_int.2 rfl, rfl⟩
theorem binV_bool {w : World} {x : Bool} : BinV (S := S) w ⟨.bool, .ro, x⟩ (.bool x) := ⟨rfl, Cx.R_bool.2 rfl, rfl⟩
theorem binV_str {w : World} {x : List UInt8} : BinV (S := S) w ⟨.str, .ro, x⟩ (.string (ByteArray.mk (Array.mk x))) := ⟨rfl, Cx.R_str.2 rfl, rfl⟩
theorem run_int {P : Program} {op : BinOp} {k : IntKind} {x y : Int} {κ : MV S.toNm → Option α} {r : α} {xt : Nat}
    (h : binI (S := S) op k x y κ = some r) : ∃ z c, (∀ w, (binOp op xt (.int k x) (.int k y)).run P w = .ok z w ∧ BinV (S := S) w c z) ∧ κ c = some r := by
  cases op <;> simp only [binI, intOp] at h
  case quo =>
    obtain ⟨h1, h2⟩ := must_some h
    have hy : ¬ y = 0 := by simpa using h1
    exact ⟨_, _, fun w => ⟨by simp only [binOp, Op.intDiv, hy, ne_eq, not_true_eq_false, if_false]; rfl, binV_int⟩, h2⟩
  case rem =>
    obtain ⟨h1, h2⟩ := must_some h
    have hy : ¬ y = 0 := by simpa using h1
    exact ⟨_, _, fun w => ⟨by simp only [binOp, Op.intDiv, hy, ne_eq, not_true_eq_false, if_false]; rfl, binV_int⟩, h2⟩
  case add => exact ⟨_, _, fun w => ⟨by simp only [binOp, Op.intArith, ne_eq, not_true_eq_false, if_false]; rfl, binV_int⟩, h⟩
  case sub => exact ⟨_, _, fun w => ⟨by simp only [binOp, Op.intArith, ne_eq, not_true_eq_false, if_false]; rfl, binV_int⟩, h⟩
  case mul => exact ⟨_, _, fun w => ⟨by simp only [binOp, Op.intArith, ne_eq, not_true_eq_false, if_false]; rfl, binV_int⟩, h⟩
  case and => exact ⟨_, _, fun w => ⟨by simp only [binOp, Op.intBits, ne_eq, not_true_eq_false, if_false]; rfl, binV_int⟩, h⟩
  case or => exact ⟨_, _, fun w => ⟨by simp only [binOp, Op.intBits, ne_eq, not_true_eq_false, if_false]; rfl, binV_int⟩, h⟩
  case xor => exact ⟨_, _, fun w => ⟨by simp only [binOp, Op.intBits, ne_eq, not_true_eq_false, if_false]; rfl, binV_int⟩, h⟩
  case andNot => exact ⟨_, _, fun w => ⟨by simp only [binOp, Op.intBits, ne_eq, not_true_eq_false, if_false]; rfl, binV_int⟩, h⟩
  case eql => exact ⟨.bool (decide (x = y)), _, fun w => ⟨by simp only [binOp, Op.intCmp, ne_eq, not_true_eq_false, if_false]; rfl, binV_bool⟩, h⟩
  case neq => exact ⟨.bool (!decide (x = y)), _, fun w => ⟨by simp only [binOp, Op.intCmp, ne_eq, not_true_eq_false, if_false]; rfl, binV_bool⟩, h⟩
  case lss => exact ⟨_, _, fun w => ⟨by simp only [binOp, Op.intCmp, ne_eq, not_true_eq_false, if_false]; rfl, binV_bool⟩, h⟩
  case leq => exact ⟨_, _, fun w => ⟨by simp only [binOp, Op.intCmp, ne_eq, not_true_eq_false, if_false]; rfl, binV_bool⟩, h⟩
  case gtr => exact ⟨_, _, fun w => ⟨by simp only [binOp, Op.intCmp, ne_eq, not_true_eq_false, if_false]; rfl, binV_bool⟩, h⟩
  case geq => exact ⟨_, _, fun w => ⟨by simp only [binOp, Op.intCmp, ne_eq, not_true_eq_false, if_false]; rfl, binV_bool⟩, h⟩
  all_goals cases h
theorem run_shift {P : Program} {op : BinOp} {k k' : IntKind} {x y : Int} {κ : MV S.toNm → Option α} {r : α} {xt : Nat}
    (h : binShift (S := S) op k x y κ = some r) : ∃ z c, (∀ w, (binOp op xt (.int k x) (.int k' y)).run P w = .ok z w ∧ BinV (S := S) w c z) ∧ κ c = some r := by
  cases op <;> simp only [binShift] at h
  case shl =>
    obtain ⟨h1, h2⟩ := must_some h
    have hy : ¬ y < 0 := by have := of_decide_eq_true h1; omega
    exact ⟨_, _, fun w => ⟨by simp only [binOp, Op.shift, hy, if_false]; rfl, binV_int⟩, h2⟩
  case shr =>
    obtain ⟨h1, h2⟩ := must_some h
    have hy : ¬ y < 0 := by have := of_decide_eq_true h1; omega
    exact ⟨_, _, fun w => ⟨by simp only [binOp, Op.shift, hy, if_false]; rfl, binV_int⟩, h2⟩
  all_goals cases h
theorem toList_mk (x : List UInt8) : (ByteArray.mk (Array.mk x)).toList = x := by rw [ByteArray.toList_eq]
theorem append_mk (x y : List UInt8) : ByteArray.mk (Array.mk x) ++ ByteArray.mk (Array.mk y) = ByteArray.mk (Array.mk (x ++ y)) := by
  apply ByteArray.ext; simp
theorem beq_dec (x y : List UInt8) : (x == y) = decide (x = y) := by rw [Bool.eq_iff_iff]; simp
theorem run_str {P : Program} {op : BinOp} {x y : List UInt8} {κ : MV S.toNm → Option α} {r : α} {xt : Nat}
    (h : binS (S := S) op x y κ = some r) : ∃ z c, (∀ w, (binOp op xt (.string (ByteArray.mk (Array.mk x))) (.string (ByteArray.mk (Array.mk y)))).run P w = .ok z w ∧ BinV (S := S) w c z) ∧ κ c = some r := by
  cases op <;> simp only [binS] at h
  case eql => exact ⟨.bool (decide (x = y)), _, fun w => ⟨by simp only [binOp, Op.stringOp, toList_mk, beq_dec]; rfl, binV_bool⟩, h⟩
  case neq => exact ⟨.bool (!decide (x = y)), _, fun w => ⟨by simp only [binOp, Op.stringOp, toList_mk, beq_dec]; rfl, binV_bool⟩, h⟩
  case lss => exact ⟨_, _, fun w => ⟨by simp only [binOp, Op.stringOp, toList_mk]; rfl, binV_bool⟩, h⟩
  case leq => exact ⟨.bool (Op.bytesLess x y || decide (x = y)), _, fun w => ⟨by simp only [binOp, Op.stringOp, toList_mk, beq_dec]; rfl, binV_bool⟩, h⟩
  case gtr => exact ⟨.bool (!(Op.bytesLess x y || decide (x = y))), _, fun w => ⟨by simp only [binOp, Op.stringOp, toList_mk, beq_dec]; rfl, binV_bool⟩, h⟩
  case geq => exact ⟨_, _, fun w => ⟨by simp only [binOp, Op.stringOp, toList_mk]; rfl, binV_bool⟩, h⟩
  case add =>
    obtain ⟨h1, h2⟩ := must_some h
    have h1 := of_decide_eq_true h1
    have hb : ¬ ((((ByteArray.mk (Array.mk x)).size + (ByteArray.mk (Array.mk y)).size : Nat) : Int) > IntKind.i64.max) := by
      have : IntKind.i64.max = 9223372036854775807 := by decide
      simp only [ByteArray.size, List.size_toArray] 
      rw [this]; omega
    refine ⟨_, _, fun w => ⟨?_, binV_str⟩, h2⟩
    simp only [binOp, Op.stringOp, hb, if_false, append_mk]
    rfl
  all_goals cases h
theorem run_bool {P : Program} {E : Env S} (T : TysOk P E) {op : BinOp} {x y : Bool} {κ : MV S.toNm → Option α} {r : α} {xt : Nat} (ht : E.is xt .bool = true)
    (h : binB (S := S) op x y κ = some r) : ∃ z c, (∀ w, (binOp op xt (.bool x) (.bool y)).run P w = .ok z w ∧ BinV (S := S) w c z) ∧ κ c = some r := by
  have hu : P.underlying xt = some .bool := (T _ _ (Env.is_lookup ht)).und
  cases op <;> simp only [binB] at h
  case eql => exact ⟨_, _, fun w => ⟨run_eql_bool w xt x y hu, binV_bool⟩, h⟩
  case neq => exact ⟨_, _, fun w => ⟨by simp only [binOp, Sem.run_bind, run_equal_bool w xt x y hu, Result.andThen_ok]; rfl, binV_bool⟩, h⟩
  all_goals cases h
end
end Go.Proofs.Ytdnkjfmneppkoaa.Vm
