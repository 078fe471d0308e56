/-
  A small machine that reads a function of the program and reckons what a call of it comes to (1): its values, its operations, what they say of the model; no conditions; of no program.
-/
import GoSem.Core.Code
import GoSem.Core.Program
import GoSem.Op.Shift
import GoSem.Op.String
import Derived.Laws.BytesArg
import Derived.Calls
import Derived.Below
import Derived.Laws.AppendOwn
import Derived.Laws.CopyRow
import Derived.Lib.FrozenHead
import Derived.Deep.MidRow
import Derived.Laws.Tables
import Derived.Great.BuildSlice
import Derived.Laws.BytesString

/-
  THE SMALL MACHINE (1): what it reckons with. A deterministic reading of a function's code, with lists in the place of slices: values, objects, states, and the run of an operation, a region, a text. What a run of it says of the model's own machine is proved in the files behind this one.
-/
namespace Go.FM
open Go

/-- Kinds of cells. 'list ag ks': a slice; its elements have these cells; 'ag': they are structs or arrays. -/
inductive Kd where
  | int (k : IntKind)
  | bool
  | str
  | list (ag : Bool) (ks : List Kd)

/-- What can't change. -/
inductive IV where
  | int (n : Int)
  | bool (b : Bool)
  | str (s : ByteArray)
  | list (l : List IV)
  | agg (l : List IV)

instance : Inhabited IV := ⟨.int 0⟩

def IV.toInt : IV → Int | .int n => n | _ => 0
def IV.toBool : IV → Bool | .bool b => b | _ => false
def IV.toStr : IV → ByteArray | .str s => s | _ => ByteArray.empty
def IV.toList : IV → List IV | .list l => l | _ => []
def nth (l : List IV) : Nat → IV
  | 0 => match l with | [] => default | x :: _ => x
  | n + 1 => match l with | [] => default | _ :: r => nth r n
def IV.cell : IV → Nat → IV | .agg l, j => nth l j | _, _ => default
def cellOf (ag : Bool) (x : IV) (j : Nat) : IV := match ag with | true => x.cell j | false => x

/-- Values of the small machine. -/
inductive V where
  | any
  | int (k : IntKind) (n : Int)
  | bool (b : Bool)
  | str (s : ByteArray)
  | list (ag : Bool) (ks : List Kd) (l : List IV)
  | zs                                            -- a slice without elements and without room
  | row (n : Nat) (lo hi : Nat)                   -- a part of an object that is a row
  | ptr (n : Nat) (i : Nat) (c : Nat)             -- an address: object, element, cell
  | iptr (ks : List Kd) (f : Nat → IV) (c : Nat)  -- an address in what can't change
  | bview (n : Nat) (c : Nat) (cap sz : Nat) (len : Nat)  -- a slice over a variable's array
  | agg (l : List V)
  | tup (l : List V)
  | err (none : Bool)
  | nilp
  | clo (f : Nat) (caps : List V)
  | bor (cells : List V)                          -- at a call: a pointer to a variable with these cells
  | vec (e : Nat) (ag : Bool) (ks : List Kd) (l : List IV)  -- at a call: a row that is handed over
  | bld (s : ByteArray)                           -- a strings.Builder

/-- Objects in memory that the call owns. -/
inductive Ob where
  | box (cs : List V)
  | row (own : Bool) (e : Nat) (ag : Bool) (ks : List Kd) (l : List IV)
  | bld (s : ByteArray)

abbrev Store := List (Nat × Option Ob)
abbrev Res := Option (V × List (List V))
abbrev Spec := List V → Res

/-- What a function is said to come to: by tests. -/
inductive R where
  | no
  | ok (v : V) (out : List (List V))
  | br (b : Bool) (x y : R)

def R.get : R → Res
  | .no => none
  | .ok v out => some (v, out)
  | .br true x _ => x.get
  | .br false _ y => y.get

abbrev RSpec := List V → R

/-- What a type's description says. -/
inductive TD where
  | leaf
  | slice (e : Nat)
  | struct (fs : List (Nat × Nat))     -- offset, type
  | array (n : Nat) (e : Nat)
  | ptr (e : Nat)
  | bld
  | iface

structure TI where
  size : Nat
  bytes : Nat
  agg : Bool
  ks : List Kd
  zero : List V
  d : TD

/-- A place that holds a slice of the call's own at a loop's head: a temporary, or a variable's cell; the row's name there. -/
inductive Loc where
  | tmp (t : Nat)
  | cell (b c : Nat)
structure Can where
  loc : Loc
  nm : Nat
  e : Nat
  ag : Bool
  ks : List Kd
/-- What is kept at a loop's head. -/
structure KP where
  t : List Nat
  o : List Nat
  c : List Can := []

/-- A function that turns a row of the call's own in place ('g': what the row is behind it; of ints); 'ret': it hands the row back. -/
structure Ip where
  e : Nat
  ret : Bool
  g : List V → List IV → Option (List IV)

structure Env where
  ti : List (Nat × TI)
  sp : List (Nat × RSpec)
  kp : List (Nat × List Nat)
  lp : List (Nat × KP)
  nt : Nat
  N : Nat
  eqs : List Nat := []
  ip : List (Nat × Ip) := []

structure St where
  t : List (Nat × V)
  o : Store

def lk {α : Type} : List (Nat × α) → Nat → Option α
  | [], _ => none
  | (j, x) :: r, i => match Nat.beq j i with | true => some x | false => lk r i
def lkd {α : Type} (d : α) : List (Nat × α) → Nat → α
  | [], _ => d
  | (j, x) :: r, i => match Nat.beq j i with | true => x | false => lkd d r i

def St.get (s : St) (i : Nat) : V := lkd .any s.t i
def TI.none : TI := ⟨0, 0, false, [], [], .leaf⟩
def Env.tyd (E : Env) (t : Nat) : TI := lkd TI.none E.ti t

def objOf (o : Store) (n : Nat) : Option Ob := lkd none o n

/-! ### constants -/
def intOK (k : IntKind) (n : Int) : Bool := decide (k.min ≤ n) && decide (n ≤ k.max)

def constV : Value → V
  | .int k n => match intOK k n with | true => .int k n | false => .any
  | .bool b => .bool b
  | .string s => match Nat.ble s.size 140737488355327 with | true => .str s | false => .any
  | .slice none 0 0 => .zs
  | .nilIface => .err true
  | .pointer none => .nilp
  | _ => .any

def opd (s : St) : Operand → V
  | .tmp t => s.get t
  | .const v => constV v
  | .func f => .clo f []
  | .global _ => .any

/-- A value of one cell, of which something is known. -/
def okLeaf (o : Store) : V → Bool
  | .int _ _ | .bool _ | .str _ | .list _ _ _ | .zs | .iptr _ _ _ | .err _ | .nilp | .clo _ _ => true
  | .row n _ _ => match objOf o n with | some (.row _ _ _ _ _) => true | _ => false
  | .ptr n _ _ => match objOf o n with | some _ => true | _ => false
  | .bview n _ _ _ _ => match objOf o n with | some (.box _) => true | _ => false
  | _ => false
def okV (o : Store) : V → Bool
  | .agg _ => true
  | v => okLeaf o v
def okAll (o : Store) : List V → Bool
  | [] => true
  | v :: r => match okLeaf o v with | true => okAll o r | false => false

/-! ### to and fro -/
def ofIV : Kd → IV → V
  | .int k, x => .int k x.toInt
  | .bool, x => .bool x.toBool
  | .str, x => .str x.toStr
  | .list ag ks, x => .list ag ks x.toList

def mapFrom {α : Type} (g : Nat → α) : Nat → Nat → List α
  | _, 0 => []
  | c, n + 1 => g c :: mapFrom g (c + 1) n

def cells : V → List V
  | .agg l => l
  | v => [v]

def nthV : List V → Nat → V
  | [], _ => .any
  | x :: _, 0 => x
  | _ :: r, n + 1 => nthV r n

def takeV : List V → Nat → List V
  | _, 0 => []
  | [], _ + 1 => []
  | x :: r, n + 1 => x :: takeV r n
def dropV : List V → Nat → List V
  | l, 0 => l
  | [], _ + 1 => []
  | _ :: r, n + 1 => dropV r n

def kdEq : Kd → Kd → Bool
  | .int k, .int k' => k == k'
  | .bool, .bool => true
  | .str, .str => true
  | .list a ks, .list a' ks' => a == a' && kdsEq ks ks'
  | _, _ => false
where kdsEq : List Kd → List Kd → Bool
  | [], [] => true
  | x :: r, y :: r' => kdEq x y && kdsEq r r'
  | _, _ => false

/-- A leaf as what can't change, if it is of that kind. -/
def leafIV (o : Store) : Kd → V → Option IV
  | .int k, .int k' n => match k == k' with | true => some (.int n) | false => none
  | .bool, .bool b => some (.bool b)
  | .str, .str s => some (.str s)
  | .list ag ks, .list ag' ks' l => match kdEq (.list ag ks) (.list ag' ks') with | true => some (.list l) | false => none
  | .list _ _, .zs => some (.list [])
  | .list ag ks, .row n lo hi => match objOf o n with
    | some (.row _ _ ag' ks' l) => match kdEq (.list ag ks) (.list ag' ks') with | true => some (.list ((l.take hi).drop lo)) | false => none
    | _ => none
  | _, _ => none

def leavesIV (o : Store) : List Kd → List V → Option (List IV)
  | [], [] => some []
  | k :: ks, v :: vs => match leafIV o k v with
    | some x => match leavesIV o ks vs with | some r => some (x :: r) | none => none
    | none => none
  | _, _ => none

/-- An element: of one cell, or of several. -/
def elemIV (o : Store) (ag : Bool) (ks : List Kd) (v : V) : Option IV :=
  match ag, v with
  | true, .agg vs => match leavesIV o ks vs with | some l => some (.agg l) | none => none
  | false, v => match leavesIV o ks [v] with | some (x :: _) => some x | _ => none
  | _, _ => none

/-- Rows that a value leads to. -/
def rowsIn : List V → List Nat
  | [] => []
  | .row n _ _ :: r => n :: rowsIn r
  | _ :: r => rowsIn r

/-- Cells of an address, as a value. -/
def ldIV (agg : Bool) (size : Nat) (ks : List Kd) (f : Nat → IV) (c : Nat) : Option V :=
  match Nat.ble (c + size) ks.length with
  | true => match agg with
    | true => some (.agg (mapFrom (fun j => ofIV (ks.getD j .bool) (f j)) c size))
    | false => match Nat.beq size 1 with | true => some (ofIV (ks.getD c .bool) (f c)) | false => none
  | false => none

def ldBox (agg : Bool) (size : Nat) (cs : List V) (c : Nat) : Option V :=
  match Nat.ble (c + size) cs.length with
  | true => match agg with
    | true => some (.agg (takeV (dropV cs c) size))
    | false => match Nat.beq size 1 with | true => some (nthV cs c) | false => none
  | false => none

/-- Cells with some of them written. -/
def putV : List V → Nat → List V → List V
  | cs, _, [] => cs
  | [], _, _ => []
  | _ :: r, 0, v :: vs => v :: putV r 0 vs
  | x :: r, n + 1, vs => x :: putV r n vs

def putIV (ag : Bool) (ks : List Kd) (x : IV) (c : Nat) (vs : List IV) : IV :=
  match ag with
  | true => .agg (mapFrom (fun j => match Nat.ble c j && Nat.blt j (c + vs.length) with | true => nth vs (j - c) | false => x.cell j) 0 ks.length)
  | false => nth vs 0

/-- What an operation does to memory. -/
inductive Upd where
  | new (n : Nat) (ob : Ob)
  | set (n : Nat) (ob : Ob)
  | kill (n : Nat)

/-- What an operation comes to: by tests. -/
inductive T where
  | no
  | ok (v : V) (us : List Upd)
  | br (b : Bool) (x y : T)

def T.get : T → Option (V × List Upd)
  | .no => none
  | .ok v us => some (v, us)
  | .br true x _ => x.get
  | .br false _ y => y.get

def T.run (k : V → List Upd → Res) : T → Res
  | .no => none
  | .ok v us => k v us
  | .br b x y => match b with | true => x.run k | false => y.run k

theorem T.run_some {k : V → List Upd → Res} {r : V × List (List V)} : ∀ {t : T}, t.run k = some r → ∃ v us, t.get = some (v, us) ∧ k v us = some r
  | .no, h => by simp [T.run] at h
  | .ok v us, h => ⟨v, us, rfl, h⟩
  | .br true x _, h => T.run_some (t := x) h
  | .br false _ y, h => T.run_some (t := y) h

def T.when (b : Bool) (x : T) : T := .br b x .no
def T.of : Option V → T | some v => .ok v [] | none => .no

/-- One of so many places. -/
def fork : Nat → Nat → Int → (Nat → T) → T
  | 0, _, _, _ => .no
  | n + 1, j, i, g => .br (decide (i = (j : Int))) (g j) (fork n (j + 1) i g)

/-! ### operators -/
def intBin (op : BinOp) (k : IntKind) (a b : Int) : T :=
  match op with
  | .add => .ok (.int k (k.wrap (a + b))) []
  | .sub => .ok (.int k (k.wrap (a - b))) []
  | .mul => .ok (.int k (k.wrap (a * b))) []
  | .quo => .br (decide (b = 0)) .no (.ok (.int k (k.wrap (a.tdiv b))) [])
  | .rem => .br (decide (b = 0)) .no (.ok (.int k (a.tmod b)) [])
  | .and => .ok (.int k (k.wrap (BitVec.ofInt k.bits a &&& BitVec.ofInt k.bits b).toNat)) []
  | .or => .ok (.int k (k.wrap (BitVec.ofInt k.bits a ||| BitVec.ofInt k.bits b).toNat)) []
  | .xor => .ok (.int k (k.wrap (BitVec.ofInt k.bits a ^^^ BitVec.ofInt k.bits b).toNat)) []
  | .andNot => .ok (.int k (k.wrap (BitVec.ofInt k.bits a &&& ~~~ (BitVec.ofInt k.bits b)).toNat)) []
  | .eql => .ok (.bool (a == b)) []
  | .neq => .ok (.bool (a != b)) []
  | .lss => .ok (.bool (decide (a < b))) []
  | .leq => .ok (.bool (decide (a ≤ b))) []
  | .gtr => .ok (.bool (decide (a > b))) []
  | .geq => .ok (.bool (decide (a ≥ b))) []
  | _ => .no

def shiftBin (op : BinOp) (k : IntKind) (a b : Int) : T :=
  match op with
  | .shl => .br (decide (b < 0)) .no (.ok (.int k (k.wrap (a * 2 ^ (min b.toNat k.bits)))) [])
  | .shr => .br (decide (b < 0)) .no (.ok (.int k (a.fdiv (2 ^ (min b.toNat k.bits)))) [])
  | _ => .no

def strMax : Nat := 140737488355327

def strBin (op : BinOp) (a b : ByteArray) : T :=
  match op with
  | .add => .when (decide (a.size + b.size ≤ strMax)) (.ok (.str (a ++ b)) [])
  | .eql => .ok (.bool (a.toList == b.toList)) []
  | .neq => .ok (.bool (!(a.toList == b.toList))) []
  | .lss => .ok (.bool (Op.bytesLess a.toList b.toList)) []
  | _ => .no

/-- Are two rows of cells the same? -/
def eqVs : List V → List V → Option Bool
  | [], [] => some true
  | .int k a :: r, .int k' b :: r' => match k == k' with
    | true => match eqVs r r' with | some c => some ((a == b) && c) | none => none
    | false => none
  | .bool a :: r, .bool b :: r' => match eqVs r r' with | some c => some ((a == b) && c) | none => none
  | _, _ => none

/-- Are cells of these kinds? -/
def kMatch : List Kd → List V → Bool
  | [], [] => true
  | .int k :: r, .int k' _ :: r' => match k == k' with | true => kMatch r r' | false => false
  | .bool :: r, .bool _ :: r' => kMatch r r'
  | _, _ => false

def boolBin (op : BinOp) (eq : Bool) : T :=
  match op with
  | .eql => .ok (.bool eq) []
  | .neq => .ok (.bool (!eq)) []
  | _ => .no

def isShift : BinOp → Bool | .shl | .shr => true | _ => false

def binT (op : BinOp) (x y : V) : T :=
  match x, y with
  | .int k a, .int k' b => match isShift op with
    | true => shiftBin op k a b
    | false => match k == k' with | true => intBin op k a b | false => .no
  | .str a, .str b => strBin op a b
  | _, _ => .no

def memB (n : Nat) : List Nat → Bool
  | [] => false
  | m :: r => match Nat.beq m n with | true => true | false => memB n r

def isConstO : Operand → Bool | .const _ => true | _ => false

/-- '==' and the others, with what the types and the operands' text say. -/
def binE (E : Env) (o : Store) (op : BinOp) (t : Nat) (yo : Operand) (x y : V) : T :=
  match x, y with
  | .agg l, .agg l' => match memB t E.eqs, kMatch (E.tyd t).ks l, eqVs l l' with
    | true, true, some c => boolBin op c
    | _, _, _ => .no
  | .err a, .err true => match isConstO yo, (E.tyd t).d with
    | true, .iface => boolBin op a
    | _, _ => .no
  | .bool a, .bool b => match (E.tyd t).d, (E.tyd t).ks with
    | .leaf, [.bool] => boolBin op (a == b)
    | _, _ => .no
  | .ptr n _ _, .nilp => match (E.tyd t).d, objOf o n with
    | .ptr _, some _ => boolBin op false
    | _, _ => .no
  | x, y => binT op x y

def unT (op : UnOp) (x : V) : T :=
  match op, x with
  | .neg, .int k n => .ok (.int k (k.wrap (0 - n))) []
  | .not, .bool b => .ok (.bool (!b)) []
  | _, _ => .no

/-! ### calls -/
def occ (n : Nat) : List Nat → Nat
  | [] => 0
  | m :: r => match Nat.beq m n with | true => occ n r + 1 | false => occ n r

/-- A cell of a variable that is lent; 'all': the rows' names that the cells and the arguments have. -/
def cellB (o : Store) (all : List Nat) : V → V
  | .row n lo hi => match objOf o n with
    | some (.row own e ag ks l) => match own && (Nat.beq lo 0 && Nat.beq (occ n all) 1) with
      | true => .vec e ag ks (l.take hi)
      | false => .list ag ks ((l.take hi).drop lo)
    | _ => .any
  | .int k n => .int k n
  | .bool b => .bool b
  | .str s => .str s
  | .list ag ks l => .list ag ks l
  | .zs => .zs
  | .err b => .err b
  | .nilp => .nilp
  | _ => .any

/-- Rows that are handed over with a variable's cells; and the others. -/
def handed (o : Store) (all : List Nat) : List V → List Nat
  | [] => []
  | .row n lo _ :: r => match objOf o n with
    | some (.row own _ _ _ _) => match own && (Nat.beq lo 0 && Nat.beq (occ n all) 1) with
      | true => n :: handed o all r
      | false => handed o all r
    | _ => handed o all r
  | _ :: r => handed o all r
def shared (o : Store) (all : List Nat) : List V → List Nat
  | [] => []
  | .row n lo _ :: r => match objOf o n with
    | some (.row own _ _ _ _) => match own && (Nat.beq lo 0 && Nat.beq (occ n all) 1) with
      | true => shared o all r
      | false => n :: shared o all r
    | _ => shared o all r
  | _ :: r => shared o all r

/-- A leaf of an argument, as the one who is called sees it; 'bs': the cells of the variable that is lent. -/
def argL (o : Store) (bs : List V) (tk : Option Kd) : V → V
  | .zs => match tk with | some (.list ag ks) => .list ag ks [] | _ => .any
  | .row n lo hi => match objOf o n with
    | some (.row _ _ ag ks l) => .list ag ks ((l.take hi).drop lo)
    | _ => .any
  | .ptr n i c => match objOf o n with
    | some (.row _ _ _ _ _) => .any
    | some _ => match Nat.beq i 0 && Nat.beq c 0 with | true => .bor bs | false => .any
    | none => .any
  | .int k n => .int k n
  | .bool b => .bool b
  | .str s => .str s
  | .list ag ks l => .list ag ks l
  | .err b => .err b
  | .nilp => .nilp
  | _ => .any

def noBor : V → V
  | .bor _ => .any
  | v => v

def mapK (f : Option Kd → V → V) : List Kd → List V → List V
  | _, [] => []
  | [], v :: vs => f none v :: mapK f [] vs
  | k :: ks, v :: vs => f (some k) v :: mapK f ks vs

def argV (o : Store) (bs : List V) (ks : List Kd) : V → V
  | .agg l => .agg (mapK (fun k v => noBor (argL o bs k v)) ks l)
  | .clo f caps => .clo f (caps.map (argL o bs none))
  | v => argL o bs ks.head? v

def argVs (o : Store) (bs : List V) : List (List Kd) → List V → List V
  | _, [] => []
  | [], v :: vs => argV o bs [] v :: argVs o bs [] vs
  | t :: ts, v :: vs => argV o bs t v :: argVs o bs ts vs

/-- Variables that are lent: their names. -/
def lent : List V → List Nat
  | [] => []
  | .ptr n _ _ :: r => n :: lent r
  | .clo _ caps :: r => lentC caps ++ lent r
  | _ :: r => lent r
where lentC : List V → List Nat
  | [] => []
  | .ptr n _ _ :: r => n :: lentC r
  | _ :: r => lentC r

def isL : V → Bool
  | .list _ _ _ => true
  | .vec _ _ _ _ => true
  | _ => false
def anyL : List V → Bool
  | [] => false
  | v :: r => match isL v with | true => true | false => anyL r
def hasList : V → Bool
  | .agg l => anyL l
  | .bor l => anyL l
  | .tup l => go l
  | v => isL v
where go : List V → Bool
  | [] => false
  | .agg l :: r => match anyL l with | true => true | false => go r
  | v :: r => match isL v with | true => true | false => go r

/-- Rows that values lead to. -/
def vRows : V → List Nat
  | .row n _ _ => [n]
  | .agg l => rowsIn l
  | .clo _ l => rowsIn l
  | .tup l => go l
  | _ => []
where go : List V → List Nat
  | [] => []
  | .row n _ _ :: r => n :: go r
  | .agg l :: r => rowsIn l ++ go r
  | _ :: r => go r
def vsRows : List V → List Nat
  | [] => []
  | v :: r => vRows v ++ vsRows r

def freezeU (o : Store) : List Nat → List Upd
  | [] => []
  | n :: r => match objOf o n with
    | some (.row true e ag ks l) => .set n (.row false e ag ks l) :: freezeU o r
    | _ => freezeU o r

def killsU : List Nat → List Upd
  | [] => []
  | n :: r => .kill n :: killsU r

/-- Cells that come back: rows get names from 'nm' on. -/
def backV (nm : Nat) : List V → List V
  | [] => []
  | .vec _ _ _ l :: r => .row nm 0 l.length :: backV (nm + 1) r
  | v :: r => v :: backV (nm + 1) r
def backU (nm : Nat) : List V → List Upd
  | [] => []
  | .vec e ag ks l :: r => .new nm (.row true e ag ks l) :: backU (nm + 1) r
  | _ :: r => backU (nm + 1) r
def anys : List V → List V
  | [] => []
  | _ :: r => .any :: anys r

/-- The variable that is lent, if there is one. -/
def borOf : List V → Option (List V)
  | [] => none
  | .bor cs :: _ => some cs
  | .clo _ caps :: r => match borC caps with | some cs => some cs | none => borOf r
  | _ :: r => borOf r
where borC : List V → Option (List V)
  | [] => none
  | .bor cs :: _ => some cs
  | _ :: r => borC r

def isBor : Option (List V) → Bool
  | some _ => true
  | none => false

def R.toT (f : V → List (List V) → T) : R → T
  | .no => .no
  | .ok v out => f v out
  | .br b x y => .br b (x.toT f) (y.toT f)

theorem R.toT_get {f : V → List (List V) → T} {z : V × List Upd} : ∀ {r : R}, (r.toT f).get = some z → ∃ v out, r.get = some (v, out) ∧ (f v out).get = some z
  | .no, h => by simp [R.toT, T.get] at h
  | .ok v out, h => ⟨v, out, rfl, h⟩
  | .br true x _, h => R.toT_get (r := x) h
  | .br false _ y, h => R.toT_get (r := y) h

/-- Behind a call that lent nothing; a builder; a variable. -/
def aftPlain (o : Store) (d : Nat) (vs : List V) (v : V) (out : List (List V)) : T :=
  match out with
  | [] => match v with
    | .bor cs => match Nat.ble (1000 * (d + 1) + cs.length) 900000 with
      | true => .ok (.ptr d 0 0) (freezeU o (match anyL cs with | true => vsRows vs | false => []) ++ (backU (1000 * (d + 1)) cs ++ [.new d (.box (backV (1000 * (d + 1)) cs))]))
      | false => .no
    | .vec e ag ks l => .ok (.row d 0 l.length) (freezeU o (vsRows vs) ++ [.new d (.row true e ag ks l)])
    | v => .ok v (freezeU o (match hasList v with | true => vsRows vs | false => []))
  | _ => .no
def aftBox (o : Store) (d n : Nat) (cs vs : List V) (v : V) (outs : List (List V)) : T :=
  match outs with
  | [out] => match Nat.beq out.length cs.length && ((Nat.blt n (1000 * (d + 1)) || Nat.ble (1000 * (d + 1) + out.length) n) && Nat.ble (1000 * (d + 1) + out.length) 900000) with
    | true => .ok v (freezeU o (shared o (rowsIn cs ++ vsRows vs) cs ++ (match hasList v || anyL out with | true => vsRows vs | false => [])) ++
        (killsU (handed o (rowsIn cs ++ vsRows vs) cs) ++ (.set n (.box (anys cs)) :: (backU (1000 * (d + 1)) out ++ [.set n (.box (backV (1000 * (d + 1)) out))]))))
    | false => .no
  | _ => .no
def aftBld (o : Store) (n : Nat) (vs : List V) (v : V) (outs : List (List V)) : T :=
  match outs with
  | [[.bld s']] => .ok v (freezeU o (match hasList v with | true => vsRows vs | false => []) ++ [.set n (.bld s')])
  | _ => .no

/-- A call: what the one who is called is said to do. -/
def callT (o : Store) (d : Nat) (tks : List (List Kd)) (sp : RSpec) (vs : List V) : T :=
  match lent vs with
  | [] => (sp (argVs o [] tks vs)).toT (aftPlain o d vs)
  | [n] => match objOf o n with
    | some (.box cs) => match isBor (borOf (argVs o (cs.map (cellB o (rowsIn cs ++ vsRows vs))) tks vs)) with
      | true => (sp (argVs o (cs.map (cellB o (rowsIn cs ++ vsRows vs))) tks vs)).toT (aftBox o d n cs vs)
      | false => .no
    | some (.bld s) => match isBor (borOf (argVs o [.bld s] tks vs)) with
      | true => (sp (argVs o [.bld s] tks vs)).toT (aftBld o n vs)
      | false => .no
    | _ => .no
  | _ => .no

/-! ### a function's beginning and its end -/
def entV : V → V
  | .bor _ => .ptr 900000 0 0
  | .clo f caps => .clo f (caps.map go)
  | v => v
where go : V → V
  | .bor _ => .ptr 900000 0 0
  | v => v

/-- What comes back: a row that is handed over has the name 900000. -/
def retV : V → V
  | .vec _ _ _ l => .row 900000 0 l.length
  | v => entV v

def rowsO (nr : Nat) : List V → Store
  | [] => []
  | .vec e ag ks l :: r => (nr, some (.row true e ag ks l)) :: rowsO (nr + 1) r
  | _ :: r => rowsO (nr + 1) r

def entO : List V → Store
  | [.bld s] => [(900000, some (.bld s))]
  | cs => (900000, some (.box (backV 900001 cs))) :: rowsO 900001 cs

def memIn (vs : List V) : Store := match borOf vs with | some cs => entO cs | none => []
def memOut (r : V) (out : List (List V)) : Store :=
  match r, out with
  | _, cs :: _ => entO cs
  | .bor cs, [] => entO cs
  | .vec e ag ks l, [] => [(900000, some (.row true e ag ks l))]
  | _, [] => []

def resE (o : Store) (ks : List Kd) : V → V
  | .agg l => .agg (mapK (fun k v => noBor (argL o [] k v)) ks l)
  | v => noBor (argL o [] ks.head? v)
def resV (o : Store) (ks : List (List Kd)) : V → V
  | .tup l => .tup (go ks l)
  | v => resE o (ks.headD []) v
where go : List (List Kd) → List V → List V
  | _, [] => []
  | [], v :: vs => resE o [] v :: go [] vs
  | t :: ts, v :: vs => resE o t v :: go ts vs

/-- What a function gives back: from its last state; 'b': the variable that was lent. Where 'ks' is empty a row of the call's own is handed over. -/
def exitT (o : Store) (ks : List (List Kd)) (b : Option (List V)) (v : V) : Res :=
  match b with
  | some [.bld _] => match objOf o 900000 with
    | some (.bld s) => some (resV o ks v, [[.bld s]])
    | _ => none
  | some _ => match objOf o 900000 with
    | some (.box cs) => some (resV o ks v, [cs.map (cellB o (rowsIn cs ++ vRows v))])
    | _ => none
  | none => match v with
    | .ptr n _ c => match objOf o n, Nat.beq c 0 with
      | some (.box cs), true => some (.bor (cs.map (cellB o (rowsIn cs ++ []))), [])
      | _, _ => none
    | .row n lo hi => match ks, objOf o n with
      | [], some (.row true e ag ks' l) => match Nat.beq lo 0 with
        | true => some (.vec e ag ks' (l.take hi), [])
        | false => none
      | _, _ => some (resV o ks (.row n lo hi), [])
    | v => some (resV o ks v, [])

end Go.FM

/-
  THE SMALL MACHINE (2): the run of an operation, of a region, of a text, of a function.
-/
namespace Go.FM
open Go

def bytesMax : Nat := 70368744177664    -- 2^46

def natOf : Option V → Option Nat → Option (Nat × List Bool)
  | none, some d => some (d, [])
  | some (.int _ i), _ => some (i.toNat, [decide (0 ≤ i)])
  | _, _ => none

def ands : List Bool → Bool
  | [] => true
  | [b] => b
  | b :: r => b && ands r

/-- x[lo:hi] of something of length n. -/
def cutT (n : Nat) (lo hi : Option V) (k : Nat → Nat → T) : T :=
  match lo, hi with
  | none, none => k 0 n
  | some (.int _ i), none => .when (decide (0 ≤ i) && decide (i ≤ (n : Int))) (k i.toNat n)
  | none, some (.int _ j) => .when (decide (0 ≤ j) && decide (j ≤ (n : Int))) (k 0 j.toNat)
  | some (.int _ i), some (.int _ j) => .when (decide (0 ≤ i) && (decide (i ≤ j) && decide (j ≤ (n : Int)))) (k i.toNat j.toNat)
  | _, _ => .no

/-- Elements of a slice as what can't change. -/
def elemsOf (o : Store) : V → Option (List IV)
  | .list _ _ l => some l
  | .row n lo hi => match objOf o n with
    | some (.row _ _ _ _ l) => some ((l.take hi).drop lo)
    | _ => none
  | .zs => some []
  | _ => none
def shapeOf (o : Store) : V → Option (Bool × List Kd)
  | .list ag ks _ => some (ag, ks)
  | .row n _ _ => match objOf o n with
    | some (.row _ _ ag ks _) => some (ag, ks)
    | _ => none
  | _ => none

def chunk (ag : Bool) (ks : List Kd) (o : Store) (cs : List V) (sz : Nat) : Nat → Option (List IV)
  | 0 => some []
  | n + 1 => match elemIV o ag ks (match ag with | true => .agg (takeV cs sz) | false => nthV cs 0), chunk ag ks o (dropV cs sz) sz n with
    | some x, some r => some (x :: r)
    | _, _ => none

/-- s with l behind it: 's' without room, or a row of the call's own. -/
def appendT (o : Store) (d : Nat) (e : Nat) (ag : Bool) (ks : List Kd) (bytes : Nat) (s : V) (l : List IV) : T :=
  match s with
  | .zs => .when (decide (l.length * bytes ≤ bytesMax)) (.ok (.row d 0 l.length) [.new d (.row true e ag ks l)])
  | .row n lo hi => match objOf o n with
    | some (.row true e' ag' ks' l0) => match Nat.beq lo 0 && Nat.beq e e' && Nat.blt e 1000000 && kdEq (.list ag ks) (.list ag' ks') with
      | true => .when (decide ((hi + l.length) * bytes ≤ bytesMax)) (.ok (.row d 0 (hi + l.length)) [.kill n, .new d (.row true e ag ks (l0.take hi ++ l))])
      | false => .no
    | _ => .no
  | _ => .no

def appendX (o : Store) (d : Nat) (et : Nat) (e : TI) (s x : V) : T :=
  match x with
  | .bview n c cap sz len => match objOf o n with
    | some (.box cs) => match Nat.beq sz e.size && (rowsIn cs).isEmpty with
      | true => fork (cap + 1) 0 (len : Int) fun m => match chunk e.agg e.ks o (dropV cs c) sz m with
        | some l => appendT o d et e.agg e.ks e.bytes s l
        | none => .no
      | false => .no
    | _ => .no
  | .zs => appendT o d et e.agg e.ks e.bytes s []
  | x => match elemsOf o x, shapeOf o x with
    | some l, some (ag, ks) => match kdEq (.list e.agg e.ks) (.list ag ks) with
      | true => appendT o d et e.agg e.ks e.bytes s l
      | false => .no
    | _, _ => .no

/-- s with so many zero elements behind it ('append(s, make(.., k)...)'). -/
def appendZ (o : Store) (d : Nat) (et : Nat) (e : TI) (tk : List Kd) (s x : V) : T :=
  match tk, x, chunk e.agg e.ks [] e.zero e.size 1 with
  | [.int _], .int _ k, some (z :: _) => match Nat.blt 0 e.size && (Nat.blt et 1000000 && (decide (1 ≤ k) && (decide (k ≤ 1000) && (rowsIn e.zero).isEmpty))) with
    | true => appendT o d et e.agg e.ks e.bytes s (List.replicate k.toNat z)
    | false => .no
  | _, _, _ => .no

/-- A store's cells. -/
def storeT (o : Store) (x : TI) (p v : V) : T :=
  match p with
  | .ptr n i c => match objOf o n with
    | some (.box cs) => match Nat.ble (c + x.size) cs.length && (Nat.beq (cells v).length x.size && Nat.beq i 0) with
      | true => .when (okV o v && (okAll o (cells v) && Nat.blt 0 x.size)) (.ok .any [.set n (.box (putV cs c (cells v)))])
      | false => .no
    | some (.row true e ag ks l) => match Nat.ble (c + x.size) ks.length && Nat.beq (cells v).length x.size with
      | true => match leavesIV o (takeK (dropK ks c) x.size) (cells v) with
        | some vs => .when (okV o v && (okAll o (cells v) && Nat.blt 0 x.size) && !(memB n (rowsIn (cells v))) && (ag || Nat.beq ks.length 1)) (.ok .any (freezeU o (rowsIn (cells v)) ++ [.set n (.row true e ag ks (l.set i (putIV ag ks (l.getD i default) c vs)))]))
        | none => .no
      | false => .no
    | _ => .no
  | _ => .no
where
  takeK : List Kd → Nat → List Kd
    | _, 0 => []
    | [], _ + 1 => []
    | x :: r, n + 1 => x :: takeK r n
  dropK : List Kd → Nat → List Kd
    | l, 0 => l
    | [], _ + 1 => []
    | _ :: r, n + 1 => dropK r n

/-- Cells of a build. -/
def fillV (o : Store) (place : Nat → Option (Nat × Nat)) : List V → List (Nat × V) → Option (List V)
  | cs, [] => some cs
  | cs, (i, v) :: r => match place i with
    | some (off, size) => match okV o v && (Nat.beq (cells v).length size && Nat.ble (off + size) cs.length) with
      | true => fillV o place (putV cs off (cells v)) r
      | false => none
    | none => none

def repeatV (z : List V) : Nat → List V
  | 0 => []
  | n + 1 => z ++ repeatV z n

def structPlace (E : Env) (fs : List (Nat × Nat)) (i : Nat) : Option (Nat × Nat) :=
  match fs, i with
  | [], _ => none
  | (off, t) :: _, 0 => match Nat.blt 0 (E.tyd t).size with | true => some (off, (E.tyd t).size) | false => none
  | _ :: r, i + 1 => structPlace E r i

def opList (ρ : Operand → V) : List (Nat × Operand) → List (Nat × V)
  | [] => []
  | (i, x) :: r => (i, ρ x) :: opList ρ r

/-- A size that is a type's, and not nought. -/
def szOK (E : Env) (e n : Nat) : Bool := Nat.beq n (E.tyd e).size && Nat.blt 0 n

def copyT (E : Env) (o : Store) (t : Nat) (x y : V) : T :=
  match x, y with
  | .bview n c _ sz len, .bview n' c' cap' sz' len' => match objOf o n, objOf o n', (E.tyd t).d with
    | some (.box cs), some (.box cs'), .slice e => match szOK E e sz && Nat.beq sz sz' with
      | true => .when (okAll o cs') (fork (cap' + 1) 0 ((min len' len : Nat) : Int) fun m => .ok (.int .i64 (m : Int)) [.set n (.box (putV cs c (takeV (dropV cs' c') (m * sz))))])
      | false => .no
    | _, _, _ => .no
  | _, _ => .no

def lenT (E : Env) (o : Store) (t : Nat) (x : V) : T :=
  match x with
  | .list _ _ l => match (E.tyd t).d with | .slice _ => .ok (.int .i64 (l.length : Int)) [] | _ => .no
  | .str s => match (E.tyd t).d, (E.tyd t).ks with | .leaf, [.str] => .ok (.int .i64 (s.size : Int)) [] | _, _ => .no
  | .zs => match (E.tyd t).d with | .slice _ => .ok (.int .i64 0) [] | _ => .no
  | .row n lo hi => match (E.tyd t).d, objOf o n with | .slice _, some (.row _ _ _ _ _) => .ok (.int .i64 ((hi - lo : Nat) : Int)) [] | _, _ => .no
  | .bview n _ _ _ len => match (E.tyd t).d, objOf o n with | .slice _, some (.box _) => .ok (.int .i64 (len : Int)) [] | _, _ => .no
  | _ => match (E.tyd t).d with
    | .array n _ => match Nat.ble n 1000 with | true => .ok (.int .i64 (n : Int)) [] | false => .no
    | _ => .no

def tyList (E : Env) : List Nat → List (List Kd)
  | [] => []
  | t :: r => (E.tyd t).ks :: tyList E r

def mapO (ρ : Operand → V) : List Operand → List V
  | [] => []
  | x :: r => ρ x :: mapO ρ r

def capsOK : List V → Bool
  | [] => true
  | .clo _ _ :: _ => false
  | .tup _ :: _ => false
  | _ :: r => capsOK r

/-- Are all cells ints? -/
def intsV : List V → Bool
  | [] => true
  | .int .i64 _ :: r => intsV r
  | _ => false
/-- What else is handed to a function that turns a row in place: nothing, or a function over one variable of ints. -/
def ipArgs (o : Store) : List V → Option (List V)
  | [] => some []
  | [.clo f [.ptr m i c]] => match Nat.beq i 0 && Nat.beq c 0, objOf o m with
    | true, some (.box cs) => match intsV cs with | true => some [.clo f [.bor cs]] | false => none
    | _, _ => none
  | _ => none
def ipT (o : Store) (d : Option Nat) (p : Ip) (vs : List V) : T :=
  match vs with
  | .row n lo hi :: rest => match objOf o n, ipArgs o rest with
    | some (.row true e false [.int .i64] l), some rs => match Nat.beq lo 0 && (Nat.beq e p.e && Nat.blt e 1000000) with
      | true => .when (Nat.beq hi l.length) (match p.g rs l with
        | some l' => match p.ret, d with
          | true, some d => .when (Nat.ble l'.length l.length) (.ok (.row d 0 l'.length) [.kill n, .new d (.row true e false [.int .i64] l')])
          | false, _ => .when (Nat.beq l'.length l.length) (.ok .any [.set n (.row true e false [.int .i64] l')])
          | _, _ => .no
        | none => .no)
      | false => .no
    | _, _ => .no
  | .zs :: rest => match ipArgs o rest with
    | some rs => match p.g rs [] with
      | some [] => match p.ret, d with
        | true, some d => .when (Nat.blt p.e 1000000) (.ok (.row d 0 0) [.new d (.row true p.e false [.int .i64] [])])
        | false, _ => .ok .any []
        | _, _ => .no
      | _ => .no
    | none => .no
  | _ => .no
/-- A call of a function by its name. -/
def callF (E : Env) (o : Store) (d : Option Nat) (tks : List (List Kd)) (f : Nat) (vs : List V) : T :=
  match lk E.ip f with
  | some p => ipT o d p vs
  | none => match d with
    | some d => callT o d tks (lkd (fun _ => .no) E.sp f) vs
    | none => .no

def callOf (E : Env) (o : Store) (ρ : Operand → V) (d : Option Nat) (c : Call) : T :=
  match c.callee, d with
  | .builtin .len, _ => match c.args.toList, c.argTypes.toList with
    | [x], [t] => lenT E o t (ρ x)
    | _, _ => .no
  | .builtin .append, some d => match c.args.toList, c.argTypes.toList with
    | [s, x], [t, t'] => match (E.tyd t).d, (E.tyd t').d with
      | .slice e, .slice _ => match Nat.blt 0 (E.tyd e).size && Nat.blt e 1000000 with
        | true => appendX o d e (E.tyd e) (ρ s) (ρ x)
        | false => .no
      | .slice e, .leaf => appendZ o d e (E.tyd e) (E.tyd t').ks (ρ s) (ρ x)
      | _, _ => .no
    | _, _ => .no
  | .builtin .copy, _ => match c.args.toList, c.argTypes.toList with
    | [x, y], [t, _] => copyT E o t (ρ x) (ρ y)
    | _, _ => .no
  | .builtin .min, _ => match mapO ρ c.args.toList with
    | [.int k a, .int k' b] => match k == k' with | true => .ok (.int k (min a b)) [] | false => .no
    | _ => .no
  | .builtin .max, _ => match mapO ρ c.args.toList with
    | [.int k a, .int k' b] => match k == k' with | true => .ok (.int k (max a b)) [] | false => .no
    | _ => .no
  | .value (.func f), d => callF E o d (tyList E c.argTypes.toList) f (mapO ρ c.args.toList)
  | .value x, some d => match ρ x with
    | .clo f caps => match capsOK caps with
      | true => callT o d (tyList E c.argTypes.toList) (lkd (fun _ => .no) E.sp f) (mapO ρ c.args.toList ++ caps)
      | false => .no
    | _ => .no
  | _, _ => .no

def scrubV (n : Nat) : V → V
  | .row m lo hi => match Nat.beq m n with | true => .any | false => .row m lo hi
  | .ptr m i c => match Nat.beq m n with | true => .any | false => .ptr m i c
  | .bview m c cap sz len => match Nat.beq m n with | true => .any | false => .bview m c cap sz len
  | .agg l => .agg (l.map (leaf n))
  | .tup l => .tup (l.map (leaf2 n))
  | .clo f l => .clo f (l.map (leaf n))
  | v => v
where
  leaf (n : Nat) : V → V
    | .row m lo hi => match Nat.beq m n with | true => .any | false => .row m lo hi
    | .ptr m i c => match Nat.beq m n with | true => .any | false => .ptr m i c
    | .int k x => .int k x
    | .bool b => .bool b
    | .str s => .str s
    | .list ag ks l => .list ag ks l
    | .zs => .zs
    | .err b => .err b
    | .nilp => .nilp
    | _ => .any
  leaf2 (n : Nat) : V → V
    | .agg l => .agg (l.map (leaf n))
    | v => leaf n v

def evOp (E : Env) (o : Store) (ρ : Operand → V) (d : Option Nat) : Op → T
  | .move x | .assign x => .ok (ρ x) []
  | .pick c a b => match ρ c with
    | .bool c => match ρ a, ρ b with
      | .bool x, .bool y => .ok (.bool (match c with | true => x | false => y)) []
      | x, y => .br c (.ok x []) (.ok y [])
    | _ => .no
  | .alloc t => match d with
    | some d => match (E.tyd t).d with
      | .bld => .ok (.ptr d 0 0) [.new d (.bld ByteArray.empty)]
      | _ => match Nat.blt 0 (E.tyd t).size with
        | true => .ok (.ptr d 0 0) [.new d (.box (E.tyd t).zero)]
        | false => .no
    | none => .no
  | .box _ x => match d with
    | some d => .when (okV o (ρ x)) (.ok (.ptr d 0 0) [.new d (.box ((cells (ρ x)).map (scrubV d)))])
    | none => .no
  | .build t parts => match (E.tyd t).d with
    | .struct fs => match fillV o (structPlace E fs) (E.tyd t).zero (opList ρ parts.toList) with
      | some cs => .ok (.agg cs) []
      | none => .no
    | .array _ e => match fillV o (fun i => some (i * (E.tyd e).size, (E.tyd e).size)) (E.tyd t).zero (opList ρ parts.toList) with
      | some cs => .when (Nat.blt 0 (E.tyd e).size) (.ok (.agg cs) [])
      | none => .no
    | _ => .no
  | .buildSlice t len parts => match d, (E.tyd t).d with
    | some d, .slice e => match fillV o (fun i => some (i * (E.tyd e).size, (E.tyd e).size)) (repeatV (E.tyd e).zero len) (opList ρ parts.toList) with
      | some cs => match chunk (E.tyd e).agg (E.tyd e).ks o cs (E.tyd e).size len with
        | some l => .when (Nat.blt 0 (E.tyd e).size && (Nat.blt e 1000000 && Nat.ble (len * (E.tyd e).size) 16777216)) (.ok (.row d 0 len) (freezeU o (rowsIn cs) ++ [.new d (.row true e (E.tyd e).agg (E.tyd e).ks l)]))
        | none => .no
      | none => .no
    | _, _ => .no
  | .load t a => match ρ a with
    | .ptr n i c => match objOf o n with
      | some (.box cs) => T.of (ldBox (E.tyd t).agg (E.tyd t).size cs c)
      | some (.row _ _ ag ks l) => T.of (ldIV (E.tyd t).agg (E.tyd t).size ks (cellOf ag (l.getD i default)) c)
      | _ => .no
    | .iptr ks f c => T.of (ldIV (E.tyd t).agg (E.tyd t).size ks f c)
    | _ => .no
  | .store t a x => storeT o (E.tyd t) (ρ a) (ρ x)
  | .nilCheck x => match ρ x with
    | .ptr n i c => match objOf o n with
      | some _ => .ok (.ptr n i c) []
      | none => .no
    | _ => .no
  | .binOp op t x y _ => binE E o op t y (ρ x) (ρ y)
  | .unOp op _ x => unT op (ρ x)
  | .convert s t x => match ρ x with
    | .int _ n => match (E.tyd t).d, (E.tyd t).ks, (E.tyd s).ks with
      | .leaf, [.int k], _ :: _ => .ok (.int k (k.wrap n)) []
      | _, _, _ => .no
    | .str a => match (E.tyd t).d, (E.tyd t).ks, (E.tyd s).ks with
      | .leaf, [.str], _ :: _ => .ok (.str a) []
      | .slice e, [.list false [.int .u8]], _ :: _ => match d, (E.tyd e).d, (E.tyd e).ks with
        | some d, .leaf, [.int .u8] => .ok (.row d 0 a.size) [.new d (.row true (e + 1000000) false [.int .u8] (a.data.toList.map fun b => .int (b.toNat : Int)))]
        | _, _, _ => .no
      | _, _, _ => .no
    | v => match (E.tyd t).d, (E.tyd t).ks, (E.tyd s).d with
      | .leaf, [.str], .slice e => match (E.tyd e).d, (E.tyd e).ks, elemsOf o v, shapeOf o v with
        | .leaf, [.int .u8], some l, some (false, [.int .u8]) => .ok (.str (strOfNums (l.map IV.toInt))) []
        | _, _, _, _ => .no
      | _, _, _ => .no
  | .makeFunc (.func f) first captured => match first.toList with
    | [] => .ok (.clo f (mapO ρ captured.toList)) []
    | _ => .no
  | .makeSlice t n m => match d, (E.tyd t).d, ρ n, ρ m with
    | some d, .slice e, .int _ n, .int _ m => match chunk (E.tyd e).agg (E.tyd e).ks o (E.tyd e).zero (E.tyd e).size 1 with
      | some (z :: _) => .when (Nat.blt 0 (E.tyd e).size && (Nat.blt e 1000000 && decide (0 ≤ n)) && (decide (n = m) && decide (n * ((E.tyd e).bytes : Int) ≤ (bytesMax : Int)))) (.ok (.row d 0 n.toNat) (freezeU o (rowsIn (E.tyd e).zero) ++ [.new d (.row true e (E.tyd e).agg (E.tyd e).ks (List.replicate n.toNat z))]))
      | _ => .no
    | _, _, _, _ => .no
  | .slice t x lo hi mx => match mx, ρ x with
    | none, .str s => match (E.tyd t).d, (E.tyd t).ks with
      | .leaf, [.str] => cutT s.size (lo.map ρ) (hi.map ρ) fun i j => .ok (.str (s.extract i j)) []
      | _, _ => .no
    | none, .list ag ks l => match (E.tyd t).d with
      | .slice e => .when (szOK E e ks.length) (cutT l.length (lo.map ρ) (hi.map ρ) fun i j => .ok (.list ag ks ((l.take j).drop i)) [])
      | _ => .no
    | none, .row n a b => match (E.tyd t).d, objOf o n with
      | .slice e, some (.row _ _ _ ks _) => .when (szOK E e ks.length) (cutT (b - a) (lo.map ρ) (hi.map ρ) fun i j => .ok (.row n (a + i) (a + j)) [])
      | _, _ => .no
    | none, .ptr n _ c => match (E.tyd t).d, lo, objOf o n with
      | .array N e, none, some (.box cs) => .when (szOK E e (E.tyd e).size && (Nat.ble (c + N * (E.tyd e).size) cs.length && Nat.ble N 1000)) (cutT N none (hi.map ρ) fun _ j => .ok (.bview n c N (E.tyd e).size j) [])
      | _, _, _ => .no
    | _, _ => .no
  | .fieldAddr s x f => match (E.tyd s).d with
    | .struct fs => match structPlace E fs f with
      | some (off, _) => match ρ x with
        | .ptr n i c => match objOf o n with
          | some (.box _) => .ok (.ptr n i (c + off)) []
          | some (.row _ _ _ _ _) => .ok (.ptr n i (c + off)) []
          | _ => .no
        | .iptr ks g c => .ok (.iptr ks g (c + off)) []
        | _ => .no
      | none => .no
    | _ => .no
  | .field t x f => match (E.tyd t).d, ρ x with
    | .struct fs, .agg cs => match fs[f]? with
      | some (off, ft) => match Nat.blt 0 (E.tyd ft).size with
        | true => T.of (ldBox (E.tyd ft).agg (E.tyd ft).size cs off)
        | false => .no
      | none => .no
    | _, _ => .no
  | .indexAddr t x ix => match (E.tyd t).d, ρ ix with
    | .slice e, .int _ i => match ρ x with
      | .list ag ks l => match szOK E e ks.length with
        | true => .when (decide (0 ≤ i) && decide (i < (l.length : Int))) (.ok (.iptr ks (cellOf ag (l.getD i.toNat default)) 0) [])
        | false => .no
      | .row n lo hi => match objOf o n with
        | some (.row _ _ _ ks _) => match szOK E e ks.length with
          | true => .when (decide (0 ≤ i) && decide (i < ((hi - lo : Nat) : Int))) (.ok (.ptr n (lo + i.toNat) 0) [])
          | false => .no
        | _ => .no
      | .bview n c cap sz len => match szOK E e sz, objOf o n with
        | true, some (.box _) => .when (decide (i < (len : Int))) (fork cap 0 i fun j => .ok (.ptr n 0 (c + j * sz)) [])
        | _, _ => .no
      | _ => .no
    | .array N e, .int _ i => match ρ x with
      | .ptr n i0 c => match objOf o n with
        | some (.box _) => T.when (szOK E e (E.tyd e).size) (fork N 0 i fun j => .ok (.ptr n i0 (c + j * (E.tyd e).size)) [])
        | some (.row _ _ _ _ _) => T.when (szOK E e (E.tyd e).size) (fork N 0 i fun j => .ok (.ptr n i0 (c + j * (E.tyd e).size)) [])
        | _ => .no
      | .iptr ks f c => T.when (szOK E e (E.tyd e).size) (fork N 0 i fun j => .ok (.iptr ks f (c + j * (E.tyd e).size)) [])
      | _ => .no
    | _, _ => .no
  | .index t x ix => match ρ x, ρ ix with
    | .str s, .int _ i => match (E.tyd t).d, (E.tyd t).ks with
      | .leaf, [.str] => .when (decide (0 ≤ i) && decide (i < (s.size : Int))) (.ok (.int .u8 ((s.data.toList.getD i.toNat 0).toNat : Int)) [])
      | _, _ => .no
    | .agg cs, .int _ i => match (E.tyd t).d with
      | .array N e => .when (szOK E e (E.tyd e).size) (fork N 0 i fun j => T.of (ldBox (E.tyd e).agg (E.tyd e).size cs (j * (E.tyd e).size)))
      | _ => .no
    | _, _ => .no
  | .extract x i => match ρ x with
    | .tup vs => match vs[i]? with
      | some v => .ok v []
      | none => .no
    | _ => .no
  | .call c => callOf E o ρ d c
  | _ => .no

/-! ### states -/
def scrubO (n : Nat) : Option Ob → Option Ob
  | some (.box cs) => some (.box (cs.map (scrubV n)))
  | x => x

def mapSnd {α : Type} (f : α → α) : List (Nat × α) → List (Nat × α)
  | [] => []
  | (i, x) :: r => (i, f x) :: mapSnd f r

def St.up (s : St) : Upd → St
  | .set n ob => ⟨s.t, (n, some ob) :: s.o⟩
  | .kill n => ⟨s.t, (n, none) :: s.o⟩
  | .new n ob => ⟨mapSnd (scrubV n) s.t, (n, some ob) :: mapSnd (scrubO n) s.o⟩

def St.ups (s : St) : List Upd → St
  | [] => s
  | u :: r => (s.up u).ups r

def St.put (s : St) : Option Nat → V → St
  | some d, v => ⟨(d, v) :: s.t, s.o⟩
  | none, _ => s

def dstOf (ops : List Oper) (j : Nat) : Option Nat :=
  match ops, j with
  | [], _ => none
  | o :: _, 0 => o.dst
  | _ :: r, j + 1 => dstOf r j

def okDst (E : Env) : Option Nat → Bool
  | some d => Nat.blt d E.nt
  | none => true

/-- The operations in the text's order. -/
def evOps (E : Env) (all : List Oper) : List Oper → St → (St → Res) → Res
  | [], s, k => k s
  | o :: r, s, k =>
    match okDst E o.dst with
    | false => none
    | true => match o.guard with
      | none => (evOp E s.o (opd s) o.dst o.op).run fun v us => evOps E all r ((s.ups us).put o.dst v) k
      | some (j, b) => match dstOf all j with
        | some dj => match s.get dj with
          | .bool c => match c with
            | true => match b with
              | true => (evOp E (s.put (some dj) (.bool true)).o (opd (s.put (some dj) (.bool true))) o.dst o.op).run fun v us => evOps E all r (((s.put (some dj) (.bool true)).ups us).put o.dst v) k
              | false => evOps E all r ((s.put (some dj) (.bool true)).put o.dst (.tup [])) k
            | false => match b with
              | false => (evOp E (s.put (some dj) (.bool false)).o (opd (s.put (some dj) (.bool false))) o.dst o.op).run fun v us => evOps E all r (((s.put (some dj) (.bool false)).ups us).put o.dst v) k
              | true => evOps E all r ((s.put (some dj) (.bool false)).put o.dst (.tup [])) k
          | .tup [] => evOps E all r (s.put o.dst (.tup [])) k
          | _ => none
        | none => none


/-! ### regions that draw their order -/
def refL : V → List Nat
  | .row n _ _ => [n]
  | .ptr n _ _ => [n]
  | .bview n _ _ _ _ => [n]
  | _ => []
def refsL : List V → List Nat
  | [] => []
  | v :: r => refL v ++ refsL r
def refs : V → List Nat
  | .agg l => refsL l
  | .clo _ l => go l
  | .tup l => go l
  | v => refL v
where go : List V → List Nat
  | [] => []
  | .agg l :: r => refsL l ++ go r
  | v :: r => refL v ++ go r
def refsVs : List V → List Nat
  | [] => []
  | v :: r => refs v ++ refsVs r
/-- And what lies in the variables. -/
def deep (o : Store) : List Nat → List Nat
  | [] => []
  | n :: r => match objOf o n with
    | some (.box cs) => refsL cs ++ deep o r
    | _ => deep o r

def zeroRefs (E : Env) : Op → List Nat
  | .buildSlice t _ _ | .makeSlice t _ _ => match (E.tyd t).d with
    | .slice e => refsL (E.tyd e).zero
    | _ => []
  | _ => []

/-- Names that an operation looks at. -/
def readsG (E : Env) (o : Store) (ρ : Operand → V) (op : Op) : List Nat :=
  refsVs (op.operands.toList.map ρ) ++ zeroRefs E op ++ deep o (refsVs (op.operands.toList.map ρ))
/-- An operation that looks at no object. -/
def quiet : Op → Bool
  | .move _ | .assign _ | .extract _ _ => true
  | _ => false
def reads (E : Env) (o : Store) (ρ : Operand → V) (op : Op) : List Nat :=
  match quiet op with
  | true => []
  | false => readsG E o ρ op


/-- An operation that is done. -/
structure Dn where
  dst : Option Nat
  tm : List Nat
  v : V
  us : List Upd
  rd : List Nat

def updO : List Upd → Store → Store
  | [], o => o
  | .set n ob :: r, o => updO r ((n, some ob) :: o)
  | .kill n :: r, o => updO r ((n, none) :: o)
  | .new n ob :: r, o => updO r ((n, some ob) :: o)

def apD (s : St) (x : Dn) : St := ⟨(s.put x.dst x.v).t, updO x.us s.o⟩
def apDs (s : St) : List Dn → St
  | [] => s
  | x :: r => apDs (apD s x) r

def litS (s : St) (j : Nat) (b : Bool) : St := ⟨(j, .bool b) :: s.t, s.o⟩

def tmpsOf : List Operand → List Nat
  | [] => []
  | .tmp t :: r => t :: tmpsOf r
  | _ :: r => tmpsOf r
/-- Temporaries that an operation looks at. -/
def tmAll (all : List Oper) (o : Oper) : List Nat :=
  match o.guard with
  | some (j, _) => match dstOf all j with
    | some dj => dj :: tmpsOf o.op.operands.toList
    | none => tmpsOf o.op.operands.toList
  | none => tmpsOf o.op.operands.toList

/-- The run, in the text's order; what is done is told. -/
def evD (E : Env) (all : List Oper) : List Oper → St → List Dn → (List Dn → St → Res) → Res
  | [], s, acc, k => k acc s
  | o :: r, s, acc, k =>
    match okDst E o.dst with
    | false => none
    | true => match o.guard with
      | none => (evOp E s.o (opd s) o.dst o.op).run fun v us => evD E all r (apD s ⟨o.dst, tmAll all o, v, us, reads E s.o (opd s) o.op⟩) (⟨o.dst, tmAll all o, v, us, reads E s.o (opd s) o.op⟩ :: acc) k
      | some (j, b) => match dstOf all j with
        | some dj => match s.get dj with
          | .bool c => match c with
            | true => match b with
              | true => (evOp E s.o (opd (litS s dj true)) o.dst o.op).run fun v us => evD E all r (apD (litS s dj true) ⟨o.dst, tmAll all o, v, us, reads E s.o (opd (litS s dj true)) o.op⟩) (⟨o.dst, tmAll all o, v, us, reads E s.o (opd (litS s dj true)) o.op⟩ :: acc) k
              | false => evD E all r (apD (litS s dj true) ⟨o.dst, tmAll all o, .tup [], [], []⟩) (⟨o.dst, tmAll all o, .tup [], [], []⟩ :: acc) k
            | false => match b with
              | false => (evOp E s.o (opd (litS s dj false)) o.dst o.op).run fun v us => evD E all r (apD (litS s dj false) ⟨o.dst, tmAll all o, v, us, reads E s.o (opd (litS s dj false)) o.op⟩) (⟨o.dst, tmAll all o, v, us, reads E s.o (opd (litS s dj false)) o.op⟩ :: acc) k
              | true => evD E all r (apD (litS s dj false) ⟨o.dst, tmAll all o, .tup [], [], []⟩) (⟨o.dst, tmAll all o, .tup [], [], []⟩ :: acc) k
          | .tup [] => evD E all r (apD s ⟨o.dst, tmAll all o, .tup [], [], []⟩) (⟨o.dst, tmAll all o, .tup [], [], []⟩ :: acc) k
          | _ => none
        | none => none

/-- Names that a region's own operations may take. -/
def dstsOf : List Oper → List Nat
  | [] => []
  | o :: r => match o.dst with | some d => d :: dstsOf r | none => dstsOf r
def isNew (ds : List Nat) (n : Nat) : Bool := memB n ds || (Nat.ble 1000 n && memB (n / 1000 - 1) ds)

def scrubP (p : Nat → Bool) : V → V
  | .row m lo hi => match p m with | true => .any | false => .row m lo hi
  | .ptr m i c => match p m with | true => .any | false => .ptr m i c
  | .bview m c cap sz len => match p m with | true => .any | false => .bview m c cap sz len
  | .agg l => .agg (go p l)
  | .tup l => .tup (go2 p l)
  | .clo f l => .clo f (go p l)
  | v => v
where
  leaf (p : Nat → Bool) : V → V
    | .row m lo hi => match p m with | true => .any | false => .row m lo hi
    | .ptr m i c => match p m with | true => .any | false => .ptr m i c
    | .int k x => .int k x
    | .bool b => .bool b
    | .str s => .str s
    | .list ag ks l => .list ag ks l
    | .zs => .zs
    | .err b => .err b
    | .nilp => .nilp
    | _ => .any
  go (p : Nat → Bool) : List V → List V
    | [] => []
    | v :: r => leaf p v :: go p r
  leaf2 (p : Nat → Bool) : V → V
    | .agg l => .agg (go p l)
    | v => leaf p v
  go2 (p : Nat → Bool) : List V → List V
    | [] => []
    | v :: r => leaf2 p v :: go2 p r
def scrubOP (p : Nat → Bool) : Option Ob → Option Ob
  | some (.box cs) => some (.box (mapV (scrubP p) cs))
  | x => x
where mapV (f : V → V) : List V → List V
  | [] => []
  | v :: r => f v :: mapV f r
def clearO (p : Nat → Bool) : Store → Store
  | [] => []
  | (n, x) :: r => match p n with | true => (n, none) :: clearO p r | false => (n, scrubOP p x) :: clearO p r
def clearS (ds : List Nat) (s : St) : St := ⟨mapSnd (scrubP (isNew ds)) s.t, clearO (isNew ds) s.o⟩

def cleanL : V → Bool
  | .any | .row _ _ _ | .ptr _ _ _ | .int _ _ | .bool _ | .str _ | .list _ _ _ | .zs | .err _ | .nilp => true
  | _ => false
def cleanLs : List V → Bool
  | [] => true
  | v :: r => match cleanL v with | true => cleanLs r | false => false
def cleanV : V → Bool
  | .agg l => cleanLs l
  | .clo _ l => cleanLs l
  | .tup l => go l
  | _ => true
where go : List V → Bool
  | [] => true
  | .agg l :: r => match cleanLs l with | true => go r | false => false
  | v :: r => match cleanL v with | true => go r | false => false
def cleanVs : List V → Bool
  | [] => true
  | v :: r => match cleanV v with | true => cleanVs r | false => false
def cleanOb : Ob → Bool
  | .box cs => cleanVs cs
  | _ => true
def refsOb : Ob → List Nat
  | .box cs => refsVs cs
  | _ => []

def newsU : List Upd → List Nat
  | [] => []
  | .new n _ :: r => n :: newsU r
  | _ :: r => newsU r
def namesU : List Upd → List Nat
  | [] => []
  | .new n _ :: r => n :: namesU r
  | .set n _ :: r => n :: namesU r
  | .kill n :: r => n :: namesU r
def obsU : List Upd → List Nat
  | [] => []
  | .new _ ob :: r => refsOb ob ++ obsU r
  | .set _ ob :: r => refsOb ob ++ obsU r
  | .kill _ :: r => obsU r
def disj : List Nat → List Nat → Bool
  | [], _ => true
  | n :: r, l => match memB n l with | true => false | false => disj r l

/-- Within one operation's updates: a name that is new is not spoken of ahead of it. -/
def usOK : List Upd → Bool
  | [] => true
  | .new _ ob :: r => cleanOb ob && (disj (newsU r) (refsOb ob) && usOK r)
  | .set _ ob :: r => cleanOb ob && (disj (newsU r) (refsOb ob) && usOK r)
  | .kill _ :: r => usOK r

def allNew (ds : List Nat) : List Nat → Bool
  | [] => true
  | n :: r => isNew ds n && allNew ds r
def oneOK (ds : List Nat) : List Dn → Bool
  | [] => true
  | x :: r => cleanV x.v && (usOK x.us && (allNew ds (newsU x.us) && oneOK ds r))

def nthN : List (List Nat) → Nat → List Nat
  | [], _ => []
  | x :: _, 0 => x
  | _ :: r, n + 1 => nthN r n
def predsE (acc : List (List Nat)) : List Edge → List Nat
  | [] => []
  | e :: r => match Region.binds .any e with
    | true => e.on :: (nthN acc e.on ++ predsE acc r)
    | false => predsE acc r
/-- Each once. -/
def nubK (acc : List Nat) : List Nat → (List Nat → List (List Nat)) → List (List Nat)
  | [], k => k acc
  | n :: r, k => match memB n acc with
    | true => nubK acc r k
    | false => nubK (n :: acc) r k
def predsOf (acc : List (List Nat)) : List Oper → List (List Nat)
  | [] => acc
  | o :: r => nubK [] (predsE acc o.after.toList) fun l => predsOf (acc ++ [l]) r
/-- Edges go up in the text. -/
def edgesUp : Nat → List Oper → Bool
  | _, [] => true
  | i, o :: r => go i o.after.toList && edgesUp (i + 1) r
where go (i : Nat) : List Edge → Bool
  | [] => true
  | e :: r => match Region.binds .any e with
    | true => Nat.blt e.on i && go i r
    | false => go i r

def optIn : Option Nat → List Nat → Bool
  | some d, l => memB d l
  | none, _ => false
def optEq : Option Nat → Option Nat → Bool
  | some d, some e => Nat.beq d e
  | _, _ => false

def pairOK (pi pj : List Nat) (i j : Nat) (x y : Dn) : Bool :=
  match memB i pj with
  | true => true
  | false => disj (newsU x.us) (refs y.v ++ obsU y.us) && (match memB j pi with
    | true => true
    | false => !(optIn y.dst x.tm) && (!(optEq x.dst y.dst) && (disj (namesU y.us) x.rd && disj (namesU x.us) (namesU y.us))))

def pairsJ (ps : List (List Nat)) (pi : List Nat) (i : Nat) (x : Dn) : Nat → List Dn → Bool
  | _, [] => true
  | j, y :: r => (Nat.beq i j || pairOK pi (nthN ps j) i j x y) && pairsJ ps pi i x (j + 1) r
def pairsI (ps : List (List Nat)) (all : List Dn) : Nat → List Dn → Bool
  | _, [] => true
  | i, x :: r => pairsJ ps (nthN ps i) i x 0 all && pairsI ps all (i + 1) r

/-- What was done in the text's order may be done in any. -/
def freeD (ops : List Oper) (l : List Dn) : Bool :=
  edgesUp 0 ops && (oneOK (dstsOf ops) l && pairsI (predsOf [] ops) l 0 l)

def evDraw (E : Env) (ops : List Oper) (s : St) (k : St → Res) : Res :=
  evD E ops ops (clearS (dstsOf ops) s) [] fun acc s' => match freeD ops acc.reverse with
    | true => k s'
    | false => none

inductive Out where
  | normal
  | exit (id : Nat)
  | ret

def keepT (s : St) : List Nat → List (Nat × V)
  | [] => []
  | i :: r => (i, s.get i) :: keepT s r
def keepO (s : St) : List Nat → Store
  | [] => []
  | i :: r => (i, objOf s.o i) :: keepO s r

/-- Temporaries that are dead are forgotten. -/
def prune (kp : Option (List Nat)) (s : St) : St :=
  match kp with
  | some l => ⟨keepT s l, s.o⟩
  | none => s

def locV (s : St) : Loc → V
  | .tmp t => s.get t
  | .cell b c => match objOf s.o b with
    | some (.box cs) => nthV cs c
    | _ => .any
def putLoc (s : St) (v : V) : Loc → St
  | .tmp t => ⟨(t, v) :: s.t, s.o⟩
  | .cell b c => match objOf s.o b with
    | some (.box cs) => ⟨s.t, (b, some (.box (putV cs c [v]))) :: s.o⟩
    | _ => s
/-- A slice of the call's own gets its name. -/
def canon1 (c : Can) (s : St) : St :=
  match Nat.beq c.nm 900000 with
  | true => s
  | false => match locV s c.loc with
    | .zs => match Nat.blt 0 c.ks.length with
      | true => putLoc (s.up (.new c.nm (.row true c.e c.ag c.ks []))) (.row c.nm 0 0) c.loc
      | false => s
    | .row n lo hi => match Nat.beq n c.nm, Nat.beq lo 0, objOf s.o n with
      | false, true, some (.row true e ag ks l) => putLoc ((s.up (.kill n)).up (.new c.nm (.row true e ag ks l))) (.row c.nm 0 hi) c.loc
      | _, _, _ => s
    | _ => s
def canons : List Can → St → St
  | [], s => s
  | c :: r, s => canons r (canon1 c s)
def keepS (kp : KP) (s : St) : St := ⟨keepT s kp.t, keepO s kp.o⟩
def restrict (kp : KP) (s : St) : St := keepS kp (canons kp.c ⟨keepT s kp.t, s.o⟩)

/-- What goes on behind a round; behind a first part; behind a block. -/
def kLoop (again : St → Res) (kp : KP) (k : Out → St → Res) : Out → St → Res
  | .normal, s => again (restrict kp s)
  | .exit i, s => k (.exit i) (restrict kp s)
  | .ret, s => k .ret (restrict kp s)
def kSeq (_c : Code) (ev : St → (Out → St → Res) → Res) (k : Out → St → Res) : Out → St → Res
  | .normal, s => ev s k
  | .exit i, s => k (.exit i) s
  | .ret, s => k .ret s
def kBlock (id : Nat) (k : Out → St → Res) : Out → St → Res
  | .normal, s => k .normal s
  | .exit i, s => match Nat.beq i id with | true => k .normal s | false => k (.exit i) s
  | .ret, s => k .ret s

def loopN (c : Code) (body : St → (Out → St → Res) → Res) (kp : KP) : Nat → St → (Out → St → Res) → Res
  | 0, _, _ => none
  | n + 1, s, k => body s (kLoop (fun s' => loopN c body kp n s' k) kp k)

def firstReg : Code → Nat
  | .region id _ _ => id
  | .seq a _ => firstReg a
  | .block _ c => firstReg c
  | .scope c => firstReg c
  | _ => 0

def litC (s : St) (c : Operand) (b : Bool) : St :=
  match c with
  | .tmp t => ⟨(t, .bool b) :: s.t, s.o⟩
  | _ => s

abbrev Lp := Code → (St → (Out → St → Res) → Res) → KP → Nat → St → (Out → St → Res) → Res

def evG (lp : Lp) (E : Env) : Code → St → (Out → St → Res) → Res
  | .skip, s, k => k .normal s
  | .region id ops draw, s, k => match draw with
    | false => evOps E ops.toList ops.toList s fun s' => k .normal (prune (lk E.kp id) s')
    | true => evDraw E ops.toList s fun s' => k .normal (prune (lk E.kp id) s')
  | .seq a b, s, k => evG lp E a s (kSeq b (evG lp E b) k)
  | .cond c a b, s, k => match opd s c with
    | .bool x => match x with
      | true => evG lp E a (litC s c true) k
      | false => evG lp E b (litC s c false) k
    | _ => none
  | .block id c, s, k => evG lp E c s (kBlock id k)
  | .loop c, s, k => lp c (evG lp E c) (lkd ⟨[], [], []⟩ E.lp (firstReg c)) E.N (restrict (lkd ⟨[], [], []⟩ E.lp (firstReg c)) s) k
  | .exit id, s, k => k (.exit id) s
  | .ret, s, k => k .ret s
  | _, _, _ => none

abbrev evCode (E : Env) : Code → St → (Out → St → Res) → Res := evG loopN E

/-! ### a function -/
def enterT : Nat → List V → List (Nat × V)
  | _, [] => []
  | i, v :: r => (i, entV v) :: enterT (i + 1) r

def resT (E : Env) (s : St) : List ResultVar → Option (List V)
  | [] => some []
  | .tmp t :: r => match resT E s r with
    | some l => some (s.get t :: l)
    | none => none
  | .cell ad t :: r => match s.get ad with
    | .ptr n _ c => match objOf s.o n with
      | some (.box cs) => match ldBox (E.tyd t).agg (E.tyd t).size cs c, resT E s r with
        | some v, some l => some (v :: l)
        | _, _ => none
      | _ => none
    | _ => none

def resO : List V → V
  | [v] => v
  | l => .tup l

def outT (E : Env) (b : Option (List V)) (rs : List ResultVar) (rks : List (List Kd)) : Out → St → Res
  | .exit _, _ => none
  | _, s => match resT E s rs with
    | some l => exitT s.o rks b (resO l)
    | none => none

def evFun (E : Env) (code : Code) (rs : List ResultVar) (rks : List (List Kd)) (vs : List V) : Res :=
  match Nat.ble vs.length E.nt with
  | true => evCode E code ⟨enterT 0 vs, memIn vs⟩ (outT E (borOf vs) rs rks)
  | false => none

end Go.FM

/-
  THE SMALL MACHINE (3): what its values say of the model's values and of memory.
-/
namespace Go.FM
open Go Go.RowKit

mutual
/-- What can't change, of a kind, lies in memory outside the blocks 'O'. -/
def Kd.Rel (w : World) (O : Nat → Prop) : Kd → IV → Value → Prop
  | .int k, x, v => v = .int k x.toInt ∧ k.min ≤ x.toInt ∧ x.toInt ≤ k.max
  | .bool, x, v => v = .bool x.toBool
  | .str, x, v => v = .string x.toStr ∧ x.toStr.size ≤ strMax
  | .list ag ks, x, v => ∃ p c, v = .slice p x.toList.length c ∧ x.toList.length ≤ c ∧ c ≤ maxLen ∧ x.toList.length ≤ strMax ∧
      ∀ i y, x.toList[i]? = some y → ∃ b o, p = some ⟨b, o, none⟩ ∧ ¬ O b ∧ b < w.heap.size ∧
        Kd.RelAll w O ks (cellOf ag y) 0 (fun j u => w.cell? ⟨b, o + i * ks.length + j, none⟩ = some u)
def Kd.RelAll (w : World) (O : Nat → Prop) : List Kd → (Nat → IV) → Nat → (Nat → Value → Prop) → Prop
  | [], _, _, _ => True
  | k :: ks, f, j, R => (∃ u, R j u ∧ Kd.Rel w O k (f j) u) ∧ Kd.RelAll w O ks f (j + 1) R
end

/-- A world that goes on from another one: blocks outside 'O' are as they were. -/
structure Keep (O : Nat → Prop) (w w' : World) : Prop where
  os : w'.os = w.os
  tape : w'.tape = w.tape
  output : w'.output = w.output
  size : w.heap.size ≤ w'.heap.size
  block : ∀ b, b < w.heap.size → ¬ O b → w'.heap[b]? = w.heap[b]?

theorem Keep.refl (O : Nat → Prop) (w : World) : Keep O w w := ⟨rfl, rfl, rfl, Nat.le_refl _, fun _ _ _ => rfl⟩
theorem Keep.trans {O O' : Nat → Prop} {a b c : World} (h : Keep O a b) (k : Keep O' b c) (hO : ∀ i, i < a.heap.size → O' i → O i) : Keep O a c :=
  ⟨k.os.trans h.os, k.tape.trans h.tape, k.output.trans h.output, Nat.le_trans h.size k.size, fun i hi hn =>
    (k.block i (Nat.lt_of_lt_of_le hi h.size) (fun h' => hn (hO i hi h'))).trans (h.block i hi hn)⟩
theorem Keep.mono {O O' : Nat → Prop} {a b : World} (h : Keep O a b) (hO : ∀ i, i < a.heap.size → O i → O' i) : Keep O' a b :=
  ⟨h.os, h.tape, h.output, h.size, fun i hi hn => h.block i hi (fun h' => hn (hO i hi h'))⟩
theorem Keep.cell {O : Nat → Prop} {w w' : World} (h : Keep O w w') {b o : Nat} (hb : b < w.heap.size) (hO : ¬ O b) : w'.cell? ⟨b, o, none⟩ = w.cell? ⟨b, o, none⟩ :=
  World.cell?_of_block (w := w) (h.block b hb hO)
theorem Keep.alloc (O : Nat → Prop) (w : World) (o : Obj) : Keep O w (w.alloc o) :=
  ⟨rfl, rfl, rfl, by simp, fun b hb _ => Below.heap_alloc w o b hb⟩
theorem Keep.drew (O : Nat → Prop) (w : World) : Keep O w w.drew := ⟨rfl, rfl, rfl, Nat.le_refl _, fun _ _ _ => rfl⟩
theorem Keep.setRow {O : Nat → Prop} (w : World) (g : Nat) (cs : Array Value) (h : O g) : Keep O w (w.setRow g cs) :=
  ⟨rfl, rfl, rfl, by simp, fun b _ hn => setRow_other w g b cs (fun e => hn (e ▸ h))⟩
theorem Keep.grown {O : Nat → Prop} {w w' : World} {row : Option Nat} (h : w.grownBy w' row) (hr : ∀ g, row = some g → O g) : Keep O w w' :=
  ⟨h.os, h.tape, h.output, h.size, fun b hb hn => h.block b hb (fun e => hn (hr b e.symm))⟩

mutual
theorem Kd.Rel.mono {w w' : World} {O O' : Nat → Prop} (hk : Keep O w w') (hO : ∀ b, b < w.heap.size → O' b → O b) :
    ∀ {k : Kd} {x : IV} {v : Value}, Kd.Rel w O k x v → Kd.Rel w' O' k x v
  | .int _, _, _, h => by simpa only [Kd.Rel] using h
  | .bool, _, _, h => by simpa only [Kd.Rel] using h
  | .str, _, _, h => by simpa only [Kd.Rel] using h
  | .list ag ks, x, v, h => by
    simp only [Kd.Rel] at h ⊢
    obtain ⟨p, c, hv, hc, hm, hl, hi⟩ := h
    refine ⟨p, c, hv, hc, hm, hl, fun i y hy => ?_⟩
    obtain ⟨b, o, hp, hb, hs, hr⟩ := hi i y hy
    refine ⟨b, o, hp, fun h' => hb (hO b hs h'), Nat.lt_of_lt_of_le hs hk.size, ?_⟩
    exact Kd.RelAll.mono hk hO (fun j u hu => by rw [hk.cell hs hb]; exact hu) hr
theorem Kd.RelAll.mono {w w' : World} {O O' : Nat → Prop} (hk : Keep O w w') (hO : ∀ b, b < w.heap.size → O' b → O b) :
    ∀ {ks : List Kd} {f : Nat → IV} {j : Nat} {R R' : Nat → Value → Prop}, (∀ j u, R j u → R' j u) → Kd.RelAll w O ks f j R → Kd.RelAll w' O' ks f j R'
  | [], _, _, _, _, _, _ => by simp only [Kd.RelAll]
  | k :: ks, f, j, R, R', hR, h => by
    simp only [Kd.RelAll] at h ⊢
    obtain ⟨⟨u, hu, hr⟩, h2⟩ := h
    exact ⟨⟨u, hR _ _ hu, Kd.Rel.mono hk hO hr⟩, Kd.RelAll.mono hk hO hR h2⟩
end

theorem Kd.RelAll_iff {w : World} {O : Nat → Prop} : ∀ {ks : List Kd} {f : Nat → IV} {j0 : Nat} {R : Nat → Value → Prop},
    Kd.RelAll w O ks f j0 R ↔ ∀ j k, ks[j]? = some k → ∃ u, R (j0 + j) u ∧ Kd.Rel w O k (f (j0 + j)) u
  | [], f, j0, R => by simp [Kd.RelAll]
  | k :: ks, f, j0, R => by
    simp only [Kd.RelAll, Kd.RelAll_iff (ks := ks)]
    constructor
    · rintro ⟨h0, h⟩ j k' hj
      cases j with
      | zero => simp at hj; subst hj; simpa using h0
      | succ j =>
        have := h j k' (by simpa using hj)
        rwa [show j0 + 1 + j = j0 + (j + 1) by omega] at this
    · intro h
      refine ⟨by simpa using h 0 k rfl, fun j k' hj => ?_⟩
      have := h (j + 1) k' (by simpa using hj)
      rwa [show j0 + (j + 1) = j0 + 1 + j by omega] at this

/-- Places of a slice value. -/
def SubOf (g : Value) (lo hi sz : Nat) (x : Value) : Prop :=
  ∃ p len cap p', g = .slice p len cap ∧ x = .slice p' (hi - lo) (cap - lo) ∧ lo ≤ hi ∧ hi ≤ len ∧ len ≤ cap ∧ cap ≤ maxLen ∧
    (p' = p.map (·.add (lo * sz)) ∨ cap = lo) ∧ (lo = 0 → p' = p)

mutual
/-- Values. 'γ': where the objects lie. -/
def VRel (γ : Nat → Value) (o : Store) (w : World) (O : Nat → Prop) : V → Value → Prop
  | .any, _ => True
  | .int k n, x => x = .int k n ∧ k.min ≤ n ∧ n ≤ k.max
  | .bool b, x => x = .bool b
  | .str s, x => x = .string s ∧ s.size ≤ strMax
  | .list ag ks l, x => Kd.Rel w O (.list ag ks) (.list l) x
  | .zs, x => x = .slice none 0 0
  | .row n lo hi, x => match objOf o n with
    | some (.row _ _ _ ks l) => hi ≤ l.length ∧ SubOf (γ n) lo hi ks.length x
    | _ => True
  | .ptr n i c, x => match objOf o n with
    | some (.box _) => i = 0 ∧ ∃ b, γ n = .pointer (some ⟨b, 0, none⟩) ∧ x = .pointer (some ⟨b, c, none⟩)
    | some (.row _ _ _ ks l) => i < l.length ∧ ∃ b off len cap, γ n = .slice (some ⟨b, off, none⟩) len cap ∧ x = .pointer (some ⟨b, off + i * ks.length + c, none⟩)
    | some (.bld _) => c = 0 ∧ ∃ b v, γ n = .tuple #[.pointer (some ⟨b, 0, none⟩), v] ∧ x = .pointer (some ⟨b, 0, none⟩)
    | none => True
  | .iptr ks f c, x => ∃ b off, x = .pointer (some ⟨b, off + c, none⟩) ∧ ¬ O b ∧ b < w.heap.size ∧ Kd.RelAll w O ks f 0 (fun j u => w.cell? ⟨b, off + j, none⟩ = some u)
  | .bview n c cap sz len, x => match objOf o n with
    | some (.box cs) => len ≤ cap ∧ cap ≤ maxLen ∧ c + cap * sz ≤ cs.length ∧ ∃ b, γ n = .pointer (some ⟨b, 0, none⟩) ∧ x = .slice (some ⟨b, c, none⟩) len cap
    | _ => True
  | .agg l, x => ∃ cs, x = .agg cs ∧ VRels γ o w O l cs.toList
  | .tup l, x => ∃ cs, x = .tuple cs ∧ VRels γ o w O l cs.toList
  | .err b, x => match b with | true => x = .nilIface | false => ∃ t v, x = .iface t v
  | .nilp, x => x = .pointer none
  | .clo f l, x => ∃ cs, x = .func (.func f) #[] cs ∧ VRels γ o w O l cs.toList
  | .bor _, _ => False
  | .vec _ _ _ _, _ => False
  | .bld _, _ => False
def VRels (γ : Nat → Value) (o : Store) (w : World) (O : Nat → Prop) : List V → List Value → Prop
  | [], [] => True
  | v :: vs, x :: xs => VRel γ o w O v x ∧ VRels γ o w O vs xs
  | _, _ => False
end

/-- Blocks of an object. -/
def blocksOf (g : Value) : Ob → Nat → Prop
  | .box _, b => ∃ a, g = .pointer (some a) ∧ a.block = b
  | .row true _ _ _ _, b => g.ownBlock = some b
  | .row false _ _ _ _, _ => False
  | .bld _, b => ∃ a v, g = .tuple #[.pointer (some a), v] ∧ (a.block = b ∨ v.ownBlock = some b)

def OwnedP (γ : Nat → Value) (o : Store) (b : Nat) : Prop := ∃ n ob, objOf o n = some ob ∧ blocksOf (γ n) ob b

/-- Blocks that were there: some may be written; of some nothing may be known. -/
structure Zone where
  own : Nat → Prop
  far : Nat → Prop

def Owned (X : Zone) (γ : Nat → Value) (o : Store) (b : Nat) : Prop := OwnedP γ o b ∨ X.far b

/-- A row that the call owns: of a type of elements below 1000000: as the model's 'append' wants it; else: with a mark behind its last cell. -/
def OwnRow (w : World) (e : Nat) (size : Nat) (v : Value) (n : Nat) (xs : List Value) : Prop :=
  xs.length = n * size ∧ ((v = .slice none 0 0 ∧ n = 0) ∨
    ∃ g cap cur T fr, v = .slice (some ⟨g, 0, none⟩) n cap ∧ w.heap[g]? = some (.cells cur T fr) ∧ n ≤ cap ∧ cap ≤ maxLen ∧ cur.size = cap * size ∧ cur.toList.take (n * size) = xs ∧
      ((e < 1000000 ∧ T = e ∧ fr = (0, 0)) ∨ (1000000 ≤ e ∧ cur.size ≤ fr.1)))

theorem OwnRow.of {w : World} {e size n : Nat} {v : Value} {xs : List Value} (h : w.ownsRow 0 e size v n xs) (he : e < 1000000) : OwnRow w e size v n xs := by
  refine ⟨h.1, ?_⟩
  rcases h.2 with h1 | ⟨g, cap, cur, h1, _, h2, h3, h4, h5, h6⟩
  · exact .inl h1
  · exact .inr ⟨g, cap, cur, e, (0, 0), h1, h2, h3, h4, h5, h6, .inl ⟨he, rfl, rfl⟩⟩

theorem OwnRow.plain {w : World} {e size n : Nat} {v : Value} {xs : List Value} (h : OwnRow w e size v n xs) (he : e < 1000000) : w.ownsRow 0 e size v n xs := by
  refine ⟨h.1, ?_⟩
  rcases h.2 with h1 | ⟨g, cap, cur, T, fr, h1, h2, h3, h4, h5, h6, h7⟩
  · exact .inl h1
  · rcases h7 with ⟨_, rfl, rfl⟩ | ⟨h7, _⟩
    · exact .inr ⟨g, cap, cur, h1, Nat.zero_le _, h2, h3, h4, h5, h6⟩
    · omega

theorem OwnRow.cells {w : World} {e size n : Nat} {v : Value} {xs : List Value} (h : OwnRow w e size v n xs) {b off len cap : Nat} (hv : v = .slice (some ⟨b, off, none⟩) len cap) :
    off = 0 ∧ len = n ∧ b < w.heap.size ∧ ∀ j u, xs[j]? = some u → w.cell? ⟨b, j, none⟩ = some u := by
  rcases h.2 with ⟨h1, _⟩ | ⟨g, cap', cur, T, fr, h1, h2, h3, h4, h5, h6, h7⟩
  · rw [hv] at h1; simp at h1
  · rw [hv] at h1
    simp only [Value.slice.injEq, Option.some.injEq, Addr.mk.injEq, and_true] at h1
    obtain ⟨⟨rfl, rfl⟩, rfl, rfl⟩ := h1
    refine ⟨rfl, rfl, (Array.getElem?_eq_some_iff.1 h2).1, fun j u hu => ?_⟩
    rw [← h6, List.getElem?_take] at hu
    split at hu
    · simp only [World.cell?, h2]
      simpa using hu
    · cases hu

/-- The builder's two types (of this program). -/
structure BT where
  T : Nat
  e : Nat
  pin : Option Value := none
  ng : Nat := 0
  F : (Nat → Option Obj) → Prop := fun _ => True

def BT.base (B : BT) : BT := ⟨B.T, B.e, none, B.ng, B.F⟩

/-- What is known of the package-level variables: of the first blocks. -/
def Glob (B : BT) (w : World) : Prop := B.ng ≤ w.heap.size ∧ B.F (fun b => if b < B.ng then w.heap[b]? else none)

def addrOf : Value → Value
  | .tuple cs => cs.getD 0 undef
  | v => v

/-- Objects. -/
def ObRel (B : BT) (γ : Nat → Value) (o : Store) (w : World) (O : Nat → Prop) (g : Value) : Ob → Prop
  | .box l => ∃ b c T, g = .pointer (some ⟨b, 0, none⟩) ∧ w.heap[b]? = some (.cells c T (0, 0)) ∧ VRels γ o w O l c.toList
  | .row true e ag ks l => 0 < ks.length ∧ l.length ≤ strMax ∧
      ∃ xs, OwnRow w e ks.length g l.length xs ∧ ∀ i y, l[i]? = some y → Kd.RelAll w O ks (cellOf ag y) 0 (fun j u => xs[i * ks.length + j]? = some u)
  | .row false _ ag ks l => 0 < ks.length ∧ Kd.Rel w O (.list ag ks) (.list l) g
  | .bld s => ∃ b v p, g = .tuple #[.pointer (some ⟨b, 0, none⟩), v] ∧ (p = .pointer none ∨ p = .pointer (some ⟨b, 0, none⟩)) ∧
      w.heap[b]? = some (.cells #[p, v] B.T (0, 0)) ∧ w.ownsRowF 0 B.e 1 v s.size (Lib.strCells s) ∧ v.ownBlock ≠ some b ∧ s.size ≤ strMax

/-- A state of the small machine, and a frame and a world of the model's. -/
structure Rel (B : BT) (nt : Nat) (w0 : World) (X : Zone) (γ : Nat → Value) (st : St) (a : Act) (w : World) : Prop where
  sz : a.tmps.size = nt
  df : a.defers = []
  tm : ∀ i, VRel γ st.o w (Owned X γ st.o) (st.get i) (a.tmps.getD i undef)
  ob : ∀ n ob, objOf st.o n = some ob → ObRel B γ st.o w (Owned X γ st.o) (γ n) ob
  lt : ∀ b, OwnedP γ st.o b → b < w.heap.size ∧ (w0.heap.size ≤ b ∨ X.own b)
  dis : ∀ n m ob ob' b, n ≠ m → objOf st.o n = some ob → objOf st.o m = some ob' → blocksOf (γ n) ob b → blocksOf (γ m) ob' b → False
  keep : Keep X.own w0 w
  nr : ∀ b, OwnedP γ st.o b → ¬ X.far b
  fl : ∀ b, X.far b → b < w.heap.size
  pn : ∀ p, B.pin = some p → ∀ ob, objOf st.o 900000 = some ob → addrOf (γ 900000) = p

/-- The variables are nobody's. -/
def GX (B : BT) (w0 : World) (X : Zone) : Prop := Glob B w0 ∧ ∀ b, X.own b → B.ng ≤ b

theorem Glob.keep {B : BT} {O : Nat → Prop} {w w' : World} (h : Glob B w) (hk : Keep O w w') (hO : ∀ b, O b → B.ng ≤ b) : Glob B w' := by
  refine ⟨Nat.le_trans h.1 hk.size, ?_⟩
  have : (fun b => if b < B.ng then w'.heap[b]? else none) = (fun b => if b < B.ng then w.heap[b]? else none) := by
    funext b
    split
    · rename_i hb
      exact hk.block b (Nat.lt_of_lt_of_le hb h.1) (fun h' => by have := hO b h'; omega)
    · rfl
  rw [this]
  exact h.2
theorem Rel.glob {B : BT} {nt : Nat} {w0 : World} {X : Zone} {γ : Nat → Value} {st : St} {a : Act} {w : World} (h : Rel B nt w0 X γ st a w) (g : GX B w0 X) : Glob B w := g.1.keep h.keep g.2
theorem Rel.high {B : BT} {nt : Nat} {w0 : World} {X : Zone} {γ : Nat → Value} {st : St} {a : Act} {w : World} (h : Rel B nt w0 X γ st a w) (g : GX B w0 X) {b : Nat} (hb : OwnedP γ st.o b) : B.ng ≤ b := by
  rcases (h.lt b hb).2 with h1 | h1
  · exact Nat.le_trans g.1.1 h1
  · exact g.2 b h1

theorem Rel.near {B : BT} {nt : Nat} {w0 : World} {X : Zone} {γ : Nat → Value} {st : St} {a : Act} {w : World} (h : Rel B nt w0 X γ st a w) {b : Nat} (hb : OwnedP γ st.o b) : ¬ X.far b := h.nr b hb

/-! ### the same values, in another world -/
mutual
theorem VRel.mono {γ : Nat → Value} {o : Store} {w w' : World} {O O' : Nat → Prop} (hk : Keep O w w') (hO : ∀ b, b < w.heap.size → O' b → O b) :
    ∀ {v : V} {x : Value}, VRel γ o w O v x → VRel γ o w' O' v x
  | .any, _, _ => by simp only [VRel]
  | .int _ _, _, h => by simpa only [VRel] using h
  | .bool _, _, h => by simpa only [VRel] using h
  | .str _, _, h => by simpa only [VRel] using h
  | .list _ _ _, _, h => by simp only [VRel] at h ⊢; exact Kd.Rel.mono hk hO h
  | .zs, _, h => by simpa only [VRel] using h
  | .row _ _ _, _, h => by simpa only [VRel] using h
  | .ptr _ _ _, _, h => by simpa only [VRel] using h
  | .iptr ks f c, x, h => by
    simp only [VRel] at h ⊢
    obtain ⟨b, off, hx, hb, hs, hr⟩ := h
    exact ⟨b, off, hx, fun h' => hb (hO b hs h'), Nat.lt_of_lt_of_le hs hk.size, Kd.RelAll.mono hk hO (fun j u hu => by rw [hk.cell hs hb]; exact hu) hr⟩
  | .bview _ _ _ _ _, _, h => by simpa only [VRel] using h
  | .agg l, x, h => by
    simp only [VRel] at h ⊢
    obtain ⟨cs, hx, hr⟩ := h
    exact ⟨cs, hx, VRels.mono hk hO hr⟩
  | .tup l, x, h => by
    simp only [VRel] at h ⊢
    obtain ⟨cs, hx, hr⟩ := h
    exact ⟨cs, hx, VRels.mono hk hO hr⟩
  | .err _, _, h => by simpa only [VRel] using h
  | .nilp, _, h => by simpa only [VRel] using h
  | .clo _ l, x, h => by
    simp only [VRel] at h ⊢
    obtain ⟨cs, hx, hr⟩ := h
    exact ⟨cs, hx, VRels.mono hk hO hr⟩
  | .bor _, _, h => by simp only [VRel] at h
  | .vec _ _ _ _, _, h => by simp only [VRel] at h
  | .bld _, _, h => by simp only [VRel] at h
theorem VRels.mono {γ : Nat → Value} {o : Store} {w w' : World} {O O' : Nat → Prop} (hk : Keep O w w') (hO : ∀ b, b < w.heap.size → O' b → O b) :
    ∀ {l : List V} {xs : List Value}, VRels γ o w O l xs → VRels γ o w' O' l xs
  | [], [], _ => by simp only [VRels]
  | [], _ :: _, h => by simp only [VRels] at h
  | _ :: _, [], h => by simp only [VRels] at h
  | v :: vs, x :: xs, h => by
    simp only [VRels] at h ⊢
    exact ⟨VRel.mono hk hO h.1, VRels.mono hk hO h.2⟩
end

/-- Objects of one shape: places in the one are places in the other. -/
def Ob.fits : Ob → Ob → Prop
  | .box cs, .box cs' => cs.length = cs'.length
  | .row _ _ _ ks l, .row _ _ _ ks' l' => ks = ks' ∧ l.length = l'.length
  | .bld _, .bld _ => True
  | _, _ => False

/-- What is there behind was there ahead, at its place. -/
def Cmp (γ : Nat → Value) (o : Store) (γ' : Nat → Value) (o' : Store) : Prop :=
  ∀ n ob', objOf o' n = some ob' → γ' n = γ n ∧ ∃ ob, objOf o n = some ob ∧ ob.fits ob'

mutual
theorem VRel.cmp {γ γ' : Nat → Value} {o o' : Store} {w : World} {O : Nat → Prop} (hc : Cmp γ o γ' o') :
    ∀ {v : V} {x : Value}, VRel γ o w O v x → VRel γ' o' w O v x
  | .any, _, _ => by simp only [VRel]
  | .int _ _, _, h => by simpa only [VRel] using h
  | .bool _, _, h => by simpa only [VRel] using h
  | .str _, _, h => by simpa only [VRel] using h
  | .list _ _ _, _, h => by simpa only [VRel] using h
  | .zs, _, h => by simpa only [VRel] using h
  | .row n lo hi, x, h => by
    simp only [VRel] at h ⊢
    cases h' : objOf o' n with
    | none => trivial
    | some ob' =>
      obtain ⟨hg, ob, ho, hf⟩ := hc n ob' h'
      rw [ho] at h
      rw [hg]
      cases ob <;> cases ob' <;> simp only [Ob.fits] at hf <;> try trivial
      obtain ⟨rfl, hl⟩ := hf
      exact ⟨by rw [← hl]; exact h.1, h.2⟩
  | .ptr n i c, x, h => by
    simp only [VRel] at h ⊢
    cases h' : objOf o' n with
    | none => trivial
    | some ob' =>
      obtain ⟨hg, ob, ho, hf⟩ := hc n ob' h'
      rw [ho] at h
      rw [hg]
      cases ob <;> cases ob' <;> simp only [Ob.fits] at hf
      · exact h
      · obtain ⟨rfl, hl⟩ := hf
        exact ⟨by rw [← hl]; exact h.1, h.2⟩
      · exact h
  | .iptr _ _ _, _, h => by simpa only [VRel] using h
  | .bview n c cap sz len, x, h => by
    simp only [VRel] at h ⊢
    cases h' : objOf o' n with
    | none => trivial
    | some ob' =>
      obtain ⟨hg, ob, ho, hf⟩ := hc n ob' h'
      rw [ho] at h
      rw [hg]
      cases ob <;> cases ob' <;> simp only [Ob.fits] at hf <;> try trivial
      exact ⟨h.1, h.2.1, by rw [← hf]; exact h.2.2.1, h.2.2.2⟩
  | .agg l, x, h => by
    simp only [VRel] at h ⊢
    obtain ⟨cs, hx, hr⟩ := h
    exact ⟨cs, hx, VRels.cmp hc hr⟩
  | .tup l, x, h => by
    simp only [VRel] at h ⊢
    obtain ⟨cs, hx, hr⟩ := h
    exact ⟨cs, hx, VRels.cmp hc hr⟩
  | .err _, _, h => by simpa only [VRel] using h
  | .nilp, _, h => by simpa only [VRel] using h
  | .clo _ l, x, h => by
    simp only [VRel] at h ⊢
    obtain ⟨cs, hx, hr⟩ := h
    exact ⟨cs, hx, VRels.cmp hc hr⟩
  | .bor _, _, h => by simp only [VRel] at h
  | .vec _ _ _ _, _, h => by simp only [VRel] at h
  | .bld _, _, h => by simp only [VRel] at h
theorem VRels.cmp {γ γ' : Nat → Value} {o o' : Store} {w : World} {O : Nat → Prop} (hc : Cmp γ o γ' o') :
    ∀ {l : List V} {xs : List Value}, VRels γ o w O l xs → VRels γ' o' w O l xs
  | [], [], _ => by simp only [VRels]
  | [], _ :: _, h => by simp only [VRels] at h
  | _ :: _, [], h => by simp only [VRels] at h
  | v :: vs, x :: xs, h => by
    simp only [VRels] at h ⊢
    exact ⟨VRel.cmp hc h.1, VRels.cmp hc h.2⟩
end

/-- A name that is taken anew: nothing else speaks of it. -/
def CmpBut (m : Nat) (γ : Nat → Value) (o : Store) (γ' : Nat → Value) (o' : Store) : Prop :=
  ∀ n ob', n ≠ m → objOf o' n = some ob' → γ' n = γ n ∧ ∃ ob, objOf o n = some ob ∧ ob.fits ob'

theorem beq_eq' {a b : Nat} : Nat.beq a b = true ↔ a = b := ⟨Nat.eq_of_beq_eq_true, fun h => by subst h; exact Nat.beq_refl a⟩
theorem beq_ne' {a b : Nat} : Nat.beq a b = false ↔ a ≠ b := by
  constructor
  · intro h e; rw [beq_eq'.2 e] at h; cases h
  · intro h; cases hb : Nat.beq a b with
    | false => rfl
    | true => exact absurd (beq_eq'.1 hb) h

section
variable {γ γ' : Nat → Value} {o o' : Store} {w : World} {O : Nat → Prop} {m : Nat}

theorem row_but (hc : CmpBut m γ o γ' o') {n lo hi : Nat} {x : Value} (hn : n ≠ m) (h : VRel γ o w O (.row n lo hi) x) : VRel γ' o' w O (.row n lo hi) x := by
  simp only [VRel] at h ⊢
  cases h' : objOf o' n with
  | none => trivial
  | some ob' =>
    obtain ⟨hg, ob, ho, hf⟩ := hc n ob' hn h'
    rw [ho] at h
    rw [hg]
    cases ob <;> cases ob' <;> simp only [Ob.fits] at hf <;> try trivial
    obtain ⟨rfl, hl⟩ := hf
    exact ⟨by rw [← hl]; exact h.1, h.2⟩

theorem ptr_but (hc : CmpBut m γ o γ' o') {n i c : Nat} {x : Value} (hn : n ≠ m) (h : VRel γ o w O (.ptr n i c) x) : VRel γ' o' w O (.ptr n i c) x := by
  simp only [VRel] at h ⊢
  cases h' : objOf o' n with
  | none => trivial
  | some ob' =>
    obtain ⟨hg, ob, ho, hf⟩ := hc n ob' hn h'
    rw [ho] at h
    rw [hg]
    cases ob <;> cases ob' <;> simp only [Ob.fits] at hf
    · exact h
    · obtain ⟨rfl, hl⟩ := hf
      exact ⟨by rw [← hl]; exact h.1, h.2⟩
    · exact h

theorem bview_but (hc : CmpBut m γ o γ' o') {n c cap sz len : Nat} {x : Value} (hn : n ≠ m) (h : VRel γ o w O (.bview n c cap sz len) x) : VRel γ' o' w O (.bview n c cap sz len) x := by
  simp only [VRel] at h ⊢
  cases h' : objOf o' n with
  | none => trivial
  | some ob' =>
    obtain ⟨hg, ob, ho, hf⟩ := hc n ob' hn h'
    rw [ho] at h
    rw [hg]
    cases ob <;> cases ob' <;> simp only [Ob.fits] at hf <;> try trivial
    exact ⟨h.1, h.2.1, by rw [← hf]; exact h.2.2.1, h.2.2.2⟩

theorem scrubLeaf_rel (hc : CmpBut m γ o γ' o') {v : V} {x : Value} (h : VRel γ o w O v x) : VRel γ' o' w O (scrubV.leaf m v) x := by
  cases v <;> simp only [scrubV.leaf]
  case row n lo hi =>
    cases hb : Nat.beq n m with
    | true => simp only [VRel]
    | false => exact row_but hc (beq_ne'.1 hb) h
  case ptr n i c =>
    cases hb : Nat.beq n m with
    | true => simp only [VRel]
    | false => exact ptr_but hc (beq_ne'.1 hb) h
  all_goals first
    | (simp only [VRel] at h ⊢; exact h)
    | simp only [VRel]

theorem scrubLeaves_rel (hc : CmpBut m γ o γ' o') : ∀ {l : List V} {xs : List Value}, VRels γ o w O l xs → VRels γ' o' w O (l.map (scrubV.leaf m)) xs
  | [], [], _ => by simp only [List.map_nil, VRels]
  | [], _ :: _, h => by simp only [VRels] at h
  | _ :: _, [], h => by simp only [VRels] at h
  | v :: vs, x :: xs, h => by
    simp only [VRels, List.map_cons] at h ⊢
    exact ⟨scrubLeaf_rel hc h.1, scrubLeaves_rel hc h.2⟩

theorem scrubLeaf2_rel (hc : CmpBut m γ o γ' o') {v : V} {x : Value} (h : VRel γ o w O v x) : VRel γ' o' w O (scrubV.leaf2 m v) x := by
  cases v <;> simp only [scrubV.leaf2] <;> try exact scrubLeaf_rel hc h
  simp only [VRel] at h ⊢
  obtain ⟨cs, hx, hr⟩ := h
  exact ⟨cs, hx, scrubLeaves_rel hc hr⟩

theorem scrubLeaves2_rel (hc : CmpBut m γ o γ' o') : ∀ {l : List V} {xs : List Value}, VRels γ o w O l xs → VRels γ' o' w O (l.map (scrubV.leaf2 m)) xs
  | [], [], _ => by simp only [List.map_nil, VRels]
  | [], _ :: _, h => by simp only [VRels] at h
  | _ :: _, [], h => by simp only [VRels] at h
  | v :: vs, x :: xs, h => by
    simp only [VRels, List.map_cons] at h ⊢
    exact ⟨scrubLeaf2_rel hc h.1, scrubLeaves2_rel hc h.2⟩

theorem scrub_rel (hc : CmpBut m γ o γ' o') {v : V} {x : Value} (h : VRel γ o w O v x) : VRel γ' o' w O (scrubV m v) x := by
  cases v <;> simp only [scrubV]
  case row n lo hi =>
    cases hb : Nat.beq n m with
    | true => simp only [VRel]
    | false => exact row_but hc (beq_ne'.1 hb) h
  case ptr n i c =>
    cases hb : Nat.beq n m with
    | true => simp only [VRel]
    | false => exact ptr_but hc (beq_ne'.1 hb) h
  case bview n c cap sz len =>
    cases hb : Nat.beq n m with
    | true => simp only [VRel]
    | false => exact bview_but hc (beq_ne'.1 hb) h
  case agg l =>
    simp only [VRel] at h ⊢
    obtain ⟨cs, hx, hr⟩ := h
    exact ⟨cs, hx, scrubLeaves_rel hc hr⟩
  case tup l =>
    simp only [VRel] at h ⊢
    obtain ⟨cs, hx, hr⟩ := h
    exact ⟨cs, hx, scrubLeaves2_rel hc hr⟩
  case clo f l =>
    simp only [VRel] at h ⊢
    obtain ⟨cs, hx, hr⟩ := h
    exact ⟨cs, hx, scrubLeaves_rel hc hr⟩
  all_goals (simp only [VRel] at h ⊢; try exact h)

theorem scrubs_rel (hc : CmpBut m γ o γ' o') : ∀ {l : List V} {xs : List Value}, VRels γ o w O l xs → VRels γ' o' w O (l.map (scrubV m)) xs
  | [], [], _ => by simp only [List.map_nil, VRels]
  | [], _ :: _, h => by simp only [VRels] at h
  | _ :: _, [], h => by simp only [VRels] at h
  | v :: vs, x :: xs, h => by
    simp only [VRels, List.map_cons] at h ⊢
    exact ⟨scrub_rel hc h.1, scrubs_rel hc h.2⟩
end

end Go.FM

/-
  THE SMALL MACHINE (4): steps of a state beside steps of a frame and a world.
-/
namespace Go.FM
open Go Go.RowKit

theorem objOf_cons (n m : Nat) (x : Option Ob) (o : Store) : objOf ((n, x) :: o) m = if n = m then x else objOf o m := by
  unfold objOf
  simp only [lkd]
  cases hb : Nat.beq n m with
  | true => rw [if_pos (beq_eq'.1 hb)]
  | false => rw [if_neg (beq_ne'.1 hb)]

theorem lkd_cons {α : Type} (d : α) (n m : Nat) (x : α) (o : List (Nat × α)) : lkd d ((n, x) :: o) m = if n = m then x else lkd d o m := by
  simp only [lkd]
  cases hb : Nat.beq n m with
  | true => rw [if_pos (beq_eq'.1 hb)]
  | false => rw [if_neg (beq_ne'.1 hb)]

theorem lkd_mapSnd {α : Type} (f : α → α) (d : α) (hd : f d = d) : ∀ (l : List (Nat × α)) (i : Nat), lkd d (mapSnd f l) i = f (lkd d l i)
  | [], _ => by simp [mapSnd, lkd, hd]
  | (j, x) :: r, i => by
    simp only [mapSnd, lkd_cons, lkd_mapSnd f d hd r i]
    split <;> rfl

theorem get_up_new (s : St) (n : Nat) (ob : Ob) (i : Nat) : (s.up (.new n ob)).get i = scrubV n (s.get i) := by
  simp only [St.up, St.get]
  exact lkd_mapSnd _ _ rfl _ _

theorem objOf_up_new (s : St) (n : Nat) (ob : Ob) (m : Nat) : objOf (s.up (.new n ob)).o m = if n = m then some ob else scrubO n (objOf s.o m) := by
  simp only [St.up, objOf_cons]
  split
  · rfl
  · unfold objOf
    exact lkd_mapSnd _ _ rfl _ _

theorem scrubO_some {n : Nat} {x : Option Ob} {ob : Ob} (h : scrubO n x = some ob) : ∃ ob0, x = some ob0 ∧ scrubO n (some ob0) = some ob := by
  cases x with
  | none => simp [scrubO] at h
  | some ob0 => exact ⟨ob0, rfl, h⟩

theorem scrubO_fits {n : Nat} {ob0 ob : Ob} (h : scrubO n (some ob0) = some ob) : ob0.fits ob ∧ ∀ g b, blocksOf g ob b ↔ blocksOf g ob0 b := by
  cases ob0 <;> simp only [scrubO, Option.some.injEq] at h <;> subst h
  · exact ⟨by simp [Ob.fits], fun _ _ => Iff.rfl⟩
  · exact ⟨⟨rfl, rfl⟩, fun _ _ => Iff.rfl⟩
  · exact ⟨trivial, fun _ _ => Iff.rfl⟩

theorem Ob.fits_refl (ob : Ob) : ob.fits ob := by cases ob <;> simp [Ob.fits]

section
variable {B : BT} {γ γ' : Nat → Value} {o o' : Store} {w w' : World} {O O' : Nat → Prop} {g : Value} {ob : Ob}

/-- A row that is owned, in a world in which its block is as it was. -/
theorem ownsRow_of_block {e size : Nat} {v : Value} {n : Nat} {xs : List Value} (h : OwnRow w e size v n xs) (hb : ∀ b, v.ownBlock = some b → w'.heap[b]? = w.heap[b]?) : OwnRow w' e size v n xs := by
  refine ⟨h.1, ?_⟩
  rcases h.2 with hn | ⟨g, cap, cur, T, fr, rfl, h2, rest⟩
  · exact .inl hn
  · exact .inr ⟨g, cap, cur, T, fr, rfl, by rw [hb g rfl]; exact h2, rest⟩

theorem ownsRowF_of_block {e size : Nat} {v : Value} {n : Nat} {xs : List Value} (h : w.ownsRowF 0 e size v n xs) (hb : ∀ b, v.ownBlock = some b → w'.heap[b]? = w.heap[b]?) : w'.ownsRowF 0 e size v n xs := by
  refine ⟨h.1, ?_⟩
  rcases h.2 with hn | ⟨g, cap, cur, fz, rfl, h1, h2, rest⟩
  · exact .inl hn
  · exact .inr ⟨g, cap, cur, fz, rfl, h1, by rw [hb g rfl]; exact h2, rest⟩

/-- An object in a later world, whose blocks are as they were. -/
theorem ObRel.later (h : ObRel B γ o w O g ob) (hb : ∀ b, blocksOf g ob b → w'.heap[b]? = w.heap[b]?) (hk : Keep O w w') (hO : ∀ b, b < w.heap.size → O' b → O b)
    (hc : Cmp γ o γ' o') : ObRel B γ' o' w' O' g ob := by
  cases ob with
  | box l =>
    simp only [ObRel] at h ⊢
    obtain ⟨b, c, T, rfl, hh, hr⟩ := h
    exact ⟨b, c, T, rfl, by rw [hb b ⟨_, rfl, rfl⟩]; exact hh, VRels.mono hk hO (VRels.cmp hc hr)⟩
  | row own e ag ks l =>
    cases own with
    | true =>
      simp only [ObRel] at h ⊢
      obtain ⟨h1, h2, xs, hx, hr⟩ := h
      exact ⟨h1, h2, xs, ownsRow_of_block hx hb, fun i y hy => Kd.RelAll.mono hk hO (fun _ _ hu => hu) (hr i y hy)⟩
    | false =>
      simp only [ObRel] at h ⊢
      exact ⟨h.1, Kd.Rel.mono hk hO h.2⟩
  | bld s =>
    simp only [ObRel] at h ⊢
    obtain ⟨b, v, p, rfl, hp, h1, h2, h3⟩ := h
    exact ⟨b, v, p, rfl, hp, by rw [hb b ⟨_, _, rfl, .inl rfl⟩]; exact h1, ownsRowF_of_block h2 (fun b' hb' => hb b' ⟨_, _, rfl, .inr hb'⟩), h3⟩

theorem Cmp.refl (γ : Nat → Value) (o : Store) : Cmp γ o γ o := fun _ ob' h => ⟨rfl, ob', h, ob'.fits_refl⟩
end

section
variable {B : BT} {nt : Nat} {w0 : World} {X : Zone} {γ : Nat → Value} {st : St} {a : Act} {w : World}

theorem Rel.put (h : Rel B nt w0 X γ st a w) {E : Env} (hE : E.nt = nt) {d : Option Nat} (hd : okDst E d = true) {v : V} {x : Value} (hv : VRel γ st.o w (Owned X γ st.o) v x) :
    Rel B nt w0 X γ (st.put d v) (a.put d x) w := by
  cases d with
  | none => exact h
  | some d =>
    have hlt : d < nt := by
      simp only [okDst] at hd
      rw [← hE]
      exact Nat.le_of_ble_eq_true hd
    refine ⟨by simp [Act.put, h.sz], h.df, fun i => ?_, h.ob, h.lt, h.dis, h.keep, h.nr, h.fl, h.pn⟩
    simp only [St.put, St.get, lkd_cons, Act.put]
    by_cases hi : d = i
    · subst hi
      rw [if_pos rfl]
      have : (a.tmps.setIfInBounds d x).getD d undef = x := by simp [Array.getD, h.sz, hlt]
      rw [this]
      exact hv
    · rw [if_neg hi]
      have : (a.tmps.setIfInBounds d x).getD i undef = a.tmps.getD i undef := by
        simp only [Array.getD_eq_getD_getElem?]
        rw [Array.getElem?_setIfInBounds_ne hi]
      rw [this]
      exact h.tm i

/-- The world goes on, nothing that was there turns. -/
theorem Rel.world (h : Rel B nt w0 X γ st a w) {w' : World} (hk : Keep (fun _ => False) w w') : Rel B nt w0 X γ st a w' := by
  have hk' : Keep (Owned X γ st.o) w w' := hk.mono (fun _ _ h => h.elim)
  refine ⟨h.sz, h.df, fun i => VRel.mono hk' (fun _ _ h => h) (h.tm i), fun n ob hn => ?_, fun b hb => ?_, h.dis, h.keep.trans hk (fun _ _ h => h.elim), h.nr, fun b hb => Nat.lt_of_lt_of_le (h.fl b hb) hk.size, h.pn⟩
  · exact (h.ob n ob hn).later (fun b hb => hk.block b (h.lt b ⟨n, ob, hn, hb⟩).1 (fun h => h)) hk' (fun _ _ h => h) (Cmp.refl _ _)
  · exact ⟨Nat.lt_of_lt_of_le (h.lt b hb).1 hk.size, (h.lt b hb).2⟩

/-- An object is written: its blocks alone turn. -/
theorem Rel.set (h : Rel B nt w0 X γ st a w) {n : Nat} {ob ob' : Ob} (ho : objOf st.o n = some ob) (hf : ob.fits ob') {w' : World} (hk : Keep (blocksOf (γ n) ob) w w')
    (hb : ∀ b, blocksOf (γ n) ob' b → blocksOf (γ n) ob b)
    (hr : (∀ b, Owned X γ ((n, some ob') :: st.o) b → Owned X γ st.o b) → Cmp γ st.o γ ((n, some ob') :: st.o) → ObRel B γ ((n, some ob') :: st.o) w' (Owned X γ ((n, some ob') :: st.o)) (γ n) ob') :
    Rel B nt w0 X γ (st.up (.set n ob')) a w' := by
  have hownP : ∀ b, OwnedP γ ((n, some ob') :: st.o) b → OwnedP γ st.o b := by
    rintro b ⟨m, ob1, hm, hb1⟩
    rw [objOf_cons] at hm
    split at hm
    · rename_i e
      subst e
      simp only [Option.some.injEq] at hm
      subst hm
      exact ⟨n, ob, ho, hb b hb1⟩
    · exact ⟨m, ob1, hm, hb1⟩
  have hown : ∀ b, Owned X γ ((n, some ob') :: st.o) b → Owned X γ st.o b := fun b hb => hb.imp_left (hownP b)
  have hkP : Keep (OwnedP γ st.o) w w' := hk.mono (fun b _ hb => ⟨n, ob, ho, hb⟩)
  have hk' : Keep (Owned X γ st.o) w w' := hkP.mono (fun b _ hb => .inl hb)
  have hcmp : Cmp γ st.o γ ((n, some ob') :: st.o) := by
    intro m ob1 hm
    rw [objOf_cons] at hm
    split at hm
    · rename_i e
      subst e
      simp only [Option.some.injEq] at hm
      subst hm
      exact ⟨rfl, ob, ho, hf⟩
    · exact ⟨rfl, ob1, hm, ob1.fits_refl⟩
  refine ⟨h.sz, h.df, fun i => ?_, fun m ob1 hm => ?_, fun b hb1 => ?_, ?_, ?_, fun b hb => h.nr b (hownP b hb), fun b hb => Nat.lt_of_lt_of_le (h.fl b hb) hk.size, fun p hp ob1 h1 => ?_⟩
  case refine_6 =>
    simp only [St.up] at h1
    rw [objOf_cons] at h1
    split at h1
    · rename_i e
      subst e
      exact h.pn p hp ob ho
    · exact h.pn p hp ob1 h1
  · exact VRel.mono hk' (fun b _ hb => hown b hb) (VRel.cmp hcmp (h.tm i))
  · simp only [St.up] at hm ⊢
    rw [objOf_cons] at hm
    split at hm
    · rename_i e
      subst e
      simp only [Option.some.injEq] at hm
      subst hm
      exact hr hown hcmp
    · rename_i e
      refine (h.ob m ob1 hm).later (fun b hb1 => ?_) hk' (fun b _ hb => hown b hb) hcmp
      exact hk.block b (h.lt b ⟨m, ob1, hm, hb1⟩).1 (fun hb2 => h.dis n m ob ob1 b e ho hm hb2 hb1)
  · exact ⟨Nat.lt_of_lt_of_le (h.lt b (hownP b hb1)).1 hk.size, (h.lt b (hownP b hb1)).2⟩
  · intro m1 m2 ob1 ob2 b hne h1 h2 hb1 hb2
    simp only [St.up] at h1 h2
    rw [objOf_cons] at h1 h2
    split at h1
    · rename_i e1
      subst e1
      simp only [Option.some.injEq] at h1
      subst h1
      rw [if_neg hne] at h2
      exact h.dis n m2 ob ob2 b hne ho h2 (hb b hb1) hb2
    · split at h2
      · rename_i e1 e2
        subst e2
        simp only [Option.some.injEq] at h2
        subst h2
        exact h.dis m1 n ob1 ob b hne h1 ho hb1 (hb b hb2)
      · exact h.dis m1 m2 ob1 ob2 b hne h1 h2 hb1 hb2
  · refine h.keep.trans hkP (fun b hb h1 => ?_)
    rcases (h.lt b h1).2 with h2 | h2
    · omega
    · exact h2

/-- Blocks of the objects of some names. -/
def BlocksAt (γ : Nat → Value) (o : Store) (ks : List Nat) (b : Nat) : Prop := ∃ n ∈ ks, ∃ ob, objOf o n = some ob ∧ blocksOf (γ n) ob b

def kills (o : Store) : List Nat → Store
  | [] => o
  | n :: r => kills ((n, none) :: o) r

theorem objOf_kills : ∀ (ks : List Nat) (o : Store) (m : Nat), objOf (kills o ks) m = if m ∈ ks then none else objOf o m
  | [], o, m => by simp [kills]
  | n :: r, o, m => by
    simp only [kills, objOf_kills r, objOf_cons, List.mem_cons]
    by_cases h1 : m ∈ r
    · simp [h1]
    · by_cases h2 : n = m
      · simp [h2]
      · have h3 : ¬ m = n := fun e => h2 e.symm
        simp [h1, h2, h3]

/-- Some objects are given up, and a new one takes its name: its blocks are new, or the given up ones'. -/
theorem Rel.new (h : Rel B nt w0 X γ st a w) (ks : List Nat) (d : Nat) (hd9 : d ≠ 900000) (ob' : Ob) (g : Value) {w' : World} (hk : Keep (BlocksAt γ st.o ks) w w')
    (hb : ∀ b, blocksOf g ob' b → b < w'.heap.size ∧ (w.heap.size ≤ b ∨ BlocksAt γ st.o ks b))
    (hr : ∀ O' : Nat → Prop, (∀ b, b < w.heap.size → O' b → Owned X γ st.o b) → CmpBut d γ st.o (fun n => if d = n then g else γ n) (St.up ⟨st.t, kills st.o ks⟩ (.new d ob')).o →
      ObRel B (fun n => if d = n then g else γ n) (St.up ⟨st.t, kills st.o ks⟩ (.new d ob')).o w' O' g ob') :
    Rel B nt w0 X (fun n => if d = n then g else γ n) (St.up ⟨st.t, kills st.o ks⟩ (.new d ob')) a w' := by
  have hownP : ∀ b, b < w.heap.size → OwnedP (fun n => if d = n then g else γ n) (St.up ⟨st.t, kills st.o ks⟩ (.new d ob')).o b → OwnedP γ st.o b := by
    rintro b hlt ⟨m, ob1, hm, hb1⟩
    rw [objOf_up_new] at hm
    split at hm
    · rename_i e
      subst e
      simp only [Option.some.injEq] at hm
      subst hm
      simp only [if_true] at hb1
      rcases (hb b hb1).2 with h1 | ⟨n, _, ob, ho, hbn⟩
      · omega
      · exact ⟨n, ob, ho, hbn⟩
    · rename_i e
      obtain ⟨ob0, h0, hs⟩ := scrubO_some hm
      simp only [if_neg e] at hb1
      rw [objOf_kills] at h0
      split at h0
      · cases h0
      · exact ⟨m, ob0, h0, ((scrubO_fits hs).2 _ _).1 hb1⟩
  have hown : ∀ b, b < w.heap.size → Owned X (fun n => if d = n then g else γ n) (St.up ⟨st.t, kills st.o ks⟩ (.new d ob')).o b → Owned X γ st.o b := fun b hb h1 => h1.imp_left (hownP b hb)
  have hkP : Keep (OwnedP γ st.o) w w' := hk.mono (fun b _ ⟨n, _, ob, ho, hbn⟩ => ⟨n, ob, ho, hbn⟩)
  have hk' : Keep (Owned X γ st.o) w w' := hkP.mono (fun b _ hb => .inl hb)
  have hcmp : CmpBut d γ st.o (fun n => if d = n then g else γ n) (St.up ⟨st.t, kills st.o ks⟩ (.new d ob')).o := by
    intro m ob1 hmd hm
    rw [objOf_up_new, if_neg (fun e => hmd e.symm)] at hm
    obtain ⟨ob0, h0, hs⟩ := scrubO_some hm
    rw [objOf_kills] at h0
    split at h0
    · cases h0
    · exact ⟨if_neg (fun e => hmd e.symm), ob0, h0, (scrubO_fits hs).1⟩
  have hnr : ∀ b, OwnedP (fun n => if d = n then g else γ n) (St.up ⟨st.t, kills st.o ks⟩ (.new d ob')).o b → ¬ X.far b := fun b hb1 hf => h.nr b (hownP b (h.fl b hf) hb1) hf
  refine ⟨h.sz, h.df, fun i => ?_, fun m ob1 hm => ?_, ?_, ?_, ?_, hnr, fun b hb => Nat.lt_of_lt_of_le (h.fl b hb) hk.size, fun p hp ob1 h1 => ?_⟩
  case refine_6 =>
    rw [objOf_up_new, if_neg hd9] at h1
    obtain ⟨ob0, h0, _⟩ := scrubO_some h1
    rw [objOf_kills] at h0
    split at h0
    · cases h0
    · simp only [if_neg hd9]
      exact h.pn p hp ob0 h0
  · rw [get_up_new]
    exact VRel.mono hk' hown (scrub_rel hcmp (h.tm i))
  · by_cases e : d = m
    · subst e
      rw [objOf_up_new, if_pos rfl, Option.some.injEq] at hm
      subst hm
      simp only [if_true]
      exact hr _ hown hcmp
    · rw [objOf_up_new, if_neg e] at hm
      obtain ⟨ob0, h0, hs⟩ := scrubO_some hm
      rw [objOf_kills] at h0
      split at h0
      · cases h0
      rename_i hnk
      simp only [if_neg e]
      have hbl : ∀ b, blocksOf (γ m) ob0 b → w'.heap[b]? = w.heap[b]? := fun b hb1 =>
        hk.block b (h.lt b ⟨m, ob0, h0, hb1⟩).1 (fun ⟨n, hn, ob, ho, hbn⟩ => by
          by_cases hnm : n = m
          · subst hnm; exact hnk hn
          · exact h.dis n m ob ob0 b hnm ho h0 hbn hb1)
      have hor := h.ob m ob0 h0
      cases ob0 with
      | box l =>
        simp only [scrubO, Option.some.injEq] at hs
        subst hs
        simp only [ObRel] at hor ⊢
        obtain ⟨b, c, T, hg, hh, hr1⟩ := hor
        exact ⟨b, c, T, hg, by rw [hbl b ⟨_, hg, rfl⟩]; exact hh, VRels.mono hk' hown (scrubs_rel hcmp hr1)⟩
      | row own e' ag ks' l =>
        simp only [scrubO, Option.some.injEq] at hs
        subst hs
        cases own with
        | true =>
          simp only [ObRel] at hor ⊢
          obtain ⟨h1, h2, xs, hx, hr1⟩ := hor
          exact ⟨h1, h2, xs, ownsRow_of_block hx hbl, fun i y hy => Kd.RelAll.mono hk' hown (fun _ _ hu => hu) (hr1 i y hy)⟩
        | false =>
          simp only [ObRel] at hor ⊢
          exact ⟨hor.1, Kd.Rel.mono hk' hown hor.2⟩
      | bld s =>
        simp only [scrubO, Option.some.injEq] at hs
        subst hs
        simp only [ObRel] at hor ⊢
        obtain ⟨b, v, p, hg, hp, h1, h2, h3⟩ := hor
        exact ⟨b, v, p, hg, hp, by rw [hbl b ⟨_, _, hg, .inl rfl⟩]; exact h1, ownsRowF_of_block h2 (fun b' hb' => hbl b' ⟨_, _, hg, .inr hb'⟩), h3⟩
  · rintro b ⟨m, ob1, hm, hb1⟩
    by_cases e : d = m
    · subst e
      rw [objOf_up_new, if_pos rfl, Option.some.injEq] at hm
      subst hm
      simp only [if_true] at hb1
      refine ⟨(hb b hb1).1, ?_⟩
      rcases (hb b hb1).2 with h1 | ⟨n, _, ob, ho, hbn⟩
      · exact .inl (Nat.le_trans h.keep.size h1)
      · exact (h.lt b ⟨n, ob, ho, hbn⟩).2
    · rw [objOf_up_new, if_neg e] at hm
      obtain ⟨ob0, h0, hs⟩ := scrubO_some hm
      rw [objOf_kills] at h0
      split at h0
      · cases h0
      simp only [if_neg e] at hb1
      have := h.lt b ⟨m, ob0, h0, ((scrubO_fits hs).2 _ _).1 hb1⟩
      exact ⟨Nat.lt_of_lt_of_le this.1 hk.size, this.2⟩
  · intro m1 m2 ob1 ob2 b hne h1 h2 hb1 hb2
    have key : ∀ m ob1, objOf (St.up ⟨st.t, kills st.o ks⟩ (.new d ob')).o m = some ob1 → d ≠ m → blocksOf (if d = m then g else γ m) ob1 b → m ∉ ks ∧ ∃ ob0, objOf st.o m = some ob0 ∧ blocksOf (γ m) ob0 b := by
      intro m ob1 hm e hb1
      rw [objOf_up_new, if_neg e] at hm
      obtain ⟨ob0, h0, hs⟩ := scrubO_some hm
      rw [objOf_kills] at h0
      split at h0
      · cases h0
      rename_i hnk
      rw [if_neg e] at hb1
      exact ⟨hnk, ob0, h0, ((scrubO_fits hs).2 _ _).1 hb1⟩
    by_cases e1 : d = m1
    · have e2 : d ≠ m2 := fun e => hne (e1.symm.trans e)
      obtain ⟨hk2, ob0, h0, hb0⟩ := key m2 ob2 h2 e2 hb2
      subst e1
      rw [objOf_up_new, if_pos rfl, Option.some.injEq] at h1
      subst h1
      simp only [if_true] at hb1
      rcases (hb b hb1).2 with h3 | ⟨n, hn, ob, ho, hbn⟩
      · have := (h.lt b ⟨m2, ob0, h0, hb0⟩).1
        omega
      · by_cases hnm : n = m2
        · subst hnm; exact hk2 hn
        · exact h.dis n m2 ob ob0 b hnm ho h0 hbn hb0
    · obtain ⟨hk1, ob01, h01, hb01⟩ := key m1 ob1 h1 e1 hb1
      by_cases e2 : d = m2
      · subst e2
        rw [objOf_up_new, if_pos rfl, Option.some.injEq] at h2
        subst h2
        simp only [if_true] at hb2
        rcases (hb b hb2).2 with h3 | ⟨n, hn, ob, ho, hbn⟩
        · have := (h.lt b ⟨m1, ob01, h01, hb01⟩).1
          omega
        · by_cases hnm : n = m1
          · subst hnm; exact hk1 hn
          · exact h.dis n m1 ob ob01 b hnm ho h01 hbn hb01
      · obtain ⟨_, ob02, h02, hb02⟩ := key m2 ob2 h2 e2 hb2
        exact h.dis m1 m2 ob01 ob02 b hne h01 h02 hb01 hb02
  · refine h.keep.trans hkP (fun b hb h1 => ?_)
    rcases (h.lt b h1).2 with h2 | h2
    · omega
    · exact h2

end
end Go.FM

/-
  THE SMALL MACHINE (5): operations that compute, one by one.
-/
namespace Go.FM
open Go Go.RowKit

/-- What a row of the type table promises. -/
structure TISnd (P : Program) (B : BT) (t : Nat) (x : TI) : Prop where
  info : ∃ i z, P.info? t = some i ∧ i.size = x.size ∧ i.bytes = x.bytes ∧ i.zero = some z ∧ z.cells.size = x.size ∧ ∀ γ o w O, VRels γ o w O x.zero z.cells.toList
  ks : x.ks.length = x.size
  by1 : 1 ≤ x.bytes
  one : x.agg = false → x.size = 1
  und : ∃ d, P.underlying t = some d ∧ d.isRow = x.agg ∧ match x.d with
    | .slice e => d = .slice e
    | .struct fs => ∃ fields, d = .struct fields ∧ fs = fields.toList.map (fun f => (f.offset, f.type)) ∧ ∀ f ∈ fields.toList, (P.info? f.type).isSome = true
    | .array n e => d = .array n e
    | .ptr e => d = .pointer e
    | .bld => t = B.T
    | .iface => ∃ ms, d = .interface ms
    | .leaf => (∀ k, x.ks = [.int k] → d = .int k) ∧ (x.ks = [.str] → d = .string) ∧ (x.ks = [.bool] → d = .bool)

def TiOK (P : Program) (B : BT) (E : Env) : Prop := ∀ t x, lk E.ti t = some x → TISnd P B t x

theorem lkd_lk {α : Type} (d : α) : ∀ (l : List (Nat × α)) (i : Nat), lkd d l i = (lk l i).getD d
  | [], _ => rfl
  | (j, x) :: r, i => by
    simp only [lkd, lk]
    cases Nat.beq j i with
    | true => rfl
    | false => exact lkd_lk d r i

section
variable {P : Program} {B : BT} {E : Env}

theorem TiOK.size (h : TiOK P B E) {t : Nat} (hs : 0 < (E.tyd t).size) : TISnd P B t (E.tyd t) := by
  unfold Env.tyd at hs ⊢
  rw [lkd_lk] at hs ⊢
  cases hl : lk E.ti t with
  | none => rw [hl] at hs; simp [TI.none] at hs
  | some x => exact h t x hl

theorem TiOK.desc (h : TiOK P B E) {t : Nat} (hs : (E.tyd t).d ≠ .leaf) : TISnd P B t (E.tyd t) := by
  unfold Env.tyd at hs ⊢
  rw [lkd_lk] at hs ⊢
  cases hl : lk E.ti t with
  | none => rw [hl] at hs; simp [TI.none] at hs
  | some x => exact h t x hl

theorem TiOK.kinds (h : TiOK P B E) {t : Nat} (hs : (E.tyd t).ks ≠ []) : TISnd P B t (E.tyd t) := by
  unfold Env.tyd at hs ⊢
  rw [lkd_lk] at hs ⊢
  cases hl : lk E.ti t with
  | none => rw [hl] at hs; simp [TI.none] at hs
  | some x => exact h t x hl
end

theorem intOK_iff {k : IntKind} {n : Int} : intOK k n = true ↔ k.min ≤ n ∧ n ≤ k.max := by simp [intOK]

theorem constV_rel (γ : Nat → Value) (o : Store) (w : World) (O : Nat → Prop) (v : Value) : VRel γ o w O (constV v) v := by
  unfold constV
  split
  · rename_i k n
    cases h : intOK k n with
    | true => simp only [VRel]; exact ⟨trivial, intOK_iff.1 h⟩
    | false => simp only [VRel]
  · simp only [VRel]
  · rename_i s
    cases h : Nat.ble s.size 140737488355327 with
    | true => simp only [VRel]; exact ⟨trivial, Nat.le_of_ble_eq_true h⟩
    | false => simp only [VRel]
  · simp only [VRel]
  · simp only [VRel]
  · simp only [VRel]
  · simp only [VRel]

theorem wrap_min (k : IntKind) (n : Int) : k.min ≤ k.wrap n ∧ k.wrap n ≤ k.max := by
  cases k <;> simp [IntKind.wrap, IntKind.min, IntKind.max, IntKind.signed, IntKind.bits] <;> (try split) <;> omega

section
variable {P : Program} {γ : Nat → Value} {o : Store} {w : World} {O : Nat → Prop}

theorem boolBin_get {op : BinOp} {c : Bool} {v : V} {us : List Upd} (h : (boolBin op c).get = some (v, us)) : us = [] ∧ ((op = .eql ∧ v = .bool c) ∨ (op = .neq ∧ v = .bool (!c))) := by
  cases op <;> simp [boolBin, T.get] at h
  · exact ⟨h.2, .inl ⟨rfl, h.1.symm⟩⟩
  · exact ⟨h.2, .inr ⟨rfl, h.1.symm⟩⟩

theorem min_le_zero (k : IntKind) : k.min ≤ 0 ∧ 0 ≤ k.max := by cases k <;> simp [IntKind.min, IntKind.max, IntKind.signed, IntKind.bits]

theorem tmod_between (x y : Int) : (0 ≤ x → 0 ≤ x.tmod y ∧ x.tmod y ≤ x) ∧ (x < 0 → x ≤ x.tmod y ∧ x.tmod y ≤ 0) := by
  have h1 : (x.tmod y).natAbs ≤ x.natAbs := by rw [Int.natAbs_tmod]; exact Nat.mod_le _ _
  constructor
  · intro hx
    have h2 := Int.tmod_nonneg y hx
    omega
  · intro hx
    have h2 : (-x).tmod y = -(x.tmod y) := Int.neg_tmod x y
    have h3 := Int.tmod_nonneg (a := -x) y (by omega)
    omega

theorem tmod_in {k : IntKind} {x : Int} (hx : k.min ≤ x ∧ x ≤ k.max) (y : Int) : k.min ≤ x.tmod y ∧ x.tmod y ≤ k.max := by
  have h1 := tmod_between x y
  have h2 := min_le_zero k
  rcases Int.lt_or_le x 0 with h | h
  · have := h1.2 h; omega
  · have := h1.1 h; omega

theorem fdiv_between (x : Int) (n : Nat) : (0 ≤ x → 0 ≤ x.fdiv (2 ^ n) ∧ x.fdiv (2 ^ n) ≤ x) ∧ (x < 0 → x ≤ x.fdiv (2 ^ n) ∧ x.fdiv (2 ^ n) ≤ 0) := by
  have hp : (0 : Int) < 2 ^ n := Int.pow_pos (by omega)
  rw [Int.fdiv_eq_ediv_of_nonneg _ (Int.le_of_lt hp)]
  have hq := Int.mul_ediv_add_emod x (2 ^ n)
  have hr := Int.emod_nonneg x (Int.ne_of_gt hp)
  have hr2 := Int.emod_lt_of_pos x hp
  constructor
  · intro hx
    refine ⟨Int.ediv_nonneg hx (Int.le_of_lt hp), Int.ediv_le_self _ hx⟩
  · intro hx
    have h1 : x / 2 ^ n < 0 := Int.ediv_neg_of_neg_of_pos hx hp
    refine ⟨?_, Int.le_of_lt h1⟩
    rw [Int.le_ediv_iff_mul_le hp]
    have : x * 2 ^ n ≤ x * 1 := Int.mul_le_mul_of_nonpos_left (Int.le_of_lt hx) (by omega)
    omega

theorem fdiv_in {k : IntKind} {x : Int} (hx : k.min ≤ x ∧ x ≤ k.max) (n : Nat) : k.min ≤ x.fdiv (2 ^ n) ∧ x.fdiv (2 ^ n) ≤ k.max := by
  have h1 := fdiv_between x n
  have h2 := min_le_zero k
  rcases Int.lt_or_le x 0 with h | h
  · have := h1.2 h; omega
  · have := h1.1 h; omega

theorem intBin_run {op : BinOp} {k : IntKind} {x y : Int} (hx : k.min ≤ x ∧ x ≤ k.max) {v : V} {us : List Upd} (ho : isShift op = false) (h : (intBin op k x y).get = some (v, us)) (t : Nat) :
    us = [] ∧ ∃ z, (Go.binOp op t (.int k x) (.int k y)).run P w = .ok z w ∧ VRel γ o w O v z := by
  cases op <;> simp only [isShift] at ho <;> try (simp at ho; done)
  all_goals simp only [intBin, T.get, Option.some.injEq, Prod.mk.injEq] at h
  case quo =>
    by_cases hb : y = 0
    · simp [hb, T.get] at h
    · simp only [hb, decide_false, T.get, Option.some.injEq, Prod.mk.injEq] at h
      obtain ⟨rfl, rfl⟩ := h
      refine ⟨rfl, _, by simp [Go.binOp, Op.intDiv, hb]; rfl, ?_⟩
      simp only [VRel]
      exact ⟨trivial, wrap_min _ _⟩
  case rem =>
    by_cases hb : y = 0
    · simp [hb, T.get] at h
    · simp only [hb, decide_false, T.get, Option.some.injEq, Prod.mk.injEq] at h
      obtain ⟨rfl, rfl⟩ := h
      refine ⟨rfl, _, by simp [Go.binOp, Op.intDiv, hb]; rfl, ?_⟩
      simp only [VRel]
      exact ⟨trivial, tmod_in hx y⟩
  all_goals obtain ⟨rfl, rfl⟩ := h
  all_goals refine ⟨rfl, _, by simp only [Go.binOp, ne_eq, not_true_eq_false, if_false, Op.intArith, Op.intBits, Op.intCmp, Sem.run_pure]; rfl, ?_⟩
  all_goals simp only [VRel]
  all_goals first | exact ⟨trivial, wrap_min _ _⟩ | rfl | simp

theorem shiftBin_run {op : BinOp} {k k' : IntKind} {x y : Int} (hx : k.min ≤ x ∧ x ≤ k.max) {v : V} {us : List Upd} (h : (shiftBin op k x y).get = some (v, us)) (t : Nat) :
    us = [] ∧ ∃ z, (Go.binOp op t (.int k x) (.int k' y)).run P w = .ok z w ∧ VRel γ o w O v z := by
  cases op <;> simp only [shiftBin, T.get] at h <;> try (simp at h; done)
  all_goals
    by_cases hb : y < 0
    · simp [hb, T.get] at h
    · simp only [hb, decide_false, T.get, Option.some.injEq, Prod.mk.injEq] at h
      obtain ⟨rfl, rfl⟩ := h
      refine ⟨rfl, _, by simp only [Go.binOp, Op.shift, hb, if_false, Sem.run_pure]; rfl, ?_⟩
      simp only [VRel]
      first | exact ⟨trivial, wrap_min _ _⟩ | exact ⟨trivial, fdiv_in hx _⟩

theorem size_append (a b : ByteArray) : (a ++ b).size = a.size + b.size := ByteArray.size_append

theorem strBin_run {op : BinOp} {x y : ByteArray} {v : V} {us : List Upd} (h : (strBin op x y).get = some (v, us)) (t : Nat) :
    us = [] ∧ ∃ z, (Go.binOp op t (.string x) (.string y)).run P w = .ok z w ∧ VRel γ o w O v z := by
  cases op <;> simp only [strBin, T.get] at h <;> try (simp at h; done)
  case add =>
    by_cases hb : x.size + y.size ≤ strMax
    · simp only [T.when, hb, decide_true, T.get, Option.some.injEq, Prod.mk.injEq] at h
      obtain ⟨rfl, rfl⟩ := h
      have h2 : ¬ ((x.size + y.size : Nat) : Int) > IntKind.i64.max := by
        simp only [strMax] at hb
        simp [IntKind.max, IntKind.signed, IntKind.bits]
        omega
      refine ⟨rfl, .string (x ++ y), by simp only [Go.binOp, Op.stringOp, h2, if_false, Sem.run_pure], ?_⟩
      simp only [VRel]
      exact ⟨trivial, by rw [size_append]; exact hb⟩
    · simp [T.when, hb, T.get] at h
  all_goals
    simp only [Option.some.injEq, Prod.mk.injEq] at h
    obtain ⟨rfl, rfl⟩ := h
    refine ⟨rfl, _, by simp only [Go.binOp, Op.stringOp, Sem.run_pure]; rfl, ?_⟩
    simp only [VRel]

/-- A struct type whose values may be compared. -/
def EqSnd (P : Program) (t : Nat) (ks : List Kd) : Prop := P.eqGuardType P.depth t = false ∧ ∀ (γ : Nat → Value) (o : Store) (w w' : World) (O : Nat → Prop) (l l' : List V) (xs ys : Array Value) (c : Bool), kMatch ks l = true → eqVs l l' = some c →
  VRels γ o w O l xs.toList → VRels γ o w O l' ys.toList → (Op.equal t (.agg xs) (.agg ys)).run P w' = .ok c w'

theorem memB_iff {n : Nat} : ∀ {l : List Nat}, memB n l = true ↔ n ∈ l
  | [] => by simp [memB]
  | m :: r => by
    simp only [memB, List.mem_cons]
    cases hb : Nat.beq m n with
    | true => simp [beq_eq'.1 hb]
    | false =>
      have := beq_ne'.1 hb
      simp only [memB_iff (l := r)]
      constructor
      · exact fun h => .inr h
      · rintro (h | h)
        · exact absurd h.symm this
        · exact h

theorem binT_run {op : BinOp} {x y : V} {v : V} {us : List Upd} {X Y : Value} (hX : VRel γ o w O x X) (hY : VRel γ o w O y Y) (h : (binT op x y).get = some (v, us)) (t : Nat) (xo yo : Operand) :
    us = [] ∧ ∃ z, (do eqGuard op t xo yo X Y; Go.binOp op t X Y).run P w = .ok z w ∧ VRel γ o w O v z := by
  unfold binT at h
  split at h
  · rename_i k a k' b
    simp only [VRel] at hX hY
    obtain ⟨rfl, hX⟩ := hX
    obtain ⟨rfl, hY⟩ := hY
    have hg : (eqGuard op t xo yo (.int k a) (.int k' b)).run P w = .ok () w := by
      cases op <;> simp [eqGuard]
    cases hs : isShift op with
    | true =>
      rw [hs] at h
      obtain ⟨hu, z, hz, hv⟩ := shiftBin_run (P := P) (γ := γ) (o := o) (w := w) (O := O) (k' := k') hX h t
      exact ⟨hu, z, by simp [hg, hz], hv⟩
    | false =>
      rw [hs] at h
      cases hk : k == k' with
      | false => simp [hk, T.get] at h
      | true =>
        have : k = k' := by simpa using hk
        subst this
        simp only [hk] at h
        obtain ⟨hu, z, hz, hv⟩ := intBin_run (P := P) (γ := γ) (o := o) (w := w) (O := O) hX hs h t
        exact ⟨hu, z, by simp [hg, hz], hv⟩
  · rename_i a b
    simp only [VRel] at hX hY
    obtain ⟨rfl, hX⟩ := hX
    obtain ⟨rfl, hY⟩ := hY
    have hg : (eqGuard op t xo yo (.string a) (.string b)).run P w = .ok () w := by
      cases op <;> simp [eqGuard]
    obtain ⟨hu, z, hz, hv⟩ := strBin_run (P := P) (γ := γ) (o := o) (w := w) (O := O) h t
    exact ⟨hu, z, by simp [hg, hz], hv⟩
  · simp [T.get] at h

theorem binE_run {B : BT} {E : Env} (hT : TiOK P B E) (hE : ∀ t, t ∈ E.eqs → EqSnd P t (E.tyd t).ks) {op : BinOp} {x y : V} {v : V} {us : List Upd} {X Y : Value} (hX : VRel γ o w O x X) (hY : VRel γ o w O y Y)
    (t : Nat) (xo yo : Operand) (h : (binE E o op t yo x y).get = some (v, us)) :
    us = [] ∧ ∃ z, (do eqGuard op t xo yo X Y; Go.binOp op t X Y).run P w = .ok z w ∧ VRel γ o w O v z := by
  unfold binE at h
  split at h
  · rename_i l l'
    simp only [VRel] at hX hY
    obtain ⟨xs, rfl, hX⟩ := hX
    obtain ⟨ys, rfl, hY⟩ := hY
    cases hm : memB t E.eqs with
    | false => simp [hm, T.get] at h
    | true =>
     cases hkm : kMatch (E.tyd t).ks l with
     | false => simp [hm, hkm, T.get] at h
     | true =>
      cases hc : eqVs l l' with
      | none => simp [hm, hc, hkm, T.get] at h
      | some c =>
        simp only [hm, hc, hkm] at h
        obtain ⟨he1, he2⟩ := hE t (memB_iff.1 hm)
        have he := he2 γ o w w O l l' xs ys c hkm hc hX hY
        obtain ⟨hu, ⟨rfl, rfl⟩ | ⟨rfl, rfl⟩⟩ := boolBin_get h
        · exact ⟨hu, .bool c, by simp [eqGuard, Go.binOp, he1, he], by simp only [VRel]⟩
        · exact ⟨hu, .bool (!c), by simp [eqGuard, Go.binOp, he1, he], by simp only [VRel]⟩
  · rename_i a
    cases hc : isConstO yo with
    | false => simp [hc, T.get] at h
    | true =>
      cases hd : (E.tyd t).d <;> simp only [hc, hd, T.get] at h <;> try (simp at h; done)
      have hs := hT.desc (t := t) (by rw [hd]; simp)
      obtain ⟨d, hd1, _, hd2⟩ := hs.und
      rw [hd] at hd2
      obtain ⟨ms, rfl⟩ := hd2
      simp only [VRel] at hX hY
      subst hY
      have hyo : ∃ c, yo = .const c := by cases yo <;> simp [isConstO] at hc; exact ⟨_, rfl⟩
      obtain ⟨yc, rfl⟩ := hyo
      have key : ∀ d, (Op.equalIn (d + 1) t X .nilIface).run P w = .ok a w := fun d => by
        cases a with
        | true => simp only at hX; subst hX; simp [Op.equalIn, run_underlying hd1]
        | false => simp only at hX; obtain ⟨tt, vv, rfl⟩ := hX; simp [Op.equalIn, run_underlying hd1]
      have hg : ∀ op, (eqGuard op t xo (.const yc) X .nilIface).run P w = .ok () w := fun op => by
        cases a with
        | true => simp only at hX; subst hX; cases op <;> simp [eqGuard]
        | false => simp only at hX; obtain ⟨tt, vv, rfl⟩ := hX; cases op <;> simp [eqGuard]
      have hk := key 9999
      obtain ⟨hu, ⟨rfl, rfl⟩ | ⟨rfl, rfl⟩⟩ := boolBin_get h
      · refine ⟨hu, .bool a, ?_, by simp only [VRel]⟩
        simp only [Sem.run_bind, hg, Result.andThen_ok]
        cases a with
        | true => simp only at hX; subst hX; simp [Go.binOp, Op.equal, Op.maxDepth, hk]
        | false => simp only at hX; obtain ⟨tt, vv, rfl⟩ := hX; simp [Go.binOp, Op.equal, Op.maxDepth, hk]
      · refine ⟨hu, .bool (!a), ?_, by simp only [VRel]⟩
        simp only [Sem.run_bind, hg, Result.andThen_ok]
        cases a with
        | true => simp only at hX; subst hX; simp [Go.binOp, Op.equal, Op.maxDepth, hk]
        | false => simp only at hX; obtain ⟨tt, vv, rfl⟩ := hX; simp [Go.binOp, Op.equal, Op.maxDepth, hk]
  · rename_i a b
    simp only [VRel] at hX hY
    subst hX
    subst hY
    split at h
    · rename_i hd hks
      have hs := hT.kinds (t := t) (by rw [hks]; simp)
      obtain ⟨d, hd1, _, hd2⟩ := hs.und
      rw [hd] at hd2
      obtain rfl := hd2.2.2 hks
      have key : ∀ d, (Op.equalIn (d + 1) t (.bool a) (.bool b)).run P w = .ok (a == b) w := fun d => by simp [Op.equalIn, run_underlying hd1]
      have hk := key 9999
      have hg : ∀ op, (eqGuard op t xo yo (.bool a) (.bool b)).run P w = .ok () w := fun op => by
        cases op <;> simp [eqGuard]
      obtain ⟨hu, ⟨rfl, rfl⟩ | ⟨rfl, rfl⟩⟩ := boolBin_get h
      · exact ⟨hu, .bool (a == b), by simp [hg, Go.binOp, Op.equal, Op.maxDepth, hk], by simp only [VRel]⟩
      · exact ⟨hu, .bool (!(a == b)), by simp only [Sem.run_bind, hg, Result.andThen_ok, Go.binOp, Op.equal, Op.maxDepth, hk, Sem.run_pure], by simp only [VRel]⟩
    · simp [T.get] at h
  · rename_i n i c
    split at h
    · rename_i e ob hd ho
      have hs := hT.desc (t := t) (by rw [hd]; simp)
      obtain ⟨d, hd1, _, hd2⟩ := hs.und
      rw [hd] at hd2
      subst hd2
      simp only [VRel, ho] at hX hY
      subst hY
      obtain ⟨ad, rfl⟩ : ∃ ad, X = .pointer (some ad) := by
        cases ob with
        | box cs => obtain ⟨_, b, _, h⟩ := hX; exact ⟨_, h⟩
        | row own e ag ks l => obtain ⟨_, b, off, len, cap, _, h⟩ := hX; exact ⟨_, h⟩
        | bld s => obtain ⟨_, b, v, _, h⟩ := hX; exact ⟨_, h⟩
      have key : ∀ d, (Op.equalIn (d + 1) t (.pointer (some ad)) (.pointer none)).run P w = .ok false w := fun d => by simp [Op.equalIn, run_underlying hd1]
      have hk := key 9999
      have hg : ∀ op, (eqGuard op t xo yo (.pointer (some ad)) (.pointer none)).run P w = .ok () w := fun op => by
        cases op <;> simp [eqGuard]
      obtain ⟨hu, ⟨rfl, rfl⟩ | ⟨rfl, rfl⟩⟩ := boolBin_get h
      · exact ⟨hu, .bool false, by simp [hg, Go.binOp, Op.equal, Op.maxDepth, hk], by simp only [VRel]⟩
      · exact ⟨hu, .bool true, by simp [hg, Go.binOp, Op.equal, Op.maxDepth, hk], by simp only [VRel]; rfl⟩
    · simp [T.get] at h
  · exact binT_run hX hY h t xo yo

theorem unT_run {op : UnOp} {x : V} {v : V} {us : List Upd} {X : Value} (hX : VRel γ o w O x X) (h : (unT op x).get = some (v, us)) :
    us = [] ∧ ∃ z, (Op.unary op X).run P w = .ok z w ∧ VRel γ o w O v z := by
  unfold unT at h
  split at h
  · simp only [VRel] at hX
    obtain ⟨rfl, hX⟩ := hX
    simp only [T.get, Option.some.injEq, Prod.mk.injEq] at h
    obtain ⟨rfl, rfl⟩ := h
    refine ⟨rfl, _, by simp only [Op.unary, Op.intArith, Sem.run_pure]; rfl, ?_⟩
    simp only [VRel]
    exact ⟨trivial, wrap_min _ _⟩
  · simp only [VRel] at hX
    subst hX
    simp only [T.get, Option.some.injEq, Prod.mk.injEq] at h
    obtain ⟨rfl, rfl⟩ := h
    exact ⟨rfl, _, by simp only [Op.unary, Sem.run_pure]; rfl, by simp only [VRel]⟩
  · simp [T.get] at h
end

end Go.FM

/-
  THE SMALL MACHINE (6): operations on memory: what is read.
-/
namespace Go.FM
open Go Go.RowKit

theorem takeV_eq : ∀ (l : List V) (n : Nat), takeV l n = l.take n
  | l, 0 => by cases l <;> simp [takeV]
  | [], n + 1 => by simp [takeV]
  | x :: r, n + 1 => by simp [takeV, takeV_eq r n]
theorem dropV_eq : ∀ (l : List V) (n : Nat), dropV l n = l.drop n
  | l, 0 => by cases l <;> simp [dropV]
  | [], n + 1 => by simp [dropV]
  | x :: r, n + 1 => by simp [dropV, dropV_eq r n]
theorem nthV_eq : ∀ (l : List V) (n : Nat), nthV l n = (l[n]?).getD .any
  | [], n => by simp [nthV]
  | x :: r, 0 => by simp [nthV]
  | x :: r, n + 1 => by simp [nthV, nthV_eq r n]
theorem nth_eq : ∀ (l : List IV) (n : Nat), nth l n = (l[n]?).getD default
  | [], 0 => by simp [nth]
  | [], n + 1 => by simp [nth]
  | x :: r, 0 => by simp [nth]
  | x :: r, n + 1 => by simp [nth, nth_eq r n]
theorem mapFrom_length {α : Type} (g : Nat → α) : ∀ (c n : Nat), (mapFrom g c n).length = n
  | _, 0 => rfl
  | c, n + 1 => by simp [mapFrom, mapFrom_length g (c + 1) n]
theorem mapFrom_get {α : Type} (g : Nat → α) : ∀ (c n j : Nat), j < n → (mapFrom g c n)[j]? = some (g (c + j))
  | _, 0, _, h => by omega
  | c, n + 1, 0, _ => by simp [mapFrom]
  | c, n + 1, j + 1, h => by
    simp only [mapFrom, List.getElem?_cons_succ]
    rw [mapFrom_get g (c + 1) n j (by omega)]
    congr 2
    omega

section
variable {γ : Nat → Value} {o : Store} {w : World} {O : Nat → Prop}

theorem VRels.length : ∀ {l : List V} {xs : List Value}, VRels γ o w O l xs → l.length = xs.length
  | [], [], _ => rfl
  | [], _ :: _, h => by simp only [VRels] at h
  | _ :: _, [], h => by simp only [VRels] at h
  | v :: vs, x :: xs, h => by
    simp only [VRels] at h
    simp [VRels.length h.2]

theorem VRels.get : ∀ {l : List V} {xs : List Value} {j : Nat} {v : V}, VRels γ o w O l xs → l[j]? = some v → ∃ x, xs[j]? = some x ∧ VRel γ o w O v x
  | [], _, _, _, _, hj => by simp at hj
  | _ :: _, [], _, _, h, _ => by simp only [VRels] at h
  | u :: vs, x :: xs, 0, v, h, hj => by
    simp only [VRels] at h
    simp at hj
    subst hj
    exact ⟨x, rfl, h.1⟩
  | u :: vs, x :: xs, j + 1, v, h, hj => by
    simp only [VRels] at h
    simp at hj
    obtain ⟨y, hy, hr⟩ := VRels.get h.2 hj
    exact ⟨y, by simpa using hy, hr⟩

theorem VRels.of_get : ∀ {l : List V} {xs : List Value}, l.length = xs.length → (∀ (j : Nat) (v : V) (x : Value), l[j]? = some v → xs[j]? = some x → VRel γ o w O v x) → VRels γ o w O l xs
  | [], [], _, _ => by simp only [VRels]
  | [], _ :: _, h, _ => by simp at h
  | _ :: _, [], h, _ => by simp at h
  | v :: vs, x :: xs, h, hr => by
    simp only [VRels]
    exact ⟨hr 0 v x rfl rfl, VRels.of_get (by simpa using h) (fun j v x h1 h2 => hr (j + 1) v x (by simpa using h1) (by simpa using h2))⟩

theorem VRels.get' {l : List V} {xs : List Value} {j : Nat} {v : V} {x : Value} (h : VRels γ o w O l xs) (hv : l[j]? = some v) (hx : xs[j]? = some x) : VRel γ o w O v x := by
  obtain ⟨y, hy, hr⟩ := h.get hv
  rw [hx, Option.some.injEq] at hy
  exact hy ▸ hr

theorem VRels.take (n : Nat) {l : List V} {xs : List Value} (h : VRels γ o w O l xs) : VRels γ o w O (l.take n) (xs.take n) := by
  refine VRels.of_get (by simp [h.length]) (fun j v x h1 h2 => ?_)
  rw [List.getElem?_take] at h1 h2
  split at h1
  · rename_i hj
    rw [if_pos hj] at h2
    exact h.get' h1 h2
  · cases h1
theorem VRels.drop (n : Nat) {l : List V} {xs : List Value} (h : VRels γ o w O l xs) : VRels γ o w O (l.drop n) (xs.drop n) := by
  refine VRels.of_get (by simp [h.length]) (fun j v x h1 h2 => ?_)
  rw [List.getElem?_drop] at h1 h2
  exact h.get' h1 h2
theorem VRels.append {l l' : List V} {xs xs' : List Value} (h : VRels γ o w O l xs) (h' : VRels γ o w O l' xs') : VRels γ o w O (l ++ l') (xs ++ xs') := by
  have hl := h.length
  refine VRels.of_get (by simp [hl, h'.length]) (fun j v x h1 h2 => ?_)
  rw [List.getElem?_append] at h1 h2
  rw [hl] at h1
  split at h1
  · rename_i hj
    rw [if_pos hj] at h2
    exact h.get' h1 h2
  · rename_i hj
    rw [if_neg hj] at h2
    exact h'.get' h1 h2

theorem ofIV_rel {k : Kd} {x : IV} {u : Value} (h : Kd.Rel w O k x u) : VRel γ o w O (ofIV k x) u := by
  cases k with
  | int k => simp only [Kd.Rel] at h; simp only [ofIV, VRel]; exact h
  | bool => simp only [Kd.Rel] at h; simp only [ofIV, VRel]; exact h
  | str => simp only [Kd.Rel] at h; simp only [ofIV, VRel]; exact h
  | list ag ks => simp only [Kd.Rel] at h; simp only [ofIV, VRel, Kd.Rel, IV.toList]; exact h

theorem isAgg_run {P : Program} {B : BT} {t : Nat} {x : TI} (h : TISnd P B t x) (w : World) : (isAgg t).run P w = .ok x.agg w := by
  obtain ⟨d, hd, hr, _⟩ := h.und
  unfold isAgg
  rw [Sem.run_bind, run_underlying hd w, ← hr]
  cases d <;> rfl

theorem sizeOf_run {P : Program} {B : BT} {t : Nat} {x : TI} (h : TISnd P B t x) (w : World) : (sizeOf t).run P w = .ok x.size w := by
  obtain ⟨i, z, hi, hs, _⟩ := h.info
  simp [sizeOf, typeInfo, hi, hs]

theorem typeInfo_run {P : Program} {t : Nat} {i : TypeInfo} (hi : P.info? t = some i) (w : World) : (typeInfo t).run P w = .ok i w := by
  simp [typeInfo, hi]

/-- A variable is read: a struct or an array. -/
theorem load_agg {P : Program} {B : BT} {t : Nat} {x : TI} (h : TISnd P B t x) (ha : x.agg = true) (b c : Nat) (cs : List Value) (hl : cs.length = x.size)
    (hc : ∀ j v, cs[j]? = some v → w.cell? ⟨b, c + j, none⟩ = some v) : (Instr.loadAt t (.pointer (some ⟨b, c, none⟩))).run P w = .ok (.agg cs.toArray) w := by
  obtain ⟨d, hd, hr, _⟩ := h.und
  obtain ⟨i, z, hi, hs, _⟩ := h.info
  exact run_loadAt_mid w b c t cs d hc hd (by rw [hr, ha]) (by rw [hi]; simp [hs, hl])

/-- .. of one cell. -/
theorem load_one {P : Program} {B : BT} {t : Nat} {x : TI} (h : TISnd P B t x) (ha : x.agg = false) (b c : Nat) (u : Value)
    (hc : w.cell? ⟨b, c, none⟩ = some u) : (Instr.loadAt t (.pointer (some ⟨b, c, none⟩))).run P w = .ok u w := by
  simp only [Instr.loadAt, Instr.sureAddr, Sem.run_pure, Sem.run_bind, Result.andThen_ok, loadVar, isAgg_run h, ha, Bool.false_eq_true, if_false, run_load, hc]

/-- What can't change is read. -/
theorem ldIV_run {P : Program} {B : BT} {t : Nat} {x : TI} (h : TISnd P B t x) {ks : List Kd} {f : Nat → IV} {c : Nat} {v : V} (hv : ldIV x.agg x.size ks f c = some v)
    {b off : Nat} (hr : Kd.RelAll w O ks f 0 (fun j u => w.cell? ⟨b, off + j, none⟩ = some u)) :
    ∃ y, (Instr.loadAt t (.pointer (some ⟨b, off + c, none⟩))).run P w = .ok y w ∧ VRel γ o w O v y := by
  rw [Kd.RelAll_iff] at hr
  unfold ldIV at hv
  cases hb : Nat.ble (c + x.size) ks.length with
  | false => simp [hb] at hv
  | true =>
    have hb' := Nat.le_of_ble_eq_true hb
    simp only [hb] at hv
    have key : ∀ j, j < x.size → ∃ u, w.cell? ⟨b, off + c + j, none⟩ = some u ∧ VRel γ o w O (ofIV (ks.getD (c + j) .bool) (f (c + j))) u := by
      intro j hj
      have hlt : c + j < ks.length := by omega
      obtain ⟨u, hu, hr'⟩ := hr (c + j) ks[c + j] (List.getElem?_eq_getElem hlt)
      simp only [Nat.zero_add] at hu hr'
      refine ⟨u, by rw [← hu]; congr 2; omega, ?_⟩
      have : ks.getD (c + j) .bool = ks[c + j] := by simp [List.getD, List.getElem?_eq_getElem hlt]
      rw [this]
      exact ofIV_rel hr'
    cases ha : x.agg with
    | true =>
      rw [ha] at hv
      simp only [Option.some.injEq] at hv
      subst hv
      let us : List Value := mapFrom (fun j => (w.cell? ⟨b, off + j, none⟩).getD undef) c x.size
      have hus : ∀ j, j < x.size → us[j]? = some ((w.cell? ⟨b, off + (c + j), none⟩).getD undef) := fun j hj => mapFrom_get _ _ _ _ hj
      refine ⟨.agg us.toArray, load_agg h ha b (off + c) us (mapFrom_length _ _ _) ?_, ?_⟩
      · intro j v' hj
        have hjl : j < x.size := by
          rcases Nat.lt_or_ge j x.size with h' | h'
          · exact h'
          · rw [List.getElem?_eq_none (by rw [mapFrom_length]; exact h')] at hj; cases hj
        obtain ⟨u, hu, _⟩ := key j hjl
        rw [hus j hjl, Option.some.injEq, ← Nat.add_assoc, hu] at hj
        rw [hu, ← hj]
        rfl
      · simp only [VRel]
        refine ⟨us.toArray, rfl, VRels.of_get (by simp [mapFrom_length, us]) (fun j v' y h1 h2 => ?_)⟩
        have hjl : j < x.size := by
          rcases Nat.lt_or_ge j x.size with h' | h'
          · exact h'
          · rw [List.getElem?_eq_none (by rw [mapFrom_length]; exact h')] at h1; cases h1
        obtain ⟨u, hu, hr'⟩ := key j hjl
        rw [mapFrom_get _ _ _ _ hjl, Option.some.injEq] at h1
        rw [hus j hjl, Option.some.injEq, ← Nat.add_assoc, hu] at h2
        simp only [Option.getD_some] at h2
        rw [← h1, ← h2]
        exact hr'
    | false =>
      rw [ha] at hv
      cases h1 : Nat.beq x.size 1 with
      | false => simp [h1] at hv
      | true =>
        simp only [h1, Option.some.injEq] at hv
        subst hv
        obtain ⟨u, hu, hr'⟩ := key 0 (by rw [beq_eq'.1 h1]; omega)
        exact ⟨u, load_one h ha b (off + c) u (by simpa using hu), by simpa using hr'⟩

/-- A variable of the call's own is read. -/
theorem ldBox_run {P : Program} {B : BT} {t : Nat} {x : TI} (h : TISnd P B t x) {cs : List V} {c : Nat} {v : V} (hv : ldBox x.agg x.size cs c = some v)
    {b : Nat} {xs : Array Value} {T : TypeId} {fr : Nat × Nat} (hh : w.heap[b]? = some (.cells xs T fr)) (hr : VRels γ o w O cs xs.toList) :
    ∃ y, (Instr.loadAt t (.pointer (some ⟨b, c, none⟩))).run P w = .ok y w ∧ VRel γ o w O v y := by
  unfold ldBox at hv
  have hcell : ∀ j, w.cell? ⟨b, j, none⟩ = xs.toList[j]? := fun j => by simp [World.cell?, hh]
  cases hb : Nat.ble (c + x.size) cs.length with
  | false => simp [hb] at hv
  | true =>
    have hb' := Nat.le_of_ble_eq_true hb
    have hlen := hr.length
    simp only [hb] at hv
    cases ha : x.agg with
    | true =>
      rw [ha] at hv
      simp only [Option.some.injEq] at hv
      subst hv
      refine ⟨.agg ((xs.toList.drop c).take x.size).toArray, load_agg h ha b c _ (by rw [List.length_take, List.length_drop]; omega) (fun j v' hj => ?_), ?_⟩
      · rw [List.getElem?_take] at hj
        split at hj
        · rw [List.getElem?_drop] at hj
          rw [hcell, hj]
        · cases hj
      · simp only [VRel]
        refine ⟨_, rfl, ?_⟩
        rw [takeV_eq, dropV_eq]
        simpa using (hr.drop c).take x.size
    | false =>
      rw [ha] at hv
      cases h1 : Nat.beq x.size 1 with
      | false => simp [h1] at hv
      | true =>
        have h1' := beq_eq'.1 h1
        simp only [h1, Option.some.injEq] at hv
        subst hv
        obtain ⟨u, hu⟩ : ∃ u, cs[c]? = some u := ⟨cs[c]'(by omega), List.getElem?_eq_getElem _⟩
        obtain ⟨y, hy, hr'⟩ := hr.get hu
        refine ⟨y, load_one h ha b c y (by rw [hcell, hy]), ?_⟩
        rw [nthV_eq, hu]
        exact hr'

/-- A part of a struct's or an array's value. -/
theorem part_run {P : Program} {B : BT} {t : Nat} {x : TI} (h : TISnd P B t x) {cs : List V} {c : Nat} {v : V} (hv : ldBox x.agg x.size cs c = some v)
    {xs : Array Value} (hr : VRels γ o w O cs xs.toList) : ∃ y, (part t xs c).run P w = .ok y w ∧ VRel γ o w O v y := by
  unfold ldBox at hv
  cases hb : Nat.ble (c + x.size) cs.length with
  | false => simp [hb] at hv
  | true =>
    have hb' := Nat.le_of_ble_eq_true hb
    have hlen := hr.length
    simp only [hb] at hv
    cases ha : x.agg with
    | true =>
      rw [ha] at hv
      simp only [Option.some.injEq] at hv
      subst hv
      refine ⟨.agg (xs.extract c (c + x.size)), by simp [part, isAgg_run h, ha, sizeOf_run h], ?_⟩
      simp only [VRel]
      refine ⟨_, rfl, ?_⟩
      rw [takeV_eq, dropV_eq]
      have : (xs.extract c (c + x.size)).toList = (xs.toList.drop c).take x.size := by
        simp [List.extract_eq_take_drop]
      rw [this]
      exact (hr.drop c).take x.size
    | false =>
      rw [ha] at hv
      cases h1 : Nat.beq x.size 1 with
      | false => simp [h1] at hv
      | true =>
        have h1' := beq_eq'.1 h1
        simp only [h1, Option.some.injEq] at hv
        subst hv
        obtain ⟨u, hu⟩ : ∃ u, cs[c]? = some u := ⟨cs[c]'(by omega), List.getElem?_eq_getElem _⟩
        obtain ⟨y, hy, hr'⟩ := hr.get hu
        have hy' : xs[c]? = some y := by simpa using hy
        refine ⟨y, by simp [part, isAgg_run h, ha, hy'], ?_⟩
        rw [nthV_eq, hu]
        exact hr'
end

section
variable {B : BT} {nt : Nat} {w0 : World} {X : Zone} {γ : Nat → Value} {st : St} {a : Act} {w : World}

theorem opd_rel (h : Rel B nt w0 X γ st a w) (x : Operand) : VRel γ st.o w (Owned X γ st.o) (opd st x) (a.eval x) := by
  cases x with
  | tmp t => exact h.tm t
  | const v => exact constV_rel _ _ _ _ v
  | global g => simp only [opd, VRel]
  | func f => simp only [opd, VRel]; exact ⟨#[], rfl, by simp only [VRels]⟩

/-- An element of a row, where it lies. -/
theorem Rel.elem (h : Rel B nt w0 X γ st a w) {n : Nat} {own : Bool} {e : Nat} {ag : Bool} {ks : List Kd} {l : List IV} (ho : objOf st.o n = some (.row own e ag ks l)) {i : Nat} (hi : i < l.length)
    {b off len cap : Nat} (hg : γ n = .slice (some ⟨b, off, none⟩) len cap) :
    b < w.heap.size ∧ Kd.RelAll w (Owned X γ st.o) ks (cellOf ag (l.getD i default)) 0 (fun j u => w.cell? ⟨b, off + i * ks.length + j, none⟩ = some u) := by
  have hob := h.ob n _ ho
  have hy : l[i]? = some (l.getD i default) := by simp [List.getD, List.getElem?_eq_getElem hi]
  cases own with
  | true =>
    simp only [ObRel] at hob
    obtain ⟨_, _, xs, hx, hr⟩ := hob
    obtain ⟨rfl, _, h1, h2⟩ := hx.cells hg
    refine ⟨h1, Kd.RelAll.mono (Keep.refl _ w) (fun _ _ h => h) (fun j u hu => ?_) (hr i _ hy)⟩
    have := h2 _ u hu
    rw [← this]
    congr 2
    omega
  | false =>
    simp only [ObRel, Kd.Rel, IV.toList] at hob
    obtain ⟨_, p, c, hv, _, _, _, hr⟩ := hob
    obtain ⟨b', o', hp, _, hs, hr'⟩ := hr i _ hy
    rw [hg, hp] at hv
    simp only [Value.slice.injEq, Option.some.injEq, Addr.mk.injEq] at hv
    obtain ⟨⟨rfl, rfl, _⟩, _⟩ := hv
    exact ⟨hs, hr'⟩

/-- What an operation comes to, in the model. -/
def OpWp (P : Program) (B : BT) (nt : Nat) (w0 : World) (X : Zone) (a : Act) (w : World) (o : Oper) (st : St) (v : V) (us : List Upd) : Prop :=
  ∀ (K : Act → World → Prop) (Q : Exit → Act → World → Prop),
    (∀ γ' x w', Rel B nt w0 X γ' (st.ups us) a w' → VRel γ' (st.ups us).o w' (Owned X γ' (st.ups us).o) v x → K (a.put o.dst x) w') → o.wp P a w K Q

theorem OpWp.value {P : Program} {o : Oper} {v : V} {us : List Upd} {γ' : Nat → Value} {x : Value} {w' : World} (hr : (execOp a.eval o).run P w = .ok (.value x) w')
    (h : Rel B nt w0 X γ' (st.ups us) a w') (hv : VRel γ' (st.ups us).o w' (Owned X γ' (st.ups us).o) v x) : OpWp P B nt w0 X a w o st v us := by
  intro K Q hK
  unfold Oper.wp
  rw [hr]
  exact hK γ' x w' h hv

theorem OpWp.skip {P : Program} {o : Oper} {us : List Upd} {γ' : Nat → Value} {w' : World} (hr : (execOp a.eval o).run P w = .ok .skip w')
    (h : Rel B nt w0 X γ' (st.ups us) a w') : OpWp P B nt w0 X a w o st .any us := by
  intro K Q hK
  unfold Oper.wp
  rw [hr]
  exact hK γ' undef w' h (by simp only [VRel])

/-- It leaves the world alone. -/
theorem OpWp.pure {P : Program} {o : Oper} {v : V} {x : Value} (h : Rel B nt w0 X γ st a w) (hr : (execOp a.eval o).run P w = .ok (.value x) w)
    (hv : VRel γ st.o w (Owned X γ st.o) v x) : OpWp P B nt w0 X a w o st v [] := OpWp.value (us := []) hr h hv

theorem T.get_of {x : Option V} {v : V} {us : List Upd} (h : (T.of x).get = some (v, us)) : us = [] ∧ x = some v := by
  cases x with
  | none => simp [T.of, T.get] at h
  | some y => simp [T.of, T.get] at h; exact ⟨h.2, by rw [h.1]⟩

theorem T.get_when {b : Bool} {x : T} {r : V × List Upd} (h : (T.when b x).get = some r) : b = true ∧ x.get = some r := by
  cases b with
  | true => exact ⟨rfl, h⟩
  | false => simp [T.when, T.get] at h

theorem fork_get : ∀ {n j : Nat} {i : Int} {g : Nat → T} {r : V × List Upd}, (fork n j i g).get = some r → ∃ m : Nat, j ≤ m ∧ m < j + n ∧ i = (m : Int) ∧ (g m).get = some r
  | 0, _, _, _, _, h => by simp [fork, T.get] at h
  | n + 1, j, i, g, r, h => by
    unfold fork at h
    by_cases hi : i = (j : Int)
    · simp only [hi, decide_true, T.get] at h
      exact ⟨j, Nat.le_refl _, by omega, hi, h⟩
    · simp only [hi, decide_false, T.get] at h
      obtain ⟨m, h1, h2, h3, h4⟩ := fork_get h
      exact ⟨m, by omega, by omega, h3, h4⟩

variable {P : Program} {E : Env}

theorem TiOK.known (hT : TiOK P B E) {t : Nat} (h : (E.tyd t).agg = true ∨ 0 < (E.tyd t).size) : TISnd P B t (E.tyd t) := by
  rcases h with h | h
  · unfold Env.tyd at h ⊢
    rw [lkd_lk] at h ⊢
    cases hl : lk E.ti t with
    | none => rw [hl] at h; simp [TI.none] at h
    | some x => exact hT t x hl
  · exact hT.size h
theorem ldBox_known {agg : Bool} {size : Nat} {cs : List V} {c : Nat} {v : V} (h : ldBox agg size cs c = some v) : agg = true ∨ 0 < size := by
  unfold ldBox at h
  cases agg with
  | true => exact .inl rfl
  | false =>
    right
    cases hb : Nat.ble (c + size) cs.length <;> simp only [hb] at h
    · cases h
    · cases h1 : Nat.beq size 1 <;> simp only [h1] at h
      · cases h
      · rw [beq_eq'.1 h1]; omega
theorem ldIV_known {agg : Bool} {size : Nat} {ks : List Kd} {f : Nat → IV} {c : Nat} {v : V} (h : ldIV agg size ks f c = some v) : agg = true ∨ 0 < size := by
  unfold ldIV at h
  cases agg with
  | true => exact .inl rfl
  | false =>
    right
    cases hb : Nat.ble (c + size) ks.length <;> simp only [hb] at h
    · cases h
    · cases h1 : Nat.beq size 1 <;> simp only [h1] at h
      · cases h
      · rw [beq_eq'.1 h1]; omega

theorem op_load (hT : TiOK P B E) (h : Rel B nt w0 X γ st a w) (o : Oper) {t : Nat} {x : Operand} (ho : o.op = .load t x) {v : V} {us : List Upd}
    (he : (evOp E st.o (opd st) o.dst o.op).get = some (v, us)) : OpWp P B nt w0 X a w o st v us := by
  have hx := opd_rel h x
  rw [ho] at he
  simp only [evOp] at he
  have hrun : ∀ y, (Instr.loadAt t (a.eval x)).run P w = .ok y w → (execOp a.eval o).run P w = .ok (.value y) w := fun y hy => by
    unfold execOp
    simp only [ho, Sem.run_bind, hy, Result.andThen_ok, Sem.run_pure]
  split at he
  · rename_i n i c hop
    rw [hop] at hx
    simp only [VRel] at hx
    split at he
    · rename_i cs hob
      obtain ⟨rfl, hv⟩ := T.get_of he
      rw [hob] at hx
      obtain ⟨rfl, b, hg, hx⟩ := hx
      have hor := h.ob n _ hob
      simp only [ObRel] at hor
      obtain ⟨b', cs', T, hg', hh, hr⟩ := hor
      rw [hg] at hg'
      simp only [Value.pointer.injEq, Option.some.injEq, Addr.mk.injEq, and_true] at hg'
      subst hg'
      obtain ⟨y, hy, hr'⟩ := ldBox_run (hT.known (ldBox_known hv)) hv hh hr
      rw [hx] at hrun
      exact OpWp.pure h (hrun y hy) hr'
    · rename_i own e ag ks l hob
      obtain ⟨rfl, hv⟩ := T.get_of he
      rw [hob] at hx
      obtain ⟨hi, b, off, len, cap, hg, hx⟩ := hx
      obtain ⟨_, hr⟩ := h.elem hob hi hg
      obtain ⟨y, hy, hr'⟩ := ldIV_run (γ := γ) (o := st.o) (hT.known (ldIV_known hv)) hv hr
      rw [hx] at hrun
      exact OpWp.pure h (hrun y hy) hr'
    · simp [T.get] at he
  · rename_i ks f c hop
    obtain ⟨rfl, hv⟩ := T.get_of he
    rw [hop] at hx
    simp only [VRel] at hx
    obtain ⟨b, off, hx, _, _, hr⟩ := hx
    obtain ⟨y, hy, hr'⟩ := ldIV_run (γ := γ) (o := st.o) (hT.known (ldIV_known hv)) hv hr
    rw [hx] at hrun
    exact OpWp.pure h (hrun y hy) hr'
  · simp [T.get] at he

end
end Go.FM

/-
  THE SMALL MACHINE (7): addresses, cuts, and other operations that leave memory alone.
-/
namespace Go.FM
open Go Go.RowKit

section
variable {B : BT} {nt : Nat} {w0 : World} {X : Zone} {γ : Nat → Value} {st : St} {a : Act} {w : World} {P : Program} {E : Env}

theorem op_move (h : Rel B nt w0 X γ st a w) (o : Oper) {x : Operand} (ho : o.op = .move x ∨ o.op = .assign x) {v : V} {us : List Upd}
    (he : (evOp E st.o (opd st) o.dst o.op).get = some (v, us)) : OpWp P B nt w0 X a w o st v us := by
  rcases ho with ho | ho <;>
  · rw [ho] at he
    simp only [evOp, T.get, Option.some.injEq, Prod.mk.injEq] at he
    obtain ⟨rfl, rfl⟩ := he
    exact OpWp.pure h (by unfold execOp; simp only [ho, Sem.run_pure]) (opd_rel h x)

theorem op_pick (h : Rel B nt w0 X γ st a w) (o : Oper) {c x y : Operand} (ho : o.op = .pick c x y) {v : V} {us : List Upd}
    (he : (evOp E st.o (opd st) o.dst o.op).get = some (v, us)) : OpWp P B nt w0 X a w o st v us := by
  have hc := opd_rel h c
  have hx := opd_rel h x
  have hy := opd_rel h y
  rw [ho] at he
  simp only [evOp] at he
  split at he
  · rename_i cb hcb
    rw [hcb] at hc
    simp only [VRel] at hc
    have hrun : (execOp a.eval o).run P w = .ok (.value (if cb = true then a.eval x else a.eval y)) w := by
      unfold execOp
      simp only [ho, hc, asBool, Sem.run_pure, Sem.run_bind, Result.andThen_ok]
    split at he
    · rename_i bx by_ h1 h2
      simp only [T.get, Option.some.injEq, Prod.mk.injEq] at he
      obtain ⟨rfl, rfl⟩ := he
      refine OpWp.pure h hrun ?_
      rw [h1] at hx
      rw [h2] at hy
      cases cb <;> simpa using (by assumption)
    · cases cb with
      | true =>
        simp only [T.get, Option.some.injEq, Prod.mk.injEq] at he
        obtain ⟨rfl, rfl⟩ := he
        exact OpWp.pure h hrun (by simpa using hx)
      | false =>
        simp only [T.get, Option.some.injEq, Prod.mk.injEq] at he
        obtain ⟨rfl, rfl⟩ := he
        exact OpWp.pure h hrun (by simpa using hy)
  · simp [T.get] at he

theorem op_bin (hT : TiOK P B E) (hE : ∀ t, t ∈ E.eqs → EqSnd P t (E.tyd t).ks) (h : Rel B nt w0 X γ st a w) (o : Oper) {op : BinOp} {t t' : Nat} {x y : Operand} (ho : o.op = .binOp op t x y t') {v : V} {us : List Upd}
    (he : (evOp E st.o (opd st) o.dst o.op).get = some (v, us)) : OpWp P B nt w0 X a w o st v us := by
  rw [ho] at he
  simp only [evOp] at he
  obtain ⟨rfl, z, hz, hv⟩ := binE_run hT hE (opd_rel h x) (opd_rel h y) t x y he
  exact OpWp.pure h (by unfold execOp; simp only [ho, Sem.run_bind, Sem.run_pure] at hz ⊢; rw [hz]; rfl) hv

theorem op_un (h : Rel B nt w0 X γ st a w) (o : Oper) {op : UnOp} {t : Nat} {x : Operand} (ho : o.op = .unOp op t x) {v : V} {us : List Upd}
    (he : (evOp E st.o (opd st) o.dst o.op).get = some (v, us)) : OpWp P B nt w0 X a w o st v us := by
  rw [ho] at he
  simp only [evOp] at he
  obtain ⟨rfl, z, hz, hv⟩ := unT_run (P := P) (opd_rel h x) he
  exact OpWp.pure h (by unfold execOp; simp only [ho, Sem.run_bind, Sem.run_pure, hz, Result.andThen_ok]) hv

/-- An address: a pointer that a live object's address is. -/
theorem ptr_live (_ : Rel B nt w0 X γ st a w) {n i c : Nat} {x : Value} (hx : VRel γ st.o w (Owned X γ st.o) (.ptr n i c) x) {ob : Ob} (ho : objOf st.o n = some ob) : ∃ ad, x = .pointer (some ad) := by
  simp only [VRel, ho] at hx
  cases ob with
  | box cs => obtain ⟨_, b, _, h⟩ := hx; exact ⟨_, h⟩
  | row own e ag ks l => obtain ⟨_, b, off, len, cap, _, h⟩ := hx; exact ⟨_, h⟩
  | bld s => obtain ⟨_, b, v, _, h⟩ := hx; exact ⟨_, h⟩

theorem op_nilCheck (h : Rel B nt w0 X γ st a w) (o : Oper) {x : Operand} (ho : o.op = .nilCheck x) {v : V} {us : List Upd}
    (he : (evOp E st.o (opd st) o.dst o.op).get = some (v, us)) : OpWp P B nt w0 X a w o st v us := by
  have hx := opd_rel h x
  rw [ho] at he
  simp only [evOp] at he
  split at he
  · rename_i n i c hop
    split at he
    · rename_i ob hob
      simp only [T.get, Option.some.injEq, Prod.mk.injEq] at he
      obtain ⟨rfl, rfl⟩ := he
      rw [hop] at hx
      obtain ⟨ad, hp⟩ := ptr_live h hx hob
      exact OpWp.pure h (by unfold execOp; simp only [ho, hp, Sem.run_pure]) hx
    · simp [T.get] at he
  · simp [T.get] at he

theorem structPlace_spec {fs : List (Nat × Nat)} : ∀ {i : Nat} {off sz : Nat}, structPlace E fs i = some (off, sz) → ∃ t, fs[i]? = some (off, t) ∧ sz = (E.tyd t).size ∧ 0 < (E.tyd t).size := by
  induction fs with
  | nil => intro i off sz h; simp [structPlace] at h
  | cons p r ih =>
    obtain ⟨o1, t1⟩ := p
    intro i off sz h
    cases i with
    | zero =>
      simp only [structPlace] at h
      cases hb : Nat.blt 0 (E.tyd t1).size <;> simp only [hb] at h
      · cases h
      · simp only [Option.some.injEq, Prod.mk.injEq] at h
        exact ⟨t1, by simp [h.1], h.2.symm, Nat.le_of_ble_eq_true hb⟩
    | succ i =>
      simp only [structPlace] at h
      obtain ⟨t, h1, h2⟩ := ih h
      exact ⟨t, by simpa using h1, h2⟩

theorem fieldAt_run (hT : TiOK P B E) {s f : Nat} {fs : List (Nat × Nat)} (hd : (E.tyd s).d = .struct fs) {off sz : Nat} (hp : structPlace E fs f = some (off, sz)) (b c : Nat) :
    (Instr.fieldAt s (.pointer (some ⟨b, c, none⟩)) f).run P w = .ok (.pointer (some ⟨b, c + off, none⟩)) w := by
  obtain ⟨d, hd1, _, hd2⟩ := (hT.desc (t := s) (by rw [hd]; simp)).und
  rw [hd] at hd2
  obtain ⟨fields, rfl, rfl, _⟩ := hd2
  obtain ⟨t, h1, h2, h3⟩ := structPlace_spec hp
  rw [List.getElem?_map, Option.map_eq_some_iff] at h1
  obtain ⟨fd, hfd, h4⟩ := h1
  simp only [Prod.mk.injEq] at h4
  obtain ⟨rfl, rfl⟩ := h4
  have hfd' : fields[f]? = some fd := by simpa using hfd
  have hsz := sizeOf_run (hT.size h3) w
  have h0 : (E.tyd fd.type).size ≠ 0 := by omega
  simp [Instr.fieldAt, run_underlying hd1, hfd', Instr.sureAddr, fieldPlace, hsz, h0, Addr.add_mid]

theorem op_fieldAddr (hT : TiOK P B E) (h : Rel B nt w0 X γ st a w) (o : Oper) {s f : Nat} {x : Operand} (ho : o.op = .fieldAddr s x f) {v : V} {us : List Upd}
    (he : (evOp E st.o (opd st) o.dst o.op).get = some (v, us)) : OpWp P B nt w0 X a w o st v us := by
  have hx := opd_rel h x
  rw [ho] at he
  simp only [evOp] at he
  split at he
  · rename_i fs hd
    split at he
    · rename_i off sz hp
      have hrun : ∀ b c, a.eval x = .pointer (some ⟨b, c, none⟩) → (execOp a.eval o).run P w = .ok (.value (.pointer (some ⟨b, c + off, none⟩))) w := fun b c e => by
        unfold execOp
        simp only [ho, Sem.run_bind, e, fieldAt_run hT hd hp b c, Result.andThen_ok, Sem.run_pure]
      split at he
      · rename_i n i c hop
        rw [hop] at hx
        split at he
        · rename_i cs hob
          simp only [T.get, Option.some.injEq, Prod.mk.injEq] at he
          obtain ⟨rfl, rfl⟩ := he
          simp only [VRel, hob] at hx
          obtain ⟨hi, b, hg, hx⟩ := hx
          refine OpWp.pure h (hrun b c hx) ?_
          simp only [VRel, hob]
          exact ⟨hi, b, hg, rfl⟩
        · rename_i own e ag ks l hob
          simp only [T.get, Option.some.injEq, Prod.mk.injEq] at he
          obtain ⟨rfl, rfl⟩ := he
          simp only [VRel, hob] at hx
          obtain ⟨hi, b, off', len, cap, hg, hx⟩ := hx
          refine OpWp.pure h (hrun b _ hx) ?_
          simp only [VRel, hob]
          exact ⟨hi, b, off', len, cap, hg, by rw [Nat.add_assoc _ c off]⟩
        · simp [T.get] at he
      · rename_i ks g c hop
        rw [hop] at hx
        simp only [T.get, Option.some.injEq, Prod.mk.injEq] at he
        obtain ⟨rfl, rfl⟩ := he
        simp only [VRel] at hx
        obtain ⟨b, off', hx, h1, h2, h3⟩ := hx
        refine OpWp.pure h (hrun b _ hx) ?_
        simp only [VRel]
        exact ⟨b, off', by rw [Nat.add_assoc], h1, h2, h3⟩
      · simp [T.get] at he
    · simp [T.get] at he
  · simp [T.get] at he

theorem op_field (hT : TiOK P B E) (h : Rel B nt w0 X γ st a w) (o : Oper) {t f : Nat} {x : Operand} (ho : o.op = .field t x f) {v : V} {us : List Upd}
    (he : (evOp E st.o (opd st) o.dst o.op).get = some (v, us)) : OpWp P B nt w0 X a w o st v us := by
  have hx := opd_rel h x
  rw [ho] at he
  simp only [evOp] at he
  split at he
  · rename_i fs cs hd hop
    split at he
    · rename_i off ft hf
      split at he
      · rename_i hb
        obtain ⟨rfl, hv⟩ := T.get_of he
        rw [hop] at hx
        simp only [VRel] at hx
        obtain ⟨xs, hx, hr⟩ := hx
        obtain ⟨y, hy, hr'⟩ := part_run (hT.size (Nat.le_of_ble_eq_true hb)) hv hr
        obtain ⟨d, hd1, _, hd2⟩ := (hT.desc (t := t) (by rw [hd]; simp)).und
        rw [hd] at hd2
        obtain ⟨fields, rfl, rfl, _⟩ := hd2
        rw [List.getElem?_map, Option.map_eq_some_iff] at hf
        obtain ⟨fd, hfd, h4⟩ := hf
        simp only [Prod.mk.injEq] at h4
        obtain ⟨rfl, rfl⟩ := h4
        have hfd' : fields[f]? = some fd := by simpa using hfd
        refine OpWp.pure h ?_ hr'
        unfold execOp
        simp [ho, hx, Instr.field, run_underlying hd1, hfd', asAgg, hy]
      · simp [T.get] at he
    · simp [T.get] at he
  · simp [T.get] at he

theorem op_extract (h : Rel B nt w0 X γ st a w) (o : Oper) {i : Nat} {x : Operand} (ho : o.op = .extract x i) {v : V} {us : List Upd}
    (he : (evOp E st.o (opd st) o.dst o.op).get = some (v, us)) : OpWp P B nt w0 X a w o st v us := by
  have hx := opd_rel h x
  rw [ho] at he
  simp only [evOp] at he
  split at he
  · rename_i vs hop
    rw [hop] at hx
    simp only [VRel] at hx
    obtain ⟨xs, hx, hr⟩ := hx
    split at he
    · rename_i v' hv
      simp only [T.get, Option.some.injEq, Prod.mk.injEq] at he
      obtain ⟨rfl, rfl⟩ := he
      obtain ⟨y, hy, hr'⟩ := hr.get hv
      have hy' : xs[i]? = some y := by simpa using hy
      exact OpWp.pure h (by unfold execOp; simp [ho, hx, Instr.extract, hy']) hr'
    · simp [T.get] at he
  · simp [T.get] at he

end
end Go.FM

/-
  THE SMALL MACHINE (8): elements, cuts, conversions that leave memory alone, lengths.
-/
namespace Go.FM
open Go Go.RowKit

section
variable {B : BT} {nt : Nat} {w0 : World} {X : Zone} {γ : Nat → Value} {st : St} {a : Act} {w : World} {P : Program} {E : Env}

theorem indexAt_slice (hT : TiOK P B E) {t e : Nat} (hd : (E.tyd t).d = .slice e) (hs : 0 < (E.tyd e).size) {k : IntKind} {i : Int} {b o len cap : Nat} (h0 : 0 ≤ i) (h1 : i < len) :
    (Instr.indexAt t (.slice (some ⟨b, o, none⟩) len cap) (.int k i)).run P w = .ok (.pointer (some ⟨b, o + i.toNat * (E.tyd e).size, none⟩)) w := by
  obtain ⟨d, hd1, _, hd2⟩ := (hT.desc (t := t) (by rw [hd]; simp)).und
  rw [hd] at hd2
  subst hd2
  have hz := sizeOf_run (hT.size hs) w
  simp [Instr.indexAt, asIntOf, run_underlying hd1, h0, h1, hz, Addr.add_mid]

theorem indexAt_array (hT : TiOK P B E) {t e N : Nat} (hd : (E.tyd t).d = .array N e) (hs : 0 < (E.tyd e).size) {k : IntKind} {i : Nat} {b o : Nat} (h1 : i < N) :
    (Instr.indexAt t (.pointer (some ⟨b, o, none⟩)) (.int k (i : Int))).run P w = .ok (.pointer (some ⟨b, o + i * (E.tyd e).size, none⟩)) w := by
  obtain ⟨d, hd1, _, hd2⟩ := (hT.desc (t := t) (by rw [hd]; simp)).und
  rw [hd] at hd2
  subst hd2
  have hz := sizeOf_run (hT.size hs) w
  simp [Instr.indexAt, asIntOf, run_underlying hd1, Instr.sureAddr, h1, hz, Addr.add_mid]

theorem szOK_spec {e n : Nat} (h : szOK E e n = true) : n = (E.tyd e).size ∧ 0 < (E.tyd e).size := by
  simp only [szOK, Bool.and_eq_true] at h
  have h1 := beq_eq'.1 h.1
  have h2 := Nat.le_of_ble_eq_true h.2
  exact ⟨h1, by omega⟩

theorem op_indexAddr (hT : TiOK P B E) (h : Rel B nt w0 X γ st a w) (o : Oper) {t : Nat} {x ix : Operand} (ho : o.op = .indexAddr t x ix) {v : V} {us : List Upd}
    (he : (evOp E st.o (opd st) o.dst o.op).get = some (v, us)) : OpWp P B nt w0 X a w o st v us := by
  have hx := opd_rel h x
  have hix := opd_rel h ix
  rw [ho] at he
  simp only [evOp] at he
  have hrun : ∀ y, (Instr.indexAt t (a.eval x) (a.eval ix)).run P w = .ok y w → (execOp a.eval o).run P w = .ok (.value y) w := fun y hy => by
    unfold execOp
    simp only [ho, Sem.run_bind, hy, Result.andThen_ok, Sem.run_pure]
  split at he
  · rename_i e k i hd hi
    rw [hi] at hix
    simp only [VRel] at hix
    rw [hix.1] at hrun
    split at he
    · rename_i ag ks l hop
      rw [hop] at hx
      split at he
      · rename_i hks
        obtain ⟨hks', hpos⟩ := szOK_spec hks
        obtain ⟨hc, he⟩ := T.get_when he
        simp only [T.get, Option.some.injEq, Prod.mk.injEq] at he
        obtain ⟨rfl, rfl⟩ := he
        simp only [Bool.and_eq_true, decide_eq_true_eq] at hc
        simp only [VRel, Kd.Rel, IV.toList] at hx
        obtain ⟨p, c, hv, _, _, _, hr⟩ := hx
        have hlt : i.toNat < l.length := by omega
        have hy : l[i.toNat]? = some (l.getD i.toNat default) := by simp [List.getD, List.getElem?_eq_getElem hlt]
        obtain ⟨b, off, hp, hO, hs, hr'⟩ := hr _ _ hy
        subst hp
        rw [hv] at hrun
        refine OpWp.pure h (hrun _ (indexAt_slice hT hd hpos hc.1 hc.2)) ?_
        simp only [VRel]
        refine ⟨b, off + i.toNat * ks.length, by rw [← hks']; rfl, hO, hs, hr'⟩
      · simp [T.get] at he
    · rename_i n lo hi' hop
      rw [hop] at hx
      split at he
      · rename_i own e' ag ks l hob
        split at he
        · rename_i hks
          obtain ⟨hks', hpos⟩ := szOK_spec hks
          obtain ⟨hc, he⟩ := T.get_when he
          simp only [T.get, Option.some.injEq, Prod.mk.injEq] at he
          obtain ⟨rfl, rfl⟩ := he
          simp only [Bool.and_eq_true, decide_eq_true_eq] at hc
          simp only [VRel, hob] at hx
          obtain ⟨hlen, p, len, cap, p', hg, hv, h1, h2, h3, _, h4, _⟩ := hx
          have hlt : lo + i.toNat < l.length := by omega
          have hcap : cap ≠ lo := by omega
          have hp' := h4.resolve_right hcap
          obtain ⟨b, off, rfl⟩ : ∃ b off, p = some ⟨b, off, none⟩ := by
            have hor := h.ob n _ hob
            have hy : l[lo + i.toNat]? = some (l.getD (lo + i.toNat) default) := by simp [List.getD, List.getElem?_eq_getElem hlt]
            cases own with
            | true =>
              simp only [ObRel] at hor
              obtain ⟨_, _, xs, hx, _⟩ := hor
              rcases hx.2 with ⟨h5, h6⟩ | ⟨g, cap', cur, T, fr, h5, _⟩
              · rw [hg] at h5; simp only [Value.slice.injEq] at h5; omega
              · rw [hg] at h5; simp only [Value.slice.injEq] at h5; exact ⟨_, _, h5.1⟩
            | false =>
              simp only [ObRel, Kd.Rel, IV.toList] at hor
              obtain ⟨_, p2, c2, h5, _, _, _, hr⟩ := hor
              obtain ⟨b, off, hp2, _⟩ := hr _ _ hy
              rw [hg] at h5
              simp only [Value.slice.injEq] at h5
              exact ⟨b, off, by rw [h5.1, hp2]⟩
          subst hp'
          rw [hv] at hrun
          simp only [Option.map_some, Addr.add_mid] at hrun
          refine OpWp.pure h (hrun _ (indexAt_slice hT hd hpos hc.1 (by have := hc.2; omega))) ?_
          simp only [VRel, hob]
          refine ⟨hlt, b, off, len, cap, hg, ?_⟩
          rw [hks', Nat.add_mul]
          congr 3
          omega
        · simp [T.get] at he
      · simp [T.get] at he
    · rename_i n c cap sz len hop
      rw [hop] at hx
      split at he
      · rename_i cs hks hob
        obtain ⟨hks', hpos⟩ := szOK_spec hks
        obtain ⟨hc, he⟩ := T.get_when he
        obtain ⟨m, _, hm, hi2, he2⟩ := fork_get he
        subst hi2
        simp only [T.get, Option.some.injEq, Prod.mk.injEq] at he2
        obtain ⟨rfl, rfl⟩ := he2
        simp only [decide_eq_true_eq] at hc
        simp only [VRel, hob] at hx
        obtain ⟨hl, _, hcs, b, hg, hv⟩ := hx
        rw [hv] at hrun
        refine OpWp.pure h (hrun _ (indexAt_slice hT hd hpos (by omega) hc)) ?_
        simp only [VRel, hob]
        exact ⟨trivial, b, hg, by rw [hks']; simp⟩
      · simp [T.get] at he
    · simp [T.get] at he
  · rename_i N e k i hd hi
    rw [hi] at hix
    simp only [VRel] at hix
    rw [hix.1] at hrun
    split at he
    · rename_i n i0 c hop
      rw [hop] at hx
      split at he
      · rename_i cs hob
        obtain ⟨hsz, he⟩ := T.get_when he
        obtain ⟨_, hpos⟩ := szOK_spec hsz
        obtain ⟨m, _, hm, hi2, he2⟩ := fork_get he
        subst hi2
        simp only [T.get, Option.some.injEq, Prod.mk.injEq] at he2
        obtain ⟨rfl, rfl⟩ := he2
        simp only [VRel, hob] at hx
        obtain ⟨hi0, b, hg, hv⟩ := hx
        rw [hv] at hrun
        refine OpWp.pure h (hrun _ (indexAt_array hT hd hpos (by omega))) ?_
        simp only [VRel, hob]
        exact ⟨hi0, b, hg, rfl⟩
      · rename_i own e' ag ks l hob
        obtain ⟨hsz, he⟩ := T.get_when he
        obtain ⟨_, hpos⟩ := szOK_spec hsz
        obtain ⟨m, _, hm, hi2, he2⟩ := fork_get he
        subst hi2
        simp only [T.get, Option.some.injEq, Prod.mk.injEq] at he2
        obtain ⟨rfl, rfl⟩ := he2
        simp only [VRel, hob] at hx
        obtain ⟨hi0, b, off, len, cap, hg, hv⟩ := hx
        rw [hv] at hrun
        refine OpWp.pure h (hrun _ (indexAt_array hT hd hpos (by omega))) ?_
        simp only [VRel, hob]
        exact ⟨hi0, b, off, len, cap, hg, by rw [Nat.add_assoc _ c]⟩
      · simp [T.get] at he
    · rename_i ks f c hop
      rw [hop] at hx
      obtain ⟨hsz, he⟩ := T.get_when he
      obtain ⟨_, hpos⟩ := szOK_spec hsz
      obtain ⟨m, _, hm, hi2, he2⟩ := fork_get he
      subst hi2
      simp only [T.get, Option.some.injEq, Prod.mk.injEq] at he2
      obtain ⟨rfl, rfl⟩ := he2
      simp only [VRel] at hx
      obtain ⟨b, off, hv, h1, h2, h3⟩ := hx
      rw [hv] at hrun
      refine OpWp.pure h (hrun _ (indexAt_array hT hd hpos (by omega))) ?_
      simp only [VRel]
      exact ⟨b, off, by rw [Nat.add_assoc _ c], h1, h2, h3⟩
    · simp [T.get] at he
  · simp [T.get] at he

theorem optRel (h : Rel B nt w0 X γ st a w) (lo : Option Operand) : (lo.map (opd st) = none ∧ lo.map a.eval = none) ∨ ∃ v x, lo.map (opd st) = some v ∧ lo.map a.eval = some x ∧ VRel γ st.o w (Owned X γ st.o) v x := by
  cases lo with
  | none => exact .inl ⟨rfl, rfl⟩
  | some y => exact .inr ⟨_, _, rfl, rfl, opd_rel h y⟩

/-- The bounds of a cut. -/
theorem cut_run {O : Nat → Prop} {o : Store} {n cap : Nat} (hn : n ≤ cap) (s : Bool) {lo hi : Option V} {lo' hi' : Option Value}
    (hlo : (lo = none ∧ lo' = none) ∨ ∃ v x, lo = some v ∧ lo' = some x ∧ VRel γ o w O v x)
    (hhi : (hi = none ∧ hi' = none) ∨ ∃ v x, hi = some v ∧ hi' = some x ∧ VRel γ o w O v x) {k : Nat → Nat → T} {r : V × List Upd}
    (h : (cutT n lo hi k).get = some r) : ∃ i j, i ≤ j ∧ j ≤ n ∧ (lo = none → i = 0) ∧ (k i j).get = some r ∧ (Instr.sliceBounds s n cap lo' hi' none).run P w = .ok (i, j, cap) w := by
  have hb : ∀ {kk : IntKind} {z : Int} {y : Nat} {code : BoundsCode}, 0 ≤ z → z ≤ y → (Instr.sliceBound (.int kk z) y code).run P w = .ok z.toNat w := fun h1 h2 => by
    simp [Instr.sliceBound, asIntOf, h1, h2]
  unfold cutT at h
  split at h
  · have h1 := hlo.resolve_right (by rintro ⟨v, x, h, _⟩; cases h)
    have h2 := hhi.resolve_right (by rintro ⟨v, x, h, _⟩; cases h)
    refine ⟨0, n, Nat.zero_le _, Nat.le_refl _, fun _ => rfl, h, ?_⟩
    simp [h1.2, h2.2, Instr.sliceBounds]
  · rename_i kk i
    have h2 := hhi.resolve_right (by rintro ⟨v, x, h, _⟩; cases h)
    obtain ⟨v, x, h3, h4, h5⟩ := hlo.resolve_left (by rintro ⟨h, _⟩; cases h)
    simp only [Option.some.injEq] at h3
    subst h3
    simp only [VRel] at h5
    obtain ⟨hc, h⟩ := T.get_when h
    simp only [Bool.and_eq_true, decide_eq_true_eq] at hc
    refine ⟨i.toNat, n, by omega, Nat.le_refl _, (by simp), h, ?_⟩
    simp [h4, h5.1, h2.2, Instr.sliceBounds, hb hc.1 hc.2]
  · rename_i kk j
    have h2 := hlo.resolve_right (by rintro ⟨v, x, h, _⟩; cases h)
    obtain ⟨v, x, h3, h4, h5⟩ := hhi.resolve_left (by rintro ⟨h, _⟩; cases h)
    simp only [Option.some.injEq] at h3
    subst h3
    simp only [VRel] at h5
    obtain ⟨hc, h⟩ := T.get_when h
    simp only [Bool.and_eq_true, decide_eq_true_eq] at hc
    refine ⟨0, j.toNat, Nat.zero_le _, by omega, fun _ => rfl, h, ?_⟩
    have hle : j ≤ (cap : Int) := by omega
    simp [h4, h5.1, h2.2, Instr.sliceBounds, hb hc.1 hle]
  · rename_i kk i kk' j
    obtain ⟨v, x, h3, h4, h5⟩ := hhi.resolve_left (by rintro ⟨h, _⟩; cases h)
    obtain ⟨v', x', h3', h4', h5'⟩ := hlo.resolve_left (by rintro ⟨h, _⟩; cases h)
    simp only [Option.some.injEq] at h3 h3'
    subst h3
    subst h3'
    simp only [VRel] at h5 h5'
    obtain ⟨hc, h⟩ := T.get_when h
    simp only [Bool.and_eq_true, decide_eq_true_eq] at hc
    refine ⟨i.toNat, j.toNat, by omega, by omega, (by simp), h, ?_⟩
    have hle : j ≤ (cap : Int) := by omega
    have hle2 : i ≤ ((j.toNat : Nat) : Int) := by omega
    have h0 : 0 ≤ j := by omega
    simp [h4, h5.1, h4', h5'.1, Instr.sliceBounds, hb h0 hle, hb hc.1 hle2]
  · simp [T.get] at h

theorem op_slice (hT : TiOK P B E) (h : Rel B nt w0 X γ st a w) (o : Oper) {t : Nat} {x : Operand} {lo hi mx : Option Operand} (ho : o.op = .slice t x lo hi mx) {v : V} {us : List Upd}
    (he : (evOp E st.o (opd st) o.dst o.op).get = some (v, us)) : OpWp P B nt w0 X a w o st v us := by
  have hx := opd_rel h x
  rw [ho] at he
  simp only [evOp] at he
  have hrun : ∀ y, (Instr.sliceAt t (a.eval x) (lo.map a.eval) (hi.map a.eval) (mx.map a.eval)).run P w = .ok y w → (execOp a.eval o).run P w = .ok (.value y) w := fun y hy => by
    unfold execOp
    simp only [ho, Sem.run_bind, hy, Result.andThen_ok, Sem.run_pure]
  split at he
  · rename_i s hop
    rw [hop] at hx
    simp only [VRel] at hx
    split at he
    · rename_i hd hks
      obtain ⟨i, j, hij, hj, _, he, hb⟩ := cut_run (P := P) (w := w) (Nat.le_refl s.size) false (optRel h lo) (optRel h hi) he
      simp only [T.get, Option.some.injEq, Prod.mk.injEq] at he
      obtain ⟨rfl, rfl⟩ := he
      obtain ⟨d, hd1, _, hd2⟩ := (hT.kinds (t := t) (by rw [hks]; simp)).und
      rw [hd] at hd2
      obtain rfl := hd2.2.1 hks
      refine OpWp.pure h (hrun (.string (s.extract i j)) ?_) ?_
      · simp [Instr.sliceAt, run_underlying hd1, hx.1, Instr.slice, hb]
      · simp only [VRel]
        refine ⟨trivial, ?_⟩
        rw [ByteArray.size_extract]
        have := hx.2
        omega
    · simp [T.get] at he
  · rename_i ag ks l hop
    rw [hop] at hx
    split at he
    · rename_i e hd
      obtain ⟨hsz, he⟩ := T.get_when he
      obtain ⟨hks, hpos⟩ := szOK_spec hsz
      simp only [VRel, Kd.Rel, IV.toList] at hx
      obtain ⟨p, c, hv, hc, hm, hl, hr⟩ := hx
      obtain ⟨i, j, hij, hj, _, he, hb⟩ := cut_run (P := P) (w := w) hc true (optRel h lo) (optRel h hi) he
      simp only [T.get, Option.some.injEq, Prod.mk.injEq] at he
      obtain ⟨rfl, rfl⟩ := he
      obtain ⟨d, hd1, _, hd2⟩ := (hT.desc (t := t) (by rw [hd]; simp)).und
      rw [hd] at hd2
      subst hd2
      have hz := sizeOf_run (hT.size hpos) w
      have hlen : ((l.take j).drop i).length = j - i := by rw [List.length_drop, List.length_take]; omega
      refine OpWp.pure h (hrun (.slice (if c = i then p else p.map (·.add (i * (E.tyd e).size))) (j - i) (c - i)) ?_) ?_
      · simp [Instr.sliceAt, run_underlying hd1, hv, Instr.slice, hb, hz]
      · simp only [VRel, Kd.Rel, IV.toList]
        refine ⟨_, c - i, by rw [hlen], by omega, by omega, by omega, fun m y hy => ?_⟩
        rw [List.getElem?_drop, List.getElem?_take] at hy
        split at hy
        · rename_i hlt
          obtain ⟨b, off, hp, hO, hs, hr'⟩ := hr (i + m) y hy
          subst hp
          rw [if_neg (by omega)]
          refine ⟨b, off + i * ks.length, by rw [hks]; simp [Addr.add_mid], hO, hs, ?_⟩
          refine Kd.RelAll.mono (Keep.refl _ w) (fun _ _ h => h) (fun q u hu => ?_) hr'
          rw [← hu]
          congr 2
          rw [Nat.add_mul]
          omega
        · cases hy
    · simp [T.get] at he
  · rename_i n a1 b1 hop
    rw [hop] at hx
    split at he
    · rename_i e own e' ag ks l hd hob
      obtain ⟨hsz, he⟩ := T.get_when he
      obtain ⟨hks, hpos⟩ := szOK_spec hsz
      simp only [VRel, hob] at hx
      obtain ⟨hlen, p, len, cap, p', hg, hv, h1, h2, h3, hmx, h4, h5⟩ := hx
      obtain ⟨i, j, hij, hj, _, he, hb⟩ := cut_run (P := P) (w := w) (n := b1 - a1) (cap := cap - a1) (by omega) true (optRel h lo) (optRel h hi) he
      simp only [T.get, Option.some.injEq, Prod.mk.injEq] at he
      obtain ⟨rfl, rfl⟩ := he
      obtain ⟨d, hd1, _, hd2⟩ := (hT.desc (t := t) (by rw [hd]; simp)).und
      rw [hd] at hd2
      subst hd2
      have hz := sizeOf_run (hT.size hpos) w
      refine OpWp.pure h (hrun (.slice (if cap - a1 = i then p' else p'.map (·.add (i * (E.tyd e).size))) (j - i) (cap - a1 - i)) ?_) ?_
      · simp [Instr.sliceAt, run_underlying hd1, hv, Instr.slice, hb, hz]
      · simp only [VRel, hob]
        refine ⟨by omega, p, len, cap, _, hg, by rw [show a1 + j - (a1 + i) = j - i by omega, show cap - (a1 + i) = cap - a1 - i by omega], by omega, by omega, h3, hmx, ?_, ?_⟩
        · by_cases hc : cap - a1 = i
          · right; omega
          · left
            rw [if_neg hc, h4.resolve_right (by omega), hks]
            by_cases hln : l = []
            · subst hln
              simp only [List.length_nil] at hlen
              obtain rfl : a1 = 0 := by omega
              obtain rfl : i = 0 := by omega
              cases p <;> simp [Addr.add]
            cases hp : p with
            | none => rfl
            | some ad =>
              have hspot : ad.spot = none := by
                have hor := h.ob n _ hob
                cases own with
                | true =>
                  simp only [ObRel] at hor
                  obtain ⟨_, _, xs, hx, _⟩ := hor
                  rcases hx.2 with ⟨h5, h6⟩ | ⟨g, cap', cur, T, fr, h5, _⟩
                  · rw [hg, hp] at h5; simp at h5
                  · rw [hg, hp] at h5; simp only [Value.slice.injEq, Option.some.injEq] at h5; rw [h5.1]
                | false =>
                  simp only [ObRel, Kd.Rel, IV.toList] at hor
                  obtain ⟨_, p2, c2, h5, _, _, _, hr⟩ := hor
                  obtain ⟨y, ys, rfl⟩ := List.exists_cons_of_ne_nil hln
                  obtain ⟨b, off, hp2, _⟩ := hr 0 y rfl
                  rw [hg, hp, hp2] at h5
                  simp only [Value.slice.injEq, Option.some.injEq] at h5
                  rw [h5.1]
              obtain ⟨b, off, spot⟩ := ad
              simp only at hspot
              subst hspot
              simp only [Option.map_some, Addr.add_mid, Nat.add_mul, Nat.add_assoc]
        · intro h0
          have ha : a1 = 0 := by omega
          have hi0 : i = 0 := by omega
          subst ha
          subst hi0
          rw [h5 rfl]
          cases p <;> simp [Addr.add]
    · simp [T.get] at he
  · rename_i n i0 c hop
    rw [hop] at hx
    split at he
    · rename_i N e cs hd hob
      obtain ⟨hsz, he⟩ := T.get_when he
      simp only [Bool.and_eq_true] at hsz
      obtain ⟨_, hpos⟩ := szOK_spec hsz.1
      have hle := Nat.le_of_ble_eq_true hsz.2.1
      have hN := Nat.le_of_ble_eq_true hsz.2.2
      simp only [VRel, hob] at hx
      obtain ⟨hi0, b, hg, hv⟩ := hx
      obtain ⟨i, j, hij, hj, h0, he, hb⟩ := cut_run (P := P) (w := w) (Nat.le_refl N) false (lo := none) (lo' := none) (.inl ⟨rfl, rfl⟩) (optRel h hi) he
      obtain rfl := h0 rfl
      simp only [T.get, Option.some.injEq, Prod.mk.injEq] at he
      obtain ⟨rfl, rfl⟩ := he
      obtain ⟨d, hd1, _, hd2⟩ := (hT.desc (t := t) (by rw [hd]; simp)).und
      rw [hd] at hd2
      subst hd2
      have hz := sizeOf_run (hT.size hpos) w
      refine OpWp.pure h (hrun (.slice (some ⟨b, c, none⟩) j N) ?_) ?_
      · simp [Instr.sliceAt, run_underlying hd1, hv, Instr.sureAddr, hb, hz, Addr.add]
      · simp only [VRel, hob]
        exact ⟨hj, by unfold maxLen; omega, hle, b, hg, rfl⟩
    · simp [T.get] at he
  · simp [T.get] at he

end
end Go.FM

/-
  THE SMALL MACHINE (9): bytes of texts, conversions that leave memory alone, lengths, functions as values.
-/
namespace Go.FM
open Go Go.RowKit

section
variable {B : BT} {nt : Nat} {w0 : World} {X : Zone} {γ : Nat → Value} {st : St} {a : Act} {w : World} {P : Program} {E : Env}

theorem op_index (hT : TiOK P B E) (h : Rel B nt w0 X γ st a w) (o : Oper) {t : Nat} {x ix : Operand} (ho : o.op = .index t x ix) {v : V} {us : List Upd}
    (he : (evOp E st.o (opd st) o.dst o.op).get = some (v, us)) : OpWp P B nt w0 X a w o st v us := by
  have hx := opd_rel h x
  have hix := opd_rel h ix
  rw [ho] at he
  simp only [evOp] at he
  have hrun : ∀ y, (Instr.index t (a.eval x) (a.eval ix)).run P w = .ok y w → (execOp a.eval o).run P w = .ok (.value y) w := fun y hy => by
    unfold execOp
    simp only [ho, Sem.run_bind, hy, Result.andThen_ok, Sem.run_pure]
  split at he
  · rename_i s k i hop hi
    rw [hop] at hx
    rw [hi] at hix
    simp only [VRel] at hx hix
    rw [hx.1, hix.1] at hrun
    split at he
    · rename_i hd hks
      obtain ⟨hc, he⟩ := T.get_when he
      simp only [T.get, Option.some.injEq, Prod.mk.injEq] at he
      obtain ⟨rfl, rfl⟩ := he
      simp only [Bool.and_eq_true, decide_eq_true_eq] at hc
      obtain ⟨d, hd1, _, hd2⟩ := (hT.kinds (t := t) (by rw [hks]; simp)).und
      rw [hd] at hd2
      obtain rfl := hd2.2.1 hks
      have hlt : i.toNat < s.size := by omega
      have h1 : s[i.toNat]? = some s[i.toNat] := getElem?_pos s i.toNat hlt
      have h2 : s.data.toList.getD i.toNat 0 = s[i.toNat] := by
        have hlt' : i.toNat < s.data.size := hlt
        have : s[i.toNat] = s.data[i.toNat] := rfl
        simp [List.getD, this, getElem?_pos s.data i.toNat hlt']
      refine OpWp.pure h (hrun (.int .u8 (s[i.toNat].toNat : Int)) ?_) ?_
      · simp [Instr.index, asIntOf, run_underlying hd1, hc.1, h1]
      · simp only [VRel, h2]
        refine ⟨trivial, ?_⟩
        have := s[i.toNat].toNat_lt
        simp [IntKind.min, IntKind.max, IntKind.signed, IntKind.bits]
        omega
    · simp [T.get] at he
  · rename_i cs k i hop hi
    rw [hop] at hx
    rw [hi] at hix
    simp only [VRel] at hx hix
    obtain ⟨xs, hx, hr⟩ := hx
    rw [hx, hix.1] at hrun
    split at he
    · rename_i N e hd
      obtain ⟨hsz, he⟩ := T.get_when he
      obtain ⟨_, hpos⟩ := szOK_spec hsz
      obtain ⟨m, _, hm, hi2, he2⟩ := fork_get he
      subst hi2
      obtain ⟨rfl, hv⟩ := T.get_of he2
      obtain ⟨y, hy, hr'⟩ := part_run (hT.size hpos) hv hr
      obtain ⟨d, hd1, _, hd2⟩ := (hT.desc (t := t) (by rw [hd]; simp)).und
      rw [hd] at hd2
      subst hd2
      have hz := sizeOf_run (hT.size hpos) w
      have hm' : m < N := by omega
      exact OpWp.pure h (hrun y (by simp [Instr.index, asIntOf, run_underlying hd1, hm', hz, hy])) hr'
    · simp [T.get] at he
  · simp [T.get] at he

theorem op_makeFunc (h : Rel B nt w0 X γ st a w) (o : Oper) {f : Fn} {first captured : Array Operand} (ho : o.op = .makeFunc f first captured) {v : V} {us : List Upd}
    (he : (evOp E st.o (opd st) o.dst o.op).get = some (v, us)) : OpWp P B nt w0 X a w o st v us := by
  rw [ho] at he
  cases f with
  | func f =>
    simp only [evOp] at he
    split at he
    · rename_i hf
      simp only [T.get, Option.some.injEq, Prod.mk.injEq] at he
      obtain ⟨rfl, rfl⟩ := he
      have hf' : first = #[] := by simpa using hf
      subst hf'
      refine OpWp.pure h (x := .func (.func f) #[] (captured.map a.eval)) (by unfold execOp; simp [ho, Instr.makeFunc]) ?_
      simp only [VRel]
      refine ⟨_, rfl, ?_⟩
      rw [Array.toList_map]
      have key : ∀ l : List Operand, VRels γ st.o w (Owned X γ st.o) (mapO (opd st) l) (l.map a.eval) := by
        intro l
        induction l with
        | nil => simp only [mapO, List.map_nil, VRels]
        | cons y r ih => simp only [mapO, List.map_cons, VRels]; exact ⟨opd_rel h y, ih⟩
      exact key _
    · simp [T.get] at he
  | method _ => simp [evOp, T.get] at he
  | methodOf _ _ => simp [evOp, T.get] at he
  | via _ _ _ _ => simp [evOp, T.get] at he
  | yield _ => simp [evOp, T.get] at he

theorem strOfNums_size' (l : List Int) : (strOfNums l).size = l.length := strOfNums_size l

/-- Elements of a slice value, where they lie. -/
theorem elems_rel (h : Rel B nt w0 X γ st a w) {v : V} {x : Value} (hx : VRel γ st.o w (Owned X γ st.o) v x) {l : List IV} (hl : elemsOf st.o v = some l) {ag : Bool} {ks : List Kd} (hs : shapeOf st.o v = some (ag, ks)) :
    ∃ p c, x = .slice p l.length c ∧ l.length ≤ c ∧ l.length ≤ strMax ∧ (0 < l.length → ∃ b o, p = some ⟨b, o, none⟩) ∧
      ∀ i y, l[i]? = some y → ∃ b o, p = some ⟨b, o, none⟩ ∧ b < w.heap.size ∧ Kd.RelAll w (Owned X γ st.o) ks (cellOf ag y) 0 (fun j u => w.cell? ⟨b, o + i * ks.length + j, none⟩ = some u) := by
  unfold elemsOf at hl
  split at hl
  · rename_i ag' ks' l'
    simp only [shapeOf, Option.some.injEq, Prod.mk.injEq] at hs hl
    obtain ⟨rfl, rfl⟩ := hs
    subst hl
    simp only [VRel, Kd.Rel, IV.toList] at hx
    obtain ⟨p, c, hv, hc, hm, hl, hr⟩ := hx
    refine ⟨p, c, hv, hc, hl, fun hpos => ?_, fun i y hy => ?_⟩
    · obtain ⟨b, o, hp, _⟩ := hr 0 _ (List.getElem?_eq_getElem hpos)
      exact ⟨b, o, hp⟩
    · obtain ⟨b, o, hp, _, hs, hr'⟩ := hr i y hy
      exact ⟨b, o, hp, hs, hr'⟩
  · rename_i n lo hi
    split at hl
    · rename_i own e ag' ks' l' hob
      simp only [shapeOf, hob, Option.some.injEq, Prod.mk.injEq] at hs hl
      obtain ⟨rfl, rfl⟩ := hs
      subst hl
      simp only [VRel, hob] at hx
      obtain ⟨hlen, p, len, cap, p', hg, hv, h1, h2, h3, hmx, h4, h5⟩ := hx
      have hll : ((l'.take hi).drop lo).length = hi - lo := by rw [List.length_drop, List.length_take]; omega
      have hor := h.ob n _ hob
      have hstr : l'.length ≤ strMax := by
        cases own with
        | true => simp only [ObRel] at hor; exact hor.2.1
        | false => simp only [ObRel, Kd.Rel, IV.toList] at hor; obtain ⟨_, _, _, _, _, _, hl, _⟩ := hor; exact hl
      have hp0 : hi - lo > 0 → ∃ b off, p = some ⟨b, off, none⟩ := by
        intro hpos
        cases own with
        | true =>
          simp only [ObRel] at hor
          obtain ⟨_, _, xs, hx, _⟩ := hor
          rcases hx.2 with ⟨h6, h7⟩ | ⟨g, cap', cur, T, fr, h6, _⟩
          · rw [hg] at h6; simp only [Value.slice.injEq] at h6; omega
          · rw [hg] at h6; simp only [Value.slice.injEq] at h6; exact ⟨_, _, h6.1⟩
        | false =>
          simp only [ObRel, Kd.Rel, IV.toList] at hor
          obtain ⟨_, p2, c2, h6, _, _, _, hr⟩ := hor
          have hlt : 0 < l'.length := by omega
          obtain ⟨b, off, hp2, _⟩ := hr 0 _ (List.getElem?_eq_getElem hlt)
          rw [hg] at h6
          simp only [Value.slice.injEq] at h6
          exact ⟨b, off, by rw [h6.1, hp2]⟩
      refine ⟨p', cap - lo, by rw [hll]; exact hv, by omega, by omega, fun hpos => ?_, fun i y hy => ?_⟩
      · rw [hll] at hpos
        obtain ⟨b, off, rfl⟩ := hp0 hpos
        rw [h4.resolve_right (by omega)]
        exact ⟨b, off + lo * ks'.length, by simp [Addr.add_mid]⟩
      · rw [List.getElem?_drop, List.getElem?_take] at hy
        split at hy
        · rename_i hlt
          obtain ⟨b, off, rfl⟩ := hp0 (by omega)
          obtain ⟨hb, hr⟩ := h.elem hob (i := lo + i) (by omega) hg
          have hgd : l'.getD (lo + i) default = y := by simp [List.getD, hy]
          rw [hgd] at hr
          refine ⟨b, off + lo * ks'.length, by rw [h4.resolve_right (by omega)]; simp [Addr.add_mid], hb, ?_⟩
          refine Kd.RelAll.mono (Keep.refl _ w) (fun _ _ h => h) (fun q u hu => ?_) hr
          rw [← hu]
          congr 2
          rw [Nat.add_mul]
          omega
        · cases hy
    · cases hl
  · simp only [shapeOf] at hs
    cases hs
  · cases hl

theorem op_convert (hT : TiOK P B E) (h : Rel B nt w0 X γ st a w) (o : Oper) {s t : Nat} {x : Operand} (ho : o.op = .convert s t x) {v : V}
    (he : (evOp E st.o (opd st) o.dst o.op).get = some (v, [])) : OpWp P B nt w0 X a w o st v [] := by
  have hx := opd_rel h x
  rw [ho] at he
  simp only [evOp] at he
  have hrun : ∀ y, (convert s t (a.eval x)).run P w = .ok y w → (execOp a.eval o).run P w = .ok (.value y) w := fun y hy => by
    unfold execOp
    simp only [ho, Sem.run_bind, hy, Result.andThen_ok, Sem.run_pure]
  split at he
  · rename_i k0 n hop
    rw [hop] at hx
    simp only [VRel] at hx
    rw [hx.1] at hrun
    split at he
    · rename_i k ks1 kss hd hks hkss
      simp only [T.get, Option.some.injEq, Prod.mk.injEq, and_true] at he
      subst he
      obtain ⟨d, hd1, _, hd2⟩ := (hT.kinds (t := t) (by rw [hks]; simp)).und
      rw [hd] at hd2
      obtain rfl := hd2.1 k hks
      obtain ⟨d', hd1', _, _⟩ := (hT.kinds (t := s) (by rw [hkss]; simp)).und
      refine OpWp.pure h (hrun (.int k (k.wrap n)) ?_) ?_
      · simp [convert, run_underlying hd1, run_underlying hd1', Conv.intToInt]
      · simp only [VRel]
        exact ⟨trivial, wrap_min _ _⟩
    · simp [T.get] at he
  · rename_i b hop
    rw [hop] at hx
    simp only [VRel] at hx
    rw [hx.1] at hrun
    split at he
    · rename_i k1 kss hd hks hkss
      simp only [T.get, Option.some.injEq, Prod.mk.injEq, and_true] at he
      subst he
      obtain ⟨d, hd1, _, hd2⟩ := (hT.kinds (t := t) (by rw [hks]; simp)).und
      rw [hd] at hd2
      obtain rfl := hd2.2.1 hks
      obtain ⟨d', hd1', _, _⟩ := (hT.kinds (t := s) (by rw [hkss]; simp)).und
      refine OpWp.pure h (hrun (.string b) ?_) ?_
      · simp [convert, run_underlying hd1, run_underlying hd1']
      · simp only [VRel]
        exact ⟨trivial, hx.2⟩
    · split at he
      · simp [T.get] at he
      · simp [T.get] at he
    · simp [T.get] at he
  · split at he
    · rename_i e hd hks hds
      split at he
      · rename_i l hde hkse hl hsh
        simp only [T.get, Option.some.injEq, Prod.mk.injEq, and_true] at he
        subst he
        obtain ⟨d, hd1, _, hd2⟩ := (hT.kinds (t := t) (by rw [hks]; simp)).und
        rw [hd] at hd2
        obtain rfl := hd2.2.1 hks
        obtain ⟨d', hd1', _, hd2'⟩ := (hT.desc (t := s) (by rw [hds]; simp)).und
        rw [hds] at hd2'
        subst hd2'
        obtain ⟨d'', hd1'', _, hd2''⟩ := (hT.kinds (t := e) (by rw [hkse]; simp)).und
        rw [hde] at hd2''
        obtain rfl := hd2''.1 _ hkse
        obtain ⟨p, c, hv, hc, hlm, hp0, hr⟩ := elems_rel h hx hl hsh
        rw [hv] at hrun
        refine OpWp.pure h (hrun (.string (strOfNums (l.map IV.toInt))) ?_) ?_
        · cases hp : p with
          | none =>
            have hl0 : l = [] := by
              rcases Nat.eq_zero_or_pos l.length with h0 | h0
              · exact List.eq_nil_of_length_eq_zero h0
              · obtain ⟨b, off, h1⟩ := hp0 h0
                rw [hp] at h1
                cases h1
            subst hl0
            simp [convert, run_underlying hd1, run_underlying hd1', run_underlying hd1'', Conv.bytesToString, strOfNums]
            rfl
          | some ad =>
            have hload : (loadCells ad l.length).run P w = .ok ((l.map IV.toInt).map (Value.int .u8)).toArray w := by
              have hll : ((l.map IV.toInt).map (Value.int .u8)).length = l.length := by simp
              rw [← hll]
              refine run_loadCells_list (P := P) w ad _ (fun j u hu => ?_)
              simp only [List.getElem?_map, Option.map_eq_some_iff] at hu
              obtain ⟨n, ⟨y, hy, rfl⟩, rfl⟩ := hu
              obtain ⟨b, off, h1, _, hr'⟩ := hr j y hy
              rw [hp] at h1
              simp only [Option.some.injEq] at h1
              subst h1
              simp only [Kd.RelAll, cellOf, List.length_cons, List.length_nil] at hr'
              obtain ⟨⟨u, hu, hk⟩, _⟩ := hr'
              simp only [Kd.Rel] at hk
              rw [Addr.add_mid, ← hk.1, ← hu]
              congr 2
              omega
            have := run_bytesToString w ad l.length c (l.map IV.toInt) hload
            have he : (l.map IV.toInt).foldl (fun r n => r.push (UInt8.ofNat n.toNat)) ByteArray.empty = strOfNums (l.map IV.toInt) := by
              rw [foldl_push_bytes]
              simp [strOfNums]
            rw [he] at this
            simp [convert, run_underlying hd1, run_underlying hd1', run_underlying hd1'', this]
        · simp only [VRel]
          exact ⟨trivial, by rw [strOfNums_size]; simpa using hlm⟩
      · simp [T.get] at he
    · simp [T.get] at he

end
end Go.FM

/-
  THE SMALL MACHINE (10): operations that make memory, and that write it.
-/
namespace Go.FM
open Go Go.RowKit

section
variable {B : BT} {nt : Nat} {w0 : World} {X : Zone} {γ : Nat → Value} {st : St} {a : Act} {w : World} {P : Program} {E : Env}

theorem okLeaf_one (h : Rel B nt w0 X γ st a w) {v : V} {x : Value} (hv : VRel γ st.o w (Owned X γ st.o) v x) (hk : okLeaf st.o v = true) : x.oneCell' = true ∧ x.cells = #[x] := by
  have key : (x.oneCell' = true) → x.oneCell' = true ∧ x.cells = #[x] := fun h1 => ⟨h1, by cases x <;> first | rfl | (simp [Value.oneCell'] at h1)⟩
  cases v with
  | any => simp [okLeaf] at hk
  | int k n => simp only [VRel] at hv; exact key (by rw [hv.1]; rfl)
  | bool b => simp only [VRel] at hv; exact key (by rw [hv]; rfl)
  | str s => simp only [VRel] at hv; exact key (by rw [hv.1]; rfl)
  | list ag ks l => simp only [VRel, Kd.Rel] at hv; obtain ⟨p, c, hv, _⟩ := hv; exact key (by rw [hv]; rfl)
  | zs => simp only [VRel] at hv; exact key (by rw [hv]; rfl)
  | row n lo hi =>
    simp only [okLeaf] at hk
    split at hk
    · rename_i ob; simp only [VRel, ob] at hv; obtain ⟨_, p, len, cap, p', _, hv, _⟩ := hv; exact key (by rw [hv]; rfl)
    · cases hk
  | ptr n i c =>
    simp only [okLeaf] at hk
    split at hk
    · rename_i ob; obtain ⟨ad, hp⟩ := ptr_live h hv ob; exact key (by rw [hp]; rfl)
    · cases hk
  | iptr ks f c => simp only [VRel] at hv; obtain ⟨b, off, hv, _⟩ := hv; exact key (by rw [hv]; rfl)
  | bview n c cap sz len =>
    simp only [okLeaf] at hk
    split at hk
    · rename_i ob; simp only [VRel, ob] at hv; obtain ⟨_, _, _, b, _, hv⟩ := hv; exact key (by rw [hv]; rfl)
    · cases hk
  | agg l => simp [okLeaf] at hk
  | tup l => simp [okLeaf] at hk
  | err b =>
    simp only [VRel] at hv
    cases b with
    | true => exact key (by rw [hv]; rfl)
    | false => obtain ⟨t, u, hv⟩ := hv; exact key (by rw [hv]; rfl)
  | nilp => simp only [VRel] at hv; exact key (by rw [hv]; rfl)
  | clo f l => simp only [VRel] at hv; obtain ⟨cs, hv, _⟩ := hv; exact key (by rw [hv]; rfl)
  | bor l => simp [okLeaf] at hk
  | vec e ag ks l => simp [okLeaf] at hk
  | bld s => simp [okLeaf] at hk

theorem okV_cells (h : Rel B nt w0 X γ st a w) {v : V} {x : Value} (hv : VRel γ st.o w (Owned X γ st.o) v x) (hk : okV st.o v = true) : VRels γ st.o w (Owned X γ st.o) (cells v) x.cells.toList := by
  by_cases hg : ∃ l, v = .agg l
  · obtain ⟨l, rfl⟩ := hg
    simp only [VRel] at hv
    obtain ⟨cs, rfl, hr⟩ := hv
    exact hr
  · have h1 : cells v = [v] := by cases v <;> first | rfl | (exact absurd ⟨_, rfl⟩ hg)
    have h2 : okLeaf st.o v = true := by cases v <;> first | exact hk | (exact absurd ⟨_, rfl⟩ hg)
    rw [h1, (okLeaf_one h hv h2).2]
    simp only [VRels, and_true]
    exact hv

theorem okAll_one (h : Rel B nt w0 X γ st a w) : ∀ {l : List V} {xs : List Value}, VRels γ st.o w (Owned X γ st.o) l xs → okAll st.o l = true → ∀ x ∈ xs, x.oneCell' = true
  | [], [], _, _, _, hx => by cases hx
  | [], _ :: _, hr, _, _, _ => by simp only [VRels] at hr
  | _ :: _, [], hr, _, _, _ => by simp only [VRels] at hr
  | v :: vs, x :: xs, hr, hk, y, hy => by
    simp only [VRels] at hr
    simp only [okAll] at hk
    cases h1 : okLeaf st.o v <;> simp only [h1] at hk
    · cases hk
    · rcases List.mem_cons.1 hy with rfl | hy
      · exact (okLeaf_one h hr.1 h1).1
      · exact okAll_one h hr.2 hk y hy

theorem putV_eq : ∀ (cs : List V) (n : Nat) (vs : List V), n + vs.length ≤ cs.length → putV cs n vs = cs.take n ++ vs ++ cs.drop (n + vs.length)
  | cs, n, [], _ => by
    cases cs with
    | nil => simp [putV]
    | cons x r => simp [putV]
  | [], n, v :: vs, h => by simp at h
  | x :: r, 0, v :: vs, h => by
    simp only [putV, List.take_zero, List.nil_append, List.length_cons, Nat.zero_add, List.drop_succ_cons, List.cons_append]
    rw [putV_eq r 0 vs (by simp at h ⊢; omega)]
    simp
  | x :: r, n + 1, v :: vs, h => by
    simp only [putV, List.take_succ_cons, List.cons_append]
    rw [putV_eq r n (v :: vs) (by simp at h ⊢; omega)]
    congr 2
    simp only [List.length_cons]
    rw [show n + 1 + (vs.length + 1) = (n + (vs.length + 1)) + 1 by omega, List.drop_succ_cons]

theorem VRels.put {γ : Nat → Value} {o : Store} {w : World} {O : Nat → Prop} {cs vs : List V} {xs ys : List Value} {n : Nat} (h : VRels γ o w O cs xs) (h' : VRels γ o w O vs ys) (hl : n + vs.length ≤ cs.length) :
    VRels γ o w O (putV cs n vs) (xs.take n ++ ys ++ xs.drop (n + ys.length)) := by
  rw [putV_eq cs n vs hl, ← h'.length]
  exact ((h.take n).append h').append (h.drop _)

/-- The fold of 'fill'. -/
theorem fold_put (off : Nat) : ∀ (vs : List Value) (j : Nat) (cs : Array Value), off + j + vs.length ≤ cs.size →
    ((vs.zipIdx j).foldl (fun cs (c, j) => cs.setIfInBounds (off + j) c) cs).toList = cs.toList.take (off + j) ++ vs ++ cs.toList.drop (off + j + vs.length)
  | [], j, cs, _ => by simp
  | v :: vs, j, cs, h => by
    simp only [List.zipIdx_cons, List.foldl_cons]
    rw [fold_put off vs (j + 1) _ (by simp at h ⊢; omega)]
    have e := list_seg_step cs.toList (off + j) v vs (by simp at h ⊢; omega)
    simpa [Array.toList_setIfInBounds, Nat.add_assoc] using e

theorem fill_rel (h : Rel B nt w0 X γ st a w) {pv pm : Nat → Option (Nat × Nat)} (hp : ∀ i q, pv i = some q → pm i = some q) : ∀ {parts : List (Nat × V)} {parts' : List (Nat × Value)} {cs cs' : List V} {xs : Array Value},
    VRels γ st.o w (Owned X γ st.o) cs xs.toList → parts.length = parts'.length → (∀ (j i : Nat) (v : V), parts[j]? = some (i, v) → ∃ x, parts'[j]? = some (i, x) ∧ VRel γ st.o w (Owned X γ st.o) v x) →
    fillV st.o pv cs parts = some cs' → ∃ xs', Instr.fill pm xs parts' = some xs' ∧ VRels γ st.o w (Owned X γ st.o) cs' xs'.toList
  | [], [], cs, cs', xs, hr, _, _, hf => by
    simp only [fillV, Option.some.injEq] at hf
    subst hf
    exact ⟨xs, rfl, hr⟩
  | [], _ :: _, _, _, _, _, hl, _, _ => by simp at hl
  | _ :: _, [], _, _, _, _, hl, _, _ => by simp at hl
  | (i, v) :: r, (i', x) :: r', cs, cs', xs, hr, hl, hpt, hf => by
    obtain ⟨x', hx', hv⟩ := hpt 0 i v rfl
    simp only [List.getElem?_cons_zero, Option.some.injEq, Prod.mk.injEq] at hx'
    obtain ⟨rfl, rfl⟩ := hx'
    simp only [fillV] at hf
    split at hf
    · rename_i off size hq
      split at hf
      · rename_i hc
        simp only [Bool.and_eq_true] at hc
        have h1 := beq_eq'.1 hc.2.1
        have h2 := Nat.le_of_ble_eq_true hc.2.2
        have hcr := okV_cells h hv hc.1
        have hlen := hcr.length
        have hlen2 := hr.length
        have hsz : x.cells.size = size := by rw [← h1, hlen]; simp
        have hxs : xs.size = cs.length := by rw [hlen2]; simp
        have hfold := fold_put off x.cells.toList 0 xs (by rw [Nat.add_zero, ← hlen, h1, hxs]; exact h2)
        obtain ⟨xs', hx1, hx2⟩ := fill_rel h hp (parts := r) (parts' := r') (cs := putV cs off (cells v)) (cs' := cs') (xs := x.cells.zipIdx.foldl (fun cs (c, j) => cs.setIfInBounds (off + j) c) xs)
          (by
            have : (x.cells.zipIdx.foldl (fun cs (c, j) => cs.setIfInBounds (off + j) c) xs) = (x.cells.toList.zipIdx 0).foldl (fun cs (c, j) => cs.setIfInBounds (off + j) c) xs := by
              rw [← Array.foldl_toList, Array.toList_zipIdx]
            rw [this, hfold]
            simp only [Nat.add_zero]
            exact hr.put hcr (by rw [h1]; exact h2))
          (by simpa using hl) (fun j i v hj => by
            have := hpt (j + 1) i v (by simpa using hj)
            simpa using this) hf
        refine ⟨xs', ?_, hx2⟩
        simp only [Instr.fill, hp _ _ hq]
        rw [if_neg]
        · exact hx1
        · simp only [hsz, ne_eq, not_true_eq_false, decide_false, Bool.false_or, decide_eq_true_eq, hxs]
          omega
      · cases hf
    · cases hf

theorem opList_get (h : Rel B nt w0 X γ st a w) : ∀ (l : List (Nat × Operand)), (opList (opd st) l).length = (l.map fun (i, x) => (i, a.eval x)).length ∧
    ∀ (j i : Nat) (v : V), (opList (opd st) l)[j]? = some (i, v) → ∃ x, (l.map fun (i, x) => (i, a.eval x))[j]? = some (i, x) ∧ VRel γ st.o w (Owned X γ st.o) v x
  | [] => by simp [opList]
  | (i, x) :: r => by
    obtain ⟨h1, h2⟩ := opList_get h r
    refine ⟨by simpa [opList] using h1, fun j i' v hj => ?_⟩
    cases j with
    | zero =>
      simp only [opList, List.getElem?_cons_zero, Option.some.injEq, Prod.mk.injEq] at hj
      obtain ⟨rfl, rfl⟩ := hj
      exact ⟨a.eval x, by simp, opd_rel h x⟩
    | succ j =>
      simp only [opList, List.getElem?_cons_succ] at hj
      obtain ⟨y, hy, hr⟩ := h2 j i' v hj
      exact ⟨y, by simpa using hy, hr⟩

/-- The places of a struct's fields. -/
theorem places_run (w : World) : ∀ (fs : List Field) (is : List Nat), fs.length = is.length → (∀ (j : Nat) (f : Field) (n : Nat), fs[j]? = some f → is[j]? = some n → (sizeOf f.type).run P w = .ok n w) →
    (fs.mapM fun f => Prod.mk f.offset <$> sizeOf f.type).run P w = .ok (fs.zipWith (fun f n => (f.offset, n)) is) w
  | [], [], _, _ => by simp
  | [], _ :: _, h, _ => by simp at h
  | _ :: _, [], h, _ => by simp at h
  | f :: fs, n :: is, h, hs => by
    have h0 := hs 0 f n rfl rfl
    have ih := places_run w fs is (by simpa using h) (fun j f n h1 h2 => hs (j + 1) f n (by simpa using h1) (by simpa using h2))
    simp [List.mapM_cons, h0, ih]

theorem op_box (h : Rel B nt w0 X γ st a w) (o : Oper) (hd9 : ∀ d, o.dst = some d → d ≠ 900000) {t : Nat} {x : Operand} (ho : o.op = .box t x) {v : V} {us : List Upd}
    (he : (evOp E st.o (opd st) o.dst o.op).get = some (v, us)) : OpWp P B nt w0 X a w o st v us := by
  have hx := opd_rel h x
  rw [ho] at he
  simp only [evOp] at he
  split at he
  · rename_i d hd
    obtain ⟨hk, he⟩ := T.get_when he
    simp only [T.get, Option.some.injEq, Prod.mk.injEq] at he
    obtain ⟨rfl, rfl⟩ := he
    have hc := okV_cells h hx hk
    have hn := Rel.new h [] d (hd9 d hd) (.box ((cells (opd st x)).map (scrubV d))) (.pointer (some ⟨w.heap.size, 0, none⟩)) (w' := w.alloc (.cells (a.eval x).cells t)) (Keep.alloc _ w _)
      (by
        rintro b ⟨ad, hb, rfl⟩
        simp only [Value.pointer.injEq, Option.some.injEq] at hb
        subst hb
        exact ⟨by simp, .inl (Nat.le_refl _)⟩)
      (by
        intro O' hO hcmp
        simp only [ObRel]
        exact ⟨w.heap.size, (a.eval x).cells, t, rfl, heap_alloc_new w _, VRels.mono (Keep.alloc _ w _) hO (scrubs_rel hcmp hc)⟩)
    refine OpWp.value (x := .pointer (some ⟨w.heap.size, 0, none⟩)) (w' := w.alloc (.cells (a.eval x).cells t)) (by unfold execOp; simp [ho, Instr.box, newVar, newRow]) hn ?_
    simp only [St.ups, VRel, objOf_up_new, if_true]
    exact ⟨trivial, w.heap.size, rfl, rfl⟩
  · simp [T.get] at he

theorem zero_cells {t : Nat} (hs : TISnd P B t (E.tyd t)) : ∃ i z, P.info? t = some i ∧ i.zero = some z ∧ z.cells.size = (E.tyd t).size ∧ i.size = (E.tyd t).size ∧ i.bytes = (E.tyd t).bytes ∧
    ∀ γ o w O, VRels γ o w O (E.tyd t).zero z.cells.toList := by
  obtain ⟨i, z, hi, hsz, hby, hz, hzs, hzr⟩ := hs.info
  exact ⟨i, z, hi, hz, hzs, hsz, hby, hzr⟩

theorem op_alloc (hT : TiOK P B E) (h : Rel B nt w0 X γ st a w) (o : Oper) (hd9 : ∀ d, o.dst = some d → d ≠ 900000) {t : Nat} (ho : o.op = .alloc t) {v : V} {us : List Upd} (hB : (E.tyd B.T).d = .bld → ∃ i, P.info? B.T = some i ∧ i.zero = some (.agg #[.pointer none, .slice none 0 0]))
    (he : (evOp E st.o (opd st) o.dst o.op).get = some (v, us)) : OpWp P B nt w0 X a w o st v us := by
  rw [ho] at he
  simp only [evOp] at he
  split at he
  · rename_i d hd
    split at he
    · rename_i hdb
      simp only [T.get, Option.some.injEq, Prod.mk.injEq] at he
      obtain ⟨rfl, rfl⟩ := he
      have hs := hT.desc (t := t) (by rw [hdb]; simp)
      obtain ⟨_, _, _, hd2⟩ := hs.und
      rw [hdb] at hd2
      subst hd2
      obtain ⟨i, hi, hz⟩ := hB hdb
      have hn := Rel.new h [] d (hd9 d hd) (.bld ByteArray.empty) (.tuple #[.pointer (some ⟨w.heap.size, 0, none⟩), .slice none 0 0]) (w' := w.alloc (.cells #[.pointer none, .slice none 0 0] B.T)) (Keep.alloc _ w _)
        (by
          rintro b ⟨ad, u, hb, hb2⟩
          simp only [Value.tuple.injEq, Array.mk.injEq, List.cons.injEq, Value.pointer.injEq, Option.some.injEq, and_true] at hb
          obtain ⟨rfl, rfl⟩ := hb
          rcases hb2 with rfl | hb2
          · exact ⟨by simp, .inl (Nat.le_refl _)⟩
          · simp [Value.ownBlock] at hb2)
        (by
          intro O' hO hcmp
          simp only [ObRel]
          refine ⟨w.heap.size, .slice none 0 0, .pointer none, rfl, .inl rfl, heap_alloc_new w _, ?_, by simp [Value.ownBlock], by simp [strMax]⟩
          exact ⟨by simp [Lib.strCells], .inl ⟨rfl, rfl⟩⟩)
      refine OpWp.value (x := .pointer (some ⟨w.heap.size, 0, none⟩)) (w' := w.alloc (.cells #[.pointer none, .slice none 0 0] B.T)) ?_ hn ?_
      · unfold execOp
        simp [ho, Instr.alloc, zeroValue, typeInfo, hi, hz, newVar, newRow, Value.cells]
      · simp only [St.ups, VRel, objOf_up_new, if_true]
        exact ⟨trivial, w.heap.size, _, rfl, rfl⟩
    · split at he
      · rename_i hb
        simp only [T.get, Option.some.injEq, Prod.mk.injEq] at he
        obtain ⟨rfl, rfl⟩ := he
        have hs := hT.size (Nat.le_of_ble_eq_true hb)
        obtain ⟨i, z, hi, hz, _, _, _, hzr⟩ := zero_cells hs
        have hn := Rel.new h [] d (hd9 d hd) (.box (E.tyd t).zero) (.pointer (some ⟨w.heap.size, 0, none⟩)) (w' := w.alloc (.cells z.cells t)) (Keep.alloc _ w _)
          (by
            rintro b ⟨ad, hb, rfl⟩
            simp only [Value.pointer.injEq, Option.some.injEq] at hb
            subst hb
            exact ⟨by simp, .inl (Nat.le_refl _)⟩)
          (by
            intro O' hO hcmp
            simp only [ObRel]
            exact ⟨w.heap.size, z.cells, t, rfl, heap_alloc_new w _, hzr _ _ _ _⟩)
        refine OpWp.value (x := .pointer (some ⟨w.heap.size, 0, none⟩)) (w' := w.alloc (.cells z.cells t)) ?_ hn ?_
        · unfold execOp
          cases z <;> simp [ho, Instr.alloc, zeroValue, typeInfo, hi, hz, newVar, newRow]
        · simp only [St.ups, VRel, objOf_up_new, if_true]
          exact ⟨trivial, w.heap.size, rfl, rfl⟩
      · simp [T.get] at he
  · simp [T.get] at he

end
end Go.FM
