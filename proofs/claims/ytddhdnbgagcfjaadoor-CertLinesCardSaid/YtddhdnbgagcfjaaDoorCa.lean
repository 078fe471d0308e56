/-
  A small machine that reckons what a call comes to; the functions of the program, one by one. (THE SMALL MACHINE (1): what it reckons with. A deterministic, THE SMALL MACHINE (2): the run of an operation, of a region,, THE SMALL MACHINE (3): what its values say of the model's va, and so on.)
-/
import GoSem.Core.Code
import GoSem.Core.Program
import GoSem.Op.Shift
import GoSem.Op.String
import Derived.Laws.BytesArg
import Derived.Calls
import Derived.Below
import Derived.Laws.AppendOwn
import Derived.Maps.RangeRun
import Derived.Laws.CopyRow
import Derived.Lib.FrozenHead
import Derived.Deep.MidRow
import Derived.Laws.Tables
import Derived.Great.BuildSlice
import Derived.Laws.BytesString
import Derived.Lib.AppendZerosOnto
import Derived.BigFrame
namespace Go.FM
open Go
inductive Kd where
  | int (k:IntKind)
  | bool
  | str
  | list (ag:Bool) (ks:List Kd)
inductive IV where
  | int (n:Int)
  | bool (b:Bool)
  | str (s:ByteArray)
  | list (l:List IV)
  | agg (l:List IV)
instance:Inhabited IV:=⟨.int 0⟩
def IV.toInt:IV→Int | .int n=>n | _=>0
def IV.toBool:IV→Bool | .bool b=>b | _=>false
def IV.toStr:IV→ByteArray | .str s=>s | _=>ByteArray.empty
def IV.toList:IV→List IV | .list l=>l | _=>[]
def nth (l:List IV):Nat→IV
  | 0=>match l with | []=>default | x :: _=>x
  | n+1=>match l with | []=>default | _ :: r=>nth r n
def IV.cell:IV→Nat→IV | .agg l,j=>nth l j | _,_=>default
def z13 (ag:Bool) (x:IV) (j:Nat):IV:=match ag with | true=>x.cell j | false=>x
inductive V where
  | any
  | int (k:IntKind) (n:Int)
  | bool (b:Bool)
  | str (s:ByteArray)
  | list (ag:Bool) (ks:List Kd) (l:List IV)
  | zs
  | row (n:Nat) (lo hi:Nat)
  | ptr (n:Nat) (i:Nat) (c:Nat)
  | iptr (ks:List Kd) (f:Nat→IV) (c:Nat)
  | bview (n:Nat) (c:Nat) (cap sz:Nat) (len:Nat)
  | agg (l:List V)
  | tup (l:List V)
  | err (none:Bool)
  | nilp
  | clo (f:Nat) (caps:List V)
  | bor (cells:List V)
  | vec (e:Nat) (ag:Bool) (ks:List Kd) (l:List IV)
  | bld (s:ByteArray)
inductive Ob where
  | box (cs:List V)
  | row (own:Bool) (e:Nat) (ag:Bool) (ks:List Kd) (l:List IV)
  | bld (s:ByteArray)
  | map (k:Kd) (es:List (Int × IV))
  | iter (k:Kd) (last:Option (Int × IV)) (rest:List (Int × IV))
abbrev Store:=List (Nat × Option Ob)
abbrev Res:=Option (V × List (List V))
abbrev zlm:=List V→Res
inductive R where
  | no
  | ok (v:V) (out:List (List V))
  | br (b:Bool) (x y:R)
def R.get:R→Res
  | .no=>none
  | .ok v out=>some (v,out)
  | .br true x _=>x.get
  | .br false _ y=>y.get
abbrev z2a:=List V→R
inductive TD where
  | leaf
  | slice (e:Nat)
  | struct (fs:List (Nat × Nat))
  | array (n:Nat) (e:Nat)
  | ptr (e:Nat)
  | map (e:Nat) (k:Kd)
  | bld
  | iface
structure TI where
  size:Nat
  bytes:Nat
  agg:Bool
  ks:List Kd
  zero:List V
  d:TD
inductive Loc where
  | tmp (t:Nat)
  | cell (b c:Nat)
structure Can where
  loc:Loc
  nm:Nat
  e:Nat
  ag:Bool
  ks:List Kd
structure KP where
  t:List Nat
  o:List Nat
  c:List Can:=[]
structure Ip where
  e:Nat
  ret:Bool
  g:List V→List IV→Option (List IV)
structure Env where
  ti:List (Nat × TI)
  sp:List (Nat × z2a)
  kp:List (Nat × List Nat)
  lp:List (Nat × KP)
  nt:Nat
  N:Nat
  eqs:List Nat:=[]
  ip:List (Nat × Ip):=[]
structure St where
  t:List (Nat × V)
  o:Store
def lk {α:Type}:List (Nat × α)→Nat→Option α
  | [],_=>none
  | (j,x) :: r,i=>match Nat.beq j i with | true=>some x | false=>lk r i
def lkd {α:Type} (d:α):List (Nat × α)→Nat→α
  | [],_=>d
  | (j,x) :: r,i=>match Nat.beq j i with | true=>x | false=>lkd d r i
def St.get (s:St) (i:Nat):V:=lkd .any s.t i
def TI.none:TI:=⟨0,0,false,[],[],.leaf⟩
def Env.tyd (E:Env) (t:Nat):TI:=lkd TI.none E.ti t
def z01 (o:Store) (n:Nat):Option Ob:=lkd none o n
def zjg (k:IntKind) (n:Int):Bool:=decide (k.min≤n)&&decide (n≤k.max)
def zkg:Value→V
  | .int k n=>match zjg k n with | true=>.int k n | false=>.any
  | .bool b=>.bool b
  | .string s=>match Nat.ble s.size 140737488355327 with | true=>.str s | false=>.any
  | .slice none 0 0=>.zs
  | .nilIface=>.err true
  | .pointer none=>.nilp
  | _=>.any
def opd (s:St):Operand→V
  | .tmp t=>s.get t
  | .const v=>zkg v
  | .func f=>.clo f []
  | .global _=>.any
def z3g (o:Store):V→Bool
  | .int _ _ | .bool _ | .str _ | .list _ _ _ | .zs | .iptr _ _ _ | .err _ | .nilp | .clo _ _=>true
  | .row n _ _=>match z01 o n with | some (.row _ _ _ _ _)=>true | _=>false
  | .ptr n _ _=>match z01 o n with | some _=>true | _=>false
  | .bview n _ _ _ _=>match z01 o n with | some (.box _)=>true | _=>false
  | _=>false
def okV (o:Store):V→Bool
  | .agg _=>true
  | v=>z3g o v
def zes (o:Store):List V→Bool
  | []=>true
  | v :: r=>match z3g o v with | true=>zes o r | false=>false
def zij:Kd→IV→V
  | .int k,x=>.int k x.toInt
  | .bool,x=>.bool x.toBool
  | .str,x=>.str x.toStr
  | .list ag ks,x=>.list ag ks x.toList
def z5f {α:Type} (g:Nat→α):Nat→Nat→List α
  | _,0=>[]
  | c,n+1=>g c :: z5f g (c+1) n
def cells:V→List V
  | .agg l=>l
  | v=>[v]
def zlk:List V→Nat→V
  | [],_=>.any
  | x :: _,0=>x
  | _ :: r,n+1=>zlk r n
def z9s:List V→Nat→List V
  | _,0=>[]
  | [],_+1=>[]
  | x :: r,n+1=>x :: z9s r n
def z7k:List V→Nat→List V
  | l,0=>l
  | [],_+1=>[]
  | _ :: r,n+1=>z7k r n
def zaq:Kd→Kd→Bool
  | .int k,.int k'=>k==k'
  | .bool,.bool=>true
  | .str,.str=>true
  | .list a ks,.list a' ks'=>a==a'&&kdsEq ks ks'
  | _,_=>false
where kdsEq:List Kd→List Kd→Bool
  | [],[]=>true
  | x :: r,y :: r'=>zaq x y&&kdsEq r r'
  | _,_=>false
def z45 (o:Store):Kd→V→Option IV
  | .int k,.int k' n=>match k==k' with | true=>some (.int n) | false=>none
  | .bool,.bool b=>some (.bool b)
  | .str,.str s=>some (.str s)
  | .list ag ks,.list ag' ks' l=>match zaq (.list ag ks) (.list ag' ks') with | true=>some (.list l) | false=>none
  | .list _ _,.zs=>some (.list [])
  | .list ag ks,.row n lo hi=>match z01 o n with
    | some (.row _ _ ag' ks' l)=>match zaq (.list ag ks) (.list ag' ks') with | true=>some (.list ((l.take hi).drop lo)) | false=>none
    | _=>none
  | _,_=>none
def z18 (o:Store):List Kd→List V→Option (List IV)
  | [],[]=>some []
  | k :: ks,v :: vs=>match z45 o k v with
    | some x=>match z18 o ks vs with | some r=>some (x :: r) | none=>none
    | none=>none
  | _,_=>none
def z65 (o:Store) (ag:Bool) (ks:List Kd) (v:V):Option IV:=
  match ag,v with
  | true,.agg vs=>match z18 o ks vs with | some l=>some (.agg l) | none=>none
  | false,v=>match z18 o ks [v] with | some (x :: _)=>some x | _=>none
  | _,_=>none
def z0c:List V→List Nat
  | []=>[]
  | .row n _ _ :: r=>n :: z0c r
  | _ :: r=>z0c r
def zo7 (agg:Bool) (size:Nat) (ks:List Kd) (f:Nat→IV) (c:Nat):Option V:=
  match Nat.ble (c+size) ks.length with
  | true=>match agg with
    | true=>some (.agg (z5f (fun j=>zij (ks.getD j .bool) (f j)) c size))
    | false=>match Nat.beq size 1 with | true=>some (zij (ks.getD c .bool) (f c)) | false=>none
  | false=>none
def zcj (agg:Bool) (size:Nat) (cs:List V) (c:Nat):Option V:=
  match Nat.ble (c+size) cs.length with
  | true=>match agg with
    | true=>some (.agg (z9s (z7k cs c) size))
    | false=>match Nat.beq size 1 with | true=>some (zlk cs c) | false=>none
  | false=>none
def z6t:List V→Nat→List V→List V
  | cs,_,[]=>cs
  | [],_,_=>[]
  | _ :: r,0,v :: vs=>v :: z6t r 0 vs
  | x :: r,n+1,vs=>x :: z6t r n vs
def zju (ag:Bool) (ks:List Kd) (x:IV) (c:Nat) (vs:List IV):IV:=
  match ag with
  | true=>.agg (z5f (fun j=>match Nat.ble c j&&Nat.blt j (c+vs.length) with | true=>nth vs (j - c) | false=>x.cell j) 0 ks.length)
  | false=>nth vs 0
inductive Upd where
  | new (n:Nat) (ob:Ob)
  | set (n:Nat) (ob:Ob)
  | kill (n:Nat)
inductive T where
  | no
  | ok (v:V) (us:List Upd)
  | br (b:Bool) (x y:T)
def T.get:T→Option (V × List Upd)
  | .no=>none
  | .ok v us=>some (v,us)
  | .br true x _=>x.get
  | .br false _ y=>y.get
def T.run (k:V→List Upd→Res):T→Res
  | .no=>none
  | .ok v us=>k v us
  | .br b x y=>match b with | true=>x.run k | false=>y.run k
theorem T.run_some {k:V→List Upd→Res} {r:V × List (List V)}:∀ {t:T},t.run k=some r→∃ v us,t.get=some (v,us)∧k v us=some r
  | .no,h=>by simp [T.run] at h
  | .ok v us,h=>⟨v,us,rfl,h⟩
  | .br true x _,h=>T.run_some (t:=x) h
  | .br false _ y,h=>T.run_some (t:=y) h
def T.when (b:Bool) (x:T):T:=.br b x .no
def T.of:Option V→T | some v=>.ok v [] | none=>.no
def zkm:Nat→Nat→Int→(Nat→T)→T
  | 0,_,_,_=>.no
  | n+1,j,i,g=>.br (decide (i=(j:Int))) (g j) (zkm n (j+1) i g)
def zhh:Kd→Bool
  | .list _ _=>false
  | _=>true
def z4d:Kd→IV
  | .int _=>.int 0
  | .bool=>.bool false
  | .str=>.str ByteArray.empty
  | .list _ _=>.list []
def z5w:List (Int × IV)→Int→Nat
  | [],_=>0
  | (j,_) :: r,k=>cond (j==k) 0 (z5w r k+1)
def zp6 (es:List (Int × IV)) (k:Int):Option IV:=match es[z5w es k]? with | some e=>some e.2 | none=>none
def zjl:List (Int × IV)→Nat→IV→List (Int × IV)
  | [],_,_=>[]
  | (j,_) :: r,0,x=>(j,x) :: r
  | e :: r,i+1,x=>e :: zjl r i x
def z5r (es:List (Int × IV)) (k:Int) (x:IV):List (Int × IV):=match Nat.blt (z5w es k) es.length with | true=>zjl es (z5w es k) x | false=>es++[(k,x)]
def zlj (es:List (Int × IV)) (k:Int) (x:IV):List (Int × IV):=match Nat.blt (z5w es k) es.length with | true=>es | false=>es++[(k,x)]
def zk6:List (Int × IV)→Nat→Int × IV
  | [],_=>(0,.bool false)
  | x :: _,0=>x
  | _ :: r,n+1=>zk6 r n
def ze7:List (Int × IV)→Nat→List (Int × IV)
  | [],_=>[]
  | _ :: r,0=>r
  | x :: r,n+1=>x :: ze7 r n
noncomputable def zp0 (n:Nat) (g:Nat→Res):Res:=@ite _ (∀ i,i < n→g i=g 0) (Classical.propDecidable _) (g 0) none
theorem zk9 {n:Nat} {g:Nat→Res} {r:V × List (List V)} (h:zp0 n g=some r):∀ i,i < n→g i=some r:=by
  unfold zp0 at h
  split at h
  · rename_i hh
    exact fun i hi=>(hh i hi).trans h
  · cases h
def zgz (vk:Kd) (es:List (Int × IV)) (k:Int):IV:=(zp6 es k).getD (z4d vk)
def zkn (op:BinOp) (k:IntKind) (a b:Int):T:=
  match op with
  | .add=>.ok (.int k (k.wrap (a+b))) []
  | .sub=>.ok (.int k (k.wrap (a - b))) []
  | .mul=>.ok (.int k (k.wrap (a*b))) []
  | .quo=>.br (decide (b=0)) .no (.ok (.int k (k.wrap (a.tdiv b))) [])
  | .rem=>.br (decide (b=0)) .no (.ok (.int k (a.tmod b)) [])
  | .and=>.ok (.int k (k.wrap (BitVec.ofInt k.bits a &&& BitVec.ofInt k.bits b).toNat)) []
  | .or=>.ok (.int k (k.wrap (BitVec.ofInt k.bits a ||| BitVec.ofInt k.bits b).toNat)) []
  | .xor=>.ok (.int k (k.wrap (BitVec.ofInt k.bits a ^^^ BitVec.ofInt k.bits b).toNat)) []
  | .andNot=>.ok (.int k (k.wrap (BitVec.ofInt k.bits a &&& ~~~ (BitVec.ofInt k.bits b)).toNat)) []
  | .eql=>.ok (.bool (a==b)) []
  | .neq=>.ok (.bool (a != b)) []
  | .lss=>.ok (.bool (decide (a < b))) []
  | .leq=>.ok (.bool (decide (a≤b))) []
  | .gtr=>.ok (.bool (decide (a > b))) []
  | .geq=>.ok (.bool (decide (a≥b))) []
  | _=>.no
def zez (op:BinOp) (k:IntKind) (a b:Int):T:=
  match op with
  | .shl=>.br (decide (b < 0)) .no (.ok (.int k (k.wrap (a*2 ^ (min b.toNat k.bits)))) [])
  | .shr=>.br (decide (b < 0)) .no (.ok (.int k (a.fdiv (2 ^ (min b.toNat k.bits)))) [])
  | _=>.no
def strMax:Nat:=140737488355327
def zlb (op:BinOp) (a b:ByteArray):T:=
  match op with
  | .add=>.when (decide (a.size+b.size≤strMax)) (.ok (.str (a++b)) [])
  | .eql=>.ok (.bool (a.toList==b.toList)) []
  | .neq=>.ok (.bool (!(a.toList==b.toList))) []
  | .lss=>.ok (.bool (Op.bytesLess a.toList b.toList)) []
  | _=>.no
def zd4:List V→List V→Option Bool
  | [],[]=>some true
  | .int k a :: r,.int k' b :: r'=>match k==k' with
    | true=>match zd4 r r' with | some c=>some ((a==b)&&c) | none=>none
    | false=>none
  | .bool a :: r,.bool b :: r'=>match zd4 r r' with | some c=>some ((a==b)&&c) | none=>none
  | _,_=>none
def z2b:List Kd→List V→Bool
  | [],[]=>true
  | .int k :: r,.int k' _ :: r'=>match k==k' with | true=>z2b r r' | false=>false
  | .bool :: r,.bool _ :: r'=>z2b r r'
  | _,_=>false
def z97 (op:BinOp) (eq:Bool):T:=
  match op with
  | .eql=>.ok (.bool eq) []
  | .neq=>.ok (.bool (!eq)) []
  | _=>.no
def zed:BinOp→Bool | .shl | .shr=>true | _=>false
def zp1 (op:BinOp) (x y:V):T:=
  match x,y with
  | .int k a,.int k' b=>match zed op with
    | true=>zez op k a b
    | false=>match k==k' with | true=>zkn op k a b | false=>.no
  | .str a,.str b=>zlb op a b
  | _,_=>.no
def zek (n:Nat):List Nat→Bool
  | []=>false
  | m :: r=>match Nat.beq m n with | true=>true | false=>zek n r
def zec:Operand→Bool | .const _=>true | _=>false
def zot (E:Env) (o:Store) (op:BinOp) (t:Nat) (yo:Operand) (x y:V):T:=
  match x,y with
  | .agg l,.agg l'=>match zek t E.eqs,z2b (E.tyd t).ks l,zd4 l l' with
    | true,true,some c=>z97 op c
    | _,_,_=>.no
  | .err a,.err true=>match zec yo,(E.tyd t).d with
    | true,.iface=>z97 op a
    | _,_=>.no
  | .bool a,.bool b=>match (E.tyd t).d,(E.tyd t).ks with
    | .leaf,[.bool]=>z97 op (a==b)
    | _,_=>.no
  | .ptr n _ _,.nilp=>match (E.tyd t).d,z01 o n with
    | .ptr _,some (.map _ _)=>.no
    | .ptr _,some _=>z97 op false
    | _,_=>.no
  | x,y=>zp1 op x y
def unT (op:UnOp) (x:V):T:=
  match op,x with
  | .neg,.int k n=>.ok (.int k (k.wrap (0 - n))) []
  | .not,.bool b=>.ok (.bool (!b)) []
  | _,_=>.no
def occ (n:Nat):List Nat→Nat
  | []=>0
  | m :: r=>match Nat.beq m n with | true=>occ n r+1 | false=>occ n r
def z0v (o:Store) (all:List Nat):V→V
  | .row n lo hi=>match z01 o n with
    | some (.row own e ag ks l)=>match own&&(Nat.beq lo 0&&Nat.beq (occ n all) 1) with
      | true=>.vec e ag ks (l.take hi)
      | false=>.list ag ks ((l.take hi).drop lo)
    | _=>.any
  | .int k n=>.int k n
  | .bool b=>.bool b
  | .str s=>.str s
  | .list ag ks l=>.list ag ks l
  | .zs=>.zs
  | .err b=>.err b
  | .nilp=>.nilp
  | _=>.any
def z14 (o:Store) (all:List Nat):List V→List Nat
  | []=>[]
  | .row n lo _ :: r=>match z01 o n with
    | some (.row own _ _ _ _)=>match own&&(Nat.beq lo 0&&Nat.beq (occ n all) 1) with
      | true=>n :: z14 o all r
      | false=>z14 o all r
    | _=>z14 o all r
  | _ :: r=>z14 o all r
def z1h (o:Store) (all:List Nat):List V→List Nat
  | []=>[]
  | .row n lo _ :: r=>match z01 o n with
    | some (.row own _ _ _ _)=>match own&&(Nat.beq lo 0&&Nat.beq (occ n all) 1) with
      | true=>z1h o all r
      | false=>n :: z1h o all r
    | _=>z1h o all r
  | _ :: r=>z1h o all r
def z1w (o:Store) (bs:List V) (tk:Option Kd):V→V
  | .zs=>match tk with | some (.list ag ks)=>.list ag ks [] | _=>.any
  | .row n lo hi=>match z01 o n with
    | some (.row _ _ ag ks l)=>.list ag ks ((l.take hi).drop lo)
    | _=>.any
  | .ptr n i c=>match z01 o n with
    | some (.row _ _ _ _ _)=>.any
    | some _=>match Nat.beq i 0&&Nat.beq c 0 with | true=>.bor bs | false=>.any
    | none=>.any
  | .int k n=>.int k n
  | .bool b=>.bool b
  | .str s=>.str s
  | .list ag ks l=>.list ag ks l
  | .err b=>.err b
  | .nilp=>.nilp
  | .iptr ks f c=>.iptr ks f c
  | _=>.any
def z30:V→V
  | .bor _=>.any
  | .iptr _ _ _=>.any
  | v=>v
def zh0 (f:Option Kd→V→V):List Kd→List V→List V
  | _,[]=>[]
  | [],v :: vs=>f none v :: zh0 f [] vs
  | k :: ks,v :: vs=>f (some k) v :: zh0 f ks vs
def zcg (o:Store) (bs:List V) (ks:List Kd):V→V
  | .agg l=>.agg (zh0 (fun k v=>z30 (z1w o bs k v)) ks l)
  | .clo f caps=>.clo f (caps.map (z1w o bs none))
  | v=>z1w o bs ks.head? v
def z1j (o:Store) (bs:List V):List (List Kd)→List V→List V
  | _,[]=>[]
  | [],v :: vs=>zcg o bs [] v :: z1j o bs [] vs
  | t :: ts,v :: vs=>zcg o bs t v :: z1j o bs ts vs
def z2x:List V→List Nat
  | []=>[]
  | .ptr n _ _ :: r=>n :: z2x r
  | .clo _ caps :: r=>lentC caps++z2x r
  | _ :: r=>z2x r
where lentC:List V→List Nat
  | []=>[]
  | .ptr n _ _ :: r=>n :: lentC r
  | _ :: r=>lentC r
def isL:V→Bool
  | .list _ _ _=>true
  | .vec _ _ _ _=>true
  | _=>false
def z9z:List V→Bool
  | []=>false
  | v :: r=>match isL v with | true=>true | false=>z9z r
def z0w:V→Bool
  | .agg l=>z9z l
  | .bor l=>z9z l
  | .tup l=>go l
  | v=>isL v
where go:List V→Bool
  | []=>false
  | .agg l :: r=>match z9z l with | true=>true | false=>go r
  | v :: r=>match isL v with | true=>true | false=>go r
def z5n:V→List Nat
  | .row n _ _=>[n]
  | .agg l=>z0c l
  | .clo _ l=>z0c l
  | .tup l=>go l
  | _=>[]
where go:List V→List Nat
  | []=>[]
  | .row n _ _ :: r=>n :: go r
  | .agg l :: r=>z0c l++go r
  | _ :: r=>go r
def z0a:List V→List Nat
  | []=>[]
  | v :: r=>z5n v++z0a r
def z06 (o:Store):List Nat→List Upd
  | []=>[]
  | n :: r=>match z01 o n with
    | some (.row true e ag ks l)=>.set n (.row false e ag ks l) :: z06 o r
    | _=>z06 o r
def z3u:List Nat→List Upd
  | []=>[]
  | n :: r=>.kill n :: z3u r
def z1s (nm:Nat):List V→List V
  | []=>[]
  | .vec _ _ _ l :: r=>.row nm 0 l.length :: z1s (nm+1) r
  | v :: r=>v :: z1s (nm+1) r
def z50 (nm:Nat):List V→List Upd
  | []=>[]
  | .vec e ag ks l :: r=>.new nm (.row true e ag ks l) :: z50 (nm+1) r
  | _ :: r=>z50 (nm+1) r
def zj3:List V→List V
  | []=>[]
  | _ :: r=>.any :: zj3 r
def z1e:List V→Option (List V)
  | []=>none
  | .bor cs :: _=>some cs
  | .clo _ caps :: r=>match borC caps with | some cs=>some cs | none=>z1e r
  | _ :: r=>z1e r
where borC:List V→Option (List V)
  | []=>none
  | .bor cs :: _=>some cs
  | _ :: r=>borC r
def zma:Option (List V)→Bool
  | some _=>true
  | none=>false
def R.toT (f:V→List (List V)→T):R→T
  | .no=>.no
  | .ok v out=>f v out
  | .br b x y=>.br b (x.toT f) (y.toT f)
theorem R.toT_get {f:V→List (List V)→T} {z:V × List Upd}:∀ {r:R},(r.toT f).get=some z→∃ v out,r.get=some (v,out)∧(f v out).get=some z
  | .no,h=>by simp [R.toT,T.get] at h
  | .ok v out,h=>⟨v,out,rfl,h⟩
  | .br true x _,h=>R.toT_get (r:=x) h
  | .br false _ y,h=>R.toT_get (r:=y) h
def z7z (o:Store) (d:Nat) (vs:List V) (v:V) (out:List (List V)):T:=
  match out with
  | []=>match v with
    | .bor cs=>match Nat.ble (1000*(d+1)+cs.length) 900000 with
      | true=>.ok (.ptr d 0 0) (z06 o (match z9z cs with | true=>z0a vs | false=>[])++(z50 (1000*(d+1)) cs++[.new d (.box (z1s (1000*(d+1)) cs))]))
      | false=>.no
    | .vec e ag ks l=>.ok (.row d 0 l.length) (z06 o (z0a vs)++[.new d (.row true e ag ks l)])
    | v=>.ok v (z06 o (match z0w v with | true=>z0a vs | false=>[]))
  | _=>.no
def zfa (o:Store) (d n:Nat) (cs vs:List V) (v:V) (outs:List (List V)):T:=
  match outs with
  | [out]=>match Nat.beq out.length cs.length&&((Nat.blt n (1000*(d+1))||Nat.ble (1000*(d+1)+out.length) n)&&Nat.ble (1000*(d+1)+out.length) 900000) with
    | true=>.ok v (z06 o (z1h o (z0c cs++z0a vs) cs++(match z0w v||z9z out with | true=>z0a vs | false=>[])) ++
        (z3u (z14 o (z0c cs++z0a vs) cs)++(.set n (.box (zj3 cs)) :: (z50 (1000*(d+1)) out++[.set n (.box (z1s (1000*(d+1)) out))]))))
    | false=>.no
  | _=>.no
def zf9 (o:Store) (n:Nat) (vs:List V) (v:V) (outs:List (List V)):T:=
  match outs with
  | [[.bld s']]=>.ok v (z06 o (match z0w v with | true=>z0a vs | false=>[])++[.set n (.bld s')])
  | _=>.no
def zo4:V→Option (Kd × IV)
  | .int k n=>some (.int k,.int n)
  | .bool b=>some (.bool,.bool b)
  | .str s=>some (.str,.str s)
  | .list ag ks l=>some (.list ag ks,.list l)
  | _=>none
def zlf:List V→Option (List Kd × List IV)
  | []=>some ([],[])
  | v :: r=>match zo4 v,zlf r with
    | some x,some y=>some (x.1 :: y.1,x.2 :: y.2)
    | _,_=>none
def zgy (o:Store):V→V
  | .ptr n i c=>match Nat.beq i 0&&Nat.beq c 0,z01 o n with
    | true,some (.box cs)=>match zlf cs with
      | some y=>.iptr y.1 (nth y.2) 0
      | none=>.any
    | _,_=>.any
  | v=>z30 (z1w o [] none v)
def zh4 (o:Store) (ks:List Kd):V→V
  | .clo f caps=>.clo f (caps.map (zgy o))
  | .ptr _ _ _=>.any
  | v=>zcg o [] ks v
def z4z (o:Store):List (List Kd)→List V→List V
  | _,[]=>[]
  | [],v :: vs=>zh4 o [] v :: z4z o [] vs
  | t :: ts,v :: vs=>zh4 o t v :: z4z o ts vs
def zk8 (v:V) (out:List (List V)):T:=
  match v,out with
  | .bool b,[]=>.ok (.bool b) []
  | _,_=>.no
def zfh (o:Store) (d:Nat) (tks:List (List Kd)) (sp:z2a) (vs:List V):T:=
  match z2x vs with
  | []=>(sp (z1j o [] tks vs)).toT (z7z o d vs)
  | [n]=>match z01 o n with
    | some (.box cs)=>match zma (z1e (z1j o (cs.map (z0v o (z0c cs++z0a vs))) tks vs)) with
      | true=>(sp (z1j o (cs.map (z0v o (z0c cs++z0a vs))) tks vs)).toT (zfa o d n cs vs)
      | false=>.no
    | some (.bld s)=>match zma (z1e (z1j o [.bld s] tks vs)) with
      | true=>(sp (z1j o [.bld s] tks vs)).toT (zf9 o n vs)
      | false=>.no
    | _=>.no
  | _=>(sp (z4z o tks vs)).toT zk8
def z25:V→V
  | .bor _=>.ptr 900000 0 0
  | .clo f caps=>.clo f (caps.map go)
  | v=>v
where go:V→V
  | .bor _=>.ptr 900000 0 0
  | v=>v
def zit:V→V
  | .vec _ _ _ l=>.row 900000 0 l.length
  | v=>z25 v
def z5y (nr:Nat):List V→Store
  | []=>[]
  | .vec e ag ks l :: r=>(nr,some (.row true e ag ks l)) :: z5y (nr+1) r
  | _ :: r=>z5y (nr+1) r
def z28:List V→Store
  | [.bld s]=>[(900000,some (.bld s))]
  | cs=>(900000,some (.box (z1s 900001 cs))) :: z5y 900001 cs
def z48 (vs:List V):Store:=match z1e vs with | some cs=>z28 cs | none=>[]
def z15 (r:V) (out:List (List V)):Store:=
  match r,out with
  | _,cs :: _=>z28 cs
  | .bor cs,[]=>z28 cs
  | .vec e ag ks l,[]=>[(900000,some (.row true e ag ks l))]
  | _,[]=>[]
def zhr (o:Store) (ks:List Kd):V→V
  | .agg l=>.agg (zh0 (fun k v=>z30 (z1w o [] k v)) ks l)
  | v=>z30 (z1w o [] ks.head? v)
def z7x (o:Store) (ks:List (List Kd)):V→V
  | .tup l=>.tup (go ks l)
  | v=>zhr o (ks.headD []) v
where go:List (List Kd)→List V→List V
  | _,[]=>[]
  | [],v :: vs=>zhr o [] v :: go [] vs
  | t :: ts,v :: vs=>zhr o t v :: go ts vs
def zm1 (o:Store) (ks:List (List Kd)) (b:Option (List V)) (v:V):Res:=
  match b with
  | some [.bld _]=>match z01 o 900000 with
    | some (.bld s)=>some (z7x o ks v,[[.bld s]])
    | _=>none
  | some _=>match z01 o 900000 with
    | some (.box cs)=>some (z7x o ks v,[cs.map (z0v o (z0c cs++z5n v))])
    | _=>none
  | none=>match v with
    | .ptr n _ c=>match z01 o n,Nat.beq c 0 with
      | some (.box cs),true=>some (.bor (cs.map (z0v o (z0c cs++[]))),[])
      | _,_=>none
    | .row n lo hi=>match ks,z01 o n with
      | [],some (.row true e ag ks' l)=>match Nat.beq lo 0 with
        | true=>some (.vec e ag ks' (l.take hi),[])
        | false=>none
      | _,_=>some (z7x o ks (.row n lo hi),[])
    | v=>some (z7x o ks v,[])
open Go
def z0y:Nat:=70368744177664
def zo5 (n:Nat) (lo hi:Option V) (k:Nat→Nat→T):T:=
  match lo,hi with
  | none,none=>k 0 n
  | some (.int _ i),none=>.when (decide (0≤i)&&decide (i≤(n:Int))) (k i.toNat n)
  | none,some (.int _ j)=>.when (decide (0≤j)&&decide (j≤(n:Int))) (k 0 j.toNat)
  | some (.int _ i),some (.int _ j)=>.when (decide (0≤i)&&(decide (i≤j)&&decide (j≤(n:Int)))) (k i.toNat j.toNat)
  | _,_=>.no
def z5b (o:Store):V→Option (List IV)
  | .list _ _ l=>some l
  | .row n lo hi=>match z01 o n with
    | some (.row _ _ _ _ l)=>some ((l.take hi).drop lo)
    | _=>none
  | .zs=>some []
  | _=>none
def z4c (o:Store):V→Option (Bool × List Kd)
  | .list ag ks _=>some (ag,ks)
  | .row n _ _=>match z01 o n with
    | some (.row _ _ ag ks _)=>some (ag,ks)
    | _=>none
  | _=>none
def z84 (ag:Bool) (ks:List Kd) (o:Store) (cs:List V) (sz:Nat):Nat→Option (List IV)
  | 0=>some []
  | n+1=>match z65 o ag ks (match ag with | true=>.agg (z9s cs sz) | false=>zlk cs 0),z84 ag ks o (z7k cs sz) sz n with
    | some x,some r=>some (x :: r)
    | _,_=>none
def z3n (o:Store) (d:Nat) (e:Nat) (ag:Bool) (ks:List Kd) (bytes:Nat) (s:V) (l:List IV):T:=
  match s with
  | .zs=>.when (decide (l.length*bytes≤z0y)) (.ok (.row d 0 l.length) [.new d (.row true e ag ks l)])
  | .row n lo hi=>match z01 o n with
    | some (.row true e' ag' ks' l0)=>match Nat.beq lo 0&&Nat.beq e e'&&Nat.blt e 1000000&&zaq (.list ag ks) (.list ag' ks') with
      | true=>.when (decide ((hi+l.length)*bytes≤z0y)) (.ok (.row d 0 (hi+l.length)) [.kill n,.new d (.row true e ag ks (l0.take hi++l))])
      | false=>.no
    | _=>.no
  | _=>.no
def z7g (o:Store) (d:Nat) (et:Nat) (e:TI) (s x:V):T:=
  match x with
  | .bview n c cap sz len=>match z01 o n with
    | some (.box cs)=>match Nat.beq sz e.size&&(z0c cs).isEmpty with
      | true=>zkm (cap+1) 0 (len:Int) fun m=>match z84 e.agg e.ks o (z7k cs c) sz m with
        | some l=>z3n o d et e.agg e.ks e.bytes s l
        | none=>.no
      | false=>.no
    | _=>.no
  | .zs=>z3n o d et e.agg e.ks e.bytes s []
  | x=>match z5b o x,z4c o x with
    | some l,some (ag,ks)=>match zaq (.list e.agg e.ks) (.list ag ks) with
      | true=>z3n o d et e.agg e.ks e.bytes s l
      | false=>.no
    | _,_=>.no
def z93 (o:Store) (d:Nat) (et:Nat) (e:TI) (tk:List Kd) (s x:V):T:=
  match tk,x,z84 e.agg e.ks [] e.zero e.size 1 with
  | [.int _],.int _ k,some (z :: _)=>match Nat.blt 0 e.size&&(Nat.blt et 1000000&&(decide (1≤k)&&(decide (k≤1000)&&(z0c e.zero).isEmpty))) with
    | true=>z3n o d et e.agg e.ks e.bytes s (List.replicate k.toNat z)
    | false=>.no
  | _,_,_=>.no
def z6h (o:Store) (x:TI) (p v:V):T:=
  match p with
  | .ptr n i c=>match z01 o n with
    | some (.box cs)=>match Nat.ble (c+x.size) cs.length&&(Nat.beq (cells v).length x.size&&Nat.beq i 0) with
      | true=>.when (okV o v&&(zes o (cells v)&&Nat.blt 0 x.size)) (.ok .any [.set n (.box (z6t cs c (cells v)))])
      | false=>.no
    | some (.row true e ag ks l)=>match Nat.ble (c+x.size) ks.length&&Nat.beq (cells v).length x.size with
      | true=>match z18 o (takeK (dropK ks c) x.size) (cells v) with
        | some vs=>.when (okV o v&&(zes o (cells v)&&Nat.blt 0 x.size)&&!(zek n (z0c (cells v)))&&(ag||Nat.beq ks.length 1)) (.ok .any (z06 o (z0c (cells v))++[.set n (.row true e ag ks (l.set i (zju ag ks (l.getD i default) c vs)))]))
        | none=>.no
      | false=>.no
    | _=>.no
  | _=>.no
where
  takeK:List Kd→Nat→List Kd
    | _,0=>[]
    | [],_+1=>[]
    | x :: r,n+1=>x :: takeK r n
  dropK:List Kd→Nat→List Kd
    | l,0=>l
    | [],_+1=>[]
    | _ :: r,n+1=>dropK r n
def z70 (o:Store) (place:Nat→Option (Nat × Nat)):List V→List (Nat × V)→Option (List V)
  | cs,[]=>some cs
  | cs,(i,v) :: r=>match place i with
    | some (off,size)=>match okV o v&&(Nat.beq (cells v).length size&&Nat.ble (off+size) cs.length) with
      | true=>z70 o place (z6t cs off (cells v)) r
      | false=>none
    | none=>none
def z4b (z:List V):Nat→List V
  | 0=>[]
  | n+1=>z++z4b z n
def z1o (E:Env) (fs:List (Nat × Nat)) (i:Nat):Option (Nat × Nat):=
  match fs,i with
  | [],_=>none
  | (off,t) :: _,0=>match Nat.blt 0 (E.tyd t).size with | true=>some (off,(E.tyd t).size) | false=>none
  | _ :: r,i+1=>z1o E r i
def z3h (ρ:Operand→V):List (Nat × Operand)→List (Nat × V)
  | []=>[]
  | (i,x) :: r=>(i,ρ x) :: z3h ρ r
def zk2 (E:Env) (e n:Nat):Bool:=Nat.beq n (E.tyd e).size&&Nat.blt 0 n
def zly (E:Env) (o:Store) (t:Nat) (x y:V):T:=
  match x,y with
  | .bview n c _ sz len,.bview n' c' cap' sz' len'=>match z01 o n,z01 o n',(E.tyd t).d with
    | some (.box cs),some (.box cs'),.slice e=>match zk2 E e sz&&Nat.beq sz sz' with
      | true=>.when (zes o cs') (zkm (cap'+1) 0 ((min len' len:Nat):Int) fun m=>.ok (.int .i64 (m:Int)) [.set n (.box (z6t cs c (z9s (z7k cs' c') (m*sz))))])
      | false=>.no
    | _,_,_=>.no
  | _,_=>.no
def zov (E:Env) (o:Store) (t:Nat) (x:V):T:=
  match x with
  | .list _ _ l=>match (E.tyd t).d with | .slice _=>.ok (.int .i64 (l.length:Int)) [] | _=>.no
  | .str s=>match (E.tyd t).d,(E.tyd t).ks with | .leaf,[.str]=>.ok (.int .i64 (s.size:Int)) [] | _,_=>.no
  | .zs=>match (E.tyd t).d with | .slice _=>.ok (.int .i64 0) [] | _=>.no
  | .row n lo hi=>match (E.tyd t).d,z01 o n with | .slice _,some (.row _ _ _ _ _)=>.ok (.int .i64 ((hi - lo:Nat):Int)) [] | _,_=>.no
  | .bview n _ _ _ len=>match (E.tyd t).d,z01 o n with | .slice _,some (.box _)=>.ok (.int .i64 (len:Int)) [] | _,_=>.no
  | _=>match (E.tyd t).d with
    | .array n _=>match Nat.ble n 1000 with | true=>.ok (.int .i64 (n:Int)) [] | false=>.no
    | _=>.no
def ziz (E:Env):List Nat→List (List Kd)
  | []=>[]
  | t :: r=>(E.tyd t).ks :: ziz E r
def zdd (ρ:Operand→V):List Operand→List V
  | []=>[]
  | x :: r=>ρ x :: zdd ρ r
def zb5:List V→Bool
  | []=>true
  | .clo _ _ :: _=>false
  | .tup _ :: _=>false
  | _ :: r=>zb5 r
def zm9:List V→Bool
  | []=>true
  | .int .i64 _ :: r=>zm9 r
  | _=>false
def zbe (o:Store):List V→Option (List V)
  | []=>some []
  | [.clo f [.ptr m i c]]=>match Nat.beq i 0&&Nat.beq c 0,z01 o m with
    | true,some (.box cs)=>match zm9 cs with | true=>some [.clo f [.bor cs]] | false=>none
    | _,_=>none
  | _=>none
def ipT (o:Store) (d:Option Nat) (p:Ip) (vs:List V):T:=
  match vs with
  | .row n lo hi :: rest=>match z01 o n,zbe o rest with
    | some (.row true e false [.int .i64] l),some rs=>match Nat.beq lo 0&&(Nat.beq e p.e&&Nat.blt e 1000000) with
      | true=>.when (Nat.beq hi l.length) (match p.g rs l with
        | some l'=>match p.ret,d with
          | true,some d=>.when (Nat.ble l'.length l.length) (.ok (.row d 0 l'.length) [.kill n,.new d (.row true e false [.int .i64] l')])
          | false,_=>.when (Nat.beq l'.length l.length) (.ok .any [.set n (.row true e false [.int .i64] l')])
          | _,_=>.no
        | none=>.no)
      | false=>.no
    | _,_=>.no
  | .zs :: rest=>match zbe o rest with
    | some rs=>match p.g rs [] with
      | some []=>match p.ret,d with
        | true,some d=>.when (Nat.blt p.e 1000000) (.ok (.row d 0 0) [.new d (.row true p.e false [.int .i64] [])])
        | false,_=>.ok .any []
        | _,_=>.no
      | _=>.no
    | none=>.no
  | _=>.no
def zna (E:Env) (o:Store) (d:Option Nat) (tks:List (List Kd)) (f:Nat) (vs:List V):T:=
  match lk E.ip f with
  | some p=>ipT o d p vs
  | none=>match d with
    | some d=>zfh o d tks (lkd (fun _=>.no) E.sp f) vs
    | none=>.no
def z83 (E:Env) (o:Store) (ρ:Operand→V) (d:Option Nat) (c:Call):T:=
  match c.callee,d with
  | .builtin .len,_=>match c.args.toList,c.argTypes.toList with
    | [x],[t]=>zov E o t (ρ x)
    | _,_=>.no
  | .builtin .append,some d=>match c.args.toList,c.argTypes.toList with
    | [s,x],[t,t']=>match (E.tyd t).d,(E.tyd t').d with
      | .slice e,.slice _=>match Nat.blt 0 (E.tyd e).size&&Nat.blt e 1000000 with
        | true=>z7g o d e (E.tyd e) (ρ s) (ρ x)
        | false=>.no
      | .slice e,.leaf=>z93 o d e (E.tyd e) (E.tyd t').ks (ρ s) (ρ x)
      | _,_=>.no
    | _,_=>.no
  | .builtin .copy,_=>match c.args.toList,c.argTypes.toList with
    | [x,y],[t,_]=>zly E o t (ρ x) (ρ y)
    | _,_=>.no
  | .builtin .min,_=>match zdd ρ c.args.toList with
    | [.int k a,.int k' b]=>match k==k' with | true=>.ok (.int k (min a b)) [] | false=>.no
    | _=>.no
  | .builtin .max,_=>match zdd ρ c.args.toList with
    | [.int k a,.int k' b]=>match k==k' with | true=>.ok (.int k (max a b)) [] | false=>.no
    | _=>.no
  | .value (.func f),d=>zna E o d (ziz E c.argTypes.toList) f (zdd ρ c.args.toList)
  | .value x,some d=>match ρ x with
    | .clo f caps=>match zb5 caps with
      | true=>zfh o d (ziz E c.argTypes.toList) (lkd (fun _=>.no) E.sp f) (zdd ρ c.args.toList++caps)
      | false=>.no
    | _=>.no
  | _,_=>.no
def z0k (n:Nat):V→V
  | .row m lo hi=>match Nat.beq m n with | true=>.any | false=>.row m lo hi
  | .ptr m i c=>match Nat.beq m n with | true=>.any | false=>.ptr m i c
  | .bview m c cap sz len=>match Nat.beq m n with | true=>.any | false=>.bview m c cap sz len
  | .agg l=>.agg (l.map (leaf n))
  | .tup l=>.tup (l.map (leaf2 n))
  | .clo f l=>.clo f (l.map (leaf n))
  | v=>v
where
  leaf (n:Nat):V→V
    | .row m lo hi=>match Nat.beq m n with | true=>.any | false=>.row m lo hi
    | .ptr m i c=>match Nat.beq m n with | true=>.any | false=>.ptr m i c
    | .int k x=>.int k x
    | .bool b=>.bool b
    | .str s=>.str s
    | .list ag ks l=>.list ag ks l
    | .zs=>.zs
    | .err b=>.err b
    | .nilp=>.nilp
    | _=>.any
  leaf2 (n:Nat):V→V
    | .agg l=>.agg (l.map (leaf n))
    | v=>leaf n v
def z0r (E:Env) (o:Store) (ρ:Operand→V) (d:Option Nat):Op→T
  | .move x | .assign x=>.ok (ρ x) []
  | .pick c a b=>match ρ c with
    | .bool c=>match ρ a,ρ b with
      | .bool x,.bool y=>.ok (.bool (match c with | true=>x | false=>y)) []
      | x,y=>.br c (.ok x []) (.ok y [])
    | _=>.no
  | .alloc t=>match d with
    | some d=>match (E.tyd t).d with
      | .bld=>.ok (.ptr d 0 0) [.new d (.bld ByteArray.empty)]
      | _=>match Nat.blt 0 (E.tyd t).size with
        | true=>.ok (.ptr d 0 0) [.new d (.box (E.tyd t).zero)]
        | false=>.no
    | none=>.no
  | .box _ x=>match d with
    | some d=>.when (okV o (ρ x)) (.ok (.ptr d 0 0) [.new d (.box ((cells (ρ x)).map (z0k d)))])
    | none=>.no
  | .build t parts=>match (E.tyd t).d with
    | .struct fs=>match z70 o (z1o E fs) (E.tyd t).zero (z3h ρ parts.toList) with
      | some cs=>.ok (.agg cs) []
      | none=>.no
    | .array _ e=>match z70 o (fun i=>some (i*(E.tyd e).size,(E.tyd e).size)) (E.tyd t).zero (z3h ρ parts.toList) with
      | some cs=>.when (Nat.blt 0 (E.tyd e).size) (.ok (.agg cs) [])
      | none=>.no
    | _=>.no
  | .buildSlice t len parts=>match d,(E.tyd t).d with
    | some d,.slice e=>match z70 o (fun i=>some (i*(E.tyd e).size,(E.tyd e).size)) (z4b (E.tyd e).zero len) (z3h ρ parts.toList) with
      | some cs=>match z84 (E.tyd e).agg (E.tyd e).ks o cs (E.tyd e).size len with
        | some l=>.when (Nat.blt 0 (E.tyd e).size&&(Nat.blt e 1000000&&Nat.ble (len*(E.tyd e).size) 16777216)) (.ok (.row d 0 len) (z06 o (z0c cs)++[.new d (.row true e (E.tyd e).agg (E.tyd e).ks l)]))
        | none=>.no
      | none=>.no
    | _,_=>.no
  | .load t a=>match ρ a with
    | .ptr n i c=>match z01 o n with
      | some (.box cs)=>T.of (zcj (E.tyd t).agg (E.tyd t).size cs c)
      | some (.row _ _ ag ks l)=>T.of (zo7 (E.tyd t).agg (E.tyd t).size ks (z13 ag (l.getD i default)) c)
      | _=>.no
    | .iptr ks f c=>T.of (zo7 (E.tyd t).agg (E.tyd t).size ks f c)
    | _=>.no
  | .store t a x=>z6h o (E.tyd t) (ρ a) (ρ x)
  | .nilCheck x=>match ρ x with
    | .ptr n i c=>match z01 o n with
      | some (.map _ _)=>.no
      | some _=>.ok (.ptr n i c) []
      | none=>.no
    | _=>.no
  | .binOp op t x y _=>zot E o op t y (ρ x) (ρ y)
  | .unOp op _ x=>unT op (ρ x)
  | .convert s t x=>match ρ x with
    | .int _ n=>match (E.tyd t).d,(E.tyd t).ks,(E.tyd s).ks with
      | .leaf,[.int k],_ :: _=>.ok (.int k (k.wrap n)) []
      | _,_,_=>.no
    | .str a=>match (E.tyd t).d,(E.tyd t).ks,(E.tyd s).ks with
      | .leaf,[.str],_ :: _=>.ok (.str a) []
      | .slice e,[.list false [.int .u8]],_ :: _=>match d,(E.tyd e).d,(E.tyd e).ks with
        | some d,.leaf,[.int .u8]=>.ok (.row d 0 a.size) [.new d (.row true (e+1000000) false [.int .u8] (a.data.toList.map fun b=>.int (b.toNat:Int)))]
        | _,_,_=>.no
      | _,_,_=>.no
    | v=>match (E.tyd t).d,(E.tyd t).ks,(E.tyd s).d with
      | .leaf,[.str],.slice e=>match (E.tyd e).d,(E.tyd e).ks,z5b o v,z4c o v with
        | .leaf,[.int .u8],some l,some (false,[.int .u8])=>.ok (.str (strOfNums (l.map IV.toInt))) []
        | _,_,_,_=>.no
      | _,_,_=>.no
  | .makeFunc (.func f) first captured=>match first.toList with
    | []=>.ok (.clo f (zdd ρ captured.toList)) []
    | _=>.no
  | .makeSlice t n m=>match d,(E.tyd t).d,ρ n,ρ m with
    | some d,.slice e,.int _ n,.int _ m=>match z84 (E.tyd e).agg (E.tyd e).ks o (E.tyd e).zero (E.tyd e).size 1 with
      | some (z :: _)=>.when (Nat.blt 0 (E.tyd e).size&&(Nat.blt e 1000000&&decide (0≤n))&&(decide (n=m)&&decide (n*((E.tyd e).bytes:Int)≤(z0y:Int)))) (.ok (.row d 0 n.toNat) (z06 o (z0c (E.tyd e).zero)++[.new d (.row true e (E.tyd e).agg (E.tyd e).ks (List.replicate n.toNat z))]))
      | _=>.no
    | _,_,_,_=>.no
  | .slice t x lo hi mx=>match mx,ρ x with
    | none,.str s=>match (E.tyd t).d,(E.tyd t).ks with
      | .leaf,[.str]=>zo5 s.size (lo.map ρ) (hi.map ρ) fun i j=>.ok (.str (s.extract i j)) []
      | _,_=>.no
    | none,.list ag ks l=>match (E.tyd t).d with
      | .slice e=>.when (zk2 E e ks.length) (zo5 l.length (lo.map ρ) (hi.map ρ) fun i j=>.ok (.list ag ks ((l.take j).drop i)) [])
      | _=>.no
    | none,.row n a b=>match (E.tyd t).d,z01 o n with
      | .slice e,some (.row _ _ _ ks _)=>.when (zk2 E e ks.length) (zo5 (b - a) (lo.map ρ) (hi.map ρ) fun i j=>.ok (.row n (a+i) (a+j)) [])
      | _,_=>.no
    | none,.ptr n _ c=>match (E.tyd t).d,lo,z01 o n with
      | .array N e,none,some (.box cs)=>.when (zk2 E e (E.tyd e).size&&(Nat.ble (c+N*(E.tyd e).size) cs.length&&Nat.ble N 1000)) (zo5 N none (hi.map ρ) fun _ j=>.ok (.bview n c N (E.tyd e).size j) [])
      | _,_,_=>.no
    | _,_=>.no
  | .fieldAddr s x f=>match (E.tyd s).d with
    | .struct fs=>match z1o E fs f with
      | some (off,_)=>match ρ x with
        | .ptr n i c=>match z01 o n with
          | some (.box _)=>.ok (.ptr n i (c+off)) []
          | some (.row _ _ _ _ _)=>.ok (.ptr n i (c+off)) []
          | _=>.no
        | .iptr ks g c=>.ok (.iptr ks g (c+off)) []
        | _=>.no
      | none=>.no
    | _=>.no
  | .field t x f=>match (E.tyd t).d,ρ x with
    | .struct fs,.agg cs=>match fs[f]? with
      | some (off,ft)=>match Nat.blt 0 (E.tyd ft).size with
        | true=>T.of (zcj (E.tyd ft).agg (E.tyd ft).size cs off)
        | false=>.no
      | none=>.no
    | _,_=>.no
  | .indexAddr t x ix=>match (E.tyd t).d,ρ ix with
    | .slice e,.int _ i=>match ρ x with
      | .list ag ks l=>match zk2 E e ks.length with
        | true=>.when (decide (0≤i)&&decide (i < (l.length:Int))) (.ok (.iptr ks (z13 ag (l.getD i.toNat default)) 0) [])
        | false=>.no
      | .row n lo hi=>match z01 o n with
        | some (.row _ _ _ ks _)=>match zk2 E e ks.length with
          | true=>.when (decide (0≤i)&&decide (i < ((hi - lo:Nat):Int))) (.ok (.ptr n (lo+i.toNat) 0) [])
          | false=>.no
        | _=>.no
      | .bview n c cap sz len=>match zk2 E e sz,z01 o n with
        | true,some (.box _)=>.when (decide (i < (len:Int))) (zkm cap 0 i fun j=>.ok (.ptr n 0 (c+j*sz)) [])
        | _,_=>.no
      | _=>.no
    | .array N e,.int _ i=>match ρ x with
      | .ptr n i0 c=>match z01 o n with
        | some (.box _)=>T.when (zk2 E e (E.tyd e).size) (zkm N 0 i fun j=>.ok (.ptr n i0 (c+j*(E.tyd e).size)) [])
        | some (.row _ _ _ _ _)=>T.when (zk2 E e (E.tyd e).size) (zkm N 0 i fun j=>.ok (.ptr n i0 (c+j*(E.tyd e).size)) [])
        | _=>.no
      | .iptr ks f c=>T.when (zk2 E e (E.tyd e).size) (zkm N 0 i fun j=>.ok (.iptr ks f (c+j*(E.tyd e).size)) [])
      | _=>.no
    | _,_=>.no
  | .index t x ix=>match ρ x,ρ ix with
    | .str s,.int _ i=>match (E.tyd t).d,(E.tyd t).ks with
      | .leaf,[.str]=>.when (decide (0≤i)&&decide (i < (s.size:Int))) (.ok (.int .u8 ((s.data.toList.getD i.toNat 0).toNat:Int)) [])
      | _,_=>.no
    | .agg cs,.int _ i=>match (E.tyd t).d with
      | .array N e=>.when (zk2 E e (E.tyd e).size) (zkm N 0 i fun j=>T.of (zcj (E.tyd e).agg (E.tyd e).size cs (j*(E.tyd e).size)))
      | _=>.no
    | _,_=>.no
  | .extract x i=>match ρ x with
    | .tup vs=>match vs[i]? with
      | some v=>.ok v []
      | none=>.no
    | _=>.no
  | .call c=>z83 E o ρ d c
  | .makeMap t r=>match r,d,(E.tyd t).d with
    | none,some d,.map _ k=>match zhh k with
      | true=>.ok (.ptr d 0 0) [.new d (.map k [])]
      | false=>.no
    | _,_,_=>.no
  | .insert t m k v | .mapUpdate t m k v=>match ρ m,ρ k,(E.tyd t).d with
    | .ptr n _ _,.int .i64 z,.map _ _=>match z01 o n with
      | some (.map vk es)=>match z45 o vk (ρ v) with
        | some x=>.ok .any [.set n (.map vk (z5r es z x))]
        | none=>.no
      | _=>.no
    | _,_,_=>.no
  | .lookup t m k ok=>match ρ m,ρ k,(E.tyd t).d with
    | .ptr n _ _,.int .i64 z,.map _ vk'=>match z01 o n with
      | some (.map vk es)=>match zaq vk vk',ok with
        | true,true=>.ok (.tup [zij vk (zgz vk es z),.bool (Nat.blt (z5w es z) es.length)]) []
        | true,false=>.ok (zij vk (zgz vk es z)) []
        | _,_=>.no
      | _=>.no
    | _,_,_=>.no
  | .mapEntry t m k=>match ρ m,ρ k,(E.tyd t).d with
    | .ptr n _ _,.int .i64 z,.map _ vk'=>match z01 o n with
      | some (.map vk es)=>match zaq vk vk' with
        | true=>.when (decide (es.length≤strMax)) (.ok (.tup [zij vk (zgz vk es z),.int .i64 ((z5w es z:Nat):Int)]) [.set n (.map vk (zlj es z (z4d vk)))])
        | false=>.no
      | _=>.no
    | _,_,_=>.no
  | .range t x=>match ρ x,d,(E.tyd t).d with
    | .ptr n _ _,some d,.map _ _=>match z01 o n with
      | some (.map vk es)=>.ok (.ptr d 0 0) [.kill n,.new d (.iter vk none es)]
      | _=>.no
    | _,_,_=>.no
  | .entry x=>match ρ x with
    | .ptr n _ _=>match z01 o n with
      | some (.iter vk (some e) _)=>.ok (.tup [.int .i64 e.1,zij vk e.2]) []
      | _=>.no
    | _=>.no
  | .entryStore _ m s v=>match ρ m,ρ s with
    | .ptr n _ _,.int .i64 z=>match z01 o n with
      | some (.map vk es)=>match z45 o vk (ρ v) with
        | some x=>.when (decide (0≤z)&&decide (z < (es.length:Int))) (.ok .any [.set n (.map vk (zjl es z.toNat x))])
        | none=>.no
      | _=>.no
    | _,_=>.no
  | _=>.no
def z17 (n:Nat):Option Ob→Option Ob
  | some (.box cs)=>some (.box (cs.map (z0k n)))
  | x=>x
def zbj {α:Type} (f:α→α):List (Nat × α)→List (Nat × α)
  | []=>[]
  | (i,x) :: r=>(i,f x) :: zbj f r
def St.up (s:St):Upd→St
  | .set n ob=>⟨s.t,(n,some ob) :: s.o⟩
  | .kill n=>⟨s.t,(n,none) :: s.o⟩
  | .new n ob=>⟨zbj (z0k n) s.t,(n,some ob) :: zbj (z17 n) s.o⟩
def St.ups (s:St):List Upd→St
  | []=>s
  | u :: r=>(s.up u).ups r
def St.put (s:St):Option Nat→V→St
  | some d,v=>⟨(d,v) :: s.t,s.o⟩
  | none,_=>s
def zai (ops:List Oper) (j:Nat):Option Nat:=
  match ops,j with
  | [],_=>none
  | o :: _,0=>o.dst
  | _ :: r,j+1=>zai r j
def zbn (E:Env):Option Nat→Bool
  | some d=>Nat.blt d E.nt
  | none=>true
noncomputable def zjy (E:Env) (o:Store) (ρ:Operand→V) (d:Option Nat) (op:Op) (k:V→List Upd→Res):Res:=
  match op with
  | .next x false=>match ρ x with
    | .ptr n _ _=>match z01 o n with
      | some (.iter vk _ rest)=>match Nat.beq rest.length 0 with
        | true=>k (.tup [.bool false]) []
        | false=>zp0 rest.length fun i=>k (.tup [.bool true,.int .i64 (zk6 rest i).1,zij vk (zk6 rest i).2]) [.set n (.iter vk (some (zk6 rest i)) (ze7 rest i))]
      | _=>none
    | _=>none
  | op=>(z0r E o ρ d op).run k
noncomputable def zaj (E:Env) (all:List Oper):List Oper→St→(St→Res)→Res
  | [],s,k=>k s
  | o :: r,s,k=>
    match zbn E o.dst with
    | false=>none
    | true=>match o.guard with
      | none=>zjy E s.o (opd s) o.dst o.op fun v us=>zaj E all r ((s.ups us).put o.dst v) k
      | some (j,b)=>match zai all j with
        | some dj=>match s.get dj with
          | .bool c=>match c with
            | true=>match b with
              | true=>zjy E (s.put (some dj) (.bool true)).o (opd (s.put (some dj) (.bool true))) o.dst o.op fun v us=>zaj E all r (((s.put (some dj) (.bool true)).ups us).put o.dst v) k
              | false=>zaj E all r ((s.put (some dj) (.bool true)).put o.dst (.tup [])) k
            | false=>match b with
              | false=>zjy E (s.put (some dj) (.bool false)).o (opd (s.put (some dj) (.bool false))) o.dst o.op fun v us=>zaj E all r (((s.put (some dj) (.bool false)).ups us).put o.dst v) k
              | true=>zaj E all r ((s.put (some dj) (.bool false)).put o.dst (.tup [])) k
          | .tup []=>zaj E all r (s.put o.dst (.tup [])) k
          | _=>none
        | none=>none
def z1v:V→List Nat
  | .row n _ _=>[n]
  | .ptr n _ _=>[n]
  | .bview n _ _ _ _=>[n]
  | _=>[]
def z0q:List V→List Nat
  | []=>[]
  | v :: r=>z1v v++z0q r
def z2e:V→List Nat
  | .agg l=>z0q l
  | .clo _ l=>go l
  | .tup l=>go l
  | v=>z1v v
where go:List V→List Nat
  | []=>[]
  | .agg l :: r=>z0q l++go r
  | v :: r=>z1v v++go r
def z16:List V→List Nat
  | []=>[]
  | v :: r=>z2e v++z16 r
def zf6 (o:Store):List Nat→List Nat
  | []=>[]
  | n :: r=>match z01 o n with
    | some (.box cs)=>z0q cs++zf6 o r
    | _=>zf6 o r
def zf5 (E:Env):Op→List Nat
  | .buildSlice t _ _ | .makeSlice t _ _=>match (E.tyd t).d with
    | .slice e=>z0q (E.tyd e).zero
    | _=>[]
  | _=>[]
def ziq (E:Env) (o:Store) (ρ:Operand→V) (op:Op):List Nat:=
  z16 (op.operands.toList.map ρ)++zf5 E op++zf6 o (z16 (op.operands.toList.map ρ))
def zom:Op→Bool
  | .move _ | .assign _ | .extract _ _=>true
  | _=>false
def reads (E:Env) (o:Store) (ρ:Operand→V) (op:Op):List Nat:=
  match zom op with
  | true=>[]
  | false=>ziq E o ρ op
structure Dn where
  dst:Option Nat
  tm:List Nat
  v:V
  us:List Upd
  rd:List Nat
def zcr:List Upd→Store→Store
  | [],o=>o
  | .set n ob :: r,o=>zcr r ((n,some ob) :: o)
  | .kill n :: r,o=>zcr r ((n,none) :: o)
  | .new n ob :: r,o=>zcr r ((n,some ob) :: o)
def apD (s:St) (x:Dn):St:=⟨(s.put x.dst x.v).t,zcr x.us s.o⟩
def apDs (s:St):List Dn→St
  | []=>s
  | x :: r=>apDs (apD s x) r
def zie (s:St) (j:Nat) (b:Bool):St:=⟨(j,.bool b) :: s.t,s.o⟩
def zcb:List Operand→List Nat
  | []=>[]
  | .tmp t :: r=>t :: zcb r
  | _ :: r=>zcb r
def z74 (all:List Oper) (o:Oper):List Nat:=
  match o.guard with
  | some (j,_)=>match zai all j with
    | some dj=>dj :: zcb o.op.operands.toList
    | none=>zcb o.op.operands.toList
  | none=>zcb o.op.operands.toList
def evD (E:Env) (all:List Oper):List Oper→St→List Dn→(List Dn→St→Res)→Res
  | [],s,acc,k=>k acc s
  | o :: r,s,acc,k=>
    match zbn E o.dst with
    | false=>none
    | true=>match o.guard with
      | none=>(z0r E s.o (opd s) o.dst o.op).run fun v us=>evD E all r (apD s ⟨o.dst,z74 all o,v,us,reads E s.o (opd s) o.op⟩) (⟨o.dst,z74 all o,v,us,reads E s.o (opd s) o.op⟩ :: acc) k
      | some (j,b)=>match zai all j with
        | some dj=>match s.get dj with
          | .bool c=>match c with
            | true=>match b with
              | true=>(z0r E s.o (opd (zie s dj true)) o.dst o.op).run fun v us=>evD E all r (apD (zie s dj true) ⟨o.dst,z74 all o,v,us,reads E s.o (opd (zie s dj true)) o.op⟩) (⟨o.dst,z74 all o,v,us,reads E s.o (opd (zie s dj true)) o.op⟩ :: acc) k
              | false=>evD E all r (apD (zie s dj true) ⟨o.dst,z74 all o,.tup [],[],[]⟩) (⟨o.dst,z74 all o,.tup [],[],[]⟩ :: acc) k
            | false=>match b with
              | false=>(z0r E s.o (opd (zie s dj false)) o.dst o.op).run fun v us=>evD E all r (apD (zie s dj false) ⟨o.dst,z74 all o,v,us,reads E s.o (opd (zie s dj false)) o.op⟩) (⟨o.dst,z74 all o,v,us,reads E s.o (opd (zie s dj false)) o.op⟩ :: acc) k
              | true=>evD E all r (apD (zie s dj false) ⟨o.dst,z74 all o,.tup [],[],[]⟩) (⟨o.dst,z74 all o,.tup [],[],[]⟩ :: acc) k
          | .tup []=>evD E all r (apD s ⟨o.dst,z74 all o,.tup [],[],[]⟩) (⟨o.dst,z74 all o,.tup [],[],[]⟩ :: acc) k
          | _=>none
        | none=>none
def zb8:List Oper→List Nat
  | []=>[]
  | o :: r=>match o.dst with | some d=>d :: zb8 r | none=>zb8 r
def zap (ds:List Nat) (n:Nat):Bool:=zek n ds||(Nat.ble 1000 n&&zek (n / 1000 - 1) ds)
def z0t (p:Nat→Bool):V→V
  | .row m lo hi=>match p m with | true=>.any | false=>.row m lo hi
  | .ptr m i c=>match p m with | true=>.any | false=>.ptr m i c
  | .bview m c cap sz len=>match p m with | true=>.any | false=>.bview m c cap sz len
  | .agg l=>.agg (go p l)
  | .tup l=>.tup (go2 p l)
  | .clo f l=>.clo f (go p l)
  | v=>v
where
  leaf (p:Nat→Bool):V→V
    | .row m lo hi=>match p m with | true=>.any | false=>.row m lo hi
    | .ptr m i c=>match p m with | true=>.any | false=>.ptr m i c
    | .int k x=>.int k x
    | .bool b=>.bool b
    | .str s=>.str s
    | .list ag ks l=>.list ag ks l
    | .zs=>.zs
    | .err b=>.err b
    | .nilp=>.nilp
    | _=>.any
  go (p:Nat→Bool):List V→List V
    | []=>[]
    | v :: r=>leaf p v :: go p r
  leaf2 (p:Nat→Bool):V→V
    | .agg l=>.agg (go p l)
    | v=>leaf p v
  go2 (p:Nat→Bool):List V→List V
    | []=>[]
    | v :: r=>leaf2 p v :: go2 p r
def z1t (p:Nat→Bool):Option Ob→Option Ob
  | some (.box cs)=>some (.box (mapV (z0t p) cs))
  | x=>x
where mapV (f:V→V):List V→List V
  | []=>[]
  | v :: r=>f v :: mapV f r
def zd0 (p:Nat→Bool):Store→Store
  | []=>[]
  | (n,x) :: r=>match p n with | true=>(n,none) :: zd0 p r | false=>(n,z1t p x) :: zd0 p r
def z4g (ds:List Nat) (s:St):St:=⟨zbj (z0t (zap ds)) s.t,zd0 (zap ds) s.o⟩
def zcz:V→Bool
  | .any | .row _ _ _ | .ptr _ _ _ | .int _ _ | .bool _ | .str _ | .list _ _ _ | .zs | .err _ | .nilp=>true
  | _=>false
def z99:List V→Bool
  | []=>true
  | v :: r=>match zcz v with | true=>z99 r | false=>false
def z64:V→Bool
  | .agg l=>z99 l
  | .clo _ l=>z99 l
  | .tup l=>go l
  | _=>true
where go:List V→Bool
  | []=>true
  | .agg l :: r=>match z99 l with | true=>go r | false=>false
  | v :: r=>match zcz v with | true=>go r | false=>false
def ze4:List V→Bool
  | []=>true
  | v :: r=>match z64 v with | true=>ze4 r | false=>false
def zhb:Ob→Bool
  | .box cs=>ze4 cs
  | _=>true
def zgk:Ob→List Nat
  | .box cs=>z16 cs
  | _=>[]
def zar:List Upd→List Nat
  | []=>[]
  | .new n _ :: r=>n :: zar r
  | _ :: r=>zar r
def z1u:List Upd→List Nat
  | []=>[]
  | .new n _ :: r=>n :: z1u r
  | .set n _ :: r=>n :: z1u r
  | .kill n :: r=>n :: z1u r
def zmx:List Upd→List Nat
  | []=>[]
  | .new _ ob :: r=>zgk ob++zmx r
  | .set _ ob :: r=>zgk ob++zmx r
  | .kill _ :: r=>zmx r
def zlz:List Nat→List Nat→Bool
  | [],_=>true
  | n :: r,l=>match zek n l with | true=>false | false=>zlz r l
def zk7:List Upd→Bool
  | []=>true
  | .new _ ob :: r=>zhb ob&&(zlz (zar r) (zgk ob)&&zk7 r)
  | .set _ ob :: r=>zhb ob&&(zlz (zar r) (zgk ob)&&zk7 r)
  | .kill _ :: r=>zk7 r
def zhv (ds:List Nat):List Nat→Bool
  | []=>true
  | n :: r=>zap ds n&&zhv ds r
def zkv (ds:List Nat):List Dn→Bool
  | []=>true
  | x :: r=>z64 x.v&&(zk7 x.us&&(zhv ds (zar x.us)&&zkv ds r))
def z91:List (List Nat)→Nat→List Nat
  | [],_=>[]
  | x :: _,0=>x
  | _ :: r,n+1=>z91 r n
def zab (acc:List (List Nat)):List Edge→List Nat
  | []=>[]
  | e :: r=>match Region.binds .any e with
    | true=>e.on :: (z91 acc e.on++zab acc r)
    | false=>zab acc r
def zoi (acc:List Nat):List Nat→(List Nat→List (List Nat))→List (List Nat)
  | [],k=>k acc
  | n :: r,k=>match zek n acc with
    | true=>zoi acc r k
    | false=>zoi (n :: acc) r k
def z1c (acc:List (List Nat)):List Oper→List (List Nat)
  | []=>acc
  | o :: r=>zoi [] (zab acc o.after.toList) fun l=>z1c (acc++[l]) r
def z58:Nat→List Oper→Bool
  | _,[]=>true
  | i,o :: r=>go i o.after.toList&&z58 (i+1) r
where go (i:Nat):List Edge→Bool
  | []=>true
  | e :: r=>match Region.binds .any e with
    | true=>Nat.blt e.on i&&go i r
    | false=>go i r
def zol:Option Nat→List Nat→Bool
  | some d,l=>zek d l
  | none,_=>false
def znn:Option Nat→Option Nat→Bool
  | some d,some e=>Nat.beq d e
  | _,_=>false
def zgf (pi pj:List Nat) (i j:Nat) (x y:Dn):Bool:=
  match zek i pj with
  | true=>true
  | false=>zlz (zar x.us) (z2e y.v++zmx y.us)&&(match zek j pi with
    | true=>true
    | false=>!(zol y.dst x.tm)&&(!(znn x.dst y.dst)&&(zlz (z1u y.us) x.rd&&zlz (z1u x.us) (z1u y.us))))
def zdi (ps:List (List Nat)) (pi:List Nat) (i:Nat) (x:Dn):Nat→List Dn→Bool
  | _,[]=>true
  | j,y :: r=>(Nat.beq i j||zgf pi (z91 ps j) i j x y)&&zdi ps pi i x (j+1) r
def zgg (ps:List (List Nat)) (all:List Dn):Nat→List Dn→Bool
  | _,[]=>true
  | i,x :: r=>zdi ps (z91 ps i) i x 0 all&&zgg ps all (i+1) r
def zne (ops:List Oper) (l:List Dn):Bool:=
  z58 0 ops&&(zkv (zb8 ops) l&&zgg (z1c [] ops) l 0 l)
def zkj (E:Env) (ops:List Oper) (s:St) (k:St→Res):Res:=
  evD E ops ops (z4g (zb8 ops) s) [] fun acc s'=>match zne ops acc.reverse with
    | true=>k s'
    | false=>none
inductive Out where
  | normal
  | exit (id:Nat)
  | ret
def zg3 (s:St):List Nat→List (Nat × V)
  | []=>[]
  | i :: r=>(i,s.get i) :: zg3 s r
def zkq (s:St):List Nat→Store
  | []=>[]
  | i :: r=>(i,z01 s.o i) :: zkq s r
def prune (kp:Option (List Nat)) (s:St):St:=
  match kp with
  | some l=>⟨zg3 s l,s.o⟩
  | none=>s
def zp5 (s:St):Loc→V
  | .tmp t=>s.get t
  | .cell b c=>match z01 s.o b with
    | some (.box cs)=>zlk cs c
    | _=>.any
def putLoc (s:St) (v:V):Loc→St
  | .tmp t=>⟨(t,v) :: s.t,s.o⟩
  | .cell b c=>match z01 s.o b with
    | some (.box cs)=>⟨s.t,(b,some (.box (z6t cs c [v]))) :: s.o⟩
    | _=>s
def canon1 (c:Can) (s:St):St:=
  match Nat.beq c.nm 900000 with
  | true=>s
  | false=>match zp5 s c.loc with
    | .zs=>match Nat.blt 0 c.ks.length with
      | true=>putLoc (s.up (.new c.nm (.row true c.e c.ag c.ks []))) (.row c.nm 0 0) c.loc
      | false=>s
    | .row n lo hi=>match Nat.beq n c.nm,Nat.beq lo 0,z01 s.o n with
      | false,true,some (.row true e ag ks l)=>putLoc ((s.up (.kill n)).up (.new c.nm (.row true e ag ks l))) (.row c.nm 0 hi) c.loc
      | _,_,_=>s
    | _=>s
def canons:List Can→St→St
  | [],s=>s
  | c :: r,s=>canons r (canon1 c s)
def zp4 (kp:KP) (s:St):St:=⟨zg3 s kp.t,zkq s kp.o⟩
def restrict (kp:KP) (s:St):St:=zp4 kp (canons kp.c ⟨zg3 s kp.t,s.o⟩)
def zef (again:St→Res) (kp:KP) (k:Out→St→Res):Out→St→Res
  | .normal,s=>again (restrict kp s)
  | .exit i,s=>k (.exit i) (restrict kp s)
  | .ret,s=>k .ret (restrict kp s)
def zpa (_c:Code) (ev:St→(Out→St→Res)→Res) (k:Out→St→Res):Out→St→Res
  | .normal,s=>ev s k
  | .exit i,s=>k (.exit i) s
  | .ret,s=>k .ret s
def z1g (id:Nat) (k:Out→St→Res):Out→St→Res
  | .normal,s=>k .normal s
  | .exit i,s=>match Nat.beq i id with | true=>k .normal s | false=>k (.exit i) s
  | .ret,s=>k .ret s
def zck (c:Code) (body:St→(Out→St→Res)→Res) (kp:KP):Nat→St→(Out→St→Res)→Res
  | 0,_,_=>none
  | n+1,s,k=>body s (zef (fun s'=>zck c body kp n s' k) kp k)
def z6m:Code→Nat
  | .region id _ _=>id
  | .seq a _=>z6m a
  | .block _ c=>z6m c
  | .scope c=>z6m c
  | _=>0
def zow (s:St) (c:Operand) (b:Bool):St:=
  match c with
  | .tmp t=>⟨(t,.bool b) :: s.t,s.o⟩
  | _=>s
abbrev Lp:=Code→(St→(Out→St→Res)→Res)→KP→Nat→St→(Out→St→Res)→Res
noncomputable def evG (lp:Lp) (E:Env):Code→St→(Out→St→Res)→Res
  | .skip,s,k=>k .normal s
  | .region id ops draw,s,k=>match draw with
    | false=>zaj E ops.toList ops.toList s fun s'=>k .normal (prune (lk E.kp id) s')
    | true=>zkj E ops.toList s fun s'=>k .normal (prune (lk E.kp id) s')
  | .seq a b,s,k=>evG lp E a s (zpa b (evG lp E b) k)
  | .cond c a b,s,k=>match opd s c with
    | .bool x=>match x with
      | true=>evG lp E a (zow s c true) k
      | false=>evG lp E b (zow s c false) k
    | _=>none
  | .block id c,s,k=>evG lp E c s (z1g id k)
  | .loop c,s,k=>lp c (evG lp E c) (lkd ⟨[],[],[]⟩ E.lp (z6m c)) E.N (restrict (lkd ⟨[],[],[]⟩ E.lp (z6m c)) s) k
  | .exit id,s,k=>k (.exit id) s
  | .ret,s,k=>k .ret s
  | _,_,_=>none
noncomputable abbrev z66 (E:Env):Code→St→(Out→St→Res)→Res:=evG zck E
def zfq:Nat→List V→List (Nat × V)
  | _,[]=>[]
  | i,v :: r=>(i,z25 v) :: zfq (i+1) r
def zmz (E:Env) (s:St):List ResultVar→Option (List V)
  | []=>some []
  | .tmp t :: r=>match zmz E s r with
    | some l=>some (s.get t :: l)
    | none=>none
  | .cell ad t :: r=>match s.get ad with
    | .ptr n _ c=>match z01 s.o n with
      | some (.box cs)=>match zcj (E.tyd t).agg (E.tyd t).size cs c,zmz E s r with
        | some v,some l=>some (v :: l)
        | _,_=>none
      | _=>none
    | _=>none
def zo8:List V→V
  | [v]=>v
  | l=>.tup l
def zbr (E:Env) (b:Option (List V)) (rs:List ResultVar) (rks:List (List Kd)):Out→St→Res
  | .exit _,_=>none
  | _,s=>match zmz E s rs with
    | some l=>zm1 s.o rks b (zo8 l)
    | none=>none
noncomputable def z6z (E:Env) (code:Code) (rs:List ResultVar) (rks:List (List Kd)) (vs:List V):Res:=
  match Nat.ble vs.length E.nt with
  | true=>z66 E code ⟨zfq 0 vs,z48 vs⟩ (zbr E (z1e vs) rs rks)
  | false=>none
open Go Go.RowKit
mutual
def Kd.Rel (w:World) (O:Nat→Prop):Kd→IV→Value→Prop
  | .int k,x,v=>v = .int k x.toInt∧k.min≤x.toInt∧x.toInt≤k.max
  | .bool,x,v=>v = .bool x.toBool
  | .str,x,v=>v = .string x.toStr∧x.toStr.size≤strMax
  | .list ag ks,x,v=>∃ p c,v = .slice p x.toList.length c∧x.toList.length≤c∧c≤maxLen∧x.toList.length≤strMax ∧
      ∀ i y,x.toList[i]?=some y→∃ b o,p=some ⟨b,o,none⟩∧¬ O b∧b < w.heap.size ∧
        Kd.RelAll w O ks (z13 ag y) 0 (fun j u=>w.cell? ⟨b,o+i*ks.length+j,none⟩=some u)
def Kd.RelAll (w:World) (O:Nat→Prop):List Kd→(Nat→IV)→Nat→(Nat→Value→Prop)→Prop
  | [],_,_,_=>True
  | k :: ks,f,j,R=>(∃ u,R j u∧Kd.Rel w O k (f j) u)∧Kd.RelAll w O ks f (j+1) R
end
structure Keep (O:Nat→Prop) (w w':World):Prop where
  os:w'.os=w.os
  tape:w'.tape=w.tape
  output:w'.output=w.output
  size:w.heap.size≤w'.heap.size
  block:∀ b,b < w.heap.size→¬ O b→w'.heap[b]?=w.heap[b]?
theorem Keep.refl (O:Nat→Prop) (w:World):Keep O w w:=⟨rfl,rfl,rfl,Nat.le_refl _,fun _ _ _=>rfl⟩
theorem Keep.trans {O O':Nat→Prop} {a b c:World} (h:Keep O a b) (k:Keep O' b c) (hO:∀ i,i < a.heap.size→O' i→O i):Keep O a c:=
  ⟨k.os.trans h.os,k.tape.trans h.tape,k.output.trans h.output,Nat.le_trans h.size k.size,fun i hi hn=>
    (k.block i (Nat.lt_of_lt_of_le hi h.size) (fun h'=>hn (hO i hi h'))).trans (h.block i hi hn)⟩
theorem Keep.mono {O O':Nat→Prop} {a b:World} (h:Keep O a b) (hO:∀ i,i < a.heap.size→O i→O' i):Keep O' a b:=
  ⟨h.os,h.tape,h.output,h.size,fun i hi hn=>h.block i hi (fun h'=>hn (hO i hi h'))⟩
theorem Keep.cell {O:Nat→Prop} {w w':World} (h:Keep O w w') {b o:Nat} (hb:b < w.heap.size) (hO:¬ O b):w'.cell? ⟨b,o,none⟩=w.cell? ⟨b,o,none⟩:=
  World.cell?_of_block (w:=w) (h.block b hb hO)
theorem Keep.alloc (O:Nat→Prop) (w:World) (o:Obj):Keep O w (w.alloc o):=
  ⟨rfl,rfl,rfl,by simp,fun b hb _=>Below.heap_alloc w o b hb⟩
theorem Keep.drew (O:Nat→Prop) (w:World):Keep O w w.drew:=⟨rfl,rfl,rfl,Nat.le_refl _,fun _ _ _=>rfl⟩
theorem Keep.setRow {O:Nat→Prop} (w:World) (g:Nat) (cs:Array Value) (h:O g):Keep O w (w.setRow g cs):=
  ⟨rfl,rfl,rfl,by simp,fun b _ hn=>setRow_other w g b cs (fun e=>hn (e ▸ h))⟩
theorem Keep.grown {O:Nat→Prop} {w w':World} {row:Option Nat} (h:w.grownBy w' row) (hr:∀ g,row=some g→O g):Keep O w w':=
  ⟨h.os,h.tape,h.output,h.size,fun b hb hn=>h.block b hb (fun e=>hn (hr b e.symm))⟩
mutual
theorem Kd.Rel.mono {w w':World} {O O':Nat→Prop} (hk:Keep O w w') (hO:∀ b,b < w.heap.size→O' b→O b) :
    ∀ {k:Kd} {x:IV} {v:Value},Kd.Rel w O k x v→Kd.Rel w' O' k x v
  | .int _,_,_,h=>by simpa only [Kd.Rel] using h
  | .bool,_,_,h=>by simpa only [Kd.Rel] using h
  | .str,_,_,h=>by simpa only [Kd.Rel] using h
  | .list ag ks,x,v,h=>by
    simp only [Kd.Rel] at h ⊢
    obtain ⟨p,c,hv,hc,hm,hl,hi⟩:=h
    refine ⟨p,c,hv,hc,hm,hl,fun i y hy=>?_⟩
    obtain ⟨b,o,hp,hb,hs,hr⟩:=hi i y hy
    refine ⟨b,o,hp,fun h'=>hb (hO b hs h'),Nat.lt_of_lt_of_le hs hk.size,?_⟩
    exact Kd.RelAll.mono hk hO (fun j u hu=>by rw [hk.cell hs hb]; exact hu) hr
theorem Kd.RelAll.mono {w w':World} {O O':Nat→Prop} (hk:Keep O w w') (hO:∀ b,b < w.heap.size→O' b→O b) :
    ∀ {ks:List Kd} {f:Nat→IV} {j:Nat} {R R':Nat→Value→Prop},(∀ j u,R j u→R' j u)→Kd.RelAll w O ks f j R→Kd.RelAll w' O' ks f j R'
  | [],_,_,_,_,_,_=>by simp only [Kd.RelAll]
  | k :: ks,f,j,R,R',hR,h=>by
    simp only [Kd.RelAll] at h ⊢
    obtain ⟨⟨u,hu,hr⟩,h2⟩:=h
    exact ⟨⟨u,hR _ _ hu,Kd.Rel.mono hk hO hr⟩,Kd.RelAll.mono hk hO hR h2⟩
end
theorem Kd.RelAll_iff {w:World} {O:Nat→Prop}:∀ {ks:List Kd} {f:Nat→IV} {j0:Nat} {R:Nat→Value→Prop},
    Kd.RelAll w O ks f j0 R↔∀ j k,ks[j]?=some k→∃ u,R (j0+j) u∧Kd.Rel w O k (f (j0+j)) u
  | [],f,j0,R=>by simp [Kd.RelAll]
  | k :: ks,f,j0,R=>by
    simp only [Kd.RelAll,Kd.RelAll_iff (ks:=ks)]
    constructor
    · rintro ⟨h0,h⟩ j k' hj
      cases j with
      | zero=>simp at hj; subst hj; simpa using h0
      | succ j=>
        have:=h j k' (by simpa using hj)
        rwa [show j0+1+j=j0+(j+1) by omega] at this
    · intro h
      refine ⟨by simpa using h 0 k rfl,fun j k' hj=>?_⟩
      have:=h (j+1) k' (by simpa using hj)
      rwa [show j0+(j+1)=j0+1+j by omega] at this
def zoa (g:Value) (lo hi sz:Nat) (x:Value):Prop:=
  ∃ p len cap p',g = .slice p len cap∧x = .slice p' (hi - lo) (cap - lo)∧lo≤hi∧hi≤len∧len≤cap∧cap≤maxLen ∧
    (p'=p.map (·.add (lo*sz))∨cap=lo)∧(lo=0→p'=p)
mutual
def VRel (γ:Nat→Value) (o:Store) (w:World) (O:Nat→Prop):V→Value→Prop
  | .any,_=>True
  | .int k n,x=>x = .int k n∧k.min≤n∧n≤k.max
  | .bool b,x=>x = .bool b
  | .str s,x=>x = .string s∧s.size≤strMax
  | .list ag ks l,x=>Kd.Rel w O (.list ag ks) (.list l) x
  | .zs,x=>x = .slice none 0 0
  | .row n lo hi,x=>match z01 o n with
    | some (.row _ _ _ ks l)=>hi≤l.length∧zoa (γ n) lo hi ks.length x
    | _=>True
  | .ptr n i c,x=>match z01 o n with
    | some (.box _)=>i=0∧∃ b,γ n = .pointer (some ⟨b,0,none⟩)∧x = .pointer (some ⟨b,c,none⟩)
    | some (.row _ _ _ ks l)=>i < l.length∧∃ b off len cap,γ n = .slice (some ⟨b,off,none⟩) len cap∧x = .pointer (some ⟨b,off+i*ks.length+c,none⟩)
    | some (.bld _)=>c=0∧∃ b v,γ n = .tuple #[.pointer (some ⟨b,0,none⟩),v]∧x = .pointer (some ⟨b,0,none⟩)
    | some (.map _ _)=>x=γ n
    | some (.iter _ _ _)=>∃ r y,γ n = .tuple #[.pointer (some ⟨r,0,none⟩),y]∧x = .pointer (some ⟨r,0,none⟩)
    | none=>True
  | .iptr ks f c,x=>∃ b off,x = .pointer (some ⟨b,off+c,none⟩)∧¬ O b∧b < w.heap.size∧Kd.RelAll w O ks f 0 (fun j u=>w.cell? ⟨b,off+j,none⟩=some u)
  | .bview n c cap sz len,x=>match z01 o n with
    | some (.box cs)=>len≤cap∧cap≤maxLen∧c+cap*sz≤cs.length∧∃ b,γ n = .pointer (some ⟨b,0,none⟩)∧x = .slice (some ⟨b,c,none⟩) len cap
    | _=>True
  | .agg l,x=>∃ cs,x = .agg cs∧VRels γ o w O l cs.toList
  | .tup l,x=>∃ cs,x = .tuple cs∧VRels γ o w O l cs.toList
  | .err b,x=>match b with | true=>x = .nilIface | false=>∃ t v,x = .iface t v
  | .nilp,x=>x = .pointer none
  | .clo f l,x=>∃ cs,x = .func (.func f) #[] cs∧VRels γ o w O l cs.toList
  | .bor _,_=>False
  | .vec _ _ _ _,_=>False
  | .bld _,_=>False
def VRels (γ:Nat→Value) (o:Store) (w:World) (O:Nat→Prop):List V→List Value→Prop
  | [],[]=>True
  | v :: vs,x :: xs=>VRel γ o w O v x∧VRels γ o w O vs xs
  | _,_=>False
end
def z04 (g:Value):Ob→Nat→Prop
  | .box _,b=>∃ a,g = .pointer (some a)∧a.block=b
  | .row true _ _ _ _,b=>g.ownBlock=some b
  | .row false _ _ _ _,_=>False
  | .bld _,b=>∃ a v,g = .tuple #[.pointer (some a),v]∧(a.block=b∨v.ownBlock=some b)
  | .map _ _,b=>g = .map (some b)
  | .iter _ _ _,b=>∃ r m,g = .tuple #[.pointer (some ⟨r,0,none⟩),.map (some m)]∧(b=r∨b=m)
def z0h (γ:Nat→Value) (o:Store) (b:Nat):Prop:=∃ n ob,z01 o n=some ob∧z04 (γ n) ob b
structure Zone where
  own:Nat→Prop
  far:Nat→Prop
def z02 (X:Zone) (γ:Nat→Value) (o:Store) (b:Nat):Prop:=z0h γ o b∨X.far b
def OwnRow (w:World) (e:Nat) (size:Nat) (v:Value) (n:Nat) (xs:List Value):Prop:=
  xs.length=n*size∧((v = .slice none 0 0∧n=0) ∨
    ∃ g cap cur T fr,v = .slice (some ⟨g,0,none⟩) n cap∧w.heap[g]?=some (.cells cur T fr)∧n≤cap∧cap≤maxLen∧cur.size=cap*size∧cur.toList.take (n*size)=xs ∧
      ((e < 1000000∧T=e∧fr=(0,0))∨(1000000≤e∧cur.size≤fr.1)))
theorem OwnRow.of {w:World} {e size n:Nat} {v:Value} {xs:List Value} (h:w.ownsRow 0 e size v n xs) (he:e < 1000000):OwnRow w e size v n xs:=by
  refine ⟨h.1,?_⟩
  rcases h.2 with h1 | ⟨g,cap,cur,h1,_,h2,h3,h4,h5,h6⟩
  · exact .inl h1
  · exact .inr ⟨g,cap,cur,e,(0,0),h1,h2,h3,h4,h5,h6,.inl ⟨he,rfl,rfl⟩⟩
theorem OwnRow.plain {w:World} {e size n:Nat} {v:Value} {xs:List Value} (h:OwnRow w e size v n xs) (he:e < 1000000):w.ownsRow 0 e size v n xs:=by
  refine ⟨h.1,?_⟩
  rcases h.2 with h1 | ⟨g,cap,cur,T,fr,h1,h2,h3,h4,h5,h6,h7⟩
  · exact .inl h1
  · rcases h7 with ⟨_,rfl,rfl⟩ | ⟨h7,_⟩
    · exact .inr ⟨g,cap,cur,h1,Nat.zero_le _,h2,h3,h4,h5,h6⟩
    · omega
theorem OwnRow.cells {w:World} {e size n:Nat} {v:Value} {xs:List Value} (h:OwnRow w e size v n xs) {b off len cap:Nat} (hv:v = .slice (some ⟨b,off,none⟩) len cap) :
    off=0∧len=n∧b < w.heap.size∧∀ j u,xs[j]?=some u→w.cell? ⟨b,j,none⟩=some u:=by
  rcases h.2 with ⟨h1,_⟩ | ⟨g,cap',cur,T,fr,h1,h2,h3,h4,h5,h6,h7⟩
  · rw [hv] at h1; simp at h1
  · rw [hv] at h1
    simp only [Value.slice.injEq,Option.some.injEq,Addr.mk.injEq,and_true] at h1
    obtain ⟨⟨rfl,rfl⟩,rfl,rfl⟩:=h1
    refine ⟨rfl,rfl,(Array.getElem?_eq_some_iff.1 h2).1,fun j u hu=>?_⟩
    rw [← h6,List.getElem?_take] at hu
    split at hu
    · simp only [World.cell?,h2]
      simpa using hu
    · cases hu
structure BT where
  T:Nat
  e:Nat
  pin:Option Value:=none
  ng:Nat:=0
  F:(Nat→Option Obj)→Prop:=fun _=>True
def BT.base (B:BT):BT:=⟨B.T,B.e,none,B.ng,B.F⟩
def Glob (B:BT) (w:World):Prop:=B.ng≤w.heap.size∧B.F (fun b=>if b < B.ng then w.heap[b]? else none)
def z7y:Value→Value
  | .tuple cs=>cs.getD 0 undef
  | v=>v
def KRel (w:World) (O:Nat→Prop) (vk:Kd) (e:Int × IV) (v:Value):Prop:=Kd.Rel w O vk e.2 v∧IntKind.i64.min≤e.1∧e.1≤IntKind.i64.max
theorem KRel.mono {w w':World} {O O':Nat→Prop} (hk:Keep O w w') (hO:∀ b,b < w.heap.size→O' b→O b) {vk:Kd} {e:Int × IV} {v:Value} (h:KRel w O vk e v):KRel w' O' vk e v:=⟨Kd.Rel.mono hk hO h.1,h.2⟩
def EntRel (w:World) (O:Nat→Prop) (vk:Kd) (es:List (Int × IV)) (ents:Array MapEntry):Prop:=
  ents.size=es.length∧∀ (i:Nat) (e:Int × IV),es[i]?=some e→∃ v,ents[i]?=some ⟨.int .i64 e.1,v,i⟩∧KRel w O vk e v
theorem EntRel.mono {w w':World} {O O':Nat→Prop} (hk:Keep O w w') (hO:∀ b,b < w.heap.size→O' b→O b) {vk:Kd} {es:List (Int × IV)} {ents:Array MapEntry} (h:EntRel w O vk es ents):EntRel w' O' vk es ents:=
  ⟨h.1,fun i e he=>by
    obtain ⟨v,h1,h2⟩:=h.2 i e he
    exact ⟨v,h1,KRel.mono hk hO h2⟩⟩
def zn5 (w:World) (O:Nat→Prop) (vk:Kd) (rest:List (Int × IV)) (l:List MapEntry):Prop:=
  l.length=rest.length∧∀ (i:Nat) (e:Int × IV),rest[i]?=some e→∃ m,l[i]?=some m∧m.key = .int .i64 e.1∧KRel w O vk e m.val
def IterRel (w:World) (O:Nat→Prop) (vk:Kd) (last:Option (Int × IV)) (rest:List (Int × IV)) (since:Nat) (seen:Array Nat) (ents:Array MapEntry) (clock:Nat):Prop:=
  since≤clock∧(∀ x∈ents.toList,x.born < since)∧(ents.toList.map (·.born)).Nodup∧zn5 w O vk rest (leftOf ents seen).toList ∧
    ∀ e,last=some e→∃ m s0,m∈ents.toList∧seen=Array.push s0 m.born∧m.key = .int .i64 e.1∧KRel w O vk e m.val
theorem IterRel.mono {w w':World} {O O':Nat→Prop} (hk:Keep O w w') (hO:∀ b,b < w.heap.size→O' b→O b) {vk:Kd} {last:Option (Int × IV)} {rest:List (Int × IV)} {since:Nat} {seen:Array Nat} {ents:Array MapEntry} {clock:Nat}
    (h:IterRel w O vk last rest since seen ents clock):IterRel w' O' vk last rest since seen ents clock:=by
  obtain ⟨h1,h2,h3,h4,h5⟩:=h
  refine ⟨h1,h2,h3,⟨h4.1,fun i e he=>?_⟩,fun e he=>?_⟩
  · obtain ⟨m,q1,q2,q3⟩:=h4.2 i e he
    exact ⟨m,q1,q2,KRel.mono hk hO q3⟩
  · obtain ⟨m,s0,q1,q2,q3,q4⟩:=h5 e he
    exact ⟨m,s0,q1,q2,q3,KRel.mono hk hO q4⟩
def ObRel (B:BT) (γ:Nat→Value) (o:Store) (w:World) (O:Nat→Prop) (g:Value):Ob→Prop
  | .box l=>∃ b c T,g = .pointer (some ⟨b,0,none⟩)∧w.heap[b]?=some (.cells c T (0,0))∧VRels γ o w O l c.toList
  | .row true e ag ks l=>0 < ks.length∧l.length≤strMax ∧
      ∃ xs,OwnRow w e ks.length g l.length xs∧∀ i y,l[i]?=some y→Kd.RelAll w O ks (z13 ag y) 0 (fun j u=>xs[i*ks.length+j]?=some u)
  | .row false _ ag ks l=>0 < ks.length∧Kd.Rel w O (.list ag ks) (.list l) g
  | .bld s=>∃ b v p,g = .tuple #[.pointer (some ⟨b,0,none⟩),v]∧(p = .pointer none∨p = .pointer (some ⟨b,0,none⟩)) ∧
      w.heap[b]?=some (.cells #[p,v] B.T (0,0))∧w.ownsRowF 0 B.e 1 v s.size (Lib.strCells s)∧v.ownBlock≠some b∧s.size≤strMax
  | .map vk es=>zhh vk=true∧∃ b ents,g = .map (some b)∧w.heap[b]?=some (.map ents es.length)∧EntRel w O vk es ents
  | .iter vk last rest=>zhh vk=true∧∃ r b since seen ents clock,g = .tuple #[.pointer (some ⟨r,0,none⟩),.map (some b)]∧w.heap[r]?=some (.mapIter (some b) since seen clock)∧w.heap[b]?=some (.map ents clock)∧IterRel w O vk last rest since seen ents clock
structure Rel (B:BT) (nt:Nat) (w0:World) (X:Zone) (γ:Nat→Value) (st:St) (a:Act) (w:World):Prop where
  sz:a.tmps.size=nt
  df:a.defers=[]
  tm:∀ i,VRel γ st.o w (z02 X γ st.o) (st.get i) (a.tmps.getD i undef)
  ob:∀ n ob,z01 st.o n=some ob→ObRel B γ st.o w (z02 X γ st.o) (γ n) ob
  lt:∀ b,z0h γ st.o b→b < w.heap.size∧(w0.heap.size≤b∨X.own b)
  dis:∀ n m ob ob' b,n≠m→z01 st.o n=some ob→z01 st.o m=some ob'→z04 (γ n) ob b→z04 (γ m) ob' b→False
  keep:Keep X.own w0 w
  nr:∀ b,z0h γ st.o b→¬ X.far b
  fl:∀ b,X.far b→b < w.heap.size
  pn:∀ p,B.pin=some p→∀ ob,z01 st.o 900000=some ob→z7y (γ 900000)=p
def GX (B:BT) (w0:World) (X:Zone):Prop:=Glob B w0∧∀ b,X.own b→B.ng≤b
theorem Glob.keep {B:BT} {O:Nat→Prop} {w w':World} (h:Glob B w) (hk:Keep O w w') (hO:∀ b,O b→B.ng≤b):Glob B w':=by
  refine ⟨Nat.le_trans h.1 hk.size,?_⟩
  have:(fun b=>if b < B.ng then w'.heap[b]? else none)=(fun b=>if b < B.ng then w.heap[b]? else none):=by
    funext b
    split
    · rename_i hb
      exact hk.block b (Nat.lt_of_lt_of_le hb h.1) (fun h'=>by have:=hO b h'; omega)
    · rfl
  rw [this]
  exact h.2
theorem Rel.glob {B:BT} {nt:Nat} {w0:World} {X:Zone} {γ:Nat→Value} {st:St} {a:Act} {w:World} (h:Rel B nt w0 X γ st a w) (g:GX B w0 X):Glob B w:=g.1.keep h.keep g.2
theorem Rel.high {B:BT} {nt:Nat} {w0:World} {X:Zone} {γ:Nat→Value} {st:St} {a:Act} {w:World} (h:Rel B nt w0 X γ st a w) (g:GX B w0 X) {b:Nat} (hb:z0h γ st.o b):B.ng≤b:=by
  rcases (h.lt b hb).2 with h1 | h1
  · exact Nat.le_trans g.1.1 h1
  · exact g.2 b h1
theorem Rel.near {B:BT} {nt:Nat} {w0:World} {X:Zone} {γ:Nat→Value} {st:St} {a:Act} {w:World} (h:Rel B nt w0 X γ st a w) {b:Nat} (hb:z0h γ st.o b):¬ X.far b:=h.nr b hb
mutual
theorem VRel.mono {γ:Nat→Value} {o:Store} {w w':World} {O O':Nat→Prop} (hk:Keep O w w') (hO:∀ b,b < w.heap.size→O' b→O b) :
    ∀ {v:V} {x:Value},VRel γ o w O v x→VRel γ o w' O' v x
  | .any,_,_=>by simp only [VRel]
  | .int _ _,_,h=>by simpa only [VRel] using h
  | .bool _,_,h=>by simpa only [VRel] using h
  | .str _,_,h=>by simpa only [VRel] using h
  | .list _ _ _,_,h=>by simp only [VRel] at h ⊢; exact Kd.Rel.mono hk hO h
  | .zs,_,h=>by simpa only [VRel] using h
  | .row _ _ _,_,h=>by simpa only [VRel] using h
  | .ptr _ _ _,_,h=>by simpa only [VRel] using h
  | .iptr ks f c,x,h=>by
    simp only [VRel] at h ⊢
    obtain ⟨b,off,hx,hb,hs,hr⟩:=h
    exact ⟨b,off,hx,fun h'=>hb (hO b hs h'),Nat.lt_of_lt_of_le hs hk.size,Kd.RelAll.mono hk hO (fun j u hu=>by rw [hk.cell hs hb]; exact hu) hr⟩
  | .bview _ _ _ _ _,_,h=>by simpa only [VRel] using h
  | .agg l,x,h=>by
    simp only [VRel] at h ⊢
    obtain ⟨cs,hx,hr⟩:=h
    exact ⟨cs,hx,VRels.mono hk hO hr⟩
  | .tup l,x,h=>by
    simp only [VRel] at h ⊢
    obtain ⟨cs,hx,hr⟩:=h
    exact ⟨cs,hx,VRels.mono hk hO hr⟩
  | .err _,_,h=>by simpa only [VRel] using h
  | .nilp,_,h=>by simpa only [VRel] using h
  | .clo _ l,x,h=>by
    simp only [VRel] at h ⊢
    obtain ⟨cs,hx,hr⟩:=h
    exact ⟨cs,hx,VRels.mono hk hO hr⟩
  | .bor _,_,h=>by simp only [VRel] at h
  | .vec _ _ _ _,_,h=>by simp only [VRel] at h
  | .bld _,_,h=>by simp only [VRel] at h
theorem VRels.mono {γ:Nat→Value} {o:Store} {w w':World} {O O':Nat→Prop} (hk:Keep O w w') (hO:∀ b,b < w.heap.size→O' b→O b) :
    ∀ {l:List V} {xs:List Value},VRels γ o w O l xs→VRels γ o w' O' l xs
  | [],[],_=>by simp only [VRels]
  | [],_ :: _,h=>by simp only [VRels] at h
  | _ :: _,[],h=>by simp only [VRels] at h
  | v :: vs,x :: xs,h=>by
    simp only [VRels] at h ⊢
    exact ⟨VRel.mono hk hO h.1,VRels.mono hk hO h.2⟩
end
def Ob.fits:Ob→Ob→Prop
  | .box cs,.box cs'=>cs.length=cs'.length
  | .row _ _ _ ks l,.row _ _ _ ks' l'=>ks=ks'∧l.length=l'.length
  | .bld _,.bld _=>True
  | .map k _,.map k' _=>k=k'
  | .iter k _ _,.iter k' _ _=>k=k'
  | _,_=>False
def Cmp (γ:Nat→Value) (o:Store) (γ':Nat→Value) (o':Store):Prop:=
  ∀ n ob',z01 o' n=some ob'→γ' n=γ n∧∃ ob,z01 o n=some ob∧ob.fits ob'
mutual
theorem VRel.cmp {γ γ':Nat→Value} {o o':Store} {w:World} {O:Nat→Prop} (hc:Cmp γ o γ' o') :
    ∀ {v:V} {x:Value},VRel γ o w O v x→VRel γ' o' w O v x
  | .any,_,_=>by simp only [VRel]
  | .int _ _,_,h=>by simpa only [VRel] using h
  | .bool _,_,h=>by simpa only [VRel] using h
  | .str _,_,h=>by simpa only [VRel] using h
  | .list _ _ _,_,h=>by simpa only [VRel] using h
  | .zs,_,h=>by simpa only [VRel] using h
  | .row n lo hi,x,h=>by
    simp only [VRel] at h ⊢
    cases h':z01 o' n with
    | none=>trivial
    | some ob'=>
      obtain ⟨hg,ob,ho,hf⟩:=hc n ob' h'
      rw [ho] at h
      rw [hg]
      cases ob <;> cases ob' <;> simp only [Ob.fits] at hf <;> try trivial
      obtain ⟨rfl,hl⟩:=hf
      exact ⟨by rw [← hl]; exact h.1,h.2⟩
  | .ptr n i c,x,h=>by
    simp only [VRel] at h ⊢
    cases h':z01 o' n with
    | none=>trivial
    | some ob'=>
      obtain ⟨hg,ob,ho,hf⟩:=hc n ob' h'
      rw [ho] at h
      rw [hg]
      cases ob <;> cases ob' <;> simp only [Ob.fits] at hf
      · exact h
      · obtain ⟨rfl,hl⟩:=hf
        exact ⟨by rw [← hl]; exact h.1,h.2⟩
      · exact h
      · exact h
      · exact h
  | .iptr _ _ _,_,h=>by simpa only [VRel] using h
  | .bview n c cap sz len,x,h=>by
    simp only [VRel] at h ⊢
    cases h':z01 o' n with
    | none=>trivial
    | some ob'=>
      obtain ⟨hg,ob,ho,hf⟩:=hc n ob' h'
      rw [ho] at h
      rw [hg]
      cases ob <;> cases ob' <;> simp only [Ob.fits] at hf <;> try trivial
      exact ⟨h.1,h.2.1,by rw [← hf]; exact h.2.2.1,h.2.2.2⟩
  | .agg l,x,h=>by
    simp only [VRel] at h ⊢
    obtain ⟨cs,hx,hr⟩:=h
    exact ⟨cs,hx,VRels.cmp hc hr⟩
  | .tup l,x,h=>by
    simp only [VRel] at h ⊢
    obtain ⟨cs,hx,hr⟩:=h
    exact ⟨cs,hx,VRels.cmp hc hr⟩
  | .err _,_,h=>by simpa only [VRel] using h
  | .nilp,_,h=>by simpa only [VRel] using h
  | .clo _ l,x,h=>by
    simp only [VRel] at h ⊢
    obtain ⟨cs,hx,hr⟩:=h
    exact ⟨cs,hx,VRels.cmp hc hr⟩
  | .bor _,_,h=>by simp only [VRel] at h
  | .vec _ _ _ _,_,h=>by simp only [VRel] at h
  | .bld _,_,h=>by simp only [VRel] at h
theorem VRels.cmp {γ γ':Nat→Value} {o o':Store} {w:World} {O:Nat→Prop} (hc:Cmp γ o γ' o') :
    ∀ {l:List V} {xs:List Value},VRels γ o w O l xs→VRels γ' o' w O l xs
  | [],[],_=>by simp only [VRels]
  | [],_ :: _,h=>by simp only [VRels] at h
  | _ :: _,[],h=>by simp only [VRels] at h
  | v :: vs,x :: xs,h=>by
    simp only [VRels] at h ⊢
    exact ⟨VRel.cmp hc h.1,VRels.cmp hc h.2⟩
end
def z5o (m:Nat) (γ:Nat→Value) (o:Store) (γ':Nat→Value) (o':Store):Prop:=
  ∀ n ob',n≠m→z01 o' n=some ob'→γ' n=γ n∧∃ ob,z01 o n=some ob∧ob.fits ob'
theorem z0f {a b:Nat}:Nat.beq a b=true↔a=b:=⟨Nat.eq_of_beq_eq_true,fun h=>by subst h; exact Nat.beq_refl a⟩
theorem z10 {a b:Nat}:Nat.beq a b=false↔a≠b:=by
  constructor
  · intro h e; rw [z0f.2 e] at h; cases h
  · intro h; cases hb:Nat.beq a b with
    | false=>rfl
    | true=>exact absurd (z0f.1 hb) h
section
variable {γ γ':Nat→Value} {o o':Store} {w:World} {O:Nat→Prop} {m:Nat}
theorem zl5 (hc:z5o m γ o γ' o') {n lo hi:Nat} {x:Value} (hn:n≠m) (h:VRel γ o w O (.row n lo hi) x):VRel γ' o' w O (.row n lo hi) x:=by
  simp only [VRel] at h ⊢
  cases h':z01 o' n with
  | none=>trivial
  | some ob'=>
    obtain ⟨hg,ob,ho,hf⟩:=hc n ob' hn h'
    rw [ho] at h
    rw [hg]
    cases ob <;> cases ob' <;> simp only [Ob.fits] at hf <;> try trivial
    obtain ⟨rfl,hl⟩:=hf
    exact ⟨by rw [← hl]; exact h.1,h.2⟩
theorem zl3 (hc:z5o m γ o γ' o') {n i c:Nat} {x:Value} (hn:n≠m) (h:VRel γ o w O (.ptr n i c) x):VRel γ' o' w O (.ptr n i c) x:=by
  simp only [VRel] at h ⊢
  cases h':z01 o' n with
  | none=>trivial
  | some ob'=>
    obtain ⟨hg,ob,ho,hf⟩:=hc n ob' hn h'
    rw [ho] at h
    rw [hg]
    cases ob <;> cases ob' <;> simp only [Ob.fits] at hf
    · exact h
    · obtain ⟨rfl,hl⟩:=hf
      exact ⟨by rw [← hl]; exact h.1,h.2⟩
    · exact h
    · exact h
    · exact h
theorem zkb (hc:z5o m γ o γ' o') {n c cap sz len:Nat} {x:Value} (hn:n≠m) (h:VRel γ o w O (.bview n c cap sz len) x):VRel γ' o' w O (.bview n c cap sz len) x:=by
  simp only [VRel] at h ⊢
  cases h':z01 o' n with
  | none=>trivial
  | some ob'=>
    obtain ⟨hg,ob,ho,hf⟩:=hc n ob' hn h'
    rw [ho] at h
    rw [hg]
    cases ob <;> cases ob' <;> simp only [Ob.fits] at hf <;> try trivial
    exact ⟨h.1,h.2.1,by rw [← hf]; exact h.2.2.1,h.2.2.2⟩
theorem z8n (hc:z5o m γ o γ' o') {v:V} {x:Value} (h:VRel γ o w O v x):VRel γ' o' w O (z0k.leaf m v) x:=by
  cases v <;> simp only [z0k.leaf]
  case row n lo hi=>
    cases hb:Nat.beq n m with
    | true=>simp only [VRel]
    | false=>exact zl5 hc (z10.1 hb) h
  case ptr n i c=>
    cases hb:Nat.beq n m with
    | true=>simp only [VRel]
    | false=>exact zl3 hc (z10.1 hb) h
  all_goals first
    | (simp only [VRel] at h ⊢; exact h)
    | simp only [VRel]
theorem z2v (hc:z5o m γ o γ' o'):∀ {l:List V} {xs:List Value},VRels γ o w O l xs→VRels γ' o' w O (l.map (z0k.leaf m)) xs
  | [],[],_=>by simp only [List.map_nil,VRels]
  | [],_ :: _,h=>by simp only [VRels] at h
  | _ :: _,[],h=>by simp only [VRels] at h
  | v :: vs,x :: xs,h=>by
    simp only [VRels,List.map_cons] at h ⊢
    exact ⟨z8n hc h.1,z2v hc h.2⟩
theorem zcm (hc:z5o m γ o γ' o') {v:V} {x:Value} (h:VRel γ o w O v x):VRel γ' o' w O (z0k.leaf2 m v) x:=by
  cases v <;> simp only [z0k.leaf2] <;> try exact z8n hc h
  simp only [VRel] at h ⊢
  obtain ⟨cs,hx,hr⟩:=h
  exact ⟨cs,hx,z2v hc hr⟩
theorem z5s (hc:z5o m γ o γ' o'):∀ {l:List V} {xs:List Value},VRels γ o w O l xs→VRels γ' o' w O (l.map (z0k.leaf2 m)) xs
  | [],[],_=>by simp only [List.map_nil,VRels]
  | [],_ :: _,h=>by simp only [VRels] at h
  | _ :: _,[],h=>by simp only [VRels] at h
  | v :: vs,x :: xs,h=>by
    simp only [VRels,List.map_cons] at h ⊢
    exact ⟨zcm hc h.1,z5s hc h.2⟩
theorem zc4 (hc:z5o m γ o γ' o') {v:V} {x:Value} (h:VRel γ o w O v x):VRel γ' o' w O (z0k m v) x:=by
  cases v <;> simp only [z0k]
  case row n lo hi=>
    cases hb:Nat.beq n m with
    | true=>simp only [VRel]
    | false=>exact zl5 hc (z10.1 hb) h
  case ptr n i c=>
    cases hb:Nat.beq n m with
    | true=>simp only [VRel]
    | false=>exact zl3 hc (z10.1 hb) h
  case bview n c cap sz len=>
    cases hb:Nat.beq n m with
    | true=>simp only [VRel]
    | false=>exact zkb hc (z10.1 hb) h
  case agg l=>
    simp only [VRel] at h ⊢
    obtain ⟨cs,hx,hr⟩:=h
    exact ⟨cs,hx,z2v hc hr⟩
  case tup l=>
    simp only [VRel] at h ⊢
    obtain ⟨cs,hx,hr⟩:=h
    exact ⟨cs,hx,z5s hc hr⟩
  case clo f l=>
    simp only [VRel] at h ⊢
    obtain ⟨cs,hx,hr⟩:=h
    exact ⟨cs,hx,z2v hc hr⟩
  all_goals (simp only [VRel] at h ⊢; try exact h)
theorem z6v (hc:z5o m γ o γ' o'):∀ {l:List V} {xs:List Value},VRels γ o w O l xs→VRels γ' o' w O (l.map (z0k m)) xs
  | [],[],_=>by simp only [List.map_nil,VRels]
  | [],_ :: _,h=>by simp only [VRels] at h
  | _ :: _,[],h=>by simp only [VRels] at h
  | v :: vs,x :: xs,h=>by
    simp only [VRels,List.map_cons] at h ⊢
    exact ⟨zc4 hc h.1,z6v hc h.2⟩
end
open Go Go.RowKit
theorem z00 (n m:Nat) (x:Option Ob) (o:Store):z01 ((n,x) :: o) m=if n=m then x else z01 o m:=by
  unfold z01
  simp only [lkd]
  cases hb:Nat.beq n m with
  | true=>rw [if_pos (z0f.1 hb)]
  | false=>rw [if_neg (z10.1 hb)]
theorem z39 {α:Type} (d:α) (n m:Nat) (x:α) (o:List (Nat × α)):lkd d ((n,x) :: o) m=if n=m then x else lkd d o m:=by
  simp only [lkd]
  cases hb:Nat.beq n m with
  | true=>rw [if_pos (z0f.1 hb)]
  | false=>rw [if_neg (z10.1 hb)]
theorem z4t {α:Type} (f:α→α) (d:α) (hd:f d=d):∀ (l:List (Nat × α)) (i:Nat),lkd d (zbj f l) i=f (lkd d l i)
  | [],_=>by simp [zbj,lkd,hd]
  | (j,x) :: r,i=>by
    simp only [zbj,z39,z4t f d hd r i]
    split <;> rfl
theorem z4r (s:St) (n:Nat) (ob:Ob) (i:Nat):(s.up (.new n ob)).get i=z0k n (s.get i):=by
  simp only [St.up,St.get]
  exact z4t _ _ rfl _ _
theorem z03 (s:St) (n:Nat) (ob:Ob) (m:Nat):z01 (s.up (.new n ob)).o m=if n=m then some ob else z17 n (z01 s.o m):=by
  simp only [St.up,z00]
  split
  · rfl
  · unfold z01
    exact z4t _ _ rfl _ _
theorem z11 {n:Nat} {x:Option Ob} {ob:Ob} (h:z17 n x=some ob):∃ ob0,x=some ob0∧z17 n (some ob0)=some ob:=by
  cases x with
  | none=>simp [z17] at h
  | some ob0=>exact ⟨ob0,rfl,h⟩
theorem z22 {n:Nat} {ob0 ob:Ob} (h:z17 n (some ob0)=some ob):ob0.fits ob∧∀ g b,z04 g ob b↔z04 g ob0 b:=by
  cases ob0 <;> simp only [z17,Option.some.injEq] at h <;> subst h
  · exact ⟨by simp [Ob.fits],fun _ _=>Iff.rfl⟩
  · exact ⟨⟨rfl,rfl⟩,fun _ _=>Iff.rfl⟩
  · exact ⟨trivial,fun _ _=>Iff.rfl⟩
  · exact ⟨rfl,fun _ _=>Iff.rfl⟩
  · exact ⟨rfl,fun _ _=>Iff.rfl⟩
theorem Ob.fits_refl (ob:Ob):ob.fits ob:=by cases ob <;> simp [Ob.fits]
section
variable {B:BT} {γ γ':Nat→Value} {o o':Store} {w w':World} {O O':Nat→Prop} {g:Value} {ob:Ob}
theorem z3q {e size:Nat} {v:Value} {n:Nat} {xs:List Value} (h:OwnRow w e size v n xs) (hb:∀ b,v.ownBlock=some b→w'.heap[b]?=w.heap[b]?):OwnRow w' e size v n xs:=by
  refine ⟨h.1,?_⟩
  rcases h.2 with hn | ⟨g,cap,cur,T,fr,rfl,h2,rest⟩
  · exact .inl hn
  · exact .inr ⟨g,cap,cur,T,fr,rfl,by rw [hb g rfl]; exact h2,rest⟩
theorem z1a {e size:Nat} {v:Value} {n:Nat} {xs:List Value} (h:w.ownsRowF 0 e size v n xs) (hb:∀ b,v.ownBlock=some b→w'.heap[b]?=w.heap[b]?):w'.ownsRowF 0 e size v n xs:=by
  refine ⟨h.1,?_⟩
  rcases h.2 with hn | ⟨g,cap,cur,fz,rfl,h1,h2,rest⟩
  · exact .inl hn
  · exact .inr ⟨g,cap,cur,fz,rfl,h1,by rw [hb g rfl]; exact h2,rest⟩
theorem ObRel.later (h:ObRel B γ o w O g ob) (hb:∀ b,z04 g ob b→w'.heap[b]?=w.heap[b]?) (hk:Keep O w w') (hO:∀ b,b < w.heap.size→O' b→O b)
    (hc:Cmp γ o γ' o'):ObRel B γ' o' w' O' g ob:=by
  cases ob with
  | box l=>
    simp only [ObRel] at h ⊢
    obtain ⟨b,c,T,rfl,hh,hr⟩:=h
    exact ⟨b,c,T,rfl,by rw [hb b ⟨_,rfl,rfl⟩]; exact hh,VRels.mono hk hO (VRels.cmp hc hr)⟩
  | row own e ag ks l=>
    cases own with
    | true=>
      simp only [ObRel] at h ⊢
      obtain ⟨h1,h2,xs,hx,hr⟩:=h
      exact ⟨h1,h2,xs,z3q hx hb,fun i y hy=>Kd.RelAll.mono hk hO (fun _ _ hu=>hu) (hr i y hy)⟩
    | false=>
      simp only [ObRel] at h ⊢
      exact ⟨h.1,Kd.Rel.mono hk hO h.2⟩
  | bld s=>
    simp only [ObRel] at h ⊢
    obtain ⟨b,v,p,rfl,hp,h1,h2,h3⟩:=h
    exact ⟨b,v,p,rfl,hp,by rw [hb b ⟨_,_,rfl,.inl rfl⟩]; exact h1,z1a h2 (fun b' hb'=>hb b' ⟨_,_,rfl,.inr hb'⟩),h3⟩
  | map vk es=>
    simp only [ObRel] at h ⊢
    obtain ⟨h0,b,ents,rfl,h1,h2⟩:=h
    exact ⟨h0,b,ents,rfl,by rw [hb b rfl]; exact h1,EntRel.mono hk hO h2⟩
  | iter vk last rest=>
    simp only [ObRel] at h ⊢
    obtain ⟨h0,r,b,since,seen,ents,clock,rfl,h1,h2,h3⟩:=h
    exact ⟨h0,r,b,since,seen,ents,clock,rfl,by rw [hb r ⟨_,_,rfl,.inl rfl⟩]; exact h1,by rw [hb b ⟨_,_,rfl,.inr rfl⟩]; exact h2,IterRel.mono hk hO h3⟩
theorem Cmp.refl (γ:Nat→Value) (o:Store):Cmp γ o γ o:=fun _ ob' h=>⟨rfl,ob',h,ob'.fits_refl⟩
end
section
variable {B:BT} {nt:Nat} {w0:World} {X:Zone} {γ:Nat→Value} {st:St} {a:Act} {w:World}
theorem Rel.put (h:Rel B nt w0 X γ st a w) {E:Env} (hE:E.nt=nt) {d:Option Nat} (hd:zbn E d=true) {v:V} {x:Value} (hv:VRel γ st.o w (z02 X γ st.o) v x) :
    Rel B nt w0 X γ (st.put d v) (a.put d x) w:=by
  cases d with
  | none=>exact h
  | some d=>
    have hlt:d < nt:=by
      simp only [zbn] at hd
      rw [← hE]
      exact Nat.le_of_ble_eq_true hd
    refine ⟨by simp [Act.put,h.sz],h.df,fun i=>?_,h.ob,h.lt,h.dis,h.keep,h.nr,h.fl,h.pn⟩
    simp only [St.put,St.get,z39,Act.put]
    by_cases hi:d=i
    · subst hi
      rw [if_pos rfl]
      have:(a.tmps.setIfInBounds d x).getD d undef=x:=by simp [Array.getD,h.sz,hlt]
      rw [this]
      exact hv
    · rw [if_neg hi]
      have:(a.tmps.setIfInBounds d x).getD i undef=a.tmps.getD i undef:=by
        simp only [Array.getD_eq_getD_getElem?]
        rw [Array.getElem?_setIfInBounds_ne hi]
      rw [this]
      exact h.tm i
theorem Rel.world (h:Rel B nt w0 X γ st a w) {w':World} (hk:Keep (fun _=>False) w w'):Rel B nt w0 X γ st a w':=by
  have hk':Keep (z02 X γ st.o) w w':=hk.mono (fun _ _ h=>h.elim)
  refine ⟨h.sz,h.df,fun i=>VRel.mono hk' (fun _ _ h=>h) (h.tm i),fun n ob hn=>?_,fun b hb=>?_,h.dis,h.keep.trans hk (fun _ _ h=>h.elim),h.nr,fun b hb=>Nat.lt_of_lt_of_le (h.fl b hb) hk.size,h.pn⟩
  · exact (h.ob n ob hn).later (fun b hb=>hk.block b (h.lt b ⟨n,ob,hn,hb⟩).1 (fun h=>h)) hk' (fun _ _ h=>h) (Cmp.refl _ _)
  · exact ⟨Nat.lt_of_lt_of_le (h.lt b hb).1 hk.size,(h.lt b hb).2⟩
theorem Rel.set (h:Rel B nt w0 X γ st a w) {n:Nat} {ob ob':Ob} (ho:z01 st.o n=some ob) (hf:ob.fits ob') {w':World} (hk:Keep (z04 (γ n) ob) w w')
    (hb:∀ b,z04 (γ n) ob' b→z04 (γ n) ob b)
    (hr:(∀ b,z02 X γ ((n,some ob') :: st.o) b→z02 X γ st.o b)→Cmp γ st.o γ ((n,some ob') :: st.o)→ObRel B γ ((n,some ob') :: st.o) w' (z02 X γ ((n,some ob') :: st.o)) (γ n) ob') :
    Rel B nt w0 X γ (st.up (.set n ob')) a w':=by
  have hownP:∀ b,z0h γ ((n,some ob') :: st.o) b→z0h γ st.o b:=by
    rintro b ⟨m,ob1,hm,hb1⟩
    rw [z00] at hm
    split at hm
    · rename_i e
      subst e
      simp only [Option.some.injEq] at hm
      subst hm
      exact ⟨n,ob,ho,hb b hb1⟩
    · exact ⟨m,ob1,hm,hb1⟩
  have hown:∀ b,z02 X γ ((n,some ob') :: st.o) b→z02 X γ st.o b:=fun b hb=>hb.imp_left (hownP b)
  have hkP:Keep (z0h γ st.o) w w':=hk.mono (fun b _ hb=>⟨n,ob,ho,hb⟩)
  have hk':Keep (z02 X γ st.o) w w':=hkP.mono (fun b _ hb=>.inl hb)
  have hcmp:Cmp γ st.o γ ((n,some ob') :: st.o):=by
    intro m ob1 hm
    rw [z00] at hm
    split at hm
    · rename_i e
      subst e
      simp only [Option.some.injEq] at hm
      subst hm
      exact ⟨rfl,ob,ho,hf⟩
    · exact ⟨rfl,ob1,hm,ob1.fits_refl⟩
  refine ⟨h.sz,h.df,fun i=>?_,fun m ob1 hm=>?_,fun b hb1=>?_,?_,?_,fun b hb=>h.nr b (hownP b hb),fun b hb=>Nat.lt_of_lt_of_le (h.fl b hb) hk.size,fun p hp ob1 h1=>?_⟩
  case refine_6=>
    simp only [St.up] at h1
    rw [z00] at h1
    split at h1
    · rename_i e
      subst e
      exact h.pn p hp ob ho
    · exact h.pn p hp ob1 h1
  · exact VRel.mono hk' (fun b _ hb=>hown b hb) (VRel.cmp hcmp (h.tm i))
  · simp only [St.up] at hm ⊢
    rw [z00] at hm
    split at hm
    · rename_i e
      subst e
      simp only [Option.some.injEq] at hm
      subst hm
      exact hr hown hcmp
    · rename_i e
      refine (h.ob m ob1 hm).later (fun b hb1=>?_) hk' (fun b _ hb=>hown b hb) hcmp
      exact hk.block b (h.lt b ⟨m,ob1,hm,hb1⟩).1 (fun hb2=>h.dis n m ob ob1 b e ho hm hb2 hb1)
  · exact ⟨Nat.lt_of_lt_of_le (h.lt b (hownP b hb1)).1 hk.size,(h.lt b (hownP b hb1)).2⟩
  · intro m1 m2 ob1 ob2 b hne h1 h2 hb1 hb2
    simp only [St.up] at h1 h2
    rw [z00] at h1 h2
    split at h1
    · rename_i e1
      subst e1
      simp only [Option.some.injEq] at h1
      subst h1
      rw [if_neg hne] at h2
      exact h.dis n m2 ob ob2 b hne ho h2 (hb b hb1) hb2
    · split at h2
      · rename_i e1 e2
        subst e2
        simp only [Option.some.injEq] at h2
        subst h2
        exact h.dis m1 n ob1 ob b hne h1 ho hb1 (hb b hb2)
      · exact h.dis m1 m2 ob1 ob2 b hne h1 h2 hb1 hb2
  · refine h.keep.trans hkP (fun b hb h1=>?_)
    rcases (h.lt b h1).2 with h2 | h2
    · omega
    · exact h2
def zds (γ:Nat→Value) (o:Store) (ks:List Nat) (b:Nat):Prop:=∃ n∈ks,∃ ob,z01 o n=some ob∧z04 (γ n) ob b
def z9g (o:Store):List Nat→Store
  | []=>o
  | n :: r=>z9g ((n,none) :: o) r
theorem z2i:∀ (ks:List Nat) (o:Store) (m:Nat),z01 (z9g o ks) m=if m∈ks then none else z01 o m
  | [],o,m=>by simp [z9g]
  | n :: r,o,m=>by
    simp only [z9g,z2i r,z00,List.mem_cons]
    by_cases h1:m∈r
    · simp [h1]
    · by_cases h2:n=m
      · simp [h2]
      · have h3:¬ m=n:=fun e=>h2 e.symm
        simp [h1,h2,h3]
theorem Rel.new (h:Rel B nt w0 X γ st a w) (ks:List Nat) (d:Nat) (hd9:d≠900000) (ob':Ob) (g:Value) {w':World} (hk:Keep (zds γ st.o ks) w w')
    (hb:∀ b,z04 g ob' b→b < w'.heap.size∧(w.heap.size≤b∨zds γ st.o ks b))
    (hr:∀ O':Nat→Prop,(∀ b,b < w.heap.size→O' b→z02 X γ st.o b)→z5o d γ st.o (fun n=>if d=n then g else γ n) (St.up ⟨st.t,z9g st.o ks⟩ (.new d ob')).o →
      ObRel B (fun n=>if d=n then g else γ n) (St.up ⟨st.t,z9g st.o ks⟩ (.new d ob')).o w' O' g ob') :
    Rel B nt w0 X (fun n=>if d=n then g else γ n) (St.up ⟨st.t,z9g st.o ks⟩ (.new d ob')) a w':=by
  have hownP:∀ b,b < w.heap.size→z0h (fun n=>if d=n then g else γ n) (St.up ⟨st.t,z9g st.o ks⟩ (.new d ob')).o b→z0h γ st.o b:=by
    rintro b hlt ⟨m,ob1,hm,hb1⟩
    rw [z03] at hm
    split at hm
    · rename_i e
      subst e
      simp only [Option.some.injEq] at hm
      subst hm
      simp only [if_true] at hb1
      rcases (hb b hb1).2 with h1 | ⟨n,_,ob,ho,hbn⟩
      · omega
      · exact ⟨n,ob,ho,hbn⟩
    · rename_i e
      obtain ⟨ob0,h0,hs⟩:=z11 hm
      simp only [if_neg e] at hb1
      rw [z2i] at h0
      split at h0
      · cases h0
      · exact ⟨m,ob0,h0,((z22 hs).2 _ _).1 hb1⟩
  have hown:∀ b,b < w.heap.size→z02 X (fun n=>if d=n then g else γ n) (St.up ⟨st.t,z9g st.o ks⟩ (.new d ob')).o b→z02 X γ st.o b:=fun b hb h1=>h1.imp_left (hownP b hb)
  have hkP:Keep (z0h γ st.o) w w':=hk.mono (fun b _ ⟨n,_,ob,ho,hbn⟩=>⟨n,ob,ho,hbn⟩)
  have hk':Keep (z02 X γ st.o) w w':=hkP.mono (fun b _ hb=>.inl hb)
  have hcmp:z5o d γ st.o (fun n=>if d=n then g else γ n) (St.up ⟨st.t,z9g st.o ks⟩ (.new d ob')).o:=by
    intro m ob1 hmd hm
    rw [z03,if_neg (fun e=>hmd e.symm)] at hm
    obtain ⟨ob0,h0,hs⟩:=z11 hm
    rw [z2i] at h0
    split at h0
    · cases h0
    · exact ⟨if_neg (fun e=>hmd e.symm),ob0,h0,(z22 hs).1⟩
  have hnr:∀ b,z0h (fun n=>if d=n then g else γ n) (St.up ⟨st.t,z9g st.o ks⟩ (.new d ob')).o b→¬ X.far b:=fun b hb1 hf=>h.nr b (hownP b (h.fl b hf) hb1) hf
  refine ⟨h.sz,h.df,fun i=>?_,fun m ob1 hm=>?_,?_,?_,?_,hnr,fun b hb=>Nat.lt_of_lt_of_le (h.fl b hb) hk.size,fun p hp ob1 h1=>?_⟩
  case refine_6=>
    rw [z03,if_neg hd9] at h1
    obtain ⟨ob0,h0,_⟩:=z11 h1
    rw [z2i] at h0
    split at h0
    · cases h0
    · simp only [if_neg hd9]
      exact h.pn p hp ob0 h0
  · rw [z4r]
    exact VRel.mono hk' hown (zc4 hcmp (h.tm i))
  · by_cases e:d=m
    · subst e
      rw [z03,if_pos rfl,Option.some.injEq] at hm
      subst hm
      simp only [if_true]
      exact hr _ hown hcmp
    · rw [z03,if_neg e] at hm
      obtain ⟨ob0,h0,hs⟩:=z11 hm
      rw [z2i] at h0
      split at h0
      · cases h0
      rename_i hnk
      simp only [if_neg e]
      have hbl:∀ b,z04 (γ m) ob0 b→w'.heap[b]?=w.heap[b]?:=fun b hb1=>
        hk.block b (h.lt b ⟨m,ob0,h0,hb1⟩).1 (fun ⟨n,hn,ob,ho,hbn⟩=>by
          by_cases hnm:n=m
          · subst hnm; exact hnk hn
          · exact h.dis n m ob ob0 b hnm ho h0 hbn hb1)
      have hor:=h.ob m ob0 h0
      cases ob0 with
      | box l=>
        simp only [z17,Option.some.injEq] at hs
        subst hs
        simp only [ObRel] at hor ⊢
        obtain ⟨b,c,T,hg,hh,hr1⟩:=hor
        exact ⟨b,c,T,hg,by rw [hbl b ⟨_,hg,rfl⟩]; exact hh,VRels.mono hk' hown (z6v hcmp hr1)⟩
      | row own e' ag ks' l=>
        simp only [z17,Option.some.injEq] at hs
        subst hs
        cases own with
        | true=>
          simp only [ObRel] at hor ⊢
          obtain ⟨h1,h2,xs,hx,hr1⟩:=hor
          exact ⟨h1,h2,xs,z3q hx hbl,fun i y hy=>Kd.RelAll.mono hk' hown (fun _ _ hu=>hu) (hr1 i y hy)⟩
        | false=>
          simp only [ObRel] at hor ⊢
          exact ⟨hor.1,Kd.Rel.mono hk' hown hor.2⟩
      | bld s=>
        simp only [z17,Option.some.injEq] at hs
        subst hs
        simp only [ObRel] at hor ⊢
        obtain ⟨b,v,p,hg,hp,h1,h2,h3⟩:=hor
        exact ⟨b,v,p,hg,hp,by rw [hbl b ⟨_,_,hg,.inl rfl⟩]; exact h1,z1a h2 (fun b' hb'=>hbl b' ⟨_,_,hg,.inr hb'⟩),h3⟩
      | map vk es=>
        simp only [z17,Option.some.injEq] at hs
        subst hs
        simp only [ObRel] at hor ⊢
        obtain ⟨h0,b,ents,hg,h1,h2⟩:=hor
        exact ⟨h0,b,ents,hg,by rw [hbl b hg]; exact h1,EntRel.mono hk' hown h2⟩
      | iter vk last rest=>
        simp only [z17,Option.some.injEq] at hs
        subst hs
        simp only [ObRel] at hor ⊢
        obtain ⟨h0,r,b,since,seen,ents,clock,hg,h1,h2,h3⟩:=hor
        exact ⟨h0,r,b,since,seen,ents,clock,hg,by rw [hbl r ⟨_,_,hg,.inl rfl⟩]; exact h1,by rw [hbl b ⟨_,_,hg,.inr rfl⟩]; exact h2,IterRel.mono hk' hown h3⟩
  · rintro b ⟨m,ob1,hm,hb1⟩
    by_cases e:d=m
    · subst e
      rw [z03,if_pos rfl,Option.some.injEq] at hm
      subst hm
      simp only [if_true] at hb1
      refine ⟨(hb b hb1).1,?_⟩
      rcases (hb b hb1).2 with h1 | ⟨n,_,ob,ho,hbn⟩
      · exact .inl (Nat.le_trans h.keep.size h1)
      · exact (h.lt b ⟨n,ob,ho,hbn⟩).2
    · rw [z03,if_neg e] at hm
      obtain ⟨ob0,h0,hs⟩:=z11 hm
      rw [z2i] at h0
      split at h0
      · cases h0
      simp only [if_neg e] at hb1
      have:=h.lt b ⟨m,ob0,h0,((z22 hs).2 _ _).1 hb1⟩
      exact ⟨Nat.lt_of_lt_of_le this.1 hk.size,this.2⟩
  · intro m1 m2 ob1 ob2 b hne h1 h2 hb1 hb2
    have key:∀ m ob1,z01 (St.up ⟨st.t,z9g st.o ks⟩ (.new d ob')).o m=some ob1→d≠m→z04 (if d=m then g else γ m) ob1 b→m ∉ ks∧∃ ob0,z01 st.o m=some ob0∧z04 (γ m) ob0 b:=by
      intro m ob1 hm e hb1
      rw [z03,if_neg e] at hm
      obtain ⟨ob0,h0,hs⟩:=z11 hm
      rw [z2i] at h0
      split at h0
      · cases h0
      rename_i hnk
      rw [if_neg e] at hb1
      exact ⟨hnk,ob0,h0,((z22 hs).2 _ _).1 hb1⟩
    by_cases e1:d=m1
    · have e2:d≠m2:=fun e=>hne (e1.symm.trans e)
      obtain ⟨hk2,ob0,h0,hb0⟩:=key m2 ob2 h2 e2 hb2
      subst e1
      rw [z03,if_pos rfl,Option.some.injEq] at h1
      subst h1
      simp only [if_true] at hb1
      rcases (hb b hb1).2 with h3 | ⟨n,hn,ob,ho,hbn⟩
      · have:=(h.lt b ⟨m2,ob0,h0,hb0⟩).1
        omega
      · by_cases hnm:n=m2
        · subst hnm; exact hk2 hn
        · exact h.dis n m2 ob ob0 b hnm ho h0 hbn hb0
    · obtain ⟨hk1,ob01,h01,hb01⟩:=key m1 ob1 h1 e1 hb1
      by_cases e2:d=m2
      · subst e2
        rw [z03,if_pos rfl,Option.some.injEq] at h2
        subst h2
        simp only [if_true] at hb2
        rcases (hb b hb2).2 with h3 | ⟨n,hn,ob,ho,hbn⟩
        · have:=(h.lt b ⟨m1,ob01,h01,hb01⟩).1
          omega
        · by_cases hnm:n=m1
          · subst hnm; exact hk1 hn
          · exact h.dis n m1 ob ob01 b hnm ho h01 hbn hb01
      · obtain ⟨_,ob02,h02,hb02⟩:=key m2 ob2 h2 e2 hb2
        exact h.dis m1 m2 ob01 ob02 b hne h01 h02 hb01 hb02
  · refine h.keep.trans hkP (fun b hb h1=>?_)
    rcases (h.lt b h1).2 with h2 | h2
    · omega
    · exact h2
end
open Go Go.RowKit
def zgx:Kd→Value→Prop
  | .int k,z=>z = .int k 0
  | .bool,z=>z = .bool false
  | .str,z=>z = .string ByteArray.empty
  | .list _ _,_=>False
structure TISnd (P:Program) (B:BT) (t:Nat) (x:TI):Prop where
  info:∃ i z,P.info? t=some i∧i.size=x.size∧i.bytes=x.bytes∧i.zero=some z∧z.cells.size=x.size∧∀ γ o w O,VRels γ o w O x.zero z.cells.toList
  ks:x.ks.length=x.size
  by1:1≤x.bytes
  one:x.agg=false→x.size=1
  und:∃ d,P.underlying t=some d∧d.isRow=x.agg∧match x.d with
    | .slice e=>d = .slice e
    | .struct fs=>∃ fields,d = .struct fields∧fs=fields.toList.map (fun f=>(f.offset,f.type))∧∀ f∈fields.toList,(P.info? f.type).isSome=true
    | .array n e=>d = .array n e
    | .ptr e=>d = .pointer e
    | .bld=>t=B.T
    | .map e k=>∃ kt i z,d = .map kt e∧P.underlying kt=some (.int .i64)∧P.info? e=some i∧i.zero=some z∧zgx k z
    | .iface=>∃ ms,d = .interface ms
    | .leaf=>(∀ k,x.ks=[.int k]→d = .int k)∧(x.ks=[.str]→d = .string)∧(x.ks=[.bool]→d = .bool)
def TiOK (P:Program) (B:BT) (E:Env):Prop:=∀ t x,lk E.ti t=some x→TISnd P B t x
theorem zdc {α:Type} (d:α):∀ (l:List (Nat × α)) (i:Nat),lkd d l i=(lk l i).getD d
  | [],_=>rfl
  | (j,x) :: r,i=>by
    simp only [lkd,lk]
    cases Nat.beq j i with
    | true=>rfl
    | false=>exact zdc d r i
section
variable {P:Program} {B:BT} {E:Env}
theorem TiOK.size (h:TiOK P B E) {t:Nat} (hs:0 < (E.tyd t).size):TISnd P B t (E.tyd t):=by
  unfold Env.tyd at hs ⊢
  rw [zdc] at hs ⊢
  cases hl:lk E.ti t with
  | none=>rw [hl] at hs; simp [TI.none] at hs
  | some x=>exact h t x hl
theorem TiOK.desc (h:TiOK P B E) {t:Nat} (hs:(E.tyd t).d≠.leaf):TISnd P B t (E.tyd t):=by
  unfold Env.tyd at hs ⊢
  rw [zdc] at hs ⊢
  cases hl:lk E.ti t with
  | none=>rw [hl] at hs; simp [TI.none] at hs
  | some x=>exact h t x hl
theorem TiOK.kinds (h:TiOK P B E) {t:Nat} (hs:(E.tyd t).ks≠[]):TISnd P B t (E.tyd t):=by
  unfold Env.tyd at hs ⊢
  rw [zdc] at hs ⊢
  cases hl:lk E.ti t with
  | none=>rw [hl] at hs; simp [TI.none] at hs
  | some x=>exact h t x hl
end
theorem zko {k:IntKind} {n:Int}:zjg k n=true↔k.min≤n∧n≤k.max:=by simp [zjg]
theorem zja (γ:Nat→Value) (o:Store) (w:World) (O:Nat→Prop) (v:Value):VRel γ o w O (zkg v) v:=by
  unfold zkg
  split
  · rename_i k n
    cases h:zjg k n with
    | true=>simp only [VRel]; exact ⟨trivial,zko.1 h⟩
    | false=>simp only [VRel]
  · simp only [VRel]
  · rename_i s
    cases h:Nat.ble s.size 140737488355327 with
    | true=>simp only [VRel]; exact ⟨trivial,Nat.le_of_ble_eq_true h⟩
    | false=>simp only [VRel]
  · simp only [VRel]
  · simp only [VRel]
  · simp only [VRel]
  · simp only [VRel]
theorem z8y (k:IntKind) (n:Int):k.min≤k.wrap n∧k.wrap n≤k.max:=by
  cases k <;> simp [IntKind.wrap,IntKind.min,IntKind.max,IntKind.signed,IntKind.bits] <;> (try split) <;> omega
section
variable {P:Program} {γ:Nat→Value} {o:Store} {w:World} {O:Nat→Prop}
theorem z52 {op:BinOp} {c:Bool} {v:V} {us:List Upd} (h:(z97 op c).get=some (v,us)):us=[]∧((op = .eql∧v = .bool c)∨(op = .neq∧v = .bool (!c))):=by
  cases op <;> simp [z97,T.get] at h
  · exact ⟨h.2,.inl ⟨rfl,h.1.symm⟩⟩
  · exact ⟨h.2,.inr ⟨rfl,h.1.symm⟩⟩
theorem zbl (k:IntKind):k.min≤0∧0≤k.max:=by cases k <;> simp [IntKind.min,IntKind.max,IntKind.signed,IntKind.bits]
theorem zgt (x y:Int):(0≤x→0≤x.tmod y∧x.tmod y≤x)∧(x < 0→x≤x.tmod y∧x.tmod y≤0):=by
  have h1:(x.tmod y).natAbs≤x.natAbs:=by rw [Int.natAbs_tmod]; exact Nat.mod_le _ _
  constructor
  · intro hx
    have h2:=Int.tmod_nonneg y hx
    omega
  · intro hx
    have h2:(-x).tmod y = -(x.tmod y):=Int.neg_tmod x y
    have h3:=Int.tmod_nonneg (a := -x) y (by omega)
    omega
theorem zo1 {k:IntKind} {x:Int} (hx:k.min≤x∧x≤k.max) (y:Int):k.min≤x.tmod y∧x.tmod y≤k.max:=by
  have h1:=zgt x y
  have h2:=zbl k
  rcases Int.lt_or_le x 0 with h | h
  · have:=h1.2 h; omega
  · have:=h1.1 h; omega
theorem zft (x:Int) (n:Nat):(0≤x→0≤x.fdiv (2 ^ n)∧x.fdiv (2 ^ n)≤x)∧(x < 0→x≤x.fdiv (2 ^ n)∧x.fdiv (2 ^ n)≤0):=by
  have hp:(0:Int) < 2 ^ n:=Int.pow_pos (by omega)
  rw [Int.fdiv_eq_ediv_of_nonneg _ (Int.le_of_lt hp)]
  have hq:=Int.mul_ediv_add_emod x (2 ^ n)
  have hr:=Int.emod_nonneg x (Int.ne_of_gt hp)
  have hr2:=Int.emod_lt_of_pos x hp
  constructor
  · intro hx
    refine ⟨Int.ediv_nonneg hx (Int.le_of_lt hp),Int.ediv_le_self _ hx⟩
  · intro hx
    have h1:x / 2 ^ n < 0:=Int.ediv_neg_of_neg_of_pos hx hp
    refine ⟨?_,Int.le_of_lt h1⟩
    rw [Int.le_ediv_iff_mul_le hp]
    have:x*2 ^ n≤x*1:=Int.mul_le_mul_of_nonpos_left (Int.le_of_lt hx) (by omega)
    omega
theorem znd {k:IntKind} {x:Int} (hx:k.min≤x∧x≤k.max) (n:Nat):k.min≤x.fdiv (2 ^ n)∧x.fdiv (2 ^ n)≤k.max:=by
  have h1:=zft x n
  have h2:=zbl k
  rcases Int.lt_or_le x 0 with h | h
  · have:=h1.2 h; omega
  · have:=h1.1 h; omega
theorem zjf {op:BinOp} {k:IntKind} {x y:Int} (hx:k.min≤x∧x≤k.max) {v:V} {us:List Upd} (ho:zed op=false) (h:(zkn op k x y).get=some (v,us)) (t:Nat) :
    us=[]∧∃ z,(Go.binOp op t (.int k x) (.int k y)).run P w = .ok z w∧VRel γ o w O v z:=by
  cases op <;> simp only [zed] at ho <;> try (simp at ho; done)
  all_goals simp only [zkn,T.get,Option.some.injEq,Prod.mk.injEq] at h
  case quo=>
    by_cases hb:y=0
    · simp [hb,T.get] at h
    · simp only [hb,decide_false,T.get,Option.some.injEq,Prod.mk.injEq] at h
      obtain ⟨rfl,rfl⟩:=h
      refine ⟨rfl,_,by simp [Go.binOp,Op.intDiv,hb]; rfl,?_⟩
      simp only [VRel]
      exact ⟨trivial,z8y _ _⟩
  case rem=>
    by_cases hb:y=0
    · simp [hb,T.get] at h
    · simp only [hb,decide_false,T.get,Option.some.injEq,Prod.mk.injEq] at h
      obtain ⟨rfl,rfl⟩:=h
      refine ⟨rfl,_,by simp [Go.binOp,Op.intDiv,hb]; rfl,?_⟩
      simp only [VRel]
      exact ⟨trivial,zo1 hx y⟩
  all_goals obtain ⟨rfl,rfl⟩:=h
  all_goals refine ⟨rfl,_,by simp only [Go.binOp,ne_eq,not_true_eq_false,if_false,Op.intArith,Op.intBits,Op.intCmp,Sem.run_pure]; rfl,?_⟩
  all_goals simp only [VRel]
  all_goals first | exact ⟨trivial,z8y _ _⟩ | rfl | simp
theorem zgq {op:BinOp} {k k':IntKind} {x y:Int} (hx:k.min≤x∧x≤k.max) {v:V} {us:List Upd} (h:(zez op k x y).get=some (v,us)) (t:Nat) :
    us=[]∧∃ z,(Go.binOp op t (.int k x) (.int k' y)).run P w = .ok z w∧VRel γ o w O v z:=by
  cases op <;> simp only [zez,T.get] at h <;> try (simp at h; done)
  all_goals
    by_cases hb:y < 0
    · simp [hb,T.get] at h
    · simp only [hb,decide_false,T.get,Option.some.injEq,Prod.mk.injEq] at h
      obtain ⟨rfl,rfl⟩:=h
      refine ⟨rfl,_,by simp only [Go.binOp,Op.shift,hb,if_false,Sem.run_pure]; rfl,?_⟩
      simp only [VRel]
      first | exact ⟨trivial,z8y _ _⟩ | exact ⟨trivial,znd hx _⟩
theorem size_append (a b:ByteArray):(a++b).size=a.size+b.size:=ByteArray.size_append
theorem zk1 {op:BinOp} {x y:ByteArray} {v:V} {us:List Upd} (h:(zlb op x y).get=some (v,us)) (t:Nat) :
    us=[]∧∃ z,(Go.binOp op t (.string x) (.string y)).run P w = .ok z w∧VRel γ o w O v z:=by
  cases op <;> simp only [zlb,T.get] at h <;> try (simp at h; done)
  case add=>
    by_cases hb:x.size+y.size≤strMax
    · simp only [T.when,hb,decide_true,T.get,Option.some.injEq,Prod.mk.injEq] at h
      obtain ⟨rfl,rfl⟩:=h
      have h2:¬ ((x.size+y.size:Nat):Int) > IntKind.i64.max:=by
        simp only [strMax] at hb
        simp [IntKind.max,IntKind.signed,IntKind.bits]
        omega
      refine ⟨rfl,.string (x++y),by simp only [Go.binOp,Op.stringOp,h2,if_false,Sem.run_pure],?_⟩
      simp only [VRel]
      exact ⟨trivial,by rw [size_append]; exact hb⟩
    · simp [T.when,hb,T.get] at h
  all_goals
    simp only [Option.some.injEq,Prod.mk.injEq] at h
    obtain ⟨rfl,rfl⟩:=h
    refine ⟨rfl,_,by simp only [Go.binOp,Op.stringOp,Sem.run_pure]; rfl,?_⟩
    simp only [VRel]
def EqSnd (P:Program) (t:Nat) (ks:List Kd):Prop:=P.eqGuardType P.depth t=false∧∀ (γ:Nat→Value) (o:Store) (w w':World) (O:Nat→Prop) (l l':List V) (xs ys:Array Value) (c:Bool),z2b ks l=true→zd4 l l'=some c →
  VRels γ o w O l xs.toList→VRels γ o w O l' ys.toList→(Op.equal t (.agg xs) (.agg ys)).run P w' = .ok c w'
theorem z8e {n:Nat}:∀ {l:List Nat},zek n l=true↔n∈l
  | []=>by simp [zek]
  | m :: r=>by
    simp only [zek,List.mem_cons]
    cases hb:Nat.beq m n with
    | true=>simp [z0f.1 hb]
    | false=>
      have:=z10.1 hb
      simp only [z8e (l:=r)]
      constructor
      · exact fun h=>.inr h
      · rintro (h | h)
        · exact absurd h.symm this
        · exact h
theorem zlq {op:BinOp} {x y:V} {v:V} {us:List Upd} {X Y:Value} (hX:VRel γ o w O x X) (hY:VRel γ o w O y Y) (h:(zp1 op x y).get=some (v,us)) (t:Nat) (xo yo:Operand) :
    us=[]∧∃ z,(do eqGuard op t xo yo X Y; Go.binOp op t X Y).run P w = .ok z w∧VRel γ o w O v z:=by
  unfold zp1 at h
  split at h
  · rename_i k a k' b
    simp only [VRel] at hX hY
    obtain ⟨rfl,hX⟩:=hX
    obtain ⟨rfl,hY⟩:=hY
    have hg:(eqGuard op t xo yo (.int k a) (.int k' b)).run P w = .ok () w:=by
      cases op <;> simp [eqGuard]
    cases hs:zed op with
    | true=>
      rw [hs] at h
      obtain ⟨hu,z,hz,hv⟩:=zgq (P:=P) (γ:=γ) (o:=o) (w:=w) (O:=O) (k':=k') hX h t
      exact ⟨hu,z,by simp [hg,hz],hv⟩
    | false=>
      rw [hs] at h
      cases hk:k==k' with
      | false=>simp [hk,T.get] at h
      | true=>
        have:k=k':=by simpa using hk
        subst this
        simp only [hk] at h
        obtain ⟨hu,z,hz,hv⟩:=zjf (P:=P) (γ:=γ) (o:=o) (w:=w) (O:=O) hX hs h t
        exact ⟨hu,z,by simp [hg,hz],hv⟩
  · rename_i a b
    simp only [VRel] at hX hY
    obtain ⟨rfl,hX⟩:=hX
    obtain ⟨rfl,hY⟩:=hY
    have hg:(eqGuard op t xo yo (.string a) (.string b)).run P w = .ok () w:=by
      cases op <;> simp [eqGuard]
    obtain ⟨hu,z,hz,hv⟩:=zk1 (P:=P) (γ:=γ) (o:=o) (w:=w) (O:=O) h t
    exact ⟨hu,z,by simp [hg,hz],hv⟩
  · simp [T.get] at h
theorem zlp {B:BT} {E:Env} (hT:TiOK P B E) (hE:∀ t,t∈E.eqs→EqSnd P t (E.tyd t).ks) {op:BinOp} {x y:V} {v:V} {us:List Upd} {X Y:Value} (hX:VRel γ o w O x X) (hY:VRel γ o w O y Y)
    (t:Nat) (xo yo:Operand) (h:(zot E o op t yo x y).get=some (v,us)) :
    us=[]∧∃ z,(do eqGuard op t xo yo X Y; Go.binOp op t X Y).run P w = .ok z w∧VRel γ o w O v z:=by
  unfold zot at h
  split at h
  · rename_i l l'
    simp only [VRel] at hX hY
    obtain ⟨xs,rfl,hX⟩:=hX
    obtain ⟨ys,rfl,hY⟩:=hY
    cases hm:zek t E.eqs with
    | false=>simp [hm,T.get] at h
    | true=>
     cases hkm:z2b (E.tyd t).ks l with
     | false=>simp [hm,hkm,T.get] at h
     | true=>
      cases hc:zd4 l l' with
      | none=>simp [hm,hc,hkm,T.get] at h
      | some c=>
        simp only [hm,hc,hkm] at h
        obtain ⟨he1,he2⟩:=hE t (z8e.1 hm)
        have he:=he2 γ o w w O l l' xs ys c hkm hc hX hY
        obtain ⟨hu,⟨rfl,rfl⟩ | ⟨rfl,rfl⟩⟩:=z52 h
        · exact ⟨hu,.bool c,by simp [eqGuard,Go.binOp,he1,he],by simp only [VRel]⟩
        · exact ⟨hu,.bool (!c),by simp [eqGuard,Go.binOp,he1,he],by simp only [VRel]⟩
  · rename_i a
    cases hc:zec yo with
    | false=>simp [hc,T.get] at h
    | true=>
      cases hd:(E.tyd t).d <;> simp only [hc,hd,T.get] at h <;> try (simp at h; done)
      have hs:=hT.desc (t:=t) (by rw [hd]; simp)
      obtain ⟨d,hd1,_,hd2⟩:=hs.und
      rw [hd] at hd2
      obtain ⟨ms,rfl⟩:=hd2
      simp only [VRel] at hX hY
      subst hY
      have hyo:∃ c,yo = .const c:=by cases yo <;> simp [zec] at hc; exact ⟨_,rfl⟩
      obtain ⟨yc,rfl⟩:=hyo
      have key:∀ d,(Op.equalIn (d+1) t X .nilIface).run P w = .ok a w:=fun d=>by
        cases a with
        | true=>simp only at hX; subst hX; simp [Op.equalIn,run_underlying hd1]
        | false=>simp only at hX; obtain ⟨tt,vv,rfl⟩:=hX; simp [Op.equalIn,run_underlying hd1]
      have hg:∀ op,(eqGuard op t xo (.const yc) X .nilIface).run P w = .ok () w:=fun op=>by
        cases a with
        | true=>simp only at hX; subst hX; cases op <;> simp [eqGuard]
        | false=>simp only at hX; obtain ⟨tt,vv,rfl⟩:=hX; cases op <;> simp [eqGuard]
      have hk:=key 9999
      obtain ⟨hu,⟨rfl,rfl⟩ | ⟨rfl,rfl⟩⟩:=z52 h
      · refine ⟨hu,.bool a,?_,by simp only [VRel]⟩
        simp only [Sem.run_bind,hg,Result.andThen_ok]
        cases a with
        | true=>simp only at hX; subst hX; simp [Go.binOp,Op.equal,Op.maxDepth,hk]
        | false=>simp only at hX; obtain ⟨tt,vv,rfl⟩:=hX; simp [Go.binOp,Op.equal,Op.maxDepth,hk]
      · refine ⟨hu,.bool (!a),?_,by simp only [VRel]⟩
        simp only [Sem.run_bind,hg,Result.andThen_ok]
        cases a with
        | true=>simp only at hX; subst hX; simp [Go.binOp,Op.equal,Op.maxDepth,hk]
        | false=>simp only at hX; obtain ⟨tt,vv,rfl⟩:=hX; simp [Go.binOp,Op.equal,Op.maxDepth,hk]
  · rename_i a b
    simp only [VRel] at hX hY
    subst hX
    subst hY
    split at h
    · rename_i hd hks
      have hs:=hT.kinds (t:=t) (by rw [hks]; simp)
      obtain ⟨d,hd1,_,hd2⟩:=hs.und
      rw [hd] at hd2
      obtain rfl:=hd2.2.2 hks
      have key:∀ d,(Op.equalIn (d+1) t (.bool a) (.bool b)).run P w = .ok (a==b) w:=fun d=>by simp [Op.equalIn,run_underlying hd1]
      have hk:=key 9999
      have hg:∀ op,(eqGuard op t xo yo (.bool a) (.bool b)).run P w = .ok () w:=fun op=>by
        cases op <;> simp [eqGuard]
      obtain ⟨hu,⟨rfl,rfl⟩ | ⟨rfl,rfl⟩⟩:=z52 h
      · exact ⟨hu,.bool (a==b),by simp [hg,Go.binOp,Op.equal,Op.maxDepth,hk],by simp only [VRel]⟩
      · exact ⟨hu,.bool (!(a==b)),by simp only [Sem.run_bind,hg,Result.andThen_ok,Go.binOp,Op.equal,Op.maxDepth,hk,Sem.run_pure],by simp only [VRel]⟩
    · simp [T.get] at h
  · rename_i n i c
    split at h
    · simp [T.get] at h
    · rename_i e ob hnm hd ho
      have hs:=hT.desc (t:=t) (by rw [hd]; simp)
      obtain ⟨d,hd1,_,hd2⟩:=hs.und
      rw [hd] at hd2
      subst hd2
      simp only [VRel,ho] at hX hY
      subst hY
      obtain ⟨ad,rfl⟩:∃ ad,X = .pointer (some ad):=by
        cases ob with
        | box cs=>obtain ⟨_,b,_,h⟩:=hX; exact ⟨_,h⟩
        | row own e ag ks l=>obtain ⟨_,b,off,len,cap,_,h⟩:=hX; exact ⟨_,h⟩
        | bld s=>obtain ⟨_,b,v,_,h⟩:=hX; exact ⟨_,h⟩
        | map vk es=>exact absurd rfl (hnm _ _)
        | iter _ _ _=>obtain ⟨r,y,_,h⟩:=hX; exact ⟨_,h⟩
      have key:∀ d,(Op.equalIn (d+1) t (.pointer (some ad)) (.pointer none)).run P w = .ok false w:=fun d=>by simp [Op.equalIn,run_underlying hd1]
      have hk:=key 9999
      have hg:∀ op,(eqGuard op t xo yo (.pointer (some ad)) (.pointer none)).run P w = .ok () w:=fun op=>by
        cases op <;> simp [eqGuard]
      obtain ⟨hu,⟨rfl,rfl⟩ | ⟨rfl,rfl⟩⟩:=z52 h
      · exact ⟨hu,.bool false,by simp [hg,Go.binOp,Op.equal,Op.maxDepth,hk],by simp only [VRel]⟩
      · exact ⟨hu,.bool true,by simp [hg,Go.binOp,Op.equal,Op.maxDepth,hk],by simp only [VRel]; rfl⟩
    · simp [T.get] at h
  · exact zlq hX hY h t xo yo
theorem zo2 {op:UnOp} {x:V} {v:V} {us:List Upd} {X:Value} (hX:VRel γ o w O x X) (h:(unT op x).get=some (v,us)) :
    us=[]∧∃ z,(Op.unary op X).run P w = .ok z w∧VRel γ o w O v z:=by
  unfold unT at h
  split at h
  · simp only [VRel] at hX
    obtain ⟨rfl,hX⟩:=hX
    simp only [T.get,Option.some.injEq,Prod.mk.injEq] at h
    obtain ⟨rfl,rfl⟩:=h
    refine ⟨rfl,_,by simp only [Op.unary,Op.intArith,Sem.run_pure]; rfl,?_⟩
    simp only [VRel]
    exact ⟨trivial,z8y _ _⟩
  · simp only [VRel] at hX
    subst hX
    simp only [T.get,Option.some.injEq,Prod.mk.injEq] at h
    obtain ⟨rfl,rfl⟩:=h
    exact ⟨rfl,_,by simp only [Op.unary,Sem.run_pure]; rfl,by simp only [VRel]⟩
  · simp [T.get] at h
end
open Go Go.RowKit
theorem z5m:∀ (l:List V) (n:Nat),z9s l n=l.take n
  | l,0=>by cases l <;> simp [z9s]
  | [],n+1=>by simp [z9s]
  | x :: r,n+1=>by simp [z9s,z5m r n]
theorem z38:∀ (l:List V) (n:Nat),z7k l n=l.drop n
  | l,0=>by cases l <;> simp [z7k]
  | [],n+1=>by simp [z7k]
  | x :: r,n+1=>by simp [z7k,z38 r n]
theorem zbm:∀ (l:List V) (n:Nat),zlk l n=(l[n]?).getD .any
  | [],n=>by simp [zlk]
  | x :: r,0=>by simp [zlk]
  | x :: r,n+1=>by simp [zlk,zbm r n]
theorem z7a:∀ (l:List IV) (n:Nat),nth l n=(l[n]?).getD default
  | [],0=>by simp [nth]
  | [],n+1=>by simp [nth]
  | x :: r,0=>by simp [nth]
  | x :: r,n+1=>by simp [nth,z7a r n]
theorem z2d {α:Type} (g:Nat→α):∀ (c n:Nat),(z5f g c n).length=n
  | _,0=>rfl
  | c,n+1=>by simp [z5f,z2d g (c+1) n]
theorem z47 {α:Type} (g:Nat→α):∀ (c n j:Nat),j < n→(z5f g c n)[j]?=some (g (c+j))
  | _,0,_,h=>by omega
  | c,n+1,0,_=>by simp [z5f]
  | c,n+1,j+1,h=>by
    simp only [z5f,List.getElem?_cons_succ]
    rw [z47 g (c+1) n j (by omega)]
    congr 2
    omega
section
variable {γ:Nat→Value} {o:Store} {w:World} {O:Nat→Prop}
theorem VRels.length:∀ {l:List V} {xs:List Value},VRels γ o w O l xs→l.length=xs.length
  | [],[],_=>rfl
  | [],_ :: _,h=>by simp only [VRels] at h
  | _ :: _,[],h=>by simp only [VRels] at h
  | v :: vs,x :: xs,h=>by
    simp only [VRels] at h
    simp [VRels.length h.2]
theorem VRels.get:∀ {l:List V} {xs:List Value} {j:Nat} {v:V},VRels γ o w O l xs→l[j]?=some v→∃ x,xs[j]?=some x∧VRel γ o w O v x
  | [],_,_,_,_,hj=>by simp at hj
  | _ :: _,[],_,_,h,_=>by simp only [VRels] at h
  | u :: vs,x :: xs,0,v,h,hj=>by
    simp only [VRels] at h
    simp at hj
    subst hj
    exact ⟨x,rfl,h.1⟩
  | u :: vs,x :: xs,j+1,v,h,hj=>by
    simp only [VRels] at h
    simp at hj
    obtain ⟨y,hy,hr⟩:=VRels.get h.2 hj
    exact ⟨y,by simpa using hy,hr⟩
theorem VRels.of_get:∀ {l:List V} {xs:List Value},l.length=xs.length→(∀ (j:Nat) (v:V) (x:Value),l[j]?=some v→xs[j]?=some x→VRel γ o w O v x)→VRels γ o w O l xs
  | [],[],_,_=>by simp only [VRels]
  | [],_ :: _,h,_=>by simp at h
  | _ :: _,[],h,_=>by simp at h
  | v :: vs,x :: xs,h,hr=>by
    simp only [VRels]
    exact ⟨hr 0 v x rfl rfl,VRels.of_get (by simpa using h) (fun j v x h1 h2=>hr (j+1) v x (by simpa using h1) (by simpa using h2))⟩
theorem VRels.get' {l:List V} {xs:List Value} {j:Nat} {v:V} {x:Value} (h:VRels γ o w O l xs) (hv:l[j]?=some v) (hx:xs[j]?=some x):VRel γ o w O v x:=by
  obtain ⟨y,hy,hr⟩:=h.get hv
  rw [hx,Option.some.injEq] at hy
  exact hy ▸ hr
theorem VRels.take (n:Nat) {l:List V} {xs:List Value} (h:VRels γ o w O l xs):VRels γ o w O (l.take n) (xs.take n):=by
  refine VRels.of_get (by simp [h.length]) (fun j v x h1 h2=>?_)
  rw [List.getElem?_take] at h1 h2
  split at h1
  · rename_i hj
    rw [if_pos hj] at h2
    exact h.get' h1 h2
  · cases h1
theorem VRels.drop (n:Nat) {l:List V} {xs:List Value} (h:VRels γ o w O l xs):VRels γ o w O (l.drop n) (xs.drop n):=by
  refine VRels.of_get (by simp [h.length]) (fun j v x h1 h2=>?_)
  rw [List.getElem?_drop] at h1 h2
  exact h.get' h1 h2
theorem VRels.append {l l':List V} {xs xs':List Value} (h:VRels γ o w O l xs) (h':VRels γ o w O l' xs'):VRels γ o w O (l++l') (xs++xs'):=by
  have hl:=h.length
  refine VRels.of_get (by simp [hl,h'.length]) (fun j v x h1 h2=>?_)
  rw [List.getElem?_append] at h1 h2
  rw [hl] at h1
  split at h1
  · rename_i hj
    rw [if_pos hj] at h2
    exact h.get' h1 h2
  · rename_i hj
    rw [if_neg hj] at h2
    exact h'.get' h1 h2
theorem z6r {k:Kd} {x:IV} {u:Value} (h:Kd.Rel w O k x u):VRel γ o w O (zij k x) u:=by
  cases k with
  | int k=>simp only [Kd.Rel] at h; simp only [zij,VRel]; exact h
  | bool=>simp only [Kd.Rel] at h; simp only [zij,VRel]; exact h
  | str=>simp only [Kd.Rel] at h; simp only [zij,VRel]; exact h
  | list ag ks=>simp only [Kd.Rel] at h; simp only [zij,VRel,Kd.Rel,IV.toList]; exact h
theorem zbf {P:Program} {B:BT} {t:Nat} {x:TI} (h:TISnd P B t x) (w:World):(isAgg t).run P w = .ok x.agg w:=by
  obtain ⟨d,hd,hr,_⟩:=h.und
  unfold isAgg
  rw [Sem.run_bind,run_underlying hd w,← hr]
  cases d <;> rfl
theorem z1q {P:Program} {B:BT} {t:Nat} {x:TI} (h:TISnd P B t x) (w:World):(sizeOf t).run P w = .ok x.size w:=by
  obtain ⟨i,z,hi,hs,_⟩:=h.info
  simp [sizeOf,typeInfo,hi,hs]
theorem zif {P:Program} {B:BT} {t:Nat} {x:TI} (h:TISnd P B t x) (ha:x.agg=true) (b c:Nat) (cs:List Value) (hl:cs.length=x.size)
    (hc:∀ j v,cs[j]?=some v→w.cell? ⟨b,c+j,none⟩=some v):(Instr.loadAt t (.pointer (some ⟨b,c,none⟩))).run P w = .ok (.agg cs.toArray) w:=by
  obtain ⟨d,hd,hr,_⟩:=h.und
  obtain ⟨i,z,hi,hs,_⟩:=h.info
  exact run_loadAt_mid w b c t cs d hc hd (by rw [hr,ha]) (by rw [hi]; simp [hs,hl])
theorem zig {P:Program} {B:BT} {t:Nat} {x:TI} (h:TISnd P B t x) (ha:x.agg=false) (b c:Nat) (u:Value)
    (hc:w.cell? ⟨b,c,none⟩=some u):(Instr.loadAt t (.pointer (some ⟨b,c,none⟩))).run P w = .ok u w:=by
  simp only [Instr.loadAt,Instr.sureAddr,Sem.run_pure,Sem.run_bind,Result.andThen_ok,loadVar,zbf h,ha,Bool.false_eq_true,if_false,run_load,hc]
theorem zic {P:Program} {B:BT} {t:Nat} {x:TI} (h:TISnd P B t x) {ks:List Kd} {f:Nat→IV} {c:Nat} {v:V} (hv:zo7 x.agg x.size ks f c=some v)
    {b off:Nat} (hr:Kd.RelAll w O ks f 0 (fun j u=>w.cell? ⟨b,off+j,none⟩=some u)) :
    ∃ y,(Instr.loadAt t (.pointer (some ⟨b,off+c,none⟩))).run P w = .ok y w∧VRel γ o w O v y:=by
  rw [Kd.RelAll_iff] at hr
  unfold zo7 at hv
  cases hb:Nat.ble (c+x.size) ks.length with
  | false=>simp [hb] at hv
  | true=>
    have hb':=Nat.le_of_ble_eq_true hb
    simp only [hb] at hv
    have key:∀ j,j < x.size→∃ u,w.cell? ⟨b,off+c+j,none⟩=some u∧VRel γ o w O (zij (ks.getD (c+j) .bool) (f (c+j))) u:=by
      intro j hj
      have hlt:c+j < ks.length:=by omega
      obtain ⟨u,hu,hr'⟩:=hr (c+j) ks[c+j] (List.getElem?_eq_getElem hlt)
      simp only [Nat.zero_add] at hu hr'
      refine ⟨u,by rw [← hu]; congr 2; omega,?_⟩
      have:ks.getD (c+j) .bool=ks[c+j]:=by simp [List.getD,List.getElem?_eq_getElem hlt]
      rw [this]
      exact z6r hr'
    cases ha:x.agg with
    | true=>
      rw [ha] at hv
      simp only [Option.some.injEq] at hv
      subst hv
      let us:List Value:=z5f (fun j=>(w.cell? ⟨b,off+j,none⟩).getD undef) c x.size
      have hus:∀ j,j < x.size→us[j]?=some ((w.cell? ⟨b,off+(c+j),none⟩).getD undef):=fun j hj=>z47 _ _ _ _ hj
      refine ⟨.agg us.toArray,zif h ha b (off+c) us (z2d _ _ _) ?_,?_⟩
      · intro j v' hj
        have hjl:j < x.size:=by
          rcases Nat.lt_or_ge j x.size with h' | h'
          · exact h'
          · rw [List.getElem?_eq_none (by rw [z2d]; exact h')] at hj; cases hj
        obtain ⟨u,hu,_⟩:=key j hjl
        rw [hus j hjl,Option.some.injEq,← Nat.add_assoc,hu] at hj
        rw [hu,← hj]
        rfl
      · simp only [VRel]
        refine ⟨us.toArray,rfl,VRels.of_get (by simp [z2d,us]) (fun j v' y h1 h2=>?_)⟩
        have hjl:j < x.size:=by
          rcases Nat.lt_or_ge j x.size with h' | h'
          · exact h'
          · rw [List.getElem?_eq_none (by rw [z2d]; exact h')] at h1; cases h1
        obtain ⟨u,hu,hr'⟩:=key j hjl
        rw [z47 _ _ _ _ hjl,Option.some.injEq] at h1
        rw [hus j hjl,Option.some.injEq,← Nat.add_assoc,hu] at h2
        simp only [Option.getD_some] at h2
        rw [← h1,← h2]
        exact hr'
    | false=>
      rw [ha] at hv
      cases h1:Nat.beq x.size 1 with
      | false=>simp [h1] at hv
      | true=>
        simp only [h1,Option.some.injEq] at hv
        subst hv
        obtain ⟨u,hu,hr'⟩:=key 0 (by rw [z0f.1 h1]; omega)
        exact ⟨u,zig h ha b (off+c) u (by simpa using hu),by simpa using hr'⟩
theorem zg5 {P:Program} {B:BT} {t:Nat} {x:TI} (h:TISnd P B t x) {cs:List V} {c:Nat} {v:V} (hv:zcj x.agg x.size cs c=some v)
    {b:Nat} {xs:Array Value} {T:TypeId} {fr:Nat × Nat} (hh:w.heap[b]?=some (.cells xs T fr)) (hr:VRels γ o w O cs xs.toList) :
    ∃ y,(Instr.loadAt t (.pointer (some ⟨b,c,none⟩))).run P w = .ok y w∧VRel γ o w O v y:=by
  unfold zcj at hv
  have hcell:∀ j,w.cell? ⟨b,j,none⟩=xs.toList[j]?:=fun j=>by simp [World.cell?,hh]
  cases hb:Nat.ble (c+x.size) cs.length with
  | false=>simp [hb] at hv
  | true=>
    have hb':=Nat.le_of_ble_eq_true hb
    have hlen:=hr.length
    simp only [hb] at hv
    cases ha:x.agg with
    | true=>
      rw [ha] at hv
      simp only [Option.some.injEq] at hv
      subst hv
      refine ⟨.agg ((xs.toList.drop c).take x.size).toArray,zif h ha b c _ (by rw [List.length_take,List.length_drop]; omega) (fun j v' hj=>?_),?_⟩
      · rw [List.getElem?_take] at hj
        split at hj
        · rw [List.getElem?_drop] at hj
          rw [hcell,hj]
        · cases hj
      · simp only [VRel]
        refine ⟨_,rfl,?_⟩
        rw [z5m,z38]
        simpa using (hr.drop c).take x.size
    | false=>
      rw [ha] at hv
      cases h1:Nat.beq x.size 1 with
      | false=>simp [h1] at hv
      | true=>
        have h1':=z0f.1 h1
        simp only [h1,Option.some.injEq] at hv
        subst hv
        obtain ⟨u,hu⟩:∃ u,cs[c]?=some u:=⟨cs[c]'(by omega),List.getElem?_eq_getElem _⟩
        obtain ⟨y,hy,hr'⟩:=hr.get hu
        refine ⟨y,zig h ha b c y (by rw [hcell,hy]),?_⟩
        rw [zbm,hu]
        exact hr'
theorem zil {P:Program} {B:BT} {t:Nat} {x:TI} (h:TISnd P B t x) {cs:List V} {c:Nat} {v:V} (hv:zcj x.agg x.size cs c=some v)
    {xs:Array Value} (hr:VRels γ o w O cs xs.toList):∃ y,(part t xs c).run P w = .ok y w∧VRel γ o w O v y:=by
  unfold zcj at hv
  cases hb:Nat.ble (c+x.size) cs.length with
  | false=>simp [hb] at hv
  | true=>
    have hb':=Nat.le_of_ble_eq_true hb
    have hlen:=hr.length
    simp only [hb] at hv
    cases ha:x.agg with
    | true=>
      rw [ha] at hv
      simp only [Option.some.injEq] at hv
      subst hv
      refine ⟨.agg (xs.extract c (c+x.size)),by simp [part,zbf h,ha,z1q h],?_⟩
      simp only [VRel]
      refine ⟨_,rfl,?_⟩
      rw [z5m,z38]
      have:(xs.extract c (c+x.size)).toList=(xs.toList.drop c).take x.size:=by
        simp [List.extract_eq_take_drop]
      rw [this]
      exact (hr.drop c).take x.size
    | false=>
      rw [ha] at hv
      cases h1:Nat.beq x.size 1 with
      | false=>simp [h1] at hv
      | true=>
        have h1':=z0f.1 h1
        simp only [h1,Option.some.injEq] at hv
        subst hv
        obtain ⟨u,hu⟩:∃ u,cs[c]?=some u:=⟨cs[c]'(by omega),List.getElem?_eq_getElem _⟩
        obtain ⟨y,hy,hr'⟩:=hr.get hu
        have hy':xs[c]?=some y:=by simpa using hy
        refine ⟨y,by simp [part,zbf h,ha,hy'],?_⟩
        rw [zbm,hu]
        exact hr'
end
section
variable {B:BT} {nt:Nat} {w0:World} {X:Zone} {γ:Nat→Value} {st:St} {a:Act} {w:World}
theorem z0d (h:Rel B nt w0 X γ st a w) (x:Operand):VRel γ st.o w (z02 X γ st.o) (opd st x) (a.eval x):=by
  cases x with
  | tmp t=>exact h.tm t
  | const v=>exact zja _ _ _ _ v
  | global g=>simp only [opd,VRel]
  | func f=>simp only [opd,VRel]; exact ⟨#[],rfl,by simp only [VRels]⟩
theorem Rel.elem (h:Rel B nt w0 X γ st a w) {n:Nat} {own:Bool} {e:Nat} {ag:Bool} {ks:List Kd} {l:List IV} (ho:z01 st.o n=some (.row own e ag ks l)) {i:Nat} (hi:i < l.length)
    {b off len cap:Nat} (hg:γ n = .slice (some ⟨b,off,none⟩) len cap) :
    b < w.heap.size∧Kd.RelAll w (z02 X γ st.o) ks (z13 ag (l.getD i default)) 0 (fun j u=>w.cell? ⟨b,off+i*ks.length+j,none⟩=some u):=by
  have hob:=h.ob n _ ho
  have hy:l[i]?=some (l.getD i default):=by simp [List.getD,List.getElem?_eq_getElem hi]
  cases own with
  | true=>
    simp only [ObRel] at hob
    obtain ⟨_,_,xs,hx,hr⟩:=hob
    obtain ⟨rfl,_,h1,h2⟩:=hx.cells hg
    refine ⟨h1,Kd.RelAll.mono (Keep.refl _ w) (fun _ _ h=>h) (fun j u hu=>?_) (hr i _ hy)⟩
    have:=h2 _ u hu
    rw [← this]
    congr 2
    omega
  | false=>
    simp only [ObRel,Kd.Rel,IV.toList] at hob
    obtain ⟨_,p,c,hv,_,_,_,hr⟩:=hob
    obtain ⟨b',o',hp,_,hs,hr'⟩:=hr i _ hy
    rw [hg,hp] at hv
    simp only [Value.slice.injEq,Option.some.injEq,Addr.mk.injEq] at hv
    obtain ⟨⟨rfl,rfl,_⟩,_⟩:=hv
    exact ⟨hs,hr'⟩
def OpWp (P:Program) (B:BT) (nt:Nat) (w0:World) (X:Zone) (a:Act) (w:World) (o:Oper) (st:St) (v:V) (us:List Upd):Prop:=
  ∀ (K:Act→World→Prop) (Q:Exit→Act→World→Prop),
    (∀ γ' x w',Rel B nt w0 X γ' (st.ups us) a w'→VRel γ' (st.ups us).o w' (z02 X γ' (st.ups us).o) v x→K (a.put o.dst x) w')→o.wp P a w K Q
theorem OpWp.value {P:Program} {o:Oper} {v:V} {us:List Upd} {γ':Nat→Value} {x:Value} {w':World} (hr:(execOp a.eval o).run P w = .ok (.value x) w')
    (h:Rel B nt w0 X γ' (st.ups us) a w') (hv:VRel γ' (st.ups us).o w' (z02 X γ' (st.ups us).o) v x):OpWp P B nt w0 X a w o st v us:=by
  intro K Q hK
  unfold Oper.wp
  rw [hr]
  exact hK γ' x w' h hv
theorem OpWp.skip {P:Program} {o:Oper} {us:List Upd} {γ':Nat→Value} {w':World} (hr:(execOp a.eval o).run P w = .ok .skip w')
    (h:Rel B nt w0 X γ' (st.ups us) a w'):OpWp P B nt w0 X a w o st .any us:=by
  intro K Q hK
  unfold Oper.wp
  rw [hr]
  exact hK γ' undef w' h (by simp only [VRel])
theorem OpWp.pure {P:Program} {o:Oper} {v:V} {x:Value} (h:Rel B nt w0 X γ st a w) (hr:(execOp a.eval o).run P w = .ok (.value x) w)
    (hv:VRel γ st.o w (z02 X γ st.o) v x):OpWp P B nt w0 X a w o st v []:=OpWp.value (us:=[]) hr h hv
theorem T.get_of {x:Option V} {v:V} {us:List Upd} (h:(T.of x).get=some (v,us)):us=[]∧x=some v:=by
  cases x with
  | none=>simp [T.of,T.get] at h
  | some y=>simp [T.of,T.get] at h; exact ⟨h.2,by rw [h.1]⟩
theorem T.get_when {b:Bool} {x:T} {r:V × List Upd} (h:(T.when b x).get=some r):b=true∧x.get=some r:=by
  cases b with
  | true=>exact ⟨rfl,h⟩
  | false=>simp [T.when,T.get] at h
theorem z4i:∀ {n j:Nat} {i:Int} {g:Nat→T} {r:V × List Upd},(zkm n j i g).get=some r→∃ m:Nat,j≤m∧m < j+n∧i=(m:Int)∧(g m).get=some r
  | 0,_,_,_,_,h=>by simp [zkm,T.get] at h
  | n+1,j,i,g,r,h=>by
    unfold zkm at h
    by_cases hi:i=(j:Int)
    · simp only [hi,decide_true,T.get] at h
      exact ⟨j,Nat.le_refl _,by omega,hi,h⟩
    · simp only [hi,decide_false,T.get] at h
      obtain ⟨m,h1,h2,h3,h4⟩:=z4i h
      exact ⟨m,by omega,by omega,h3,h4⟩
variable {P:Program} {E:Env}
theorem TiOK.known (hT:TiOK P B E) {t:Nat} (h:(E.tyd t).agg=true∨0 < (E.tyd t).size):TISnd P B t (E.tyd t):=by
  rcases h with h | h
  · unfold Env.tyd at h ⊢
    rw [zdc] at h ⊢
    cases hl:lk E.ti t with
    | none=>rw [hl] at h; simp [TI.none] at h
    | some x=>exact hT t x hl
  · exact hT.size h
theorem zbg {agg:Bool} {size:Nat} {cs:List V} {c:Nat} {v:V} (h:zcj agg size cs c=some v):agg=true∨0 < size:=by
  unfold zcj at h
  cases agg with
  | true=>exact .inl rfl
  | false=>
    right
    cases hb:Nat.ble (c+size) cs.length <;> simp only [hb] at h
    · cases h
    · cases h1:Nat.beq size 1 <;> simp only [h1] at h
      · cases h
      · rw [z0f.1 h1]; omega
theorem zd9 {agg:Bool} {size:Nat} {ks:List Kd} {f:Nat→IV} {c:Nat} {v:V} (h:zo7 agg size ks f c=some v):agg=true∨0 < size:=by
  unfold zo7 at h
  cases agg with
  | true=>exact .inl rfl
  | false=>
    right
    cases hb:Nat.ble (c+size) ks.length <;> simp only [hb] at h
    · cases h
    · cases h1:Nat.beq size 1 <;> simp only [h1] at h
      · cases h
      · rw [z0f.1 h1]; omega
theorem znk (hT:TiOK P B E) (h:Rel B nt w0 X γ st a w) (o:Oper) {t:Nat} {x:Operand} (ho:o.op = .load t x) {v:V} {us:List Upd}
    (he:(z0r E st.o (opd st) o.dst o.op).get=some (v,us)):OpWp P B nt w0 X a w o st v us:=by
  have hx:=z0d h x
  rw [ho] at he
  simp only [z0r] at he
  have hrun:∀ y,(Instr.loadAt t (a.eval x)).run P w = .ok y w→(execOp a.eval o).run P w = .ok (.value y) w:=fun y hy=>by
    unfold execOp
    simp only [ho,Sem.run_bind,hy,Result.andThen_ok,Sem.run_pure]
  split at he
  · rename_i n i c hop
    rw [hop] at hx
    simp only [VRel] at hx
    split at he
    · rename_i cs hob
      obtain ⟨rfl,hv⟩:=T.get_of he
      rw [hob] at hx
      obtain ⟨rfl,b,hg,hx⟩:=hx
      have hor:=h.ob n _ hob
      simp only [ObRel] at hor
      obtain ⟨b',cs',T,hg',hh,hr⟩:=hor
      rw [hg] at hg'
      simp only [Value.pointer.injEq,Option.some.injEq,Addr.mk.injEq,and_true] at hg'
      subst hg'
      obtain ⟨y,hy,hr'⟩:=zg5 (hT.known (zbg hv)) hv hh hr
      rw [hx] at hrun
      exact OpWp.pure h (hrun y hy) hr'
    · rename_i own e ag ks l hob
      obtain ⟨rfl,hv⟩:=T.get_of he
      rw [hob] at hx
      obtain ⟨hi,b,off,len,cap,hg,hx⟩:=hx
      obtain ⟨_,hr⟩:=h.elem hob hi hg
      obtain ⟨y,hy,hr'⟩:=zic (γ:=γ) (o:=st.o) (hT.known (zd9 hv)) hv hr
      rw [hx] at hrun
      exact OpWp.pure h (hrun y hy) hr'
    · simp [T.get] at he
  · rename_i ks f c hop
    obtain ⟨rfl,hv⟩:=T.get_of he
    rw [hop] at hx
    simp only [VRel] at hx
    obtain ⟨b,off,hx,_,_,hr⟩:=hx
    obtain ⟨y,hy,hr'⟩:=zic (γ:=γ) (o:=st.o) (hT.known (zd9 hv)) hv hr
    rw [hx] at hrun
    exact OpWp.pure h (hrun y hy) hr'
  · simp [T.get] at he
end
open Go Go.RowKit
section
variable {B:BT} {nt:Nat} {w0:World} {X:Zone} {γ:Nat→Value} {st:St} {a:Act} {w:World} {P:Program} {E:Env}
theorem zkx (h:Rel B nt w0 X γ st a w) (o:Oper) {x:Operand} (ho:o.op = .move x∨o.op = .assign x) {v:V} {us:List Upd}
    (he:(z0r E st.o (opd st) o.dst o.op).get=some (v,us)):OpWp P B nt w0 X a w o st v us:=by
  rcases ho with ho | ho <;>
  · rw [ho] at he
    simp only [z0r,T.get,Option.some.injEq,Prod.mk.injEq] at he
    obtain ⟨rfl,rfl⟩:=he
    exact OpWp.pure h (by unfold execOp; simp only [ho,Sem.run_pure]) (z0d h x)
theorem znm (h:Rel B nt w0 X γ st a w) (o:Oper) {c x y:Operand} (ho:o.op = .pick c x y) {v:V} {us:List Upd}
    (he:(z0r E st.o (opd st) o.dst o.op).get=some (v,us)):OpWp P B nt w0 X a w o st v us:=by
  have hc:=z0d h c
  have hx:=z0d h x
  have hy:=z0d h y
  rw [ho] at he
  simp only [z0r] at he
  split at he
  · rename_i cb hcb
    rw [hcb] at hc
    simp only [VRel] at hc
    have hrun:(execOp a.eval o).run P w = .ok (.value (if cb=true then a.eval x else a.eval y)) w:=by
      unfold execOp
      simp only [ho,hc,asBool,Sem.run_pure,Sem.run_bind,Result.andThen_ok]
    split at he
    · rename_i bx by_ h1 h2
      simp only [T.get,Option.some.injEq,Prod.mk.injEq] at he
      obtain ⟨rfl,rfl⟩:=he
      refine OpWp.pure h hrun ?_
      rw [h1] at hx
      rw [h2] at hy
      cases cb <;> simpa using (by assumption)
    · cases cb with
      | true=>
        simp only [T.get,Option.some.injEq,Prod.mk.injEq] at he
        obtain ⟨rfl,rfl⟩:=he
        exact OpWp.pure h hrun (by simpa using hx)
      | false=>
        simp only [T.get,Option.some.injEq,Prod.mk.injEq] at he
        obtain ⟨rfl,rfl⟩:=he
        exact OpWp.pure h hrun (by simpa using hy)
  · simp [T.get] at he
theorem zoj (hT:TiOK P B E) (hE:∀ t,t∈E.eqs→EqSnd P t (E.tyd t).ks) (h:Rel B nt w0 X γ st a w) (o:Oper) {op:BinOp} {t t':Nat} {x y:Operand} (ho:o.op = .binOp op t x y t') {v:V} {us:List Upd}
    (he:(z0r E st.o (opd st) o.dst o.op).get=some (v,us)):OpWp P B nt w0 X a w o st v us:=by
  rw [ho] at he
  simp only [z0r] at he
  obtain ⟨rfl,z,hz,hv⟩:=zlp hT hE (z0d h x) (z0d h y) t x y he
  exact OpWp.pure h (by unfold execOp; simp only [ho,Sem.run_bind,Sem.run_pure] at hz ⊢; rw [hz]; rfl) hv
theorem zp8 (h:Rel B nt w0 X γ st a w) (o:Oper) {op:UnOp} {t:Nat} {x:Operand} (ho:o.op = .unOp op t x) {v:V} {us:List Upd}
    (he:(z0r E st.o (opd st) o.dst o.op).get=some (v,us)):OpWp P B nt w0 X a w o st v us:=by
  rw [ho] at he
  simp only [z0r] at he
  obtain ⟨rfl,z,hz,hv⟩:=zo2 (P:=P) (z0d h x) he
  exact OpWp.pure h (by unfold execOp; simp only [ho,Sem.run_bind,Sem.run_pure,hz,Result.andThen_ok]) hv
theorem zin (_:Rel B nt w0 X γ st a w) {n i c:Nat} {x:Value} (hx:VRel γ st.o w (z02 X γ st.o) (.ptr n i c) x) {ob:Ob} (ho:z01 st.o n=some ob) (hnm:∀ k es,ob = .map k es→False):∃ ad,x = .pointer (some ad):=by
  simp only [VRel,ho] at hx
  cases ob with
  | box cs=>obtain ⟨_,b,_,h⟩:=hx; exact ⟨_,h⟩
  | row own e ag ks l=>obtain ⟨_,b,off,len,cap,_,h⟩:=hx; exact ⟨_,h⟩
  | bld s=>obtain ⟨_,b,v,_,h⟩:=hx; exact ⟨_,h⟩
  | map vk es=>exact (hnm _ _ rfl).elim
  | iter _ _ _=>obtain ⟨r,y,_,h⟩:=hx; exact ⟨_,h⟩
theorem zhn (h:Rel B nt w0 X γ st a w) (o:Oper) {x:Operand} (ho:o.op = .nilCheck x) {v:V} {us:List Upd}
    (he:(z0r E st.o (opd st) o.dst o.op).get=some (v,us)):OpWp P B nt w0 X a w o st v us:=by
  have hx:=z0d h x
  rw [ho] at he
  simp only [z0r] at he
  split at he
  · rename_i n i c hop
    split at he
    · simp [T.get] at he
    · rename_i ob hnm hob
      simp only [T.get,Option.some.injEq,Prod.mk.injEq] at he
      obtain ⟨rfl,rfl⟩:=he
      rw [hop] at hx
      obtain ⟨ad,hp⟩:=zin h hx hob hnm
      exact OpWp.pure h (by unfold execOp; simp only [ho,hp,Sem.run_pure]) hx
    · simp [T.get] at he
  · simp [T.get] at he
theorem z5u {fs:List (Nat × Nat)}:∀ {i:Nat} {off sz:Nat},z1o E fs i=some (off,sz)→∃ t,fs[i]?=some (off,t)∧sz=(E.tyd t).size∧0 < (E.tyd t).size:=by
  induction fs with
  | nil=>intro i off sz h; simp [z1o] at h
  | cons p r ih=>
    obtain ⟨o1,t1⟩:=p
    intro i off sz h
    cases i with
    | zero=>
      simp only [z1o] at h
      cases hb:Nat.blt 0 (E.tyd t1).size <;> simp only [hb] at h
      · cases h
      · simp only [Option.some.injEq,Prod.mk.injEq] at h
        exact ⟨t1,by simp [h.1],h.2.symm,Nat.le_of_ble_eq_true hb⟩
    | succ i=>
      simp only [z1o] at h
      obtain ⟨t,h1,h2⟩:=ih h
      exact ⟨t,by simpa using h1,h2⟩
theorem zhd (hT:TiOK P B E) {s f:Nat} {fs:List (Nat × Nat)} (hd:(E.tyd s).d = .struct fs) {off sz:Nat} (hp:z1o E fs f=some (off,sz)) (b c:Nat) :
    (Instr.fieldAt s (.pointer (some ⟨b,c,none⟩)) f).run P w = .ok (.pointer (some ⟨b,c+off,none⟩)) w:=by
  obtain ⟨d,hd1,_,hd2⟩:=(hT.desc (t:=s) (by rw [hd]; simp)).und
  rw [hd] at hd2
  obtain ⟨fields,rfl,rfl,_⟩:=hd2
  obtain ⟨t,h1,h2,h3⟩:=z5u hp
  rw [List.getElem?_map,Option.map_eq_some_iff] at h1
  obtain ⟨fd,hfd,h4⟩:=h1
  simp only [Prod.mk.injEq] at h4
  obtain ⟨rfl,rfl⟩:=h4
  have hfd':fields[f]?=some fd:=by simpa using hfd
  have hsz:=z1q (hT.size h3) w
  have h0:(E.tyd fd.type).size≠0:=by omega
  simp [Instr.fieldAt,run_underlying hd1,hfd',Instr.sureAddr,fieldPlace,hsz,h0,Addr.add_mid]
theorem zg9 (hT:TiOK P B E) (h:Rel B nt w0 X γ st a w) (o:Oper) {s f:Nat} {x:Operand} (ho:o.op = .fieldAddr s x f) {v:V} {us:List Upd}
    (he:(z0r E st.o (opd st) o.dst o.op).get=some (v,us)):OpWp P B nt w0 X a w o st v us:=by
  have hx:=z0d h x
  rw [ho] at he
  simp only [z0r] at he
  split at he
  · rename_i fs hd
    split at he
    · rename_i off sz hp
      have hrun:∀ b c,a.eval x = .pointer (some ⟨b,c,none⟩)→(execOp a.eval o).run P w = .ok (.value (.pointer (some ⟨b,c+off,none⟩))) w:=fun b c e=>by
        unfold execOp
        simp only [ho,Sem.run_bind,e,zhd hT hd hp b c,Result.andThen_ok,Sem.run_pure]
      split at he
      · rename_i n i c hop
        rw [hop] at hx
        split at he
        · rename_i cs hob
          simp only [T.get,Option.some.injEq,Prod.mk.injEq] at he
          obtain ⟨rfl,rfl⟩:=he
          simp only [VRel,hob] at hx
          obtain ⟨hi,b,hg,hx⟩:=hx
          refine OpWp.pure h (hrun b c hx) ?_
          simp only [VRel,hob]
          exact ⟨hi,b,hg,rfl⟩
        · rename_i own e ag ks l hob
          simp only [T.get,Option.some.injEq,Prod.mk.injEq] at he
          obtain ⟨rfl,rfl⟩:=he
          simp only [VRel,hob] at hx
          obtain ⟨hi,b,off',len,cap,hg,hx⟩:=hx
          refine OpWp.pure h (hrun b _ hx) ?_
          simp only [VRel,hob]
          exact ⟨hi,b,off',len,cap,hg,by rw [Nat.add_assoc _ c off]⟩
        · simp [T.get] at he
      · rename_i ks g c hop
        rw [hop] at hx
        simp only [T.get,Option.some.injEq,Prod.mk.injEq] at he
        obtain ⟨rfl,rfl⟩:=he
        simp only [VRel] at hx
        obtain ⟨b,off',hx,h1,h2,h3⟩:=hx
        refine OpWp.pure h (hrun b _ hx) ?_
        simp only [VRel]
        exact ⟨b,off',by rw [Nat.add_assoc],h1,h2,h3⟩
      · simp [T.get] at he
    · simp [T.get] at he
  · simp [T.get] at he
theorem zmj (hT:TiOK P B E) (h:Rel B nt w0 X γ st a w) (o:Oper) {t f:Nat} {x:Operand} (ho:o.op = .field t x f) {v:V} {us:List Upd}
    (he:(z0r E st.o (opd st) o.dst o.op).get=some (v,us)):OpWp P B nt w0 X a w o st v us:=by
  have hx:=z0d h x
  rw [ho] at he
  simp only [z0r] at he
  split at he
  · rename_i fs cs hd hop
    split at he
    · rename_i off ft hf
      split at he
      · rename_i hb
        obtain ⟨rfl,hv⟩:=T.get_of he
        rw [hop] at hx
        simp only [VRel] at hx
        obtain ⟨xs,hx,hr⟩:=hx
        obtain ⟨y,hy,hr'⟩:=zil (hT.size (Nat.le_of_ble_eq_true hb)) hv hr
        obtain ⟨d,hd1,_,hd2⟩:=(hT.desc (t:=t) (by rw [hd]; simp)).und
        rw [hd] at hd2
        obtain ⟨fields,rfl,rfl,_⟩:=hd2
        rw [List.getElem?_map,Option.map_eq_some_iff] at hf
        obtain ⟨fd,hfd,h4⟩:=hf
        simp only [Prod.mk.injEq] at h4
        obtain ⟨rfl,rfl⟩:=h4
        have hfd':fields[f]?=some fd:=by simpa using hfd
        refine OpWp.pure h ?_ hr'
        unfold execOp
        simp [ho,hx,Instr.field,run_underlying hd1,hfd',asAgg,hy]
      · simp [T.get] at he
    · simp [T.get] at he
  · simp [T.get] at he
theorem zjq (h:Rel B nt w0 X γ st a w) (o:Oper) {i:Nat} {x:Operand} (ho:o.op = .extract x i) {v:V} {us:List Upd}
    (he:(z0r E st.o (opd st) o.dst o.op).get=some (v,us)):OpWp P B nt w0 X a w o st v us:=by
  have hx:=z0d h x
  rw [ho] at he
  simp only [z0r] at he
  split at he
  · rename_i vs hop
    rw [hop] at hx
    simp only [VRel] at hx
    obtain ⟨xs,hx,hr⟩:=hx
    split at he
    · rename_i v' hv
      simp only [T.get,Option.some.injEq,Prod.mk.injEq] at he
      obtain ⟨rfl,rfl⟩:=he
      obtain ⟨y,hy,hr'⟩:=hr.get hv
      have hy':xs[i]?=some y:=by simpa using hy
      exact OpWp.pure h (by unfold execOp; simp [ho,hx,Instr.extract,hy']) hr'
    · simp [T.get] at he
  · simp [T.get] at he
end
open Go Go.RowKit
section
variable {B:BT} {nt:Nat} {w0:World} {X:Zone} {γ:Nat→Value} {st:St} {a:Act} {w:World} {P:Program} {E:Env}
theorem z5e (hT:TiOK P B E) {t e:Nat} (hd:(E.tyd t).d = .slice e) (hs:0 < (E.tyd e).size) {k:IntKind} {i:Int} {b o len cap:Nat} (h0:0≤i) (h1:i < len) :
    (Instr.indexAt t (.slice (some ⟨b,o,none⟩) len cap) (.int k i)).run P w = .ok (.pointer (some ⟨b,o+i.toNat*(E.tyd e).size,none⟩)) w:=by
  obtain ⟨d,hd1,_,hd2⟩:=(hT.desc (t:=t) (by rw [hd]; simp)).und
  rw [hd] at hd2
  subst hd2
  have hz:=z1q (hT.size hs) w
  simp [Instr.indexAt,asIntOf,run_underlying hd1,h0,h1,hz,Addr.add_mid]
theorem z5d (hT:TiOK P B E) {t e N:Nat} (hd:(E.tyd t).d = .array N e) (hs:0 < (E.tyd e).size) {k:IntKind} {i:Nat} {b o:Nat} (h1:i < N) :
    (Instr.indexAt t (.pointer (some ⟨b,o,none⟩)) (.int k (i:Int))).run P w = .ok (.pointer (some ⟨b,o+i*(E.tyd e).size,none⟩)) w:=by
  obtain ⟨d,hd1,_,hd2⟩:=(hT.desc (t:=t) (by rw [hd]; simp)).und
  rw [hd] at hd2
  subst hd2
  have hz:=z1q (hT.size hs) w
  simp [Instr.indexAt,asIntOf,run_underlying hd1,Instr.sureAddr,h1,hz,Addr.add_mid]
theorem z24 {e n:Nat} (h:zk2 E e n=true):n=(E.tyd e).size∧0 < (E.tyd e).size:=by
  simp only [zk2,Bool.and_eq_true] at h
  have h1:=z0f.1 h.1
  have h2:=Nat.le_of_ble_eq_true h.2
  exact ⟨h1,by omega⟩
theorem zga (hT:TiOK P B E) (h:Rel B nt w0 X γ st a w) (o:Oper) {t:Nat} {x ix:Operand} (ho:o.op = .indexAddr t x ix) {v:V} {us:List Upd}
    (he:(z0r E st.o (opd st) o.dst o.op).get=some (v,us)):OpWp P B nt w0 X a w o st v us:=by
  have hx:=z0d h x
  have hix:=z0d h ix
  rw [ho] at he
  simp only [z0r] at he
  have hrun:∀ y,(Instr.indexAt t (a.eval x) (a.eval ix)).run P w = .ok y w→(execOp a.eval o).run P w = .ok (.value y) w:=fun y hy=>by
    unfold execOp
    simp only [ho,Sem.run_bind,hy,Result.andThen_ok,Sem.run_pure]
  split at he
  · rename_i e k i hd hi
    rw [hi] at hix
    simp only [VRel] at hix
    rw [hix.1] at hrun
    split at he
    · rename_i ag ks l hop
      rw [hop] at hx
      split at he
      · rename_i hks
        obtain ⟨hks',hpos⟩:=z24 hks
        obtain ⟨hc,he⟩:=T.get_when he
        simp only [T.get,Option.some.injEq,Prod.mk.injEq] at he
        obtain ⟨rfl,rfl⟩:=he
        simp only [Bool.and_eq_true,decide_eq_true_eq] at hc
        simp only [VRel,Kd.Rel,IV.toList] at hx
        obtain ⟨p,c,hv,_,_,_,hr⟩:=hx
        have hlt:i.toNat < l.length:=by omega
        have hy:l[i.toNat]?=some (l.getD i.toNat default):=by simp [List.getD,List.getElem?_eq_getElem hlt]
        obtain ⟨b,off,hp,hO,hs,hr'⟩:=hr _ _ hy
        subst hp
        rw [hv] at hrun
        refine OpWp.pure h (hrun _ (z5e hT hd hpos hc.1 hc.2)) ?_
        simp only [VRel]
        refine ⟨b,off+i.toNat*ks.length,by rw [← hks']; rfl,hO,hs,hr'⟩
      · simp [T.get] at he
    · rename_i n lo hi' hop
      rw [hop] at hx
      split at he
      · rename_i own e' ag ks l hob
        split at he
        · rename_i hks
          obtain ⟨hks',hpos⟩:=z24 hks
          obtain ⟨hc,he⟩:=T.get_when he
          simp only [T.get,Option.some.injEq,Prod.mk.injEq] at he
          obtain ⟨rfl,rfl⟩:=he
          simp only [Bool.and_eq_true,decide_eq_true_eq] at hc
          simp only [VRel,hob] at hx
          obtain ⟨hlen,p,len,cap,p',hg,hv,h1,h2,h3,_,h4,_⟩:=hx
          have hlt:lo+i.toNat < l.length:=by omega
          have hcap:cap≠lo:=by omega
          have hp':=h4.resolve_right hcap
          obtain ⟨b,off,rfl⟩:∃ b off,p=some ⟨b,off,none⟩:=by
            have hor:=h.ob n _ hob
            have hy:l[lo+i.toNat]?=some (l.getD (lo+i.toNat) default):=by simp [List.getD,List.getElem?_eq_getElem hlt]
            cases own with
            | true=>
              simp only [ObRel] at hor
              obtain ⟨_,_,xs,hx,_⟩:=hor
              rcases hx.2 with ⟨h5,h6⟩ | ⟨g,cap',cur,T,fr,h5,_⟩
              · rw [hg] at h5; simp only [Value.slice.injEq] at h5; omega
              · rw [hg] at h5; simp only [Value.slice.injEq] at h5; exact ⟨_,_,h5.1⟩
            | false=>
              simp only [ObRel,Kd.Rel,IV.toList] at hor
              obtain ⟨_,p2,c2,h5,_,_,_,hr⟩:=hor
              obtain ⟨b,off,hp2,_⟩:=hr _ _ hy
              rw [hg] at h5
              simp only [Value.slice.injEq] at h5
              exact ⟨b,off,by rw [h5.1,hp2]⟩
          subst hp'
          rw [hv] at hrun
          simp only [Option.map_some,Addr.add_mid] at hrun
          refine OpWp.pure h (hrun _ (z5e hT hd hpos hc.1 (by have:=hc.2; omega))) ?_
          simp only [VRel,hob]
          refine ⟨hlt,b,off,len,cap,hg,?_⟩
          rw [hks',Nat.add_mul]
          congr 3
          omega
        · simp [T.get] at he
      · simp [T.get] at he
    · rename_i n c cap sz len hop
      rw [hop] at hx
      split at he
      · rename_i cs hks hob
        obtain ⟨hks',hpos⟩:=z24 hks
        obtain ⟨hc,he⟩:=T.get_when he
        obtain ⟨m,_,hm,hi2,he2⟩:=z4i he
        subst hi2
        simp only [T.get,Option.some.injEq,Prod.mk.injEq] at he2
        obtain ⟨rfl,rfl⟩:=he2
        simp only [decide_eq_true_eq] at hc
        simp only [VRel,hob] at hx
        obtain ⟨hl,_,hcs,b,hg,hv⟩:=hx
        rw [hv] at hrun
        refine OpWp.pure h (hrun _ (z5e hT hd hpos (by omega) hc)) ?_
        simp only [VRel,hob]
        exact ⟨trivial,b,hg,by rw [hks']; simp⟩
      · simp [T.get] at he
    · simp [T.get] at he
  · rename_i N e k i hd hi
    rw [hi] at hix
    simp only [VRel] at hix
    rw [hix.1] at hrun
    split at he
    · rename_i n i0 c hop
      rw [hop] at hx
      split at he
      · rename_i cs hob
        obtain ⟨hsz,he⟩:=T.get_when he
        obtain ⟨_,hpos⟩:=z24 hsz
        obtain ⟨m,_,hm,hi2,he2⟩:=z4i he
        subst hi2
        simp only [T.get,Option.some.injEq,Prod.mk.injEq] at he2
        obtain ⟨rfl,rfl⟩:=he2
        simp only [VRel,hob] at hx
        obtain ⟨hi0,b,hg,hv⟩:=hx
        rw [hv] at hrun
        refine OpWp.pure h (hrun _ (z5d hT hd hpos (by omega))) ?_
        simp only [VRel,hob]
        exact ⟨hi0,b,hg,rfl⟩
      · rename_i own e' ag ks l hob
        obtain ⟨hsz,he⟩:=T.get_when he
        obtain ⟨_,hpos⟩:=z24 hsz
        obtain ⟨m,_,hm,hi2,he2⟩:=z4i he
        subst hi2
        simp only [T.get,Option.some.injEq,Prod.mk.injEq] at he2
        obtain ⟨rfl,rfl⟩:=he2
        simp only [VRel,hob] at hx
        obtain ⟨hi0,b,off,len,cap,hg,hv⟩:=hx
        rw [hv] at hrun
        refine OpWp.pure h (hrun _ (z5d hT hd hpos (by omega))) ?_
        simp only [VRel,hob]
        exact ⟨hi0,b,off,len,cap,hg,by rw [Nat.add_assoc _ c]⟩
      · simp [T.get] at he
    · rename_i ks f c hop
      rw [hop] at hx
      obtain ⟨hsz,he⟩:=T.get_when he
      obtain ⟨_,hpos⟩:=z24 hsz
      obtain ⟨m,_,hm,hi2,he2⟩:=z4i he
      subst hi2
      simp only [T.get,Option.some.injEq,Prod.mk.injEq] at he2
      obtain ⟨rfl,rfl⟩:=he2
      simp only [VRel] at hx
      obtain ⟨b,off,hv,h1,h2,h3⟩:=hx
      rw [hv] at hrun
      refine OpWp.pure h (hrun _ (z5d hT hd hpos (by omega))) ?_
      simp only [VRel]
      exact ⟨b,off,by rw [Nat.add_assoc _ c],h1,h2,h3⟩
    · simp [T.get] at he
  · simp [T.get] at he
theorem zbq (h:Rel B nt w0 X γ st a w) (lo:Option Operand):(lo.map (opd st)=none∧lo.map a.eval=none)∨∃ v x,lo.map (opd st)=some v∧lo.map a.eval=some x∧VRel γ st.o w (z02 X γ st.o) v x:=by
  cases lo with
  | none=>exact .inl ⟨rfl,rfl⟩
  | some y=>exact .inr ⟨_,_,rfl,rfl,z0d h y⟩
theorem ze5 {O:Nat→Prop} {o:Store} {n cap:Nat} (hn:n≤cap) (s:Bool) {lo hi:Option V} {lo' hi':Option Value}
    (hlo:(lo=none∧lo'=none)∨∃ v x,lo=some v∧lo'=some x∧VRel γ o w O v x)
    (hhi:(hi=none∧hi'=none)∨∃ v x,hi=some v∧hi'=some x∧VRel γ o w O v x) {k:Nat→Nat→T} {r:V × List Upd}
    (h:(zo5 n lo hi k).get=some r):∃ i j,i≤j∧j≤n∧(lo=none→i=0)∧(k i j).get=some r∧(Instr.sliceBounds s n cap lo' hi' none).run P w = .ok (i,j,cap) w:=by
  have hb:∀ {kk:IntKind} {z:Int} {y:Nat} {code:BoundsCode},0≤z→z≤y→(Instr.sliceBound (.int kk z) y code).run P w = .ok z.toNat w:=fun h1 h2=>by
    simp [Instr.sliceBound,asIntOf,h1,h2]
  unfold zo5 at h
  split at h
  · have h1:=hlo.resolve_right (by rintro ⟨v,x,h,_⟩; cases h)
    have h2:=hhi.resolve_right (by rintro ⟨v,x,h,_⟩; cases h)
    refine ⟨0,n,Nat.zero_le _,Nat.le_refl _,fun _=>rfl,h,?_⟩
    simp [h1.2,h2.2,Instr.sliceBounds]
  · rename_i kk i
    have h2:=hhi.resolve_right (by rintro ⟨v,x,h,_⟩; cases h)
    obtain ⟨v,x,h3,h4,h5⟩:=hlo.resolve_left (by rintro ⟨h,_⟩; cases h)
    simp only [Option.some.injEq] at h3
    subst h3
    simp only [VRel] at h5
    obtain ⟨hc,h⟩:=T.get_when h
    simp only [Bool.and_eq_true,decide_eq_true_eq] at hc
    refine ⟨i.toNat,n,by omega,Nat.le_refl _,(by simp),h,?_⟩
    simp [h4,h5.1,h2.2,Instr.sliceBounds,hb hc.1 hc.2]
  · rename_i kk j
    have h2:=hlo.resolve_right (by rintro ⟨v,x,h,_⟩; cases h)
    obtain ⟨v,x,h3,h4,h5⟩:=hhi.resolve_left (by rintro ⟨h,_⟩; cases h)
    simp only [Option.some.injEq] at h3
    subst h3
    simp only [VRel] at h5
    obtain ⟨hc,h⟩:=T.get_when h
    simp only [Bool.and_eq_true,decide_eq_true_eq] at hc
    refine ⟨0,j.toNat,Nat.zero_le _,by omega,fun _=>rfl,h,?_⟩
    have hle:j≤(cap:Int):=by omega
    simp [h4,h5.1,h2.2,Instr.sliceBounds,hb hc.1 hle]
  · rename_i kk i kk' j
    obtain ⟨v,x,h3,h4,h5⟩:=hhi.resolve_left (by rintro ⟨h,_⟩; cases h)
    obtain ⟨v',x',h3',h4',h5'⟩:=hlo.resolve_left (by rintro ⟨h,_⟩; cases h)
    simp only [Option.some.injEq] at h3 h3'
    subst h3
    subst h3'
    simp only [VRel] at h5 h5'
    obtain ⟨hc,h⟩:=T.get_when h
    simp only [Bool.and_eq_true,decide_eq_true_eq] at hc
    refine ⟨i.toNat,j.toNat,by omega,by omega,(by simp),h,?_⟩
    have hle:j≤(cap:Int):=by omega
    have hle2:i≤((j.toNat:Nat):Int):=by omega
    have h0:0≤j:=by omega
    simp [h4,h5.1,h4',h5'.1,Instr.sliceBounds,hb h0 hle,hb hc.1 hle2]
  · simp [T.get] at h
theorem zmm (hT:TiOK P B E) (h:Rel B nt w0 X γ st a w) (o:Oper) {t:Nat} {x:Operand} {lo hi mx:Option Operand} (ho:o.op = .slice t x lo hi mx) {v:V} {us:List Upd}
    (he:(z0r E st.o (opd st) o.dst o.op).get=some (v,us)):OpWp P B nt w0 X a w o st v us:=by
  have hx:=z0d h x
  rw [ho] at he
  simp only [z0r] at he
  have hrun:∀ y,(Instr.sliceAt t (a.eval x) (lo.map a.eval) (hi.map a.eval) (mx.map a.eval)).run P w = .ok y w→(execOp a.eval o).run P w = .ok (.value y) w:=fun y hy=>by
    unfold execOp
    simp only [ho,Sem.run_bind,hy,Result.andThen_ok,Sem.run_pure]
  split at he
  · rename_i s hop
    rw [hop] at hx
    simp only [VRel] at hx
    split at he
    · rename_i hd hks
      obtain ⟨i,j,hij,hj,_,he,hb⟩:=ze5 (P:=P) (w:=w) (Nat.le_refl s.size) false (zbq h lo) (zbq h hi) he
      simp only [T.get,Option.some.injEq,Prod.mk.injEq] at he
      obtain ⟨rfl,rfl⟩:=he
      obtain ⟨d,hd1,_,hd2⟩:=(hT.kinds (t:=t) (by rw [hks]; simp)).und
      rw [hd] at hd2
      obtain rfl:=hd2.2.1 hks
      refine OpWp.pure h (hrun (.string (s.extract i j)) ?_) ?_
      · simp [Instr.sliceAt,run_underlying hd1,hx.1,Instr.slice,hb]
      · simp only [VRel]
        refine ⟨trivial,?_⟩
        rw [ByteArray.size_extract]
        have:=hx.2
        omega
    · simp [T.get] at he
  · rename_i ag ks l hop
    rw [hop] at hx
    split at he
    · rename_i e hd
      obtain ⟨hsz,he⟩:=T.get_when he
      obtain ⟨hks,hpos⟩:=z24 hsz
      simp only [VRel,Kd.Rel,IV.toList] at hx
      obtain ⟨p,c,hv,hc,hm,hl,hr⟩:=hx
      obtain ⟨i,j,hij,hj,_,he,hb⟩:=ze5 (P:=P) (w:=w) hc true (zbq h lo) (zbq h hi) he
      simp only [T.get,Option.some.injEq,Prod.mk.injEq] at he
      obtain ⟨rfl,rfl⟩:=he
      obtain ⟨d,hd1,_,hd2⟩:=(hT.desc (t:=t) (by rw [hd]; simp)).und
      rw [hd] at hd2
      subst hd2
      have hz:=z1q (hT.size hpos) w
      have hlen:((l.take j).drop i).length=j - i:=by rw [List.length_drop,List.length_take]; omega
      refine OpWp.pure h (hrun (.slice (if c=i then p else p.map (·.add (i*(E.tyd e).size))) (j - i) (c - i)) ?_) ?_
      · simp [Instr.sliceAt,run_underlying hd1,hv,Instr.slice,hb,hz]
      · simp only [VRel,Kd.Rel,IV.toList]
        refine ⟨_,c - i,by rw [hlen],by omega,by omega,by omega,fun m y hy=>?_⟩
        rw [List.getElem?_drop,List.getElem?_take] at hy
        split at hy
        · rename_i hlt
          obtain ⟨b,off,hp,hO,hs,hr'⟩:=hr (i+m) y hy
          subst hp
          rw [if_neg (by omega)]
          refine ⟨b,off+i*ks.length,by rw [hks]; simp [Addr.add_mid],hO,hs,?_⟩
          refine Kd.RelAll.mono (Keep.refl _ w) (fun _ _ h=>h) (fun q u hu=>?_) hr'
          rw [← hu]
          congr 2
          rw [Nat.add_mul]
          omega
        · cases hy
    · simp [T.get] at he
  · rename_i n a1 b1 hop
    rw [hop] at hx
    split at he
    · rename_i e own e' ag ks l hd hob
      obtain ⟨hsz,he⟩:=T.get_when he
      obtain ⟨hks,hpos⟩:=z24 hsz
      simp only [VRel,hob] at hx
      obtain ⟨hlen,p,len,cap,p',hg,hv,h1,h2,h3,hmx,h4,h5⟩:=hx
      obtain ⟨i,j,hij,hj,_,he,hb⟩:=ze5 (P:=P) (w:=w) (n:=b1 - a1) (cap:=cap - a1) (by omega) true (zbq h lo) (zbq h hi) he
      simp only [T.get,Option.some.injEq,Prod.mk.injEq] at he
      obtain ⟨rfl,rfl⟩:=he
      obtain ⟨d,hd1,_,hd2⟩:=(hT.desc (t:=t) (by rw [hd]; simp)).und
      rw [hd] at hd2
      subst hd2
      have hz:=z1q (hT.size hpos) w
      refine OpWp.pure h (hrun (.slice (if cap - a1=i then p' else p'.map (·.add (i*(E.tyd e).size))) (j - i) (cap - a1 - i)) ?_) ?_
      · simp [Instr.sliceAt,run_underlying hd1,hv,Instr.slice,hb,hz]
      · simp only [VRel,hob]
        refine ⟨by omega,p,len,cap,_,hg,by rw [show a1+j - (a1+i)=j - i by omega,show cap - (a1+i)=cap - a1 - i by omega],by omega,by omega,h3,hmx,?_,?_⟩
        · by_cases hc:cap - a1=i
          · right; omega
          · left
            rw [if_neg hc,h4.resolve_right (by omega),hks]
            by_cases hln:l=[]
            · subst hln
              simp only [List.length_nil] at hlen
              obtain rfl:a1=0:=by omega
              obtain rfl:i=0:=by omega
              cases p <;> simp [Addr.add]
            cases hp:p with
            | none=>rfl
            | some ad=>
              have hspot:ad.spot=none:=by
                have hor:=h.ob n _ hob
                cases own with
                | true=>
                  simp only [ObRel] at hor
                  obtain ⟨_,_,xs,hx,_⟩:=hor
                  rcases hx.2 with ⟨h5,h6⟩ | ⟨g,cap',cur,T,fr,h5,_⟩
                  · rw [hg,hp] at h5; simp at h5
                  · rw [hg,hp] at h5; simp only [Value.slice.injEq,Option.some.injEq] at h5; rw [h5.1]
                | false=>
                  simp only [ObRel,Kd.Rel,IV.toList] at hor
                  obtain ⟨_,p2,c2,h5,_,_,_,hr⟩:=hor
                  obtain ⟨y,ys,rfl⟩:=List.exists_cons_of_ne_nil hln
                  obtain ⟨b,off,hp2,_⟩:=hr 0 y rfl
                  rw [hg,hp,hp2] at h5
                  simp only [Value.slice.injEq,Option.some.injEq] at h5
                  rw [h5.1]
              obtain ⟨b,off,spot⟩:=ad
              simp only at hspot
              subst hspot
              simp only [Option.map_some,Addr.add_mid,Nat.add_mul,Nat.add_assoc]
        · intro h0
          have ha:a1=0:=by omega
          have hi0:i=0:=by omega
          subst ha
          subst hi0
          rw [h5 rfl]
          cases p <;> simp [Addr.add]
    · simp [T.get] at he
  · rename_i n i0 c hop
    rw [hop] at hx
    split at he
    · rename_i N e cs hd hob
      obtain ⟨hsz,he⟩:=T.get_when he
      simp only [Bool.and_eq_true] at hsz
      obtain ⟨_,hpos⟩:=z24 hsz.1
      have hle:=Nat.le_of_ble_eq_true hsz.2.1
      have hN:=Nat.le_of_ble_eq_true hsz.2.2
      simp only [VRel,hob] at hx
      obtain ⟨hi0,b,hg,hv⟩:=hx
      obtain ⟨i,j,hij,hj,h0,he,hb⟩:=ze5 (P:=P) (w:=w) (Nat.le_refl N) false (lo:=none) (lo':=none) (.inl ⟨rfl,rfl⟩) (zbq h hi) he
      obtain rfl:=h0 rfl
      simp only [T.get,Option.some.injEq,Prod.mk.injEq] at he
      obtain ⟨rfl,rfl⟩:=he
      obtain ⟨d,hd1,_,hd2⟩:=(hT.desc (t:=t) (by rw [hd]; simp)).und
      rw [hd] at hd2
      subst hd2
      have hz:=z1q (hT.size hpos) w
      refine OpWp.pure h (hrun (.slice (some ⟨b,c,none⟩) j N) ?_) ?_
      · simp [Instr.sliceAt,run_underlying hd1,hv,Instr.sureAddr,hb,hz,Addr.add]
      · simp only [VRel,hob]
        exact ⟨hj,by unfold maxLen; omega,hle,b,hg,rfl⟩
    · simp [T.get] at he
  · simp [T.get] at he
end
open Go Go.RowKit
section
variable {B:BT} {nt:Nat} {w0:World} {X:Zone} {γ:Nat→Value} {st:St} {a:Act} {w:World} {P:Program} {E:Env}
theorem zmk (hT:TiOK P B E) (h:Rel B nt w0 X γ st a w) (o:Oper) {t:Nat} {x ix:Operand} (ho:o.op = .index t x ix) {v:V} {us:List Upd}
    (he:(z0r E st.o (opd st) o.dst o.op).get=some (v,us)):OpWp P B nt w0 X a w o st v us:=by
  have hx:=z0d h x
  have hix:=z0d h ix
  rw [ho] at he
  simp only [z0r] at he
  have hrun:∀ y,(Instr.index t (a.eval x) (a.eval ix)).run P w = .ok y w→(execOp a.eval o).run P w = .ok (.value y) w:=fun y hy=>by
    unfold execOp
    simp only [ho,Sem.run_bind,hy,Result.andThen_ok,Sem.run_pure]
  split at he
  · rename_i s k i hop hi
    rw [hop] at hx
    rw [hi] at hix
    simp only [VRel] at hx hix
    rw [hx.1,hix.1] at hrun
    split at he
    · rename_i hd hks
      obtain ⟨hc,he⟩:=T.get_when he
      simp only [T.get,Option.some.injEq,Prod.mk.injEq] at he
      obtain ⟨rfl,rfl⟩:=he
      simp only [Bool.and_eq_true,decide_eq_true_eq] at hc
      obtain ⟨d,hd1,_,hd2⟩:=(hT.kinds (t:=t) (by rw [hks]; simp)).und
      rw [hd] at hd2
      obtain rfl:=hd2.2.1 hks
      have hlt:i.toNat < s.size:=by omega
      have h1:s[i.toNat]?=some s[i.toNat]:=getElem?_pos s i.toNat hlt
      have h2:s.data.toList.getD i.toNat 0=s[i.toNat]:=by
        have hlt':i.toNat < s.data.size:=hlt
        have:s[i.toNat]=s.data[i.toNat]:=rfl
        simp [List.getD,this,getElem?_pos s.data i.toNat hlt']
      refine OpWp.pure h (hrun (.int .u8 (s[i.toNat].toNat:Int)) ?_) ?_
      · simp [Instr.index,asIntOf,run_underlying hd1,hc.1,h1]
      · simp only [VRel,h2]
        refine ⟨trivial,?_⟩
        have:=s[i.toNat].toNat_lt
        simp [IntKind.min,IntKind.max,IntKind.signed,IntKind.bits]
        omega
    · simp [T.get] at he
  · rename_i cs k i hop hi
    rw [hop] at hx
    rw [hi] at hix
    simp only [VRel] at hx hix
    obtain ⟨xs,hx,hr⟩:=hx
    rw [hx,hix.1] at hrun
    split at he
    · rename_i N e hd
      obtain ⟨hsz,he⟩:=T.get_when he
      obtain ⟨_,hpos⟩:=z24 hsz
      obtain ⟨m,_,hm,hi2,he2⟩:=z4i he
      subst hi2
      obtain ⟨rfl,hv⟩:=T.get_of he2
      obtain ⟨y,hy,hr'⟩:=zil (hT.size hpos) hv hr
      obtain ⟨d,hd1,_,hd2⟩:=(hT.desc (t:=t) (by rw [hd]; simp)).und
      rw [hd] at hd2
      subst hd2
      have hz:=z1q (hT.size hpos) w
      have hm':m < N:=by omega
      exact OpWp.pure h (hrun y (by simp [Instr.index,asIntOf,run_underlying hd1,hm',hz,hy])) hr'
    · simp [T.get] at he
  · simp [T.get] at he
theorem zhl (h:Rel B nt w0 X γ st a w) (o:Oper) {f:Fn} {first captured:Array Operand} (ho:o.op = .makeFunc f first captured) {v:V} {us:List Upd}
    (he:(z0r E st.o (opd st) o.dst o.op).get=some (v,us)):OpWp P B nt w0 X a w o st v us:=by
  rw [ho] at he
  cases f with
  | func f=>
    simp only [z0r] at he
    split at he
    · rename_i hf
      simp only [T.get,Option.some.injEq,Prod.mk.injEq] at he
      obtain ⟨rfl,rfl⟩:=he
      have hf':first = #[]:=by simpa using hf
      subst hf'
      refine OpWp.pure h (x:=.func (.func f) #[] (captured.map a.eval)) (by unfold execOp; simp [ho,Instr.makeFunc]) ?_
      simp only [VRel]
      refine ⟨_,rfl,?_⟩
      rw [Array.toList_map]
      have key:∀ l:List Operand,VRels γ st.o w (z02 X γ st.o) (zdd (opd st) l) (l.map a.eval):=by
        intro l
        induction l with
        | nil=>simp only [zdd,List.map_nil,VRels]
        | cons y r ih=>simp only [zdd,List.map_cons,VRels]; exact ⟨z0d h y,ih⟩
      exact key _
    · simp [T.get] at he
  | method _=>simp [z0r,T.get] at he
  | methodOf _ _=>simp [z0r,T.get] at he
  | via _ _ _ _=>simp [z0r,T.get] at he
  | yield _=>simp [z0r,T.get] at he
theorem zfp (h:Rel B nt w0 X γ st a w) {v:V} {x:Value} (hx:VRel γ st.o w (z02 X γ st.o) v x) {l:List IV} (hl:z5b st.o v=some l) {ag:Bool} {ks:List Kd} (hs:z4c st.o v=some (ag,ks)) :
    ∃ p c,x = .slice p l.length c∧l.length≤c∧l.length≤strMax∧(0 < l.length→∃ b o,p=some ⟨b,o,none⟩) ∧
      ∀ i y,l[i]?=some y→∃ b o,p=some ⟨b,o,none⟩∧b < w.heap.size∧Kd.RelAll w (z02 X γ st.o) ks (z13 ag y) 0 (fun j u=>w.cell? ⟨b,o+i*ks.length+j,none⟩=some u):=by
  unfold z5b at hl
  split at hl
  · rename_i ag' ks' l'
    simp only [z4c,Option.some.injEq,Prod.mk.injEq] at hs hl
    obtain ⟨rfl,rfl⟩:=hs
    subst hl
    simp only [VRel,Kd.Rel,IV.toList] at hx
    obtain ⟨p,c,hv,hc,hm,hl,hr⟩:=hx
    refine ⟨p,c,hv,hc,hl,fun hpos=>?_,fun i y hy=>?_⟩
    · obtain ⟨b,o,hp,_⟩:=hr 0 _ (List.getElem?_eq_getElem hpos)
      exact ⟨b,o,hp⟩
    · obtain ⟨b,o,hp,_,hs,hr'⟩:=hr i y hy
      exact ⟨b,o,hp,hs,hr'⟩
  · rename_i n lo hi
    split at hl
    · rename_i own e ag' ks' l' hob
      simp only [z4c,hob,Option.some.injEq,Prod.mk.injEq] at hs hl
      obtain ⟨rfl,rfl⟩:=hs
      subst hl
      simp only [VRel,hob] at hx
      obtain ⟨hlen,p,len,cap,p',hg,hv,h1,h2,h3,hmx,h4,h5⟩:=hx
      have hll:((l'.take hi).drop lo).length=hi - lo:=by rw [List.length_drop,List.length_take]; omega
      have hor:=h.ob n _ hob
      have hstr:l'.length≤strMax:=by
        cases own with
        | true=>simp only [ObRel] at hor; exact hor.2.1
        | false=>simp only [ObRel,Kd.Rel,IV.toList] at hor; obtain ⟨_,_,_,_,_,_,hl,_⟩:=hor; exact hl
      have hp0:hi - lo > 0→∃ b off,p=some ⟨b,off,none⟩:=by
        intro hpos
        cases own with
        | true=>
          simp only [ObRel] at hor
          obtain ⟨_,_,xs,hx,_⟩:=hor
          rcases hx.2 with ⟨h6,h7⟩ | ⟨g,cap',cur,T,fr,h6,_⟩
          · rw [hg] at h6; simp only [Value.slice.injEq] at h6; omega
          · rw [hg] at h6; simp only [Value.slice.injEq] at h6; exact ⟨_,_,h6.1⟩
        | false=>
          simp only [ObRel,Kd.Rel,IV.toList] at hor
          obtain ⟨_,p2,c2,h6,_,_,_,hr⟩:=hor
          have hlt:0 < l'.length:=by omega
          obtain ⟨b,off,hp2,_⟩:=hr 0 _ (List.getElem?_eq_getElem hlt)
          rw [hg] at h6
          simp only [Value.slice.injEq] at h6
          exact ⟨b,off,by rw [h6.1,hp2]⟩
      refine ⟨p',cap - lo,by rw [hll]; exact hv,by omega,by omega,fun hpos=>?_,fun i y hy=>?_⟩
      · rw [hll] at hpos
        obtain ⟨b,off,rfl⟩:=hp0 hpos
        rw [h4.resolve_right (by omega)]
        exact ⟨b,off+lo*ks'.length,by simp [Addr.add_mid]⟩
      · rw [List.getElem?_drop,List.getElem?_take] at hy
        split at hy
        · rename_i hlt
          obtain ⟨b,off,rfl⟩:=hp0 (by omega)
          obtain ⟨hb,hr⟩:=h.elem hob (i:=lo+i) (by omega) hg
          have hgd:l'.getD (lo+i) default=y:=by simp [List.getD,hy]
          rw [hgd] at hr
          refine ⟨b,off+lo*ks'.length,by rw [h4.resolve_right (by omega)]; simp [Addr.add_mid],hb,?_⟩
          refine Kd.RelAll.mono (Keep.refl _ w) (fun _ _ h=>h) (fun q u hu=>?_) hr
          rw [← hu]
          congr 2
          rw [Nat.add_mul]
          omega
        · cases hy
    · cases hl
  · simp only [z4c] at hs
    cases hs
  · cases hl
theorem zjp (hT:TiOK P B E) (h:Rel B nt w0 X γ st a w) (o:Oper) {s t:Nat} {x:Operand} (ho:o.op = .convert s t x) {v:V}
    (he:(z0r E st.o (opd st) o.dst o.op).get=some (v,[])):OpWp P B nt w0 X a w o st v []:=by
  have hx:=z0d h x
  rw [ho] at he
  simp only [z0r] at he
  have hrun:∀ y,(convert s t (a.eval x)).run P w = .ok y w→(execOp a.eval o).run P w = .ok (.value y) w:=fun y hy=>by
    unfold execOp
    simp only [ho,Sem.run_bind,hy,Result.andThen_ok,Sem.run_pure]
  split at he
  · rename_i k0 n hop
    rw [hop] at hx
    simp only [VRel] at hx
    rw [hx.1] at hrun
    split at he
    · rename_i k ks1 kss hd hks hkss
      simp only [T.get,Option.some.injEq,Prod.mk.injEq,and_true] at he
      subst he
      obtain ⟨d,hd1,_,hd2⟩:=(hT.kinds (t:=t) (by rw [hks]; simp)).und
      rw [hd] at hd2
      obtain rfl:=hd2.1 k hks
      obtain ⟨d',hd1',_,_⟩:=(hT.kinds (t:=s) (by rw [hkss]; simp)).und
      refine OpWp.pure h (hrun (.int k (k.wrap n)) ?_) ?_
      · simp [convert,run_underlying hd1,run_underlying hd1',Conv.intToInt]
      · simp only [VRel]
        exact ⟨trivial,z8y _ _⟩
    · simp [T.get] at he
  · rename_i b hop
    rw [hop] at hx
    simp only [VRel] at hx
    rw [hx.1] at hrun
    split at he
    · rename_i k1 kss hd hks hkss
      simp only [T.get,Option.some.injEq,Prod.mk.injEq,and_true] at he
      subst he
      obtain ⟨d,hd1,_,hd2⟩:=(hT.kinds (t:=t) (by rw [hks]; simp)).und
      rw [hd] at hd2
      obtain rfl:=hd2.2.1 hks
      obtain ⟨d',hd1',_,_⟩:=(hT.kinds (t:=s) (by rw [hkss]; simp)).und
      refine OpWp.pure h (hrun (.string b) ?_) ?_
      · simp [convert,run_underlying hd1,run_underlying hd1']
      · simp only [VRel]
        exact ⟨trivial,hx.2⟩
    · split at he
      · simp [T.get] at he
      · simp [T.get] at he
    · simp [T.get] at he
  · split at he
    · rename_i e hd hks hds
      split at he
      · rename_i l hde hkse hl hsh
        simp only [T.get,Option.some.injEq,Prod.mk.injEq,and_true] at he
        subst he
        obtain ⟨d,hd1,_,hd2⟩:=(hT.kinds (t:=t) (by rw [hks]; simp)).und
        rw [hd] at hd2
        obtain rfl:=hd2.2.1 hks
        obtain ⟨d',hd1',_,hd2'⟩:=(hT.desc (t:=s) (by rw [hds]; simp)).und
        rw [hds] at hd2'
        subst hd2'
        obtain ⟨d'',hd1'',_,hd2''⟩:=(hT.kinds (t:=e) (by rw [hkse]; simp)).und
        rw [hde] at hd2''
        obtain rfl:=hd2''.1 _ hkse
        obtain ⟨p,c,hv,hc,hlm,hp0,hr⟩:=zfp h hx hl hsh
        rw [hv] at hrun
        refine OpWp.pure h (hrun (.string (strOfNums (l.map IV.toInt))) ?_) ?_
        · cases hp:p with
          | none=>
            have hl0:l=[]:=by
              rcases Nat.eq_zero_or_pos l.length with h0 | h0
              · exact List.eq_nil_of_length_eq_zero h0
              · obtain ⟨b,off,h1⟩:=hp0 h0
                rw [hp] at h1
                cases h1
            subst hl0
            simp [convert,run_underlying hd1,run_underlying hd1',run_underlying hd1'',Conv.bytesToString,strOfNums]
            rfl
          | some ad=>
            have hload:(loadCells ad l.length).run P w = .ok ((l.map IV.toInt).map (Value.int .u8)).toArray w:=by
              have hll:((l.map IV.toInt).map (Value.int .u8)).length=l.length:=by simp
              rw [← hll]
              refine run_loadCells_list (P:=P) w ad _ (fun j u hu=>?_)
              simp only [List.getElem?_map,Option.map_eq_some_iff] at hu
              obtain ⟨n,⟨y,hy,rfl⟩,rfl⟩:=hu
              obtain ⟨b,off,h1,_,hr'⟩:=hr j y hy
              rw [hp] at h1
              simp only [Option.some.injEq] at h1
              subst h1
              simp only [Kd.RelAll,z13,List.length_cons,List.length_nil] at hr'
              obtain ⟨⟨u,hu,hk⟩,_⟩:=hr'
              simp only [Kd.Rel] at hk
              rw [Addr.add_mid,← hk.1,← hu]
              congr 2
              omega
            have:=run_bytesToString w ad l.length c (l.map IV.toInt) hload
            have he:(l.map IV.toInt).foldl (fun r n=>r.push (UInt8.ofNat n.toNat)) ByteArray.empty=strOfNums (l.map IV.toInt):=by
              rw [foldl_push_bytes]
              simp [strOfNums]
            rw [he] at this
            simp [convert,run_underlying hd1,run_underlying hd1',run_underlying hd1'',this]
        · simp only [VRel]
          exact ⟨trivial,by rw [strOfNums_size]; simpa using hlm⟩
      · simp [T.get] at he
    · simp [T.get] at he
end
open Go Go.RowKit
section
variable {B:BT} {nt:Nat} {w0:World} {X:Zone} {γ:Nat→Value} {st:St} {a:Act} {w:World} {P:Program} {E:Env}
theorem zdf (h:Rel B nt w0 X γ st a w) {v:V} {x:Value} (hv:VRel γ st.o w (z02 X γ st.o) v x) (hk:z3g st.o v=true):x.oneCell'=true∧x.cells = #[x]:=by
  have key:(x.oneCell'=true)→x.oneCell'=true∧x.cells = #[x]:=fun h1=>⟨h1,by cases x <;> first | rfl | (simp [Value.oneCell'] at h1)⟩
  cases v with
  | any=>simp [z3g] at hk
  | int k n=>simp only [VRel] at hv; exact key (by rw [hv.1]; rfl)
  | bool b=>simp only [VRel] at hv; exact key (by rw [hv]; rfl)
  | str s=>simp only [VRel] at hv; exact key (by rw [hv.1]; rfl)
  | list ag ks l=>simp only [VRel,Kd.Rel] at hv; obtain ⟨p,c,hv,_⟩:=hv; exact key (by rw [hv]; rfl)
  | zs=>simp only [VRel] at hv; exact key (by rw [hv]; rfl)
  | row n lo hi=>
    simp only [z3g] at hk
    split at hk
    · rename_i ob; simp only [VRel,ob] at hv; obtain ⟨_,p,len,cap,p',_,hv,_⟩:=hv; exact key (by rw [hv]; rfl)
    · cases hk
  | ptr n i c=>
    simp only [z3g] at hk
    split at hk
    · rename_i ob' ob
      by_cases hm:∃ k es,ob' = .map k es
      · obtain ⟨k,es,rfl⟩:=hm
        obtain ⟨_,b,ents,hg,_⟩:=h.ob _ _ ob
        simp only [VRel,ob] at hv
        exact key (by rw [hv,hg]; rfl)
      · obtain ⟨ad,hp⟩:=zin h hv ob (fun k es e=>hm ⟨k,es,e⟩)
        exact key (by rw [hp]; rfl)
    · cases hk
  | iptr ks f c=>simp only [VRel] at hv; obtain ⟨b,off,hv,_⟩:=hv; exact key (by rw [hv]; rfl)
  | bview n c cap sz len=>
    simp only [z3g] at hk
    split at hk
    · rename_i ob; simp only [VRel,ob] at hv; obtain ⟨_,_,_,b,_,hv⟩:=hv; exact key (by rw [hv]; rfl)
    · cases hk
  | agg l=>simp [z3g] at hk
  | tup l=>simp [z3g] at hk
  | err b=>
    simp only [VRel] at hv
    cases b with
    | true=>exact key (by rw [hv]; rfl)
    | false=>obtain ⟨t,u,hv⟩:=hv; exact key (by rw [hv]; rfl)
  | nilp=>simp only [VRel] at hv; exact key (by rw [hv]; rfl)
  | clo f l=>simp only [VRel] at hv; obtain ⟨cs,hv,_⟩:=hv; exact key (by rw [hv]; rfl)
  | bor l=>simp [z3g] at hk
  | vec e ag ks l=>simp [z3g] at hk
  | bld s=>simp [z3g] at hk
theorem z8h (h:Rel B nt w0 X γ st a w) {v:V} {x:Value} (hv:VRel γ st.o w (z02 X γ st.o) v x) (hk:okV st.o v=true):VRels γ st.o w (z02 X γ st.o) (cells v) x.cells.toList:=by
  by_cases hg:∃ l,v = .agg l
  · obtain ⟨l,rfl⟩:=hg
    simp only [VRel] at hv
    obtain ⟨cs,rfl,hr⟩:=hv
    exact hr
  · have h1:cells v=[v]:=by cases v <;> first | rfl | (exact absurd ⟨_,rfl⟩ hg)
    have h2:z3g st.o v=true:=by cases v <;> first | exact hk | (exact absurd ⟨_,rfl⟩ hg)
    rw [h1,(zdf h hv h2).2]
    simp only [VRels,and_true]
    exact hv
theorem z8g (h:Rel B nt w0 X γ st a w):∀ {l:List V} {xs:List Value},VRels γ st.o w (z02 X γ st.o) l xs→zes st.o l=true→∀ x∈xs,x.oneCell'=true
  | [],[],_,_,_,hx=>by cases hx
  | [],_ :: _,hr,_,_,_=>by simp only [VRels] at hr
  | _ :: _,[],hr,_,_,_=>by simp only [VRels] at hr
  | v :: vs,x :: xs,hr,hk,y,hy=>by
    simp only [VRels] at hr
    simp only [zes] at hk
    cases h1:z3g st.o v <;> simp only [h1] at hk
    · cases hk
    · rcases List.mem_cons.1 hy with rfl | hy
      · exact (zdf h hr.1 h1).1
      · exact z8g h hr.2 hk y hy
theorem zbv:∀ (cs:List V) (n:Nat) (vs:List V),n+vs.length≤cs.length→z6t cs n vs=cs.take n++vs++cs.drop (n+vs.length)
  | cs,n,[],_=>by
    cases cs with
    | nil=>simp [z6t]
    | cons x r=>simp [z6t]
  | [],n,v :: vs,h=>by simp at h
  | x :: r,0,v :: vs,h=>by
    simp only [z6t,List.take_zero,List.nil_append,List.length_cons,Nat.zero_add,List.drop_succ_cons,List.cons_append]
    rw [zbv r 0 vs (by simp at h ⊢; omega)]
    simp
  | x :: r,n+1,v :: vs,h=>by
    simp only [z6t,List.take_succ_cons,List.cons_append]
    rw [zbv r n (v :: vs) (by simp at h ⊢; omega)]
    congr 2
    simp only [List.length_cons]
    rw [show n+1+(vs.length+1)=(n+(vs.length+1))+1 by omega,List.drop_succ_cons]
theorem VRels.put {γ:Nat→Value} {o:Store} {w:World} {O:Nat→Prop} {cs vs:List V} {xs ys:List Value} {n:Nat} (h:VRels γ o w O cs xs) (h':VRels γ o w O vs ys) (hl:n+vs.length≤cs.length) :
    VRels γ o w O (z6t cs n vs) (xs.take n++ys++xs.drop (n+ys.length)):=by
  rw [zbv cs n vs hl,← h'.length]
  exact ((h.take n).append h').append (h.drop _)
theorem zi7 (off:Nat):∀ (vs:List Value) (j:Nat) (cs:Array Value),off+j+vs.length≤cs.size →
    ((vs.zipIdx j).foldl (fun cs (c,j)=>cs.setIfInBounds (off+j) c) cs).toList=cs.toList.take (off+j)++vs++cs.toList.drop (off+j+vs.length)
  | [],j,cs,_=>by simp
  | v :: vs,j,cs,h=>by
    simp only [List.zipIdx_cons,List.foldl_cons]
    rw [zi7 off vs (j+1) _ (by simp at h ⊢; omega)]
    have e:=list_seg_step cs.toList (off+j) v vs (by simp at h ⊢; omega)
    simpa [Array.toList_setIfInBounds,Nat.add_assoc] using e
theorem zav (h:Rel B nt w0 X γ st a w) {pv pm:Nat→Option (Nat × Nat)} (hp:∀ i q,pv i=some q→pm i=some q):∀ {parts:List (Nat × V)} {parts':List (Nat × Value)} {cs cs':List V} {xs:Array Value},
    VRels γ st.o w (z02 X γ st.o) cs xs.toList→parts.length=parts'.length→(∀ (j i:Nat) (v:V),parts[j]?=some (i,v)→∃ x,parts'[j]?=some (i,x)∧VRel γ st.o w (z02 X γ st.o) v x) →
    z70 st.o pv cs parts=some cs'→∃ xs',Instr.fill pm xs parts'=some xs'∧VRels γ st.o w (z02 X γ st.o) cs' xs'.toList
  | [],[],cs,cs',xs,hr,_,_,hf=>by
    simp only [z70,Option.some.injEq] at hf
    subst hf
    exact ⟨xs,rfl,hr⟩
  | [],_ :: _,_,_,_,_,hl,_,_=>by simp at hl
  | _ :: _,[],_,_,_,_,hl,_,_=>by simp at hl
  | (i,v) :: r,(i',x) :: r',cs,cs',xs,hr,hl,hpt,hf=>by
    obtain ⟨x',hx',hv⟩:=hpt 0 i v rfl
    simp only [List.getElem?_cons_zero,Option.some.injEq,Prod.mk.injEq] at hx'
    obtain ⟨rfl,rfl⟩:=hx'
    simp only [z70] at hf
    split at hf
    · rename_i off size hq
      split at hf
      · rename_i hc
        simp only [Bool.and_eq_true] at hc
        have h1:=z0f.1 hc.2.1
        have h2:=Nat.le_of_ble_eq_true hc.2.2
        have hcr:=z8h h hv hc.1
        have hlen:=hcr.length
        have hlen2:=hr.length
        have hsz:x.cells.size=size:=by rw [← h1,hlen]; simp
        have hxs:xs.size=cs.length:=by rw [hlen2]; simp
        have hfold:=zi7 off x.cells.toList 0 xs (by rw [Nat.add_zero,← hlen,h1,hxs]; exact h2)
        obtain ⟨xs',hx1,hx2⟩:=zav h hp (parts:=r) (parts':=r') (cs:=z6t cs off (cells v)) (cs':=cs') (xs:=x.cells.zipIdx.foldl (fun cs (c,j)=>cs.setIfInBounds (off+j) c) xs)
          (by
            have:(x.cells.zipIdx.foldl (fun cs (c,j)=>cs.setIfInBounds (off+j) c) xs)=(x.cells.toList.zipIdx 0).foldl (fun cs (c,j)=>cs.setIfInBounds (off+j) c) xs:=by
              rw [← Array.foldl_toList,Array.toList_zipIdx]
            rw [this,hfold]
            simp only [Nat.add_zero]
            exact hr.put hcr (by rw [h1]; exact h2))
          (by simpa using hl) (fun j i v hj=>by
            have:=hpt (j+1) i v (by simpa using hj)
            simpa using this) hf
        refine ⟨xs',?_,hx2⟩
        simp only [Instr.fill,hp _ _ hq]
        rw [if_neg]
        · exact hx1
        · simp only [hsz,ne_eq,not_true_eq_false,decide_false,Bool.false_or,decide_eq_true_eq,hxs]
          omega
      · cases hf
    · cases hf
theorem z9p (h:Rel B nt w0 X γ st a w):∀ (l:List (Nat × Operand)),(z3h (opd st) l).length=(l.map fun (i,x)=>(i,a.eval x)).length ∧
    ∀ (j i:Nat) (v:V),(z3h (opd st) l)[j]?=some (i,v)→∃ x,(l.map fun (i,x)=>(i,a.eval x))[j]?=some (i,x)∧VRel γ st.o w (z02 X γ st.o) v x
  | []=>by simp [z3h]
  | (i,x) :: r=>by
    obtain ⟨h1,h2⟩:=z9p h r
    refine ⟨by simpa [z3h] using h1,fun j i' v hj=>?_⟩
    cases j with
    | zero=>
      simp only [z3h,List.getElem?_cons_zero,Option.some.injEq,Prod.mk.injEq] at hj
      obtain ⟨rfl,rfl⟩:=hj
      exact ⟨a.eval x,by simp,z0d h x⟩
    | succ j=>
      simp only [z3h,List.getElem?_cons_succ] at hj
      obtain ⟨y,hy,hr⟩:=h2 j i' v hj
      exact ⟨y,by simpa using hy,hr⟩
theorem zok (h:Rel B nt w0 X γ st a w) (o:Oper) (hd9:∀ d,o.dst=some d→d≠900000) {t:Nat} {x:Operand} (ho:o.op = .box t x) {v:V} {us:List Upd}
    (he:(z0r E st.o (opd st) o.dst o.op).get=some (v,us)):OpWp P B nt w0 X a w o st v us:=by
  have hx:=z0d h x
  rw [ho] at he
  simp only [z0r] at he
  split at he
  · rename_i d hd
    obtain ⟨hk,he⟩:=T.get_when he
    simp only [T.get,Option.some.injEq,Prod.mk.injEq] at he
    obtain ⟨rfl,rfl⟩:=he
    have hc:=z8h h hx hk
    have hn:=Rel.new h [] d (hd9 d hd) (.box ((cells (opd st x)).map (z0k d))) (.pointer (some ⟨w.heap.size,0,none⟩)) (w':=w.alloc (.cells (a.eval x).cells t)) (Keep.alloc _ w _)
      (by
        rintro b ⟨ad,hb,rfl⟩
        simp only [Value.pointer.injEq,Option.some.injEq] at hb
        subst hb
        exact ⟨by simp,.inl (Nat.le_refl _)⟩)
      (by
        intro O' hO hcmp
        simp only [ObRel]
        exact ⟨w.heap.size,(a.eval x).cells,t,rfl,heap_alloc_new w _,VRels.mono (Keep.alloc _ w _) hO (z6v hcmp hc)⟩)
    refine OpWp.value (x:=.pointer (some ⟨w.heap.size,0,none⟩)) (w':=w.alloc (.cells (a.eval x).cells t)) (by unfold execOp; simp [ho,Instr.box,newVar,newRow]) hn ?_
    simp only [St.ups,VRel,z03,if_true]
    exact ⟨trivial,w.heap.size,rfl,rfl⟩
  · simp [T.get] at he
theorem z27 {t:Nat} (hs:TISnd P B t (E.tyd t)):∃ i z,P.info? t=some i∧i.zero=some z∧z.cells.size=(E.tyd t).size∧i.size=(E.tyd t).size∧i.bytes=(E.tyd t).bytes ∧
    ∀ γ o w O,VRels γ o w O (E.tyd t).zero z.cells.toList:=by
  obtain ⟨i,z,hi,hsz,hby,hz,hzs,hzr⟩:=hs.info
  exact ⟨i,z,hi,hz,hzs,hsz,hby,hzr⟩
theorem zmg (hT:TiOK P B E) (h:Rel B nt w0 X γ st a w) (o:Oper) (hd9:∀ d,o.dst=some d→d≠900000) {t:Nat} (ho:o.op = .alloc t) {v:V} {us:List Upd} (hB:(E.tyd B.T).d = .bld→∃ i,P.info? B.T=some i∧i.zero=some (.agg #[.pointer none,.slice none 0 0]))
    (he:(z0r E st.o (opd st) o.dst o.op).get=some (v,us)):OpWp P B nt w0 X a w o st v us:=by
  rw [ho] at he
  simp only [z0r] at he
  split at he
  · rename_i d hd
    split at he
    · rename_i hdb
      simp only [T.get,Option.some.injEq,Prod.mk.injEq] at he
      obtain ⟨rfl,rfl⟩:=he
      have hs:=hT.desc (t:=t) (by rw [hdb]; simp)
      obtain ⟨_,_,_,hd2⟩:=hs.und
      rw [hdb] at hd2
      subst hd2
      obtain ⟨i,hi,hz⟩:=hB hdb
      have hn:=Rel.new h [] d (hd9 d hd) (.bld ByteArray.empty) (.tuple #[.pointer (some ⟨w.heap.size,0,none⟩),.slice none 0 0]) (w':=w.alloc (.cells #[.pointer none,.slice none 0 0] B.T)) (Keep.alloc _ w _)
        (by
          rintro b ⟨ad,u,hb,hb2⟩
          simp only [Value.tuple.injEq,Array.mk.injEq,List.cons.injEq,Value.pointer.injEq,Option.some.injEq,and_true] at hb
          obtain ⟨rfl,rfl⟩:=hb
          rcases hb2 with rfl | hb2
          · exact ⟨by simp,.inl (Nat.le_refl _)⟩
          · simp [Value.ownBlock] at hb2)
        (by
          intro O' hO hcmp
          simp only [ObRel]
          refine ⟨w.heap.size,.slice none 0 0,.pointer none,rfl,.inl rfl,heap_alloc_new w _,?_,by simp [Value.ownBlock],by simp [strMax]⟩
          exact ⟨by simp [Lib.strCells],.inl ⟨rfl,rfl⟩⟩)
      refine OpWp.value (x:=.pointer (some ⟨w.heap.size,0,none⟩)) (w':=w.alloc (.cells #[.pointer none,.slice none 0 0] B.T)) ?_ hn ?_
      · unfold execOp
        simp [ho,Instr.alloc,zeroValue,typeInfo,hi,hz,newVar,newRow,Value.cells]
      · simp only [St.ups,VRel,z03,if_true]
        exact ⟨trivial,w.heap.size,_,rfl,rfl⟩
    · split at he
      · rename_i hb
        simp only [T.get,Option.some.injEq,Prod.mk.injEq] at he
        obtain ⟨rfl,rfl⟩:=he
        have hs:=hT.size (Nat.le_of_ble_eq_true hb)
        obtain ⟨i,z,hi,hz,_,_,_,hzr⟩:=z27 hs
        have hn:=Rel.new h [] d (hd9 d hd) (.box (E.tyd t).zero) (.pointer (some ⟨w.heap.size,0,none⟩)) (w':=w.alloc (.cells z.cells t)) (Keep.alloc _ w _)
          (by
            rintro b ⟨ad,hb,rfl⟩
            simp only [Value.pointer.injEq,Option.some.injEq] at hb
            subst hb
            exact ⟨by simp,.inl (Nat.le_refl _)⟩)
          (by
            intro O' hO hcmp
            simp only [ObRel]
            exact ⟨w.heap.size,z.cells,t,rfl,heap_alloc_new w _,hzr _ _ _ _⟩)
        refine OpWp.value (x:=.pointer (some ⟨w.heap.size,0,none⟩)) (w':=w.alloc (.cells z.cells t)) ?_ hn ?_
        · unfold execOp
          cases z <;> simp [ho,Instr.alloc,zeroValue,typeInfo,hi,hz,newVar,newRow]
        · simp only [St.ups,VRel,z03,if_true]
          exact ⟨trivial,w.heap.size,rfl,rfl⟩
      · simp [T.get] at he
  · simp [T.get] at he
end
open Go Go.RowKit
section
variable {B:BT} {nt:Nat} {w0:World} {X:Zone} {γ:Nat→Value} {st:St} {a:Act} {w:World} {P:Program} {E:Env}
theorem zmh (hT:TiOK P B E) (h:Rel B nt w0 X γ st a w) (o:Oper) {t:Nat} {parts:Array (Nat × Operand)} (ho:o.op = .build t parts) {v:V} {us:List Upd}
    (he:(z0r E st.o (opd st) o.dst o.op).get=some (v,us)):OpWp P B nt w0 X a w o st v us:=by
  rw [ho] at he
  simp only [z0r] at he
  have hrun:∀ y,(Instr.build t (parts.map fun (i,x)=>(i,a.eval x))).run P w = .ok y w→(execOp a.eval o).run P w = .ok (.value y) w:=fun y hy=>by
    unfold execOp
    simp only [ho,Sem.run_bind,hy,Result.andThen_ok,Sem.run_pure]
  obtain ⟨hp1,hp2⟩:=z9p h parts.toList
  split at he
  · rename_i fs hd
    split at he
    · rename_i cs hf
      simp only [T.get,Option.some.injEq,Prod.mk.injEq] at he
      obtain ⟨rfl,rfl⟩:=he
      have hs:=hT.desc (t:=t) (by rw [hd]; simp)
      obtain ⟨d,hd1,_,hd2⟩:=hs.und
      rw [hd] at hd2
      obtain ⟨fields,rfl,rfl,hsome⟩:=hd2
      obtain ⟨i,z,hi,hz,hzs,_,_,hzr⟩:=z27 hs
      have hpl:∀ l:List Field,(∀ f∈l,(P.info? f.type).isSome=true)→l.mapM (fun f=>(P.info? f.type).map fun i=>(f.offset,i.size))=some (l.map fun f=>(f.offset,P.cellsOf f.type)):=by
        intro l
        induction l with
        | nil=>intro _; rfl
        | cons f r ih=>
          intro hl
          obtain ⟨j,hj⟩:=Option.isSome_iff_exists.1 (hl f (by simp))
          rw [List.mapM_cons,ih (fun g hg=>hl g (by simp [hg])),hj]
          simp [Program.cellsOf,hj]
      have hpv:∀ j q,z1o E (fields.toList.map (fun f=>(f.offset,f.type))) j=some q→(fields.toList.map fun f=>(f.offset,P.cellsOf f.type)).toArray[j]?=some q:=by
        rintro j ⟨off,sz⟩ hq
        obtain ⟨ft,h1,h2,h3⟩:=z5u hq
        rw [List.getElem?_map,Option.map_eq_some_iff] at h1
        obtain ⟨fd,hfd,h4⟩:=h1
        simp only [Prod.mk.injEq] at h4
        obtain ⟨rfl,rfl⟩:=h4
        obtain ⟨i',z',hi',hs',_⟩:=(hT.size h3).info
        simp only [List.getElem?_toArray,List.getElem?_map,hfd,Option.map_some,Option.some.injEq,Prod.mk.injEq,true_and]
        rw [h2]
        simp [Program.cellsOf,hi',hs']
      obtain ⟨xs,hx1,hx2⟩:=zav h (pm:=fun j=>(fields.toList.map fun f=>(f.offset,P.cellsOf f.type)).toArray[j]?) hpv (hzr γ st.o w (z02 X γ st.o)) hp1 hp2 hf
      refine OpWp.pure h (hrun (.agg xs) (run_build w t _ xs ?_)) (by simp only [VRel]; exact ⟨xs,rfl,hx2⟩)
      simp only [Program.built,hi,hd1,hz,hpl _ hsome,Array.toList_map]
      exact hx1
    · simp [T.get] at he
  · rename_i N e hd
    split at he
    · rename_i cs hf
      obtain ⟨hpos,he⟩:=T.get_when he
      simp only [T.get,Option.some.injEq,Prod.mk.injEq] at he
      obtain ⟨rfl,rfl⟩:=he
      have hs:=hT.desc (t:=t) (by rw [hd]; simp)
      obtain ⟨d,hd1,_,hd2⟩:=hs.und
      rw [hd] at hd2
      subst hd2
      obtain ⟨i,z,hi,hz,hzs,_,_,hzr⟩:=z27 hs
      obtain ⟨ie,ze,hie,_,_,hse,_⟩:=z27 (hT.size (Nat.le_of_ble_eq_true hpos))
      obtain ⟨xs,hx1,hx2⟩:=zav h (pm:=fun j=>some (j*(E.tyd e).size,(E.tyd e).size)) (fun _ _ h=>h) (hzr γ st.o w (z02 X γ st.o)) hp1 hp2 hf
      refine OpWp.pure h (hrun (.agg xs) (run_build w t _ xs ?_)) (by simp only [VRel]; exact ⟨xs,rfl,hx2⟩)
      simp only [Program.built,hi,hd1,hz,hie,hse,Array.toList_map]
      exact hx1
    · simp [T.get] at he
  · simp [T.get] at he
def FrzLe (o o':Store):Prop:=∀ m,z01 o' m=z01 o m∨∃ e ag ks l,z01 o m=some (.row true e ag ks l)∧z01 o' m=some (.row false e ag ks l)
theorem FrzLe.refl (o:Store):FrzLe o o:=fun _=>.inl rfl
theorem FrzLe.trans {o1 o2 o3:Store} (h:FrzLe o1 o2) (k:FrzLe o2 o3):FrzLe o1 o3:=by
  intro m
  rcases h m with h1 | ⟨e,ag,ks,l,h1,h2⟩
  · rcases k m with k1 | ⟨e,ag,ks,l,k1,k2⟩
    · exact .inl (k1.trans h1)
    · exact .inr ⟨e,ag,ks,l,by rw [← h1]; exact k1,k2⟩
  · rcases k m with k1 | ⟨e',ag',ks',l',k1,k2⟩
    · exact .inr ⟨e,ag,ks,l,h1,k1.trans h2⟩
    · rw [h2] at k1; cases k1
theorem FrzLe.cmp {o o':Store} (h:FrzLe o o') (γ:Nat→Value):Cmp γ o γ o':=by
  intro m ob' hm
  rcases h m with h1 | ⟨e,ag,ks,l,h1,h2⟩
  · exact ⟨rfl,ob',by rw [← h1]; exact hm,ob'.fits_refl⟩
  · rw [h2,Option.some.injEq] at hm
    subst hm
    exact ⟨rfl,_,h1,⟨rfl,rfl⟩⟩
theorem FrzLe.ownedP {o o':Store} (h:FrzLe o o') {γ:Nat→Value} {b:Nat} (hb:z0h γ o' b):z0h γ o b:=by
  obtain ⟨m,ob',hm,hb'⟩:=hb
  rcases h m with h1 | ⟨e,ag,ks,l,h1,h2⟩
  · exact ⟨m,ob',by rw [← h1]; exact hm,hb'⟩
  · rw [h2,Option.some.injEq] at hm
    subst hm
    exact hb'.elim
theorem FrzLe.owned {o o':Store} (h:FrzLe o o') {γ:Nat→Value} {b:Nat} (hb:z02 X γ o' b):z02 X γ o b:=hb.imp_left h.ownedP
theorem zdm (h:Rel B nt w0 X γ st a w) {n:Nat} {own:Bool} {e:Nat} {ag:Bool} {ks:List Kd} {l:List IV} (ho:z01 st.o n=some (.row own e ag ks l)) {O':Nat→Prop}
    (hO:∀ b,b < w.heap.size→O' b→z02 X γ st.o b) (hn:own=true→∀ b,(γ n).ownBlock=some b→¬ O' b):0 < ks.length∧Kd.Rel w O' (.list ag ks) (.list l) (γ n):=by
  have hor:=h.ob n _ ho
  cases own with
  | false=>
    simp only [ObRel] at hor
    exact ⟨hor.1,Kd.Rel.mono (Keep.refl _ w) hO hor.2⟩
  | true=>
    simp only [ObRel] at hor
    obtain ⟨h1,h2,xs,hx,hr⟩:=hor
    refine ⟨h1,?_⟩
    simp only [Kd.Rel,IV.toList]
    rcases hx.2 with ⟨h3,h4⟩ | ⟨g,cap,cur,T,fr,h3,h4,h5,h6,h7,h8,_⟩
    · refine ⟨none,0,by rw [h3,h4],by omega,by simp [maxLen],h2,fun i y hy=>?_⟩
      have:l=[]:=List.eq_nil_of_length_eq_zero h4
      subst this
      simp at hy
    · refine ⟨_,cap,h3,h5,h6,h2,fun i y hy=>⟨g,0,rfl,hn rfl g (by rw [h3]; rfl),(Array.getElem?_eq_some_iff.1 h4).1,?_⟩⟩
      obtain ⟨_,_,_,hc⟩:=hx.cells h3
      refine Kd.RelAll.mono (Keep.refl _ w) hO (fun q u hu=>?_) (hr i y hy)
      have:=hc _ u hu
      rw [← this]
      congr 2
      omega
theorem z0z (o:Store):∀ (ns:List Nat) {st:St},FrzLe o st.o→Rel B nt w0 X γ st a w →
    Rel B nt w0 X γ (st.ups (z06 o ns)) a w∧FrzLe st.o (st.ups (z06 o ns)).o∧(st.ups (z06 o ns)).t=st.t ∧
      (∀ n∈ns,∀ own e ag ks l,z01 (st.ups (z06 o ns)).o n=some (.row own e ag ks l)→own=false) ∧
      (∀ m,m ∉ ns→z01 (st.ups (z06 o ns)).o m=z01 st.o m)
  | [],st,_,h=>⟨h,FrzLe.refl _,rfl,(fun _ hn=>by cases hn),fun _ _=>rfl⟩
  | n :: r,st,ho,h=>by
    cases hrow:z01 o n with
    | none=>
      have he:z06 o (n :: r)=z06 o r:=by simp only [z06,hrow]
      rw [he]
      obtain ⟨h1,h2,h3,h4,h9⟩:=z0z o r ho h
      refine ⟨h1,h2,h3,fun m hm own e ag ks l hml=>?_,fun m hm=>h9 m (fun hr=>hm (List.mem_cons_of_mem _ hr))⟩
      rcases List.mem_cons.1 hm with rfl | hm
      · rcases (ho.trans h2) m with h5 | ⟨_,_,_,_,h5,_⟩
        · rw [hrow] at h5; rw [h5] at hml; cases hml
        · rw [hrow] at h5; cases h5
      · exact h4 m hm own e ag ks l hml
    | some ob=>
      by_cases hob:∃ e ag ks l,ob = .row true e ag ks l
      · obtain ⟨e,ag,ks,l,rfl⟩:=hob
        have he:z06 o (n :: r) = .set n (.row false e ag ks l) :: z06 o r:=by simp only [z06,hrow]
        rw [he]
        simp only [St.ups]
        obtain ⟨own,hcur⟩:∃ own,z01 st.o n=some (.row own e ag ks l):=by
          rcases ho n with h5 | ⟨e',ag',ks',l',h5,h6⟩
          · exact ⟨true,h5.trans hrow⟩
          · rw [hrow] at h5
            simp only [Option.some.injEq,Ob.row.injEq,true_and] at h5
            obtain ⟨rfl,rfl,rfl,rfl⟩:=h5
            exact ⟨false,h6⟩
        have hs:Rel B nt w0 X γ (st.up (.set n (.row false e ag ks l))) a w:=by
          refine h.set (ob':=.row false e ag ks l) hcur ⟨rfl,rfl⟩ (Keep.refl _ w) (fun b hb=>hb.elim) (fun hown hcmp=>?_)
          simp only [ObRel]
          refine zdm h hcur (fun b _ hb=>hown b hb) ?_
          rintro rfl b hb hO1
          obtain ⟨m,ob1,hm,hb1⟩:=hO1.resolve_right (h.near ⟨n,_,hcur,hb⟩)
          rw [z00] at hm
          split at hm
          · simp only [Option.some.injEq] at hm
            subst hm
            exact hb1.elim
          · rename_i hne
            exact h.dis n m _ ob1 b hne hcur hm hb hb1
        have hfl:FrzLe st.o (st.up (.set n (.row false e ag ks l))).o:=by
          intro m
          simp only [St.up,z00]
          by_cases hm:n=m
          · subst hm
            rw [if_pos rfl]
            cases own with
            | true=>exact .inr ⟨e,ag,ks,l,hcur,rfl⟩
            | false=>exact .inl hcur.symm
          · rw [if_neg hm]
            exact .inl rfl
        obtain ⟨h1,h2,h3,h4,h9⟩:=z0z o r (ho.trans hfl) hs
        refine ⟨h1,hfl.trans h2,h3,fun m hm own' e' ag' ks' l' hml=>?_,fun m hm=>?_⟩
        case refine_2=>
          rw [h9 m (fun hr=>hm (List.mem_cons_of_mem _ hr))]
          simp only [St.up,z00]
          rw [if_neg (fun e=>hm (by rw [e]; exact List.mem_cons_self ..))]
        rcases List.mem_cons.1 hm with rfl | hm
        · rcases h2 m with h5 | ⟨_,_,_,_,h5,_⟩
          · rw [h5] at hml
            simp only [St.up,z00,if_true,Option.some.injEq,Ob.row.injEq] at hml
            exact hml.1.symm
          · simp only [St.up,z00,if_true,Option.some.injEq,Ob.row.injEq] at h5
            exact absurd h5.1 (by simp)
        · exact h4 m hm own' e' ag' ks' l' hml
      · have he:z06 o (n :: r)=z06 o r:=by
          simp only [z06,hrow]
          cases ob with
          | box _=>rfl
          | bld _=>rfl
          | map _ _=>rfl
          | iter _ _ _=>rfl
          | row own e ag ks l=>
            cases own with
            | false=>rfl
            | true=>exact absurd ⟨e,ag,ks,l,rfl⟩ hob
        rw [he]
        obtain ⟨h1,h2,h3,h4,h9⟩:=z0z o r ho h
        refine ⟨h1,h2,h3,fun m hm own e ag ks l hml=>?_,fun m hm=>h9 m (fun hr=>hm (List.mem_cons_of_mem _ hr))⟩
        rcases List.mem_cons.1 hm with rfl | hm
        · rcases (ho.trans h2) m with h5 | ⟨e',ag',ks',l',h5,_⟩
          · rw [hrow] at h5
            rw [h5] at hml
            simp only [Option.some.injEq] at hml
            subst hml
            cases own with
            | false=>rfl
            | true=>exact absurd ⟨e,ag,ks,l,rfl⟩ hob
          · rw [hrow,Option.some.injEq] at h5
            exact absurd ⟨e',ag',ks',l',h5⟩ hob
        · exact h4 m hm own e ag ks l hml
end
open Go Go.RowKit
mutual
theorem z7o:∀ {a b:Kd},zaq a b=true→a=b
  | .int k,b,h=>by
    cases b <;> simp only [zaq,beq_iff_eq] at h <;> first | (rw [h]; done) | (cases h; done)
  | .bool,b,h=>by
    cases b <;> simp only [zaq] at h <;> first | rfl | (cases h; done)
  | .str,b,h=>by
    cases b <;> simp only [zaq] at h <;> first | rfl | (cases h; done)
  | .list ag ks,b,h=>by
    cases b with
    | list ag' ks'=>
      simp only [zaq,Bool.and_eq_true,beq_iff_eq] at h
      rw [h.1,zeg h.2]
    | int _=>simp only [zaq] at h; cases h
    | bool=>simp only [zaq] at h; cases h
    | str=>simp only [zaq] at h; cases h
theorem zeg:∀ {l l':List Kd},zaq.kdsEq l l'=true→l=l'
  | [],l',h=>by
    cases l' with
    | nil=>rfl
    | cons y r'=>simp only [zaq.kdsEq] at h; cases h
  | x :: r,l',h=>by
    cases l' with
    | nil=>simp only [zaq.kdsEq] at h; cases h
    | cons y r'=>
      simp only [zaq.kdsEq,Bool.and_eq_true] at h
      rw [z7o h.1,zeg h.2]
end
section
variable {B:BT} {nt:Nat} {w0:World} {X:Zone} {γ:Nat→Value} {st st':St} {a:Act} {w:World} {P:Program} {E:Env}
theorem zlc {O:Nat→Prop} {ag:Bool} {ks:List Kd} {l:List IV} {g x:Value} {lo hi:Nat} (h:Kd.Rel w O (.list ag ks) (.list l) g) (hs:zoa g lo hi ks.length x) (hl:hi≤l.length) :
    Kd.Rel w O (.list ag ks) (.list ((l.take hi).drop lo)) x:=by
  simp only [Kd.Rel,IV.toList] at h ⊢
  obtain ⟨p,c,hv,hc,hm,hln,hr⟩:=h
  obtain ⟨p1,len,cap,p',hg,hx,h1,h2,h3,h4,h5,h6⟩:=hs
  rw [hv] at hg
  simp only [Value.slice.injEq] at hg
  obtain ⟨rfl,rfl,rfl⟩:=hg
  have hll:((l.take hi).drop lo).length=hi - lo:=by rw [List.length_drop,List.length_take]; omega
  refine ⟨p',c - lo,by rw [hll]; exact hx,by omega,by omega,by omega,fun i y hy=>?_⟩
  rw [List.getElem?_drop,List.getElem?_take] at hy
  split at hy
  · rename_i hlt
    obtain ⟨b,off,hp,hO,hb,hr'⟩:=hr (lo+i) y hy
    subst hp
    refine ⟨b,off+lo*ks.length,by rw [h5.resolve_right (by omega)]; simp [Addr.add_mid],hO,hb,?_⟩
    refine Kd.RelAll.mono (Keep.refl _ w) (fun _ _ h=>h) (fun q u hu=>?_) hr'
    rw [← hu]
    congr 2
    rw [Nat.add_mul]
    omega
  · cases hy
structure Frz (B:BT) (nt:Nat) (w0:World) (X:Zone) (γ:Nat→Value) (st st':St) (a:Act) (w:World) (vs:List V):Prop where
  zpb:Rel B nt w0 X γ st a w
  rel:Rel B nt w0 X γ st' a w
  le:FrzLe st.o st'.o
  rows:∀ n lo hi,V.row n lo hi∈vs→∀ own e ag ks l,z01 st'.o n=some (.row own e ag ks l)→own=false
theorem z2z {n lo hi:Nat}:∀ {l:List V},V.row n lo hi∈l→n∈z0c l
  | v :: r,h=>by
    rcases List.mem_cons.1 h with rfl | h
    · simp [z0c]
    · have:=z2z h
      cases v <;> simp [z0c,this]
theorem Frz.of (h:Rel B nt w0 X γ st a w) (vs:List V):Frz B nt w0 X γ st (st.ups (z06 st.o (z0c vs))) a w vs:=by
  obtain ⟨h1,h2,_,h4,_⟩:=z0z st.o (z0c vs) (FrzLe.refl _) h
  exact ⟨h,h1,h2,fun n lo hi hm=>h4 n (z2z hm)⟩
theorem zjk {vs:List V} (hz:Frz B nt w0 X γ st st' a w vs) {v:V} (hm:v∈vs) {k:Kd} {y:IV} (hy:z45 st.o k v=some y) {x:Value} (hv:VRel γ st.o w (z02 X γ st.o) v x) :
    Kd.Rel w (z02 X γ st'.o) k y x:=by
  have hO:∀ b,b < w.heap.size→z02 X γ st'.o b→z02 X γ st.o b:=fun b _ hb=>hz.le.owned hb
  unfold z45 at hy
  split at hy
  · rename_i k k' n
    cases hk:k==k' <;> simp only [hk] at hy
    · cases hy
    · simp only [Option.some.injEq] at hy
      subst hy
      have:k=k':=by simpa using hk
      subst this
      simp only [VRel] at hv
      simp only [Kd.Rel,IV.toInt]
      exact hv
  · simp only [Option.some.injEq] at hy
    subst hy
    simp only [VRel] at hv
    simp only [Kd.Rel,IV.toBool]
    exact hv
  · simp only [Option.some.injEq] at hy
    subst hy
    simp only [VRel] at hv
    simp only [Kd.Rel,IV.toStr]
    exact hv
  · rename_i ag ks ag' ks' l
    cases hk:zaq (.list ag ks) (.list ag' ks') <;> simp only [hk] at hy
    · cases hy
    · simp only [Option.some.injEq] at hy
      subst hy
      have:=z7o hk
      simp only [Kd.list.injEq] at this
      obtain ⟨rfl,rfl⟩:=this
      simp only [VRel] at hv
      exact Kd.Rel.mono (Keep.refl _ w) hO hv
  · rename_i ag ks
    simp only [Option.some.injEq] at hy
    subst hy
    simp only [VRel] at hv
    simp only [Kd.Rel,IV.toList]
    exact ⟨none,0,hv,by simp,by simp [maxLen],by simp [strMax],fun i y hy=>by simp at hy⟩
  · rename_i ag ks n lo hi
    split at hy
    · rename_i own e ag' ks' l hob
      cases hk:zaq (.list ag ks) (.list ag' ks') <;> simp only [hk] at hy
      · cases hy
      · simp only [Option.some.injEq] at hy
        subst hy
        have:=z7o hk
        simp only [Kd.list.injEq] at this
        obtain ⟨rfl,rfl⟩:=this
        simp only [VRel,hob] at hv
        have hfin:z01 st'.o n=some (.row false e ag ks l):=by
          rcases hz.le n with h1 | ⟨e',ag',ks',l',h1,h2⟩
          · have h2:=h1.trans hob
            have:=hz.rows n lo hi hm own e ag ks l h2
            rw [this] at h2
            exact h2
          · rw [hob] at h1
            simp only [Option.some.injEq,Ob.row.injEq] at h1
            obtain ⟨_,rfl,rfl,rfl,rfl⟩:=h1
            exact h2
        have hor:=hz.rel.ob n _ hfin
        simp only [ObRel] at hor
        exact zlc hor.2 hv.2 hv.1
    · cases hy
  · cases hy
theorem z4l {vs0:List V} (hz:Frz B nt w0 X γ st st' a w vs0):∀ {ks:List Kd} {vs:List V} {ys:List IV} {xs:List Value},(∀ v∈vs,v∈vs0)→z18 st.o ks vs=some ys→VRels γ st.o w (z02 X γ st.o) vs xs →
    ys.length=ks.length∧xs.length=ks.length∧∀ (j:Nat) (k:Kd),ks[j]?=some k→∃ y u,ys[j]?=some y∧xs[j]?=some u∧Kd.Rel w (z02 X γ st'.o) k y u
  | [],[],ys,xs,_,hy,hv=>by
    simp only [z18,Option.some.injEq] at hy
    subst hy
    cases xs with
    | nil=>exact ⟨rfl,rfl,fun j k hj=>by simp at hj⟩
    | cons x r=>simp only [VRels] at hv
  | [],_ :: _,_,_,_,hy,_=>by simp [z18] at hy
  | _ :: _,[],_,_,_,hy,_=>by simp [z18] at hy
  | k :: ks,v :: vs,ys,xs,hm,hy,hv=>by
    simp only [z18] at hy
    split at hy
    · rename_i y hy1
      split at hy
      · rename_i r hy2
        simp only [Option.some.injEq] at hy
        subst hy
        cases xs with
        | nil=>simp only [VRels] at hv
        | cons x xs=>
          simp only [VRels] at hv
          obtain ⟨h1,h2,h3⟩:=z4l hz (fun v hv=>hm v (by simp [hv])) hy2 hv.2
          refine ⟨by simp [h1],by simp [h2],fun j k' hj=>?_⟩
          cases j with
          | zero=>
            simp only [List.getElem?_cons_zero,Option.some.injEq] at hj
            subst hj
            exact ⟨y,x,rfl,rfl,zjk hz (hm v (by simp)) hy1 hv.1⟩
          | succ j=>
            obtain ⟨y',u,h4,h5,h6⟩:=h3 j k' (by simpa using hj)
            exact ⟨y',u,by simpa using h4,by simpa using h5,h6⟩
      · cases hy
    · cases hy
theorem z63 {vs0:List V} (hz:Frz B nt w0 X γ st st' a w vs0) {ag:Bool} {ks:List Kd} {sz:Nat} (hks:ks.length=sz) (h1:ag=false→sz=1):∀ {n:Nat} {cs:List V} {l:List IV} {xs:List Value},
    (∀ v∈cs,v∈vs0)→z84 ag ks st.o cs sz n=some l→VRels γ st.o w (z02 X γ st.o) cs xs →
    l.length=n∧∀ i y,l[i]?=some y→Kd.RelAll w (z02 X γ st'.o) ks (z13 ag y) 0 (fun j u=>xs[i*sz+j]?=some u)
  | 0,cs,l,xs,_,hc,_=>by
    simp only [z84,Option.some.injEq] at hc
    subst hc
    exact ⟨rfl,fun i y hy=>by simp at hy⟩
  | n+1,cs,l,xs,hm,hc,hv=>by
    simp only [z84] at hc
    split at hc
    · rename_i y r hy hr
      simp only [Option.some.injEq] at hc
      subst hc
      obtain ⟨h2,h3⟩:=z63 hz hks h1 (n:=n) (cs:=z7k cs sz) (xs:=xs.drop sz) (fun v hv=>by rw [z38] at hv; exact hm v (List.mem_of_mem_drop hv)) hr (by rw [z38]; exact hv.drop sz)
      refine ⟨by simp [h2],fun i y' hy'=>?_⟩
      cases i with
      | zero=>
        simp only [List.getElem?_cons_zero,Option.some.injEq] at hy'
        subst hy'
        cases ag with
        | true=>
          simp only [z65] at hy
          split at hy
          · rename_i ys hys
            simp only [Option.some.injEq] at hy
            subst hy
            have hvt:VRels γ st.o w (z02 X γ st.o) (z9s cs sz) (xs.take sz):=by rw [z5m]; exact hv.take sz
            obtain ⟨h4,h5,h6⟩:=z4l hz (fun v hv=>by rw [z5m] at hv; exact hm v (List.mem_of_mem_take hv)) hys hvt
            rw [Kd.RelAll_iff]
            intro j k hj
            obtain ⟨y,u,h7,h8,h9⟩:=h6 j k hj
            refine ⟨u,?_,?_⟩
            · rw [List.getElem?_take] at h8
              split at h8
              · simpa using h8
              · cases h8
            · simp only [z13,IV.cell,Nat.zero_add,z7a,h7,Option.getD_some]
              exact h9
          · cases hy
        | false=>
          have hsz:=h1 rfl
          simp only [z65] at hy
          split at hy
          · rename_i y1 ys hys
            simp only [Option.some.injEq] at hy
            subst hy
            cases cs with
            | nil=>
              simp only [zlk] at hys
              cases ks with
              | nil=>simp only [z18] at hys; cases hys
              | cons k r=>simp only [z18] at hys; cases k <;> simp only [z45] at hys <;> cases hys
            | cons c0 cr=>
              cases xs with
              | nil=>simp only [VRels] at hv
              | cons x0 xr=>
                simp only [zlk] at hys
                simp only [VRels] at hv
                have hv0:VRels γ st.o w (z02 X γ st.o) [c0] [x0]:=by simp only [VRels,and_true]; exact hv.1
                obtain ⟨h4,h5,h6⟩:=z4l hz (fun v hv=>by simp at hv; subst hv; exact hm v (by simp)) hys hv0
                rw [Kd.RelAll_iff]
                intro j k hj
                obtain ⟨y,u,h7,h8,h9⟩:=h6 j k hj
                have hj0:j=0:=by
                  rcases Nat.eq_zero_or_pos j with h0 | h0
                  · exact h0
                  · rw [List.getElem?_eq_none (by simp; omega)] at h8; cases h8
                subst hj0
                refine ⟨u,by simpa using h8,?_⟩
                simp only [z13]
                simp only [List.getElem?_cons_zero,Option.some.injEq] at h7
                rw [h7]
                exact h9
          · cases hy
      | succ i=>
        have:=h3 i y' (by simpa using hy')
        refine Kd.RelAll.mono (Keep.refl _ w) (fun _ _ h=>h) (fun j u hu=>?_) this
        rw [List.getElem?_drop] at hu
        rw [← hu]
        congr 1
        rw [Nat.add_mul]
        omega
    · cases hc
end
open Go Go.RowKit
theorem z0n (s:St):∀ (a b:List Upd),s.ups (a++b)=(s.ups a).ups b
  | [],b=>rfl
  | u :: r,b=>by simp only [List.cons_append,St.ups]; exact z0n (s.up u) r b
theorem z3a (z:List V):∀ n,(z4b z n).length=n*z.length
  | 0=>by simp [z4b]
  | n+1=>by simp [z4b,z3a z n,Nat.add_mul]; omega
theorem zc0 (z:List V):∀ (n j:Nat),j < n*z.length→(z4b z n)[j]?=z[j % z.length]?
  | 0,j,h=>by omega
  | n+1,j,h=>by
    simp only [z4b]
    rw [List.getElem?_append]
    split
    · rename_i hj
      rw [Nat.mod_eq_of_lt hj]
    · rename_i hj
      rw [Nat.succ_mul] at h
      rw [zc0 z n (j - z.length) (by omega)]
      congr 1
      exact (Nat.mod_eq_sub_mod (by omega)).symm
section
variable {B:BT} {nt:Nat} {w0:World} {X:Zone} {γ:Nat→Value} {st st':St} {a:Act} {w:World} {P:Program} {E:Env}
theorem zjw {o:Store} {O:Nat→Prop} {z:List V} {zc:Array Value} (h:VRels γ o w O z zc.toList) (n:Nat):VRels γ o w O (z4b z n) ((Array.range (n*zc.size)).map (zc[· % zc.size]!)).toList:=by
  have hl:=h.length
  simp only [Array.length_toList] at hl
  refine VRels.of_get (by simp [z3a,hl]) (fun j v x h1 h2=>?_)
  have hj:j < n*z.length:=by
    rcases Nat.lt_or_ge j (n*z.length) with h' | h'
    · exact h'
    · rw [List.getElem?_eq_none (by rw [z3a]; exact h')] at h1; cases h1
  rw [zc0 z n j hj] at h1
  have hj2:j < n*zc.size:=by rw [← hl]; exact hj
  have hpos:0 < zc.size:=by
    rcases Nat.eq_zero_or_pos zc.size with h0 | h0
    · rw [h0] at hj2; omega
    · exact h0
  have hm:j % zc.size < zc.size:=Nat.mod_lt _ hpos
  simp [hj2] at h2
  rw [hl] at h1
  refine h.get' h1 ?_
  rw [← h2]
  simp [hm]
theorem zet (hT:TiOK P B E) (h:Rel B nt w0 X γ st a w) (o:Oper) (hd9:∀ d,o.dst=some d→d≠900000) {t len:Nat} {parts:Array (Nat × Operand)} (ho:o.op = .buildSlice t len parts) {v:V} {us:List Upd}
    (he:(z0r E st.o (opd st) o.dst o.op).get=some (v,us)):OpWp P B nt w0 X a w o st v us:=by
  rw [ho] at he
  simp only [z0r] at he
  obtain ⟨hp1,hp2⟩:=z9p h parts.toList
  split at he
  · rename_i d e hdst hd
    split at he
    · rename_i cs hf
      split at he
      · rename_i l hc
        obtain ⟨hk,he⟩:=T.get_when he
        simp only [T.get,Option.some.injEq,Prod.mk.injEq] at he
        obtain ⟨rfl,rfl⟩:=he
        simp only [Bool.and_eq_true] at hk
        have hpos:=Nat.le_of_ble_eq_true hk.1
        have he6:e < 1000000:=Nat.le_of_ble_eq_true hk.2.1
        have h24:=Nat.le_of_ble_eq_true hk.2.2
        have hs:=hT.size (t:=e) hpos
        obtain ⟨i,z,hi,hz,hzs,hsz,_,hzr⟩:=z27 hs
        obtain ⟨dd,hd1,_,hd2⟩:=(hT.desc (t:=t) (by rw [hd]; simp)).und
        rw [hd] at hd2
        subst hd2
        obtain ⟨xs,hx1,hx2⟩:=zav h (pm:=fun j=>some (j*(E.tyd e).size,(E.tyd e).size)) (fun _ _ h=>h) (zjw (hzr γ st.o w (z02 X γ st.o)) len) hp1 hp2 hf
        have hz':=Frz.of h cs
        obtain ⟨hl,hr⟩:=z63 hz' hs.ks (fun ha=>hs.one ha) (fun v hv=>hv) hc hx2
        have hxl:=hx2.length
        have hcsl:cs.length=len*(E.tyd e).size:=by
          have:∀ {p:Nat→Option (Nat × Nat)} {q:List (Nat × V)} {c c':List V},z70 st.o p c q=some c'→c'.length=c.length:=by
            intro p q
            induction q with
            | nil=>intro c c' h; simp only [z70,Option.some.injEq] at h; rw [h]
            | cons y r ih=>
              intro c c' h
              obtain ⟨i,v⟩:=y
              simp only [z70] at h
              split at h
              · split at h
                · rename_i hb
                  simp only [Bool.and_eq_true] at hb
                  have h1:=z0f.1 hb.2.1
                  have h2:=Nat.le_of_ble_eq_true hb.2.2
                  rw [ih h,zbv _ _ _ (by omega)]
                  simp
                  omega
                · cases h
              · cases h
          rw [this hf,z3a]
          congr 1
          have:=(hzr γ st.o w (z02 X γ st.o)).length
          rw [this,← hzs]
          simp
        have hrun:(execOp a.eval o).run P w = .ok (.value (.slice (some ⟨w.heap.size,0,none⟩) len len)) (w.alloc (.cells xs e)):=by
          unfold execOp
          have hsm:¬ len*(E.tyd e).size > 2 ^ 24:=by omega
          have hx1':Instr.fill (fun j=>some (j*(E.tyd e).size,(E.tyd e).size)) ((Array.range (len*(E.tyd e).size)).map (z.cells[· % z.cells.size]!)) (parts.map fun (i,x)=>(i,a.eval x)).toList=some xs:=by
            rw [Array.toList_map,← hzs]
            rw [← hzs] at hx1
            exact hx1
          by_cases h0:len*(E.tyd e).size=0
          · have e0:(Array.range (len*(E.tyd e).size)).map (z.cells[· % z.cells.size]!)=(Array.range (len*(E.tyd e).size)).map ((#[]:Array Value)[· % (#[]:Array Value).size]!):=by
              rw [h0]; simp
            rw [e0] at hx1'
            simp [ho,Instr.buildSlice,run_underlying hd1,z1q hs,h0,newRow] at hx1' ⊢
            rw [hx1']
            rfl
          · have hb:=run_buildSlice (P:=P) w t e len (parts.map fun (i,x)=>(i,a.eval x)) xs i z hd1 hi hz (by rw [hsz]; exact hsm) (by rw [hsz]; exact h0) (by rw [hsz]; exact hx1')
            simp only [ho,Sem.run_bind,hb,Result.andThen_ok,Sem.run_pure]
        have hn:=Rel.new hz'.rel [] d (hd9 d hdst) (.row true e (E.tyd e).agg (E.tyd e).ks l) (.slice (some ⟨w.heap.size,0,none⟩) len len) (w':=w.alloc (.cells xs e)) (Keep.alloc _ w _)
          (by
            intro b hb
            simp only [z04,Value.ownBlock,Option.some.injEq] at hb
            subst hb
            exact ⟨by simp,.inl (Nat.le_refl _)⟩)
          (by
            intro O' hO hcmp
            simp only [ObRel]
            refine ⟨by rw [hs.ks]; exact hpos,by rw [hl]; unfold strMax; have:=Nat.le_mul_of_pos_right len hpos; omega,xs.toList,?_,fun i y hy=>?_⟩
            · rw [hl,hs.ks]
              refine ⟨by rw [← hxl,hcsl],.inr ⟨w.heap.size,len,xs,e,(0,0),rfl,heap_alloc_new w _,Nat.le_refl _,?_,?_,?_,.inl ⟨he6,rfl,rfl⟩⟩⟩
              · unfold maxLen; have:=Nat.le_mul_of_pos_right len hpos; omega
              · rw [← hcsl,hxl]; simp
              · exact List.take_of_length_le (by rw [← hcsl,hxl]; exact Nat.le_refl _)
            · rw [hs.ks]
              exact Kd.RelAll.mono (Keep.alloc _ w _) hO (fun _ _ h=>h) (hr i y hy))
        refine OpWp.value (γ':=_) hrun (by rw [z0n]; exact hn) ?_
        rw [z0n]
        simp only [St.ups,VRel,z03,if_true,z17]
        refine ⟨by omega,_,len,len,_,rfl,by simp,Nat.zero_le _,Nat.le_refl _,Nat.le_refl _,?_,.inl ?_,fun _=>rfl⟩
        · unfold maxLen; have:=Nat.le_mul_of_pos_right len hpos; omega
        · simp [Addr.add]
      · simp [T.get] at he
    · simp [T.get] at he
  · simp [T.get] at he
theorem z7d (P:Program) (g o:Nat) (t:TypeId) (fr:Nat × Nat):∀ (vs:List Value) (i:Nat) (cur:Array Value) (w:World),w.heap[g]?=some (.cells cur t fr)→o+i+vs.length≤cur.size →
    (∀ j,j < cur.size→¬ (fr.1≤j∧j < fr.2))→(∀ v∈vs,v.oneCell'=true) →
    (storeCells ⟨g,o,none⟩ vs i).run P w = .ok () (w.setRow g (cur.toList.take (o+i)++vs++cur.toList.drop (o+i+vs.length)).toArray)
  | [],i,cur,w,hg,_,_,_=>by
    simp only [storeCells,List.append_nil,List.length_nil,Nat.add_zero,List.take_append_drop,Array.toArray_toList]
    rw [setRow_self w g cur t fr hg]
    rfl
  | v :: rest,i,cur,w,hg,hl,hf,h1=>by
    have hi:o+i < cur.size:=by simp at hl; omega
    have hcell:w.cell? ⟨g,o+i,none⟩=some cur[o+i]:=by simp [World.cell?,hg,hi]
    have hfro:w.frozen? ⟨g,o+i,none⟩=false:=by
      have:=hf (o+i) hi
      simp only [World.frozen?,hg]
      simpa using this
    have hst:(store ((⟨g,o,none⟩:Addr).add i) v).run P w = .ok () (w.setRow g (cur.setIfInBounds (o+i) v)):=by
      rw [Addr.add_mid,run_store P w _ v _ (h1 v (by simp)),hcell]
      simp [hfro,setCell_eq_setRow w g (o+i) cur t fr v hg]
    have ih:=z7d P g o t fr rest (i+1) (cur.setIfInBounds (o+i) v) (w.setRow g (cur.setIfInBounds (o+i) v)) (setRow_heap w g cur _ t _ hg) (by simp at hl ⊢; omega) (by simpa using hf) (fun x hx=>h1 x (by simp [hx]))
    simp only [storeCells,Sem.run_bind,hst,Result.andThen_ok,ih,setRow_setRow]
    congr 3
    have e:=list_seg_step cur.toList (o+i) v rest (by simp at hl ⊢; omega)
    simpa [Array.toList_setIfInBounds,Nat.add_assoc] using e
theorem zca (w:World) {b c:Nat} {xs:Array Value} {T:Nat} {fr:Nat × Nat} (hh:w.heap[b]?=some (.cells xs T fr)) (hf:∀ j,j < xs.size→¬ (fr.1≤j∧j < fr.2)) {t:Nat} (hs:TISnd P B t (E.tyd t)) {v:Value}
    (hsz:v.cells.size=(E.tyd t).size) (hle:c+v.cells.size≤xs.size) (h1:∀ u∈v.cells.toList,u.oneCell'=true) :
    (Instr.storeAt t (.pointer (some ⟨b,c,none⟩)) v).run P w = .ok () (w.setRow b (xs.toList.take c++v.cells.toList++xs.toList.drop (c+v.cells.size)).toArray):=by
  have hst:=z7d P b c T fr v.cells.toList 0 xs w hh (by simpa using hle) hf h1
  simp only [Nat.add_zero,Array.length_toList] at hst
  simp [Instr.storeAt,Instr.sureAddr,storeVar,z1q hs,hsz,hst]
theorem zbw {cs vs:List V} {n:Nat} (h:n+vs.length≤cs.length):(z6t cs n vs).length=cs.length:=by
  rw [zbv cs n vs h]
  simp
  omega
theorem ziy:∀ (l:List Kd) (n:Nat),z6h.takeK l n=l.take n
  | l,0=>by cases l <;> simp [z6h.takeK]
  | [],n+1=>by simp [z6h.takeK]
  | x :: r,n+1=>by simp [z6h.takeK,ziy r n]
theorem zi4:∀ (l:List Kd) (n:Nat),z6h.dropK l n=l.drop n
  | l,0=>by cases l <;> simp [z6h.dropK]
  | [],n+1=>by simp [z6h.dropK]
  | x :: r,n+1=>by simp [z6h.dropK,zi4 r n]
theorem zfu (h:Rel B nt w0 X γ st a w) (ns:List Nat) {m:Nat} (hm:m ∉ ns):z01 (st.ups (z06 st.o ns)).o m=z01 st.o m:=
  (z0z st.o ns (FrzLe.refl _) h).2.2.2.2 m hm
theorem znw {O:Nat→Prop} {ag:Bool} {ks:List Kd} {l:List IV} {xs:List Value} (_:0 < ks.length) (hag:ag=false→ks.length=1) (hr:∀ i y,l[i]?=some y→Kd.RelAll w O ks (z13 ag y) 0 (fun j u=>xs[i*ks.length+j]?=some u))
    (hx:xs.length=l.length*ks.length) {i c:Nat} (hi:i < l.length) {ys:List IV} {us:List Value} (hc:c+us.length≤ks.length) (hy:ys.length=us.length) (hpos:0 < us.length)
    (hw:∀ j k,j < us.length→ks[c+j]?=some k→∃ y u,ys[j]?=some y∧us[j]?=some u∧Kd.Rel w O k y u) :
    ∀ i' y,(l.set i (zju ag ks (l.getD i default) c ys))[i']?=some y →
      Kd.RelAll w O ks (z13 ag y) 0 (fun j u=>(xs.take (i*ks.length+c)++us++xs.drop (i*ks.length+c+us.length))[i'*ks.length+j]?=some u):=by
  intro i' y hy'
  have hle:i*ks.length+ks.length≤xs.length:=by
    rw [hx,← Nat.succ_mul]
    exact Nat.mul_le_mul_right _ hi
  have hget:∀ p,(xs.take (i*ks.length+c)++us++xs.drop (i*ks.length+c+us.length))[p]?=if i*ks.length+c≤p∧p < i*ks.length+c+us.length then us[p - (i*ks.length+c)]? else xs[p]?:=by
    intro p
    rw [List.getElem?_append]
    simp only [List.length_append,List.length_take]
    rw [Nat.min_eq_left (by omega)]
    by_cases h1:p < i*ks.length+c
    · rw [if_pos (by omega),List.getElem?_append,if_pos (by rw [List.length_take]; omega),List.getElem?_take,if_pos h1,if_neg (by omega)]
    · by_cases h2:p < i*ks.length+c+us.length
      · rw [if_pos h2,List.getElem?_append,if_neg (by rw [List.length_take]; omega),if_pos (by omega)]
        congr 1
        rw [List.length_take]
        omega
      · rw [if_neg h2,List.getElem?_drop,if_neg (by omega)]
        congr 1
        omega
  rw [Kd.RelAll_iff]
  intro j k hj
  have hjl:j < ks.length:=by
    rcases Nat.lt_or_ge j ks.length with h' | h'
    · exact h'
    · rw [List.getElem?_eq_none h'] at hj; cases hj
  simp only [Nat.zero_add]
  rw [List.getElem?_set] at hy'
  by_cases hii:i=i'
  · subst hii
    rw [if_pos rfl,if_pos hi,Option.some.injEq] at hy'
    subst hy'
    have hold:=hr i (l.getD i default) (by simp [List.getD,List.getElem?_eq_getElem hi])
    rw [Kd.RelAll_iff] at hold
    by_cases hin:c≤j∧j < c+us.length
    · obtain ⟨y,u,h1,h2,h3⟩:=hw (j - c) k (by omega) (by rw [show c+(j - c)=j by omega]; exact hj)
      refine ⟨u,?_,?_⟩
      · rw [hget,if_pos (by omega),← h2]
        congr 1
        omega
      · cases ag with
        | true=>
          simp only [zju,z13,IV.cell,z7a,z47 _ _ _ _ hjl,Nat.zero_add,Option.getD_some]
          have hb:(Nat.ble c j&&Nat.blt j (c+ys.length))=true:=by
            simp only [Bool.and_eq_true]
            exact ⟨Nat.ble_eq_true_of_le hin.1,Nat.ble_eq_true_of_le (by rw [hy]; exact hin.2)⟩
          rw [hb]
          simp only [h1,Option.getD_some]
          exact h3
        | false=>
          have h10:=hag rfl
          have hj0:j=0:=by omega
          have hc0:c=0:=by omega
          subst hj0
          subst hc0
          simp only [zju,z13,z7a]
          simp only [Nat.sub_zero] at h1
          rw [h1]
          exact h3
    · obtain ⟨u,h1,h2⟩:=hold j k hj
      simp only [Nat.zero_add] at h1 h2
      refine ⟨u,?_,?_⟩
      · rw [hget,if_neg (by omega)]
        exact h1
      · cases ag with
        | true=>
          simp only [zju,z13,IV.cell,z7a,z47 _ _ _ _ hjl,Nat.zero_add,Option.getD_some]
          have hb:(Nat.ble c j&&Nat.blt j (c+ys.length))=false:=by
            rw [Bool.and_eq_false_iff]
            by_cases h3:c≤j
            · right
              cases h4:Nat.blt j (c+ys.length) with
              | false=>rfl
              | true=>have:=Nat.le_of_ble_eq_true h4; omega
            · left
              cases h4:Nat.ble c j with
              | false=>rfl
              | true=>have:=Nat.le_of_ble_eq_true h4; omega
          rw [hb]
          simp only [z13] at h2
          cases hyy:l.getD i default with
          | agg q=>rw [hyy] at h2; simpa [IV.cell,z7a] using h2
          | int q=>rw [hyy] at h2; simpa [IV.cell,z7a] using h2
          | bool q=>rw [hyy] at h2; simpa [IV.cell,z7a] using h2
          | str q=>rw [hyy] at h2; simpa [IV.cell,z7a] using h2
          | list q=>rw [hyy] at h2; simpa [IV.cell,z7a] using h2
        | false=>
          have h10:=hag rfl
          exfalso
          omega
  · rw [if_neg hii] at hy'
    have hold:=hr i' y hy'
    rw [Kd.RelAll_iff] at hold
    obtain ⟨u,h1,h2⟩:=hold j k hj
    simp only [Nat.zero_add] at h1 h2
    refine ⟨u,?_,h2⟩
    rw [hget,if_neg]
    · exact h1
    · rcases Nat.lt_or_gt_of_ne hii with h3 | h3
      · have:i*ks.length+ks.length≤i'*ks.length:=by rw [← Nat.succ_mul]; exact Nat.mul_le_mul_right _ h3
        omega
      · have:i'*ks.length+ks.length≤i*ks.length:=by rw [← Nat.succ_mul]; exact Nat.mul_le_mul_right _ h3
        omega
end
open Go Go.RowKit
theorem zmq {α:Type} (cs U:List α) (A n:Nat) (h1:A+U.length≤n) (h2:n≤cs.length):(cs.take A++U++cs.drop (A+U.length)).take n=(cs.take n).take A++U++(cs.take n).drop (A+U.length):=by
  have e1:(cs.take n).take A=cs.take A:=by rw [List.take_take,Nat.min_eq_left (by omega)]
  have e2:(cs.take n).drop (A+U.length)=(cs.drop (A+U.length)).take (n - (A+U.length)):=by rw [List.drop_take]
  have e3:(cs.take A++U).length=A+U.length:=by rw [List.length_append,List.length_take,Nat.min_eq_left (by omega)]
  rw [e1,e2,List.take_append,e3,List.take_of_length_le (by rw [e3]; exact h1)]
section
variable {B:BT} {nt:Nat} {w0:World} {X:Zone} {γ:Nat→Value} {st st':St} {a:Act} {w:World} {P:Program} {E:Env}
theorem zmn (hT:TiOK P B E) (h:Rel B nt w0 X γ st a w) (o:Oper) {t:Nat} {p x:Operand} (ho:o.op = .store t p x) {v:V} {us:List Upd}
    (he:(z0r E st.o (opd st) o.dst o.op).get=some (v,us)):OpWp P B nt w0 X a w o st v us:=by
  have hp:=z0d h p
  have hx:=z0d h x
  rw [ho] at he
  simp only [z0r,z6h] at he
  have hrun:∀ w',(Instr.storeAt t (a.eval p) (a.eval x)).run P w = .ok () w'→(execOp a.eval o).run P w = .ok .skip w':=fun w' hy=>by
    unfold execOp
    simp only [ho,Sem.run_bind,hy,Result.andThen_ok,Sem.run_pure]
  split at he
  · rename_i n i c hop
    rw [hop] at hp
    simp only [VRel] at hp
    split at he
    · rename_i cs hob
      rw [hob] at hp
      obtain ⟨rfl,b,hg,hpv⟩:=hp
      split at he
      · rename_i hc
        obtain ⟨hk,he⟩:=T.get_when he
        simp only [T.get,Option.some.injEq,Prod.mk.injEq] at he
        obtain ⟨rfl,rfl⟩:=he
        simp only [Bool.and_eq_true] at hc hk
        have h1:=Nat.le_of_ble_eq_true hc.1
        have h2:=z0f.1 hc.2.1
        have hs:=hT.size (Nat.le_of_ble_eq_true hk.2.2)
        have hcr:=z8h h hx hk.1
        have hone:=z8g h hcr hk.2.1
        have hlen:=hcr.length
        have hor:=h.ob n _ hob
        simp only [ObRel] at hor
        obtain ⟨b',xs,T,hg',hh,hr⟩:=hor
        rw [hg] at hg'
        simp only [Value.pointer.injEq,Option.some.injEq,Addr.mk.injEq,and_true] at hg'
        subst hg'
        have hrl:=hr.length
        have hsz:(a.eval x).cells.size=(E.tyd t).size:=by rw [← h2,hlen]; simp
        have hst:=zca w (P:=P) (B:=B) (E:=E) (c:=c) hh (fun j _=>by simp) hs hsz (by simp at hrl; omega) hone
        rw [hpv] at hrun
        refine OpWp.skip (hrun _ hst) (γ':=γ) ?_
        simp only [St.ups]
        refine h.set hob (by simp only [Ob.fits]; rw [zbw (by omega)]) (Keep.setRow w b _ ⟨_,hg,rfl⟩) (fun b' hb=>hb) (fun hown hcmp=>?_)
        simp only [ObRel]
        refine ⟨b,_,T,hg,setRow_heap w b xs _ T (0,0) hh,?_⟩
        have hk':Keep (z02 X γ st.o) w (w.setRow b (xs.toList.take c++(a.eval x).cells.toList++xs.toList.drop (c+(a.eval x).cells.size)).toArray):=
          Keep.setRow w b _ (.inl ⟨n,_,hob,⟨_,hg,rfl⟩⟩)
        refine VRels.mono hk' (fun b _ hb=>hown b hb) (VRels.cmp hcmp ?_)
        have:=hr.put hcr (n:=c) (by omega)
        simpa using this
      · simp [T.get] at he
    · rename_i e ag ks l hob
      rw [hob] at hp
      obtain ⟨hi,b,off,len,cap,hg,hpv⟩:=hp
      split at he
      · rename_i hc
        split at he
        · rename_i vs hvs
          obtain ⟨hk,he⟩:=T.get_when he
          simp only [T.get,Option.some.injEq,Prod.mk.injEq] at he
          obtain ⟨rfl,rfl⟩:=he
          simp only [Bool.and_eq_true] at hc hk
          obtain ⟨⟨⟨hk1,hk2,hk3⟩,hk4⟩,hk5⟩:=hk
          have h1:=Nat.le_of_ble_eq_true hc.1
          have h2:=z0f.1 hc.2
          have hpos:=Nat.le_of_ble_eq_true hk3
          have hs:=hT.size hpos
          have hcr:=z8h h hx hk1
          have hone:=z8g h hcr hk2
          have hlen:=hcr.length
          have hsz:(a.eval x).cells.size=(E.tyd t).size:=by rw [← h2,hlen]; simp
          have hz:=Frz.of h (cells (opd st x))
          have hnm:n ∉ z0c (cells (opd st x)):=by
            intro hm
            rw [z8e.2 hm] at hk4
            simp at hk4
          have hob':z01 (st.ups (z06 st.o (z0c (cells (opd st x))))).o n=some (.row true e ag ks l):=by
            rw [zfu h _ hnm]; exact hob
          rw [ziy,zi4] at hvs
          obtain ⟨hl1,hl2,hl3⟩:=z4l hz (fun v hv=>hv) hvs hcr
          have hkl:((ks.drop c).take (E.tyd t).size).length=(E.tyd t).size:=by rw [List.length_take,List.length_drop]; omega
          rw [hkl] at hl1 hl2
          have hor:=hz.rel.ob n _ hob'
          simp only [ObRel] at hor
          obtain ⟨hkp,hstr,xs,hxs,hr⟩:=hor
          rcases hxs.2 with ⟨h3,h4⟩ | ⟨g,cap',cur,T,fr,h3,h4,h5,h6,h7,h8,h9⟩
          · rw [hg] at h3; simp at h3
          rw [hg] at h3
          simp only [Value.slice.injEq,Option.some.injEq,Addr.mk.injEq,and_true] at h3
          obtain ⟨⟨rfl,rfl⟩,rfl,rfl⟩:=h3
          have hxl:=hxs.1
          have hfrz:∀ j,j < cur.size→¬ (fr.1≤j∧j < fr.2):=by
            intro j hj
            rcases h9 with ⟨_,_,rfl⟩ | ⟨_,h9⟩
            · simp
            · omega
          have hbnd:i*ks.length+ks.length≤cur.size:=by
            have e1:(i+1)*ks.length≤cap*ks.length:=Nat.mul_le_mul_right _ (by omega)
            rw [Nat.succ_mul] at e1
            omega
          have hst:=zca w (P:=P) (B:=B) (E:=E) (c:=0+i*ks.length+c) h4 hfrz hs hsz (by omega) hone
          rw [hpv] at hrun
          refine OpWp.skip (hrun _ hst) (γ':=γ) ?_
          rw [z0n]
          simp only [St.ups]
          refine hz.rel.set (ob':=.row true e ag ks (l.set i (zju ag ks (l.getD i default) c vs))) hob' ⟨rfl,by simp⟩ (Keep.setRow w b _ (by show (γ n).ownBlock=some b; rw [hg]; rfl)) (fun b' hb=>hb) (fun hown hcmp=>?_)
          simp only [ObRel]
          refine ⟨hkp,by simpa using hstr,xs.take (i*ks.length+c)++(a.eval x).cells.toList++xs.drop (i*ks.length+c+(a.eval x).cells.toList.length),?_,?_⟩
          · refine ⟨by simp only [List.length_append,List.length_take,List.length_drop,List.length_set,Array.length_toList]; rw [hsz]; have e1:(i+1)*ks.length≤l.length*ks.length:=Nat.mul_le_mul_right _ hi; rw [Nat.succ_mul] at e1; omega,?_⟩
            right
            refine ⟨b,cap,_,T,fr,by rw [hg]; simp,setRow_heap w b cur _ T fr h4,by simpa using h5,h6,?_,?_,?_⟩
            · simp only [List.size_toArray,List.length_append,List.length_take,List.length_drop,Array.length_toList]
              rw [hsz]
              omega
            · simp only [List.length_set,Nat.zero_add,Array.length_toList]
              rw [← h8]
              have e1:(i+1)*ks.length≤l.length*ks.length:=Nat.mul_le_mul_right _ hi
              rw [Nat.succ_mul] at e1
              have e2:l.length*ks.length≤cur.size:=by rw [h7]; exact Nat.mul_le_mul_right _ h5
              have hcl:(a.eval x).cells.toList.length=(a.eval x).cells.size:=by simp
              rw [← hcl]
              exact zmq cur.toList _ _ _ (by rw [hcl,hsz]; omega) (by simpa using e2)
            · rcases h9 with ⟨q1,q2,q3⟩ | ⟨q1,q2⟩
              · exact .inl ⟨q1,q2,q3⟩
              · refine .inr ⟨q1,?_⟩
                simp only [List.size_toArray,List.length_append,List.length_take,List.length_drop,Array.length_toList]
                rw [hsz]
                omega
          · have hk':Keep (z02 X γ (st.ups (z06 st.o (z0c (cells (opd st x))))).o) w (w.setRow b (cur.toList.take (0+i*ks.length+c)++(a.eval x).cells.toList++cur.toList.drop (0+i*ks.length+c+(a.eval x).cells.size)).toArray):=
              Keep.setRow w b _ (.inl ⟨n,_,hob',by show (γ n).ownBlock=some b; rw [hg]; rfl⟩)
            intro i' y hy
            refine Kd.RelAll.mono hk' (fun b _ hb=>hown b hb) (fun _ _ h=>h) ?_
            refine znw hkp (fun hag=>?_) hr hxl hi (ys:=vs) (us:=(a.eval x).cells.toList) (c:=c) (by rw [hl2]; exact h1) (by rw [hl1,hl2]) (by rw [hl2]; exact hpos) (fun j k hj hjk=>?_) i' y hy
            · rw [hag] at hk5
              simpa using z0f.1 (by simpa using hk5)
            · refine hl3 j k ?_
              rw [List.getElem?_take,if_pos (by rw [hl2] at hj; exact hj),List.getElem?_drop]
              exact hjk
        · simp [T.get] at he
      · simp [T.get] at he
    · simp [T.get] at he
  · simp [T.get] at he
theorem zgc (hT:TiOK P B E) (h:Rel B nt w0 X γ st a w) (o:Oper) (hd9:∀ d,o.dst=some d→d≠900000) {t:Nat} {n m:Operand} (ho:o.op = .makeSlice t n m) {v:V} {us:List Upd}
    (he:(z0r E st.o (opd st) o.dst o.op).get=some (v,us)):OpWp P B nt w0 X a w o st v us:=by
  have hn:=z0d h n
  have hm:=z0d h m
  rw [ho] at he
  simp only [z0r] at he
  split at he
  · rename_i d e k1 n1 k2 m1 hdst hd hn1 hm1
    rw [hn1] at hn
    rw [hm1] at hm
    simp only [VRel] at hn hm
    split at he
    · rename_i z zr hc
      obtain ⟨hk,he⟩:=T.get_when he
      simp only [T.get,Option.some.injEq,Prod.mk.injEq] at he
      obtain ⟨rfl,rfl⟩:=he
      simp only [Bool.and_eq_true,decide_eq_true_eq] at hk
      obtain ⟨⟨hk1,hk2,h0⟩,hnm,hbd⟩:=hk
      subst hnm
      have hpos:=Nat.le_of_ble_eq_true hk1
      have he6:e < 1000000:=Nat.le_of_ble_eq_true hk2
      have hs:=hT.size (t:=e) hpos
      have hb1:=hs.by1
      obtain ⟨i,zv,hi,hz,hzs,hsz,hby,hzr⟩:=z27 hs
      obtain ⟨dd,hd1,_,hd2⟩:=(hT.desc (t:=t) (by rw [hd]; simp)).und
      rw [hd] at hd2
      subst hd2
      have hz':=Frz.of h (E.tyd e).zero
      obtain ⟨hl,hr⟩:=z63 hz' hs.ks (fun ha=>hs.one ha) (fun v hv=>hv) hc (hzr γ st.o w (z02 X γ st.o))
      have hr0:=hr 0 z rfl
      have hn46:n1≤70368744177664:=by
        have e1:n1*1≤n1*((E.tyd e).bytes:Int):=Int.mul_le_mul_of_nonneg_left (by omega) h0
        simp only [z0y] at hbd
        omega
      let xs:Array Value:=(Array.range (n1.toNat*zv.cells.size)).map (zv.cells[· % zv.cells.size]!)
      have hxs:xs.size=n1.toNat*(E.tyd e).size:=by simp [xs,hzs]
      have hrun:(execOp a.eval o).run P w = .ok (.value (.slice (some ⟨w.heap.size,0,none⟩) n1.toNat n1.toNat)) (w.alloc (.cells xs e)):=by
        unfold execOp
        have hw:IntKind.i64.wrap n1=n1:=by
          simp [IntKind.wrap,IntKind.signed,IntKind.bits]
          split <;> omega
        have hbig:¬ ((E.tyd e).bytes:Int)*n1 > 2 ^ 48:=by
          rw [Int.mul_comm]
          simp only [z0y] at hbd
          omega
        have hbig':¬ 281474976710656 < ((i.bytes:Nat):Int)*n1:=by rw [hby]; omega
        have hr0:∀ f:Nat→Value,(Array.range 0).map f = #[]:=fun f=>by apply Array.eq_empty_of_size_eq_zero; simp
        have hneg:¬ n1 < 0:=by omega
        have hz0:n1.toNat*(E.tyd e).size=0→xs = #[]:=fun h0=>by
          apply Array.eq_empty_of_size_eq_zero
          rw [hxs,h0]
        by_cases hzero:n1.toNat*(E.tyd e).size=0
        · simp [ho,hn.1,hm.1,Instr.makeSlice,run_underlying hd1,asInt,asIntOf,typeInfo,hi,hbig',hneg,hw,sizeOf,hsz,hzero,newRow,hz0 hzero,hr0]
        · simp [ho,hn.1,hm.1,Instr.makeSlice,run_underlying hd1,asInt,asIntOf,typeInfo,hi,hbig',hneg,hw,sizeOf,hsz,hzero,newRow,zeroValue,hz,xs,hzs]
      have hnn:=Rel.new hz'.rel [] d (hd9 d hdst) (.row true e (E.tyd e).agg (E.tyd e).ks (List.replicate n1.toNat z)) (.slice (some ⟨w.heap.size,0,none⟩) n1.toNat n1.toNat) (w':=w.alloc (.cells xs e)) (Keep.alloc _ w _)
        (by
          intro b hb
          simp only [z04,Value.ownBlock,Option.some.injEq] at hb
          subst hb
          exact ⟨by simp,.inl (Nat.le_refl _)⟩)
        (by
          intro O' hO hcmp
          simp only [ObRel]
          refine ⟨by rw [hs.ks]; exact hpos,by rw [List.length_replicate]; unfold strMax; omega,xs.toList,?_,fun i' y hy=>?_⟩
          · rw [List.length_replicate,hs.ks]
            refine ⟨by simp [hxs],.inr ⟨w.heap.size,n1.toNat,xs,e,(0,0),rfl,heap_alloc_new w _,Nat.le_refl _,by unfold maxLen; omega,hxs,?_,.inl ⟨he6,rfl,rfl⟩⟩⟩
            exact List.take_of_length_le (by rw [Array.length_toList,hxs]; exact Nat.le_refl _)
          · rw [List.getElem?_replicate] at hy
            split at hy
            · rename_i hlt
              simp only [Option.some.injEq] at hy
              subst hy
              refine Kd.RelAll.mono (Keep.alloc _ w _) hO (fun _ _ h=>h) ?_
              rw [Kd.RelAll_iff] at hr0 ⊢
              intro j k hj
              obtain ⟨u,hu,hk⟩:=hr0 j k hj
              refine ⟨u,?_,hk⟩
              have hjl:j < (E.tyd e).size:=by
                rw [← hs.ks]
                rcases Nat.lt_or_ge j (E.tyd e).ks.length with h' | h'
                · exact h'
                · rw [List.getElem?_eq_none h'] at hj; cases hj
              have hjz:j < zv.cells.size:=by rw [hzs]; exact hjl
              simp only [Nat.zero_add,Nat.zero_mul,Array.getElem?_toList] at hu ⊢
              rw [hs.ks]
              have hbnd:i'*(E.tyd e).size+j < n1.toNat*zv.cells.size:=by
                rw [hzs]
                have e1:(i'+1)*(E.tyd e).size≤n1.toNat*(E.tyd e).size:=Nat.mul_le_mul_right _ hlt
                rw [Nat.succ_mul] at e1
                omega
              have hmod:(i'*(E.tyd e).size+j) % zv.cells.size=j:=by
                rw [hzs,Nat.mul_comm,Nat.mul_add_mod,Nat.mod_eq_of_lt hjl]
              simp only [xs,Array.getElem?_map]
              simp [hbnd,hmod]
              rw [getElem!_pos zv.cells j hjz]
              simpa [hjz] using hu
            · cases hy)
      refine OpWp.value (γ':=_) hrun (by rw [z0n]; exact hnn) ?_
      rw [z0n]
      simp only [St.ups,VRel,z03,if_true,z17]
      refine ⟨by simp,_,n1.toNat,n1.toNat,_,rfl,by simp,Nat.zero_le _,Nat.le_refl _,Nat.le_refl _,by unfold maxLen; omega,.inl ?_,fun _=>rfl⟩
      simp [Addr.add]
    · simp [T.get] at he
  · simp [T.get] at he
end
open Go Go.RowKit
theorem zct {P:Program} (w:World) (t ty e:TypeId) (i:TypeInfo) (z:Value) (size bytes:Nat) (ht:P.underlying t=some (.slice e)) (hi:P.info? e=some i) (hz:i.zero=some z)
    (hsize:i.size=size) (hby:i.bytes=bytes) (hzs:z.cells.size=size) (hsz:0 < size)
    (v:Value) (n:Nat) (xs:List Value) (hown:w.ownsRow 0 e size v n xs)
    (a:Addr) (m c:Nat) (news:List Value) (hl:news.length=m*size) (hnews:∀ j u,news[j]?=some u→w.cell? (a.add j)=some u) (h1:∀ u∈news,u.oneCell'=true)
    (h63:n+m≤maxLen) (hbytes:(n+m)*bytes≤140737488355328) :
    ∃ v' w',(Builtin.append_ #[t,t] ty #[v,.slice (some a) m c]).run P w = .ok v' w'∧w'.ownsRow 0 e size v' (n+m) (xs++news)∧w.grownBy w' v.ownBlock ∧
      (∀ b,v'.ownBlock=some b→v.ownBlock=some b∨b=w.heap.size):=by
  subst hsize
  subst hby
  have hsmall:n+m≤9223372036854775807:=by simp only [maxLen] at h63; omega
  have hlen:(xs++news).length=(n+m)*i.size:=by rw [List.length_append,hown.1,hl,Nat.add_mul]
  have grown:∀ (old:Nat),old < n+m→∀ (row:Option Nat),
      (w.drew.alloc (.cells (xs.toArray++news.toArray++Builtin.zeroCells z.cells (grownCap w (n+m) old e - (n+m))) e)).ownsRow 0 e i.size
        (.slice (some ⟨w.heap.size,0,none⟩) (n+m) (grownCap w (n+m) old e)) (n+m) (xs++news) ∧
      w.grownBy (w.drew.alloc (.cells (xs.toArray++news.toArray++Builtin.zeroCells z.cells (grownCap w (n+m) old e - (n+m))) e)) row:=by
    intro old ho row
    have hge:=grownCap_ge w (n+m) old e
    have hcm:grownCap w (n+m) old e≤maxLen:=grownCap_le_maxLen w (n+m) old e h63
    refine ⟨⟨hlen,.inr ⟨w.heap.size,_,_,rfl,Nat.zero_le _,heap_alloc_new w.drew _,hge,hcm,?_,?_⟩⟩,⟨rfl,rfl,rfl,by simp,fun k hk _=>@heap_alloc_old w.drew _ k hk⟩⟩
    · simp only [Array.size_append,List.size_toArray,size_zeroCells,hzs,hown.1,hl,← Nat.add_mul]
      congr 1
      omega
    · simp only [Array.toList_append,List.append_assoc]
      rw [← List.append_assoc,← hlen]
      exact List.take_left
  have hnb:∀ {len cap b:Nat},(Value.slice (some ⟨w.heap.size,0,none⟩) len cap).ownBlock=some b→b=w.heap.size:=fun h=>by
    simp only [Value.ownBlock,Option.some.injEq] at h
    exact h.symm
  rcases hown.2 with ⟨rfl,rfl⟩ | ⟨g,cap,cur,rfl,hbg,hg,hnc,hcm,hcs,htake⟩
  · have hx:xs=[]:=List.eq_nil_of_length_eq_zero (by simpa using hown.1)
    subst hx
    by_cases hm:m=0
    · subst hm
      have hn:news=[]:=List.eq_nil_of_length_eq_zero (by simpa using hl)
      subst hn
      refine ⟨.slice none 0 0,w,?_,World.ownsRow_nil w 0 e i.size,⟨rfl,rfl,rfl,Nat.le_refl _,fun _ _ _=>rfl⟩,fun b hb=>.inl hb⟩
      simp [Builtin.append_,run_underlying ht,Go.sizeOf,typeInfo,hi,Builtin.lenOf,Builtin.firstCells,loadCells,loadCellsFrom]
    · have hr:=run_append_nil (P:=P) w t ty e i z ht hi hz a m c news hl hnews (by omega) (by omega) (by have hb:=hbytes; simp only [Nat.zero_add] at hb; omega)
      have hgr:=grown 0 (by omega) (Value.ownBlock (.slice none 0 0))
      simp only [Nat.zero_add,List.nil_append,Array.empty_append] at hgr ⊢
      exact ⟨_,_,hr,hgr.1,hgr.2,fun b hb=>.inr (hnb hb)⟩
  · by_cases hroom:n+m≤cap
    · have hfit:n*i.size+news.length≤cur.size:=by rw [hl,hcs,← Nat.add_mul]; exact Nat.mul_le_mul_right _ hroom
      have hr:=run_append_room (P:=P) w t ty e i ht hi g n cap cur hg a m c news hl hnews h1 hroom hfit
      refine ⟨_,_,hr,⟨hlen,.inr ⟨g,cap,_,rfl,hbg,setRow_heap w g cur _ e _ hg,hroom,hcm,?_,?_⟩⟩,⟨rfl,rfl,rfl,by simp,fun k _ hk=>setRow_other w g k _ (fun e=>hk (by simp [Value.ownBlock,e]))⟩,fun b hb=>.inl hb⟩
      · simp only [List.size_toArray,List.length_append,List.length_take,List.length_drop,Array.length_toList]
        omega
      · rw [htake,← hlen]
        exact List.take_left
    · have holds:∀ j u,xs[j]?=some u→w.cell? ((⟨g,0,none⟩:Addr).add j)=some u:=hown.cells (g:=g) rfl
      have hr:=run_append_grow (P:=P) w t ty e i z ht hi hz ⟨g,0,none⟩ n cap xs hown.1 holds a m c news hl hnews (by omega) (by omega) (growslice_fits (by omega) hbytes)
      have hgr:=grown cap (by omega) (Value.ownBlock (.slice (some ⟨g,0,none⟩) n cap))
      exact ⟨_,_,hr,hgr.1,hgr.2,fun b hb=>.inr (hnb hb)⟩
theorem zfb {P:Program} {t t' ty e e':TypeId} {w:World} (h:P.underlying t=some (.slice e)) (h':P.underlying t'=some (.slice e')) {q p:Option Addr} {n cap m c:Nat} :
    (Builtin.append_ #[t,t'] ty #[.slice q n cap,.slice p m c]).run P w=(Builtin.append_ #[t,t] ty #[.slice q n cap,.slice p m c]).run P w:=by
  cases hi:P.info? e <;> simp [Builtin.append_,run_underlying h,run_underlying h',Go.sizeOf,typeInfo,hi]
theorem zcf {P:Program} {w:World} {t ty e:TypeId} {i:TypeInfo} (ht:P.underlying t=some (.slice e)) (hi:P.info? e=some i) {p:Option Addr} {n cap c:Nat} (hc:n≤cap) :
    (Builtin.append_ #[t,t] ty #[.slice p n cap,.slice none 0 c]).run P w = .ok (.slice p n cap) w:=by
  cases p <;> simp [Builtin.append_,run_underlying ht,Go.sizeOf,typeInfo,hi,Builtin.lenOf,Builtin.firstCells,hc,storeCells]
theorem Kd.Rel.one {w:World} {O:Nat→Prop} {k:Kd} {x:IV} {v:Value} (h:Kd.Rel w O k x v):v.oneCell'=true:=by
  cases k with
  | int k=>simp only [Kd.Rel] at h; rw [h.1]; rfl
  | bool=>simp only [Kd.Rel] at h; rw [h]; rfl
  | str=>simp only [Kd.Rel] at h; rw [h.1]; rfl
  | list ag ks=>simp only [Kd.Rel] at h; obtain ⟨p,c,hv,_⟩:=h; rw [hv]; rfl
def z62 (w:World) (b o n:Nat):List Value:=(List.range n).map fun q=>(w.cell? ⟨b,o+q,none⟩).getD undef
theorem z36 (w:World) (b o n:Nat):(z62 w b o n).length=n:=by simp [z62]
theorem z7j (w:World) (b o n q:Nat) (h:q < n):(z62 w b o n)[q]?=some ((w.cell? ⟨b,o+q,none⟩).getD undef):=by simp [z62,h]
theorem zha {w:World} {O:Nat→Prop} {ag:Bool} {ks:List Kd} {l:List IV} {b o:Nat} (hks:0 < ks.length)
    (hr:∀ i y,l[i]?=some y→Kd.RelAll w O ks (z13 ag y) 0 (fun j u=>w.cell? ⟨b,o+i*ks.length+j,none⟩=some u)) :
    (∀ j u,(z62 w b o (l.length*ks.length))[j]?=some u→w.cell? ⟨b,o+j,none⟩=some u)∧(∀ u∈z62 w b o (l.length*ks.length),u.oneCell'=true) ∧
      ∀ i y,l[i]?=some y→Kd.RelAll w O ks (z13 ag y) 0 (fun j u=>(z62 w b o (l.length*ks.length))[i*ks.length+j]?=some u):=by
  have key:∀ q,q < l.length*ks.length→∃ u,w.cell? ⟨b,o+q,none⟩=some u∧u.oneCell'=true:=by
    intro q hq
    have h1:q / ks.length < l.length:=(Nat.div_lt_iff_lt_mul hks).2 hq
    have h2:=hr (q / ks.length) l[q / ks.length] (List.getElem?_eq_getElem h1)
    rw [Kd.RelAll_iff] at h2
    have h3:q % ks.length < ks.length:=Nat.mod_lt _ hks
    obtain ⟨u,hu,hk⟩:=h2 (q % ks.length) ks[q % ks.length] (List.getElem?_eq_getElem h3)
    refine ⟨u,?_,hk.one⟩
    rw [← hu]
    congr 2
    have:=Nat.div_add_mod q ks.length
    rw [Nat.mul_comm] at this
    omega
  refine ⟨fun j u hj=>?_,fun u hu=>?_,fun i y hy=>?_⟩
  · have hjl:j < l.length*ks.length:=by
      rcases Nat.lt_or_ge j (l.length*ks.length) with h' | h'
      · exact h'
      · rw [List.getElem?_eq_none (by rw [z36]; exact h')] at hj; cases hj
    obtain ⟨u',hu',_⟩:=key j hjl
    rw [z7j _ _ _ _ _ hjl,hu',Option.getD_some,Option.some.injEq] at hj
    rw [hu',hj]
  · obtain ⟨j,hj⟩:=List.mem_iff_getElem?.1 hu
    have hjl:j < l.length*ks.length:=by
      rcases Nat.lt_or_ge j (l.length*ks.length) with h' | h'
      · exact h'
      · rw [List.getElem?_eq_none (by rw [z36]; exact h')] at hj; cases hj
    obtain ⟨u',hu',h1⟩:=key j hjl
    rw [z7j _ _ _ _ _ hjl,hu',Option.getD_some,Option.some.injEq] at hj
    rw [← hj]
    exact h1
  · have hil:i < l.length:=by
      rcases Nat.lt_or_ge i l.length with h' | h'
      · exact h'
      · rw [List.getElem?_eq_none h'] at hy; cases hy
    have h2:=hr i y hy
    rw [Kd.RelAll_iff] at h2 ⊢
    intro j k hj
    obtain ⟨u,hu,hk⟩:=h2 j k hj
    have hjl:j < ks.length:=by
      rcases Nat.lt_or_ge j ks.length with h' | h'
      · exact h'
      · rw [List.getElem?_eq_none h'] at hj; cases hj
    refine ⟨u,?_,hk⟩
    have hq:i*ks.length+(0+j) < l.length*ks.length:=by
      have e1:(i+1)*ks.length≤l.length*ks.length:=Nat.mul_le_mul_right _ hil
      rw [Nat.succ_mul] at e1
      omega
    rw [z7j _ _ _ _ _ hq,← Nat.add_assoc o,hu]
    rfl
section
variable {B:BT} {nt:Nat} {w0:World} {X:Zone} {γ:Nat→Value} {st st':St} {a:Act} {w:World} {P:Program} {E:Env}
theorem zho {e size n m cap:Nat} {p:Option Addr} {xs:List Value} (h:w.ownsRow 0 e size (.slice p n cap) n xs) (hm:m≤n):w.ownsRow 0 e size (.slice p m cap) m (xs.take (m*size)):=by
  have hx:=h.1
  refine ⟨by rw [List.length_take,hx,Nat.min_eq_left (Nat.mul_le_mul_right _ hm)],?_⟩
  rcases h.2 with ⟨h1,rfl⟩ | ⟨g,cap',cur,h1,h2,h3,h4,h5,h6,h7⟩
  · simp only [Value.slice.injEq] at h1
    obtain ⟨rfl,_,rfl⟩:=h1
    obtain rfl:m=0:=by omega
    exact .inl ⟨rfl,rfl⟩
  · simp only [Value.slice.injEq] at h1
    obtain ⟨rfl,_,rfl⟩:=h1
    refine .inr ⟨g,cap,cur,rfl,h2,h3,by omega,h5,h6,?_⟩
    rw [← h7,List.take_take,Nat.min_eq_left (Nat.mul_le_mul_right _ hm)]
theorem za0 (hT:TiOK P B E) (h:Rel B nt w0 X γ st a w) {d ty e:Nat} (hd9:d≠900000) (hpos:0 < (E.tyd e).size) (he6:e < 1000000) {s:V} {sv:Value} (hs:VRel γ st.o w (z02 X γ st.o) s sv)
    {l:List IV} {v:V} {us:List Upd} (he:(z3n st.o d e (E.tyd e).agg (E.tyd e).ks (E.tyd e).bytes s l).get=some (v,us))
    {ts:Array TypeId} {av:Value}
    (hcore:∀ (n:Nat) (xs:List Value),w.ownsRow 0 e (E.tyd e).size sv n xs→(n+l.length)*(E.tyd e).bytes≤z0y →
      ∃ x w' news,(Builtin.append_ ts ty #[sv,av]).run P w = .ok x w'∧w'.ownsRow 0 e (E.tyd e).size x (n+l.length) (xs++news)∧w.grownBy w' sv.ownBlock ∧
        (∀ b,x.ownBlock=some b→sv.ownBlock=some b∨b=w.heap.size)∧news.length=l.length*(E.tyd e).size ∧
        ∀ i y,l[i]?=some y→Kd.RelAll w (z02 X γ st.o) (E.tyd e).ks (z13 (E.tyd e).agg y) 0 (fun j u=>news[i*(E.tyd e).ks.length+j]?=some u)) :
    ∃ γ' x w',(Builtin.append_ ts ty #[sv,av]).run P w = .ok x w'∧Rel B nt w0 X γ' (st.ups us) a w'∧VRel γ' (st.ups us).o w' (z02 X γ' (st.ups us).o) v x:=by
  have hsn:=hT.size (t:=e) hpos
  have hks:=hsn.ks
  have main:∀ (n:Nat) (l0:List IV) (xs:List Value) (kl:List Nat),w.ownsRow 0 e (E.tyd e).size sv n xs→l0.length=n →
      (∀ b,sv.ownBlock=some b→zds γ st.o kl b)→(∀ i y,l0[i]?=some y→Kd.RelAll w (z02 X γ st.o) (E.tyd e).ks (z13 (E.tyd e).agg y) 0 (fun j u=>xs[i*(E.tyd e).ks.length+j]?=some u)) →
      (n+l.length)*(E.tyd e).bytes≤z0y →
      ∃ x w',(Builtin.append_ ts ty #[sv,av]).run P w = .ok x w' ∧
        Rel B nt w0 X (fun m=>if d=m then x else γ m) (St.up ⟨st.t,z9g st.o kl⟩ (.new d (.row true e (E.tyd e).agg (E.tyd e).ks (l0++l)))) a w' ∧
        ∃ p' cap,x = .slice p' (n+l.length) cap∧n+l.length≤cap∧cap≤maxLen:=by
    intro n l0 xs kl hown hl0 hkl hr0 hbd
    have hb1:=hsn.by1
    have hle:n+l.length≤70368744177664:=by
      have:=Nat.le_mul_of_pos_right (n+l.length) (show 0 < (E.tyd e).bytes by omega)
      simp only [z0y] at hbd
      omega
    obtain ⟨x,w',news,hrun,hown',hgrow,hblk,hnl,hnr⟩:=hcore n xs hown hbd
    have hown2:=hown'
    obtain ⟨p',cap,hx,hcap,hcm⟩:∃ p' cap,x = .slice p' (n+l.length) cap∧n+l.length≤cap∧cap≤maxLen:=by
      rcases hown'.2 with ⟨h1,h2⟩ | ⟨g,cap,cur,h1,_,_,h4,h5,_⟩
      · exact ⟨none,0,by rw [h1,h2],by omega,by simp [maxLen]⟩
      · exact ⟨_,cap,h1,h4,h5⟩
    refine ⟨x,w',hrun,Rel.new h kl d hd9 _ x (Keep.grown hgrow (fun g hg=>hkl g hg)) (fun b hb=>?_) (fun O' hO hcmp=>?_),p',cap,hx,hcap,hcm⟩
    · refine ⟨(hown'.lt b hb).2,?_⟩
      rcases hblk b hb with h1 | h1
      · exact .inr (hkl b h1)
      · exact .inl (by omega)
    · have hk':Keep (z02 X γ st.o) w w':=Keep.grown hgrow (fun g hg=>by obtain ⟨n',_,ob,h1,h2⟩:=hkl g hg; exact .inl ⟨n',ob,h1,h2⟩)
      simp only [ObRel]
      refine ⟨by rw [hks]; exact hpos,by rw [List.length_append,hl0]; unfold strMax; omega,xs++news,?_,fun i y hy=>?_⟩
      · rw [List.length_append,hl0,hks]
        exact OwnRow.of hown' he6
      · refine Kd.RelAll.mono hk' hO (fun _ _ h=>h) ?_
        rw [List.getElem?_append] at hy
        split at hy
        · rename_i hlt
          refine Kd.RelAll.mono (Keep.refl _ w) (fun _ _ h=>h) (fun j u hu=>?_) (hr0 i y hy)
          rw [List.getElem?_append_left]
          · exact hu
          · rcases Nat.lt_or_ge (i*(E.tyd e).ks.length+j) xs.length with h' | h'
            · exact h'
            · rw [List.getElem?_eq_none h'] at hu; cases hu
        · rename_i hlt
          refine Kd.RelAll.mono (Keep.refl _ w) (fun _ _ h=>h) (fun j u hu=>?_) (hnr (i - l0.length) y hy)
          have hxl:=hown.1
          rw [List.getElem?_append_right]
          · rw [← hu]
            congr 1
            rw [hxl,hks,← hl0,Nat.sub_mul]
            have:l0.length*(E.tyd e).size≤i*(E.tyd e).size:=Nat.mul_le_mul_right _ (by omega)
            omega
          · rw [hxl,hks,← hl0]
            have:l0.length*(E.tyd e).size≤i*(E.tyd e).size:=Nat.mul_le_mul_right _ (by omega)
            omega
  unfold z3n at he
  split at he
  · obtain ⟨hk,he⟩:=T.get_when he
    simp only [T.get,Option.some.injEq,Prod.mk.injEq] at he
    obtain ⟨rfl,rfl⟩:=he
    simp only [decide_eq_true_eq] at hk
    simp only [VRel] at hs
    subst hs
    obtain ⟨x,w',h1,h2,p',cap,h3,h4,h5⟩:=main 0 [] [] [] (World.ownsRow_nil w 0 e _) rfl (fun b hb=>by simp [Value.ownBlock] at hb) (fun i y hy=>by simp at hy) (by simpa using hk)
    refine ⟨_,x,w',h1,h2,?_⟩
    simp only [St.ups,VRel,z03,if_true,z17]
    simp only [Nat.zero_add] at h3 h4
    refine ⟨Nat.le_refl _,p',_,cap,p',h3,by rw [h3]; simp,Nat.zero_le _,Nat.le_refl _,h4,h5,.inl ?_,fun _=>rfl⟩
    cases p' <;> simp [Addr.add]
  · rename_i n lo hi
    split at he
    · rename_i e' ag' ks' l0 hob
      split at he
      · rename_i hc
        obtain ⟨hk,he⟩:=T.get_when he
        simp only [T.get,Option.some.injEq,Prod.mk.injEq] at he
        obtain ⟨rfl,rfl⟩:=he
        simp only [decide_eq_true_eq] at hk
        simp only [Bool.and_eq_true] at hc
        obtain ⟨⟨⟨hc1,hc2⟩,hc3⟩,hc4⟩:=hc
        obtain rfl:=z0f.1 hc1
        obtain rfl:=z0f.1 hc2
        have hkk:=z7o hc4
        simp only [Kd.list.injEq] at hkk
        obtain ⟨rfl,rfl⟩:=hkk
        simp only [VRel,hob] at hs
        obtain ⟨hlen,q,len,cap,q',hg,hv,_,h2,h3,hm,_,h5⟩:=hs
        rw [h5 rfl,Nat.sub_zero,Nat.sub_zero] at hv
        have hor:=h.ob n _ hob
        simp only [ObRel] at hor
        obtain ⟨hkp,hstr,xs,hx,hrx⟩:=hor
        rw [hks] at hx
        have hx':=hx.plain he6
        have hlen':len=l0.length:=by
          rcases hx'.2 with ⟨h6,h7⟩ | ⟨g,cap',cur,h6,_⟩
          · rw [hg] at h6; simp only [Value.slice.injEq] at h6; omega
          · rw [hg] at h6; simp only [Value.slice.injEq] at h6; exact h6.2.1
        subst hlen'
        rw [hg] at hx'
        have hsh:=zho hx' hlen
        rw [← hv] at hsh
        obtain ⟨x,w',h1,h2,p',cap',h3,h4,h6⟩:=main hi (l0.take hi) (xs.take (hi*(E.tyd e).size)) [n] hsh (by rw [List.length_take,Nat.min_eq_left hlen])
          (fun b hb=>⟨n,by simp,_,hob,by simp only [z04]; rw [hg]; rw [hv] at hb; cases q <;> first | (simp [Value.ownBlock] at hb; done) | simpa [Value.ownBlock] using hb⟩)
          (fun i y hy=>by
            rw [List.getElem?_take] at hy
            split at hy
            · rename_i hlt
              have h7:=hrx i y hy
              rw [Kd.RelAll_iff] at h7 ⊢
              intro j k hj
              obtain ⟨u,hu,hk⟩:=h7 j k hj
              refine ⟨u,?_,hk⟩
              have hjl:j < (E.tyd e).ks.length:=by
                rcases Nat.lt_or_ge j (E.tyd e).ks.length with h' | h'
                · exact h'
                · rw [List.getElem?_eq_none h'] at hj; cases hj
              rw [List.getElem?_take,if_pos]
              · exact hu
              · have e1:(i+1)*(E.tyd e).ks.length≤hi*(E.tyd e).ks.length:=Nat.mul_le_mul_right _ hlt
                rw [Nat.succ_mul] at e1
                rw [hks] at e1 hjl ⊢
                omega
            · cases hy) hk
        refine ⟨_,x,w',h1,h2,?_⟩
        simp only [St.ups,St.up,VRel,z00,if_true]
        have hll:(l0.take hi++l).length=hi+l.length:=by rw [List.length_append,List.length_take,Nat.min_eq_left hlen]
        refine ⟨by rw [hll]; exact Nat.le_refl _,p',_,cap',p',h3,by rw [h3]; simp,Nat.zero_le _,Nat.le_refl _,h4,h6,.inl ?_,fun _=>rfl⟩
        cases p' <;> simp [Addr.add]
      · simp [T.get] at he
    · simp [T.get] at he
  · simp [T.get] at he
theorem z7f (hT:TiOK P B E) (h:Rel B nt w0 X γ st a w) {d t t' ty e e':Nat} (hd9:d≠900000) (ht:P.underlying t=some (.slice e)) (ht':P.underlying t'=some (.slice e')) (hpos:0 < (E.tyd e).size) (he6:e < 1000000) {s:V} {sv:Value} (hs:VRel γ st.o w (z02 X γ st.o) s sv)
    {l:List IV} {v:V} {us:List Upd} (he:(z3n st.o d e (E.tyd e).agg (E.tyd e).ks (E.tyd e).bytes s l).get=some (v,us))
    {p:Option Addr} {c:Nat} (hp0:0 < l.length→∃ b o,p=some ⟨b,o,none⟩)
    (hr:∀ i y,l[i]?=some y→∃ b o,p=some ⟨b,o,none⟩∧b < w.heap.size∧Kd.RelAll w (z02 X γ st.o) (E.tyd e).ks (z13 (E.tyd e).agg y) 0 (fun j u=>w.cell? ⟨b,o+i*(E.tyd e).ks.length+j,none⟩=some u)) :
    ∃ γ' x w',(Builtin.append_ #[t,t'] ty #[sv,.slice p l.length c]).run P w = .ok x w'∧Rel B nt w0 X γ' (st.ups us) a w'∧VRel γ' (st.ups us).o w' (z02 X γ' (st.ups us).o) v x:=by
  have hsn:=hT.size (t:=e) hpos
  obtain ⟨i,z,hi,hz,hzs,hsz,hby,_⟩:=z27 hsn
  have hks:=hsn.ks
  refine za0 hT h hd9 hpos he6 hs he (fun n xs hown hbd=>?_)
  have hb1:=hsn.by1
  have hle:n+l.length≤70368744177664:=by
    have:=Nat.le_mul_of_pos_right (n+l.length) (show 0 < (E.tyd e).bytes by omega)
    simp only [z0y] at hbd
    omega
  obtain ⟨q,cap0,hq,hqc⟩:∃ q cap,sv = .slice q n cap∧n≤cap:=by
    rcases hown.2 with ⟨h1,h2⟩ | ⟨g,cap,cur,h1,_,_,h4,_⟩
    · exact ⟨none,0,by rw [h1,h2],by omega⟩
    · exact ⟨_,cap,h1,h4⟩
  rw [hq,zfb ht ht',← hq]
  cases hp:p with
  | none=>
    have hl0:l=[]:=by
      rcases Nat.eq_zero_or_pos l.length with h0 | h0
      · exact List.eq_nil_of_length_eq_zero h0
      · obtain ⟨b,o,h1⟩:=hp0 h0
        rw [hp] at h1
        cases h1
    subst hl0
    refine ⟨sv,w,[],?_,by simpa using hown,⟨rfl,rfl,rfl,Nat.le_refl _,fun _ _ _=>rfl⟩,fun b hb=>.inl hb,by simp,fun i y hy=>by simp at hy⟩
    rw [hq]
    exact zcf ht hi hqc
  | some ad=>
    obtain ⟨b,o,spot⟩:=ad
    by_cases hl0:l=[]
    · subst hl0
      obtain ⟨x,w',h1,h2,h3,h4⟩:=zct w t ty e i z (E.tyd e).size (E.tyd e).bytes ht hi hz hsz hby hzs hpos sv n xs hown ⟨b,o,spot⟩ 0 c [] (by simp) (fun j u hj=>by simp at hj) (fun u hu=>by cases hu) (by unfold maxLen; omega) (by simp only [z0y] at hbd; simp only [List.length_nil,Nat.add_zero] at hbd ⊢; omega)
      exact ⟨x,w',[],h1,h2,h3,h4,by simp,fun i y hy=>by simp at hy⟩
    · obtain ⟨b',o',hp'⟩:=hp0 (List.length_pos_iff.2 hl0)
      rw [hp] at hp'
      simp only [Option.some.injEq,Addr.mk.injEq] at hp'
      obtain ⟨rfl,rfl,rfl⟩:=hp'
      have hr':∀ i y,l[i]?=some y→Kd.RelAll w (z02 X γ st.o) (E.tyd e).ks (z13 (E.tyd e).agg y) 0 (fun j u=>w.cell? ⟨b,o+i*(E.tyd e).ks.length+j,none⟩=some u):=by
        intro i y hy
        obtain ⟨b1,o1,h1,_,h2⟩:=hr i y hy
        rw [hp] at h1
        simp only [Option.some.injEq,Addr.mk.injEq] at h1
        obtain ⟨rfl,rfl,_⟩:=h1
        exact h2
      obtain ⟨c1,c2,c3⟩:=zha (by rw [hks]; exact hpos) hr'
      rw [hks] at c1 c2 c3
      obtain ⟨x,w',h1,h2,h3,h4⟩:=zct w t ty e i z (E.tyd e).size (E.tyd e).bytes ht hi hz hsz hby hzs hpos sv n xs hown ⟨b,o,none⟩ l.length c (z62 w b o (l.length*(E.tyd e).size)) (z36 _ _ _ _)
        (fun j u hj=>by rw [Addr.add_mid]; exact c1 j u hj) c2 (by unfold maxLen; omega) (by simp only [z0y] at hbd; omega)
      refine ⟨x,w',_,h1,h2,h3,h4,z36 _ _ _ _,fun i y hy=>?_⟩
      rw [hks]
      exact c3 i y hy
theorem z8z (z:Array Value) (n i j:Nat) (hi:i < n) (hj:j < z.size):(Builtin.zeroCells z n).toList[i*z.size+j]?=z[j]?:=by
  have hb:i*z.size+j < n*z.size:=by
    have e1:(i+1)*z.size≤n*z.size:=Nat.mul_le_mul_right _ hi
    rw [Nat.succ_mul] at e1
    omega
  have hm:(i*z.size+j) % z.size=j:=by rw [Nat.mul_comm,Nat.mul_add_mod,Nat.mod_eq_of_lt hj]
  simp only [Builtin.zeroCells,Array.getElem?_toList,Array.getElem?_map]
  simp [hb,hm]
  rw [getElem!_pos z j hj]
  simp [hj]
theorem z94 {P:Program} (w:World) (t tn ty e:TypeId) (i:TypeInfo) (z:Value) (kq kn:IntKind) (ht:P.underlying t=some (.slice e)) (htn:P.underlying tn=some (.int kn)) (hi:P.info? e=some i) (hz:i.zero=some z)
    (g sLen sCap:Nat) (cur:Array Value) (hg:w.heap[g]?=some (.cells cur e (0,0))) (k:Nat) (h0:0 < k) (hs:0 < i.size) (hk:k≤1000) (h48:k*i.bytes≤281474976710656) (h1:∀ u∈(Builtin.zeroCells z.cells k).toList,u.oneCell'=true)
    (hroom:sLen+k≤sCap) (hfit:sLen*i.size+(Builtin.zeroCells z.cells k).toList.length≤cur.size) :
    (Builtin.append_ #[t,tn] ty #[.slice (some ⟨g,0,none⟩) sLen sCap,.int kq k]).run P w =
      .ok (.slice (some ⟨g,0,none⟩) (sLen+k) sCap) (w.setRow g (cur.toList.take (sLen*i.size)++(Builtin.zeroCells z.cells k).toList++cur.toList.drop (sLen*i.size+(Builtin.zeroCells z.cells k).toList.length)).toArray):=by
  have hk0:k≠0:=by omega
  have hw:IntKind.i64.wrap (k:Int)=k:=by simp [IntKind.wrap,IntKind.signed,IntKind.bits]; omega
  have h48i:¬ (281474976710656 < (k:Int)*(i.bytes:Int)):=by
    rw [← Int.natCast_mul]
    omega
  have hneg:¬ ((k:Int) < 0):=by omega
  have hns:¬ (k*i.size=0):=Nat.mul_ne_zero hk0 (by omega)
  have hst:=run_storeCells_at P g (sLen*i.size) e (Builtin.zeroCells z.cells k).toList 0 cur w hg (by simpa using hfit) h1
  simp only [Nat.add_zero] at hst
  simp [Builtin.append_,run_underlying ht,run_underlying htn,sizeOf,typeInfo,zeroValue,hi,hz,asInt,asIntOf,hw,hroom,hneg,hns,h48i,Addr.add_lit,hst]
theorem zjj {k:Kd} {v:V} {x:IV} (h:z45 [] k v=some x) (o:Store):z45 o k v=some x:=by
  cases k <;> cases v <;> simp only [z45] at h ⊢ <;> first | exact h | (simp [z01,lkd] at h)
theorem z68:∀ {ks:List Kd} {vs:List V} {l:List IV},z18 [] ks vs=some l→∀ o:Store,z18 o ks vs=some l
  | [],[],_,h,_=>h
  | k :: ks,v :: vs,l,h,o=>by
    simp only [z18] at h ⊢
    split at h
    · rename_i x hx
      rw [zjj hx o]
      simp only
      split at h
      · rename_i r hr
        rw [z68 hr o]
        exact h
      · cases h
    · cases h
  | [],_ :: _,_,h,_=>by simp [z18] at h
  | _ :: _,[],_,h,_=>by simp [z18] at h
theorem zjc {ag:Bool} {ks:List Kd} {v:V} {x:IV} (h:z65 [] ag ks v=some x) (o:Store):z65 o ag ks v=some x:=by
  unfold z65 at h ⊢
  split at h
  · split at h
    · rename_i l hl
      rw [z68 hl o]
      exact h
    · cases h
  · split at h
    · rename_i y l hl
      rw [z68 hl o]
      exact h
    · cases h
  · cases h
theorem zfk {ag:Bool} {ks:List Kd} {sz:Nat}:∀ {n:Nat} {cs:List V} {l:List IV},z84 ag ks [] cs sz n=some l→∀ o:Store,z84 ag ks o cs sz n=some l
  | 0,_,_,h,_=>h
  | n+1,cs,l,h,o=>by
    simp only [z84] at h ⊢
    split at h
    · rename_i x r hx hr
      rw [zjc hx o,zfk hr o]
      exact h
    · cases h
theorem zh2 (hT:TiOK P B E) (h:Rel B nt w0 X γ st a w) {d t t' ty e:Nat} (hd9:d≠900000) (ht:P.underlying t=some (.slice e)) (ht':∀ k,(E.tyd t').ks=[.int k]→P.underlying t'=some (.int k)) {s x:V} {sv xv:Value} (hs:VRel γ st.o w (z02 X γ st.o) s sv) (hx:VRel γ st.o w (z02 X γ st.o) x xv)
    {v:V} {us:List Upd} (he:(z93 st.o d e (E.tyd e) (E.tyd t').ks s x).get=some (v,us)) :
    ∃ γ' y w',(Builtin.append_ #[t,t'] ty #[sv,xv]).run P w = .ok y w'∧Rel B nt w0 X γ' (st.ups us) a w'∧VRel γ' (st.ups us).o w' (z02 X γ' (st.ups us).o) v y:=by
  unfold z93 at he
  split at he
  · rename_i kn kq k z zr hks' hc
    split at he
    · rename_i hk
      simp only [Bool.and_eq_true,decide_eq_true_eq,List.isEmpty_iff] at hk
      obtain ⟨hk1,hk2,hk3,hk4,hk5⟩:=hk
      simp only [VRel] at hx
      obtain ⟨rfl,_⟩:=hx
      obtain ⟨m,rfl⟩:∃ m:Nat,k=m:=⟨k.toNat,by omega⟩
      simp only [Int.toNat_natCast] at he
      have hpos:=Nat.le_of_ble_eq_true hk1
      have he6:e < 1000000:=Nat.le_of_ble_eq_true hk2
      have hsn:=hT.size (t:=e) hpos
      have hb1:=hsn.by1
      obtain ⟨i,zv,hi,hz,hzs,hsz,hby,hzr⟩:=z27 hsn
      have hks:=hsn.ks
      have hz':=Frz.of h (E.tyd e).zero
      rw [hk5] at hz'
      obtain ⟨_,hr⟩:=z63 hz' hsn.ks (fun ha=>hsn.one ha) (fun v hv=>hv) (zfk hc st.o) (hzr γ st.o w (z02 X γ st.o))
      have hr0:=hr 0 z rfl
      refine za0 hT h hd9 hpos he6 hs he (fun n xs hown hbd=>?_)
      rw [List.length_replicate] at hbd ⊢
      have hle:n+m≤70368744177664:=by
        have:=Nat.le_mul_of_pos_right (n+m) (show 0 < (E.tyd e).bytes by omega)
        simp only [z0y] at hbd
        omega
      have hmb:m*(E.tyd e).bytes≤70368744177664:=by
        have:=Nat.mul_le_mul_right (E.tyd e).bytes (Nat.le_add_left m n)
        simp only [z0y] at hbd
        omega
      have hnl:(Builtin.zeroCells zv.cells m).toList.length=m*(E.tyd e).size:=by rw [Array.length_toList,size_zeroCells,hzs]
      have hone:∀ u∈(Builtin.zeroCells zv.cells m).toList,u.oneCell'=true:=fun u hu=>by
        obtain ⟨q,hq⟩:=List.getElem?_of_mem hu
        have hql:q < m*(E.tyd e).size:=by
          rcases Nat.lt_or_ge q (m*(E.tyd e).size) with h' | h'
          · exact h'
          · rw [List.getElem?_eq_none (by rw [hnl]; exact h')] at hq; cases hq
        have hdiv:q / (E.tyd e).size < m:=(Nat.div_lt_iff_lt_mul hpos).2 hql
        have hmod:q % (E.tyd e).size < (E.tyd e).size:=Nat.mod_lt _ hpos
        have hqe:q=q / (E.tyd e).size*zv.cells.size+q % (E.tyd e).size:=by rw [hzs,Nat.mul_comm]; exact (Nat.div_add_mod q _).symm
        rw [hqe,z8z _ _ _ _ hdiv (by rw [hzs]; exact hmod)] at hq
        rw [Kd.RelAll_iff] at hr0
        obtain ⟨kd,hkd⟩:∃ kd,(E.tyd e).ks[q % (E.tyd e).size]?=some kd:=⟨_,List.getElem?_eq_getElem (by rw [hks]; exact hmod)⟩
        obtain ⟨u',hu',hrel⟩:=hr0 _ kd hkd
        simp only [Nat.zero_mul,Nat.zero_add,Array.getElem?_toList] at hu'
        rw [hq] at hu'
        simp only [Option.some.injEq] at hu'
        subst hu'
        exact Kd.Rel.one hrel
      have hnr:∀ i' y,(List.replicate m z)[i']?=some y→Kd.RelAll w (z02 X γ st.o) (E.tyd e).ks (z13 (E.tyd e).agg y) 0 (fun j u=>(Builtin.zeroCells zv.cells m).toList[i'*(E.tyd e).ks.length+j]?=some u):=fun i' y hy=>by
        rw [List.getElem?_replicate] at hy
        split at hy
        · rename_i hlt
          simp only [Option.some.injEq] at hy
          subst hy
          rw [Kd.RelAll_iff] at hr0 ⊢
          intro j kd hj
          obtain ⟨u,hu,hkr⟩:=hr0 j kd hj
          refine ⟨u,?_,hkr⟩
          have hjl:j < (E.tyd e).size:=by
            rw [← hks]
            rcases Nat.lt_or_ge j (E.tyd e).ks.length with h' | h'
            · exact h'
            · rw [List.getElem?_eq_none h'] at hj; cases hj
          simp only [Nat.zero_add,Nat.zero_mul,Array.getElem?_toList] at hu ⊢
          rw [hks,← hzs,← Array.getElem?_toList,z8z _ _ _ _ hlt (by rw [hzs]; exact hjl)]
          exact hu
        · cases hy
      have htn:=ht' kn hks'
      have hxs:=hown.1
      have grown:∀ (old:Nat),(w.drew.alloc (.cells (xs.toArray++Builtin.zeroCells zv.cells m++Builtin.zeroCells zv.cells (grownCap w (n+m) old e - (n+m))) e)).ownsRow 0 e (E.tyd e).size
            (.slice (some ⟨w.heap.size,0,none⟩) (n+m) (grownCap w (n+m) old e)) (n+m) (xs++(Builtin.zeroCells zv.cells m).toList):=fun old=>by
        have hge:=grownCap_ge w (n+m) old e
        have hcm:grownCap w (n+m) old e≤maxLen:=grownCap_le_maxLen w (n+m) old e (by unfold maxLen; omega)
        have hlen:(xs++(Builtin.zeroCells zv.cells m).toList).length=(n+m)*(E.tyd e).size:=by rw [List.length_append,hxs,hnl,Nat.add_mul]
        refine ⟨hlen,.inr ⟨w.heap.size,_,_,rfl,Nat.zero_le _,heap_alloc_new w.drew _,hge,hcm,?_,?_⟩⟩
        · simp only [Array.size_append,List.size_toArray,size_zeroCells,hzs,hxs,← Nat.add_mul]
          congr 1
          omega
        · simp only [Array.toList_append]
          rw [← hlen]
          exact List.take_left
      have gb:∀ (old:Nat) (row:Option Nat),w.grownBy (w.drew.alloc (.cells (xs.toArray++Builtin.zeroCells zv.cells m++Builtin.zeroCells zv.cells (grownCap w (n+m) old e - (n+m))) e)) row:=fun old row=>
        ⟨rfl,rfl,rfl,by simp,fun k hk _=>@heap_alloc_old w.drew _ k hk⟩
      have hnb:∀ {len cap b:Nat},(Value.slice (some ⟨w.heap.size,0,none⟩) len cap).ownBlock=some b→b=w.heap.size:=fun h=>by
        simp only [Value.ownBlock,Option.some.injEq] at h
        exact h.symm
      rcases hown.2 with ⟨rfl,rfl⟩ | ⟨g,cap,cur,rfl,hbg,hg,hnc,hcm,hcs,htake⟩
      · have hxn:xs=[]:=List.eq_nil_of_length_eq_zero (by simpa using hxs)
        subst hxn
        have hrun:=Lib.run_append_nil_zeros (P:=P) w t t' ty e i zv kq kn ht htn hi hz m (by omega) (by rw [hsz]; exact hpos) (by omega) (by rw [hby]; omega)
        have g0:=grown 0
        have g1:=gb 0 (Value.ownBlock (.slice none 0 0))
        simp only [Nat.zero_add,List.nil_append,Array.empty_append] at g0 g1 ⊢
        exact ⟨_,_,_,hrun,g0,g1,fun b hb=>.inr (hnb hb),hnl,hnr⟩
      · by_cases hroom:n+m≤cap
        · have hfit:n*i.size+(Builtin.zeroCells zv.cells m).toList.length≤cur.size:=by rw [hnl,hcs,hsz,← Nat.add_mul]; exact Nat.mul_le_mul_right _ hroom
          have hrun:=z94 (P:=P) w t t' ty e i zv kq kn ht htn hi hz g n cap cur hg m (by omega) (by rw [hsz]; exact hpos) (by omega) (by rw [hby]; omega) hone hroom hfit
          have hlen:(xs++(Builtin.zeroCells zv.cells m).toList).length=(n+m)*(E.tyd e).size:=by rw [List.length_append,hxs,hnl,Nat.add_mul]
          refine ⟨_,_,_,hrun,⟨hlen,.inr ⟨g,cap,_,rfl,hbg,setRow_heap w g cur _ e _ hg,hroom,hcm,?_,?_⟩⟩,⟨rfl,rfl,rfl,by simp,fun k _ hk=>setRow_other w g k _ (fun e=>hk (by simp [Value.ownBlock,e]))⟩,fun b hb=>.inl hb,hnl,hnr⟩
          · simp only [List.size_toArray,List.length_append,List.length_take,List.length_drop]
            rw [Array.length_toList (xs:=cur)]
            omega
          · rw [hsz,htake,← hlen]
            exact List.take_left
        · have holds:∀ j u,xs[j]?=some u→w.cell? ((⟨g,0,none⟩:Addr).add j)=some u:=hown.cells (g:=g) rfl
          have hf:=run_firstCells_some (P:=P) w.drew i.size n ⟨g,0,none⟩ n cap xs (by rw [hsz]; exact hxs) (by simpa using holds)
          have hrun:=Lib.run_append_grow_zeros (P:=P) w t t' ty e i zv kq kn ht htn hi hz (some ⟨g,0,none⟩) n cap xs hf m (by omega) (by rw [hsz]; exact hpos) (by omega) (by omega) (by rw [hby]; omega) (by rw [hby]; exact growslice_fits (by omega) (by simp only [z0y] at hbd; omega))
          exact ⟨_,_,_,hrun,grown cap,gb cap _,fun b hb=>.inr (hnb hb),hnl,hnr⟩
    · simp [T.get] at he
  · simp [T.get] at he
end
open Go Go.RowKit
section
variable {B:BT} {nt:Nat} {w0:World} {X:Zone} {γ:Nat→Value} {st st':St} {a:Act} {w:World} {P:Program} {E:Env}
theorem zh1 (hT:TiOK P B E) (h:Rel B nt w0 X γ st a w) {d t t' ty e e':Nat} (hd9:d≠900000) (ht:P.underlying t=some (.slice e)) (ht':P.underlying t'=some (.slice e')) {s x:V} {sv xv:Value}
    (hs:VRel γ st.o w (z02 X γ st.o) s sv) (hx:VRel γ st.o w (z02 X γ st.o) x xv)
    {v:V} {us:List Upd} (he:(z7g st.o d e (E.tyd e) s x).get=some (v,us)) (hpos:0 < (E.tyd e).size) (he6:e < 1000000) :
    ∃ γ' y w',(Builtin.append_ #[t,t'] ty #[sv,xv]).run P w = .ok y w'∧Rel B nt w0 X γ' (st.ups us) a w'∧VRel γ' (st.ups us).o w' (z02 X γ' (st.ups us).o) v y:=by
  have hsn:=hT.size (t:=e) hpos
  have hks:=hsn.ks
  unfold z7g at he
  split at he
  · rename_i n c cap sz len
    split at he
    · rename_i cs hob
      split at he
      · rename_i hc
        simp only [Bool.and_eq_true,List.isEmpty_iff] at hc
        obtain ⟨hc1,hc2⟩:=hc
        obtain rfl:=z0f.1 hc1
        obtain ⟨m,_,hm,hml,he'⟩:=z4i he
        clear he
        simp only [VRel,hob] at hx
        obtain ⟨hlc,hcm,hfit,b,hg,rfl⟩:=hx
        have hor:=h.ob n _ hob
        simp only [ObRel] at hor
        obtain ⟨b',xs,T,hg',hh,hr⟩:=hor
        rw [hg] at hg'
        simp only [Value.pointer.injEq,Option.some.injEq,Addr.mk.injEq,and_true] at hg'
        subst hg'
        split at he'
        · rename_i l hl
          have hz:=Frz.of h cs
          rw [hc2] at hz
          simp only [z06,St.ups] at hz
          obtain ⟨h1,h2⟩:=z63 hz hks (fun ha=>hsn.one ha) (fun v hv=>by rw [z38] at hv; exact List.mem_of_mem_drop hv) hl (by rw [z38]; exact hr.drop c)
          obtain rfl:len=l.length:=by omega
          refine z7f hT h hd9 ht ht' hpos he6 hs he' (fun _=>⟨b,c,rfl⟩) (fun i y hy=>⟨b,c,rfl,(Array.getElem?_eq_some_iff.1 hh).1,?_⟩)
          refine Kd.RelAll.mono (Keep.refl _ w) (fun _ _ h=>h) (fun j u hu=>?_) (h2 i y hy)
          simp only [List.getElem?_drop,Array.getElem?_toList] at hu
          simp [World.cell?,hh,← hu,hks,Nat.add_assoc]
        · simp [FM.T.get] at he'
      · simp [T.get] at he
    · simp [T.get] at he
  · simp only [VRel] at hx
    subst hx
    exact z7f hT h hd9 ht ht' hpos he6 hs he (l:=[]) (fun h0=>absurd h0 (by simp)) (fun i y hy=>by simp at hy)
  · split at he
    · rename_i l ag ks hl hsh
      split at he
      · rename_i hkd
        have hkk:=z7o hkd
        simp only [Kd.list.injEq] at hkk
        obtain ⟨rfl,rfl⟩:=hkk
        obtain ⟨p,c,rfl,_,_,hp,hr⟩:=zfp h hx hl hsh
        exact z7f hT h hd9 ht ht' hpos he6 hs he hp hr
      · simp [T.get] at he
    · simp [T.get] at he
theorem zkh (hT:TiOK P B E) (h:Rel B nt w0 X γ st a w) {t t' ty:Nat} {x y:V} {xv yv:Value}
    (hx:VRel γ st.o w (z02 X γ st.o) x xv) (hy:VRel γ st.o w (z02 X γ st.o) y yv)
    {v:V} {us:List Upd} (he:(zly E st.o t x y).get=some (v,us)) :
    ∃ γ' z w',(Builtin.copy_ #[t,t'] ty #[xv,yv]).run P w = .ok z w'∧Rel B nt w0 X γ' (st.ups us) a w'∧VRel γ' (st.ups us).o w' (z02 X γ' (st.ups us).o) v z:=by
  unfold zly at he
  split at he
  · rename_i n c cap sz len n' c' cap' sz' len'
    split at he
    · rename_i cs cs' e hob hob' hd
      split at he
      · rename_i hc
        obtain ⟨hok,he⟩:=T.get_when he
        simp only [Bool.and_eq_true] at hc
        obtain ⟨hc1,hc2⟩:=hc
        obtain rfl:=z0f.1 hc2
        obtain ⟨rfl,hpos⟩:=z24 hc1
        obtain ⟨m,_,hm,hml,he⟩:=z4i he
        simp only [T.get,Option.some.injEq,Prod.mk.injEq] at he
        obtain ⟨rfl,rfl⟩:=he
        simp only [VRel,hob] at hx
        obtain ⟨hlc,hcm,hfit,b,hg,rfl⟩:=hx
        simp only [VRel,hob'] at hy
        obtain ⟨hlc',hcm',hfit',b',hg',rfl⟩:=hy
        have hor:=h.ob n _ hob
        simp only [ObRel] at hor
        obtain ⟨b1,xs,T,hg1,hh,hr⟩:=hor
        rw [hg] at hg1
        simp only [Value.pointer.injEq,Option.some.injEq,Addr.mk.injEq,and_true] at hg1
        subst hg1
        have hor':=h.ob n' _ hob'
        simp only [ObRel] at hor'
        obtain ⟨b1,ys,T',hg1,hh',hr'⟩:=hor'
        rw [hg'] at hg1
        simp only [Value.pointer.injEq,Option.some.injEq,Addr.mk.injEq,and_true] at hg1
        subst hg1
        have hsn:=hT.size (t:=e) hpos
        obtain ⟨i,z,hi,_,_,hsz,_,_⟩:=z27 hsn
        have hd1:P.underlying t=some (.slice e):=by
          obtain ⟨d,hd1,_,hd2⟩:=(hT.desc (t:=t) (by rw [hd]; simp)).und
          rw [hd] at hd2
          rw [hd1,hd2]
        have hmn:Nat.min len' len=m:=by
          have:min len' len=m:=by omega
          exact this
        have hm':m≤len'∧m≤len:=by
          have:min len' len=m:=hmn
          omega
        have hxl:=hr.length
        have hyl:=hr'.length
        simp only [Array.length_toList] at hxl hyl
        have hb1:c'+m*(E.tyd e).size≤ys.size:=by
          have:=Nat.mul_le_mul_right (E.tyd e).size (show m≤cap' by omega)
          omega
        have hb2:c+m*(E.tyd e).size≤xs.size:=by
          have:=Nat.mul_le_mul_right (E.tyd e).size (show m≤cap by omega)
          omega
        let src:=(ys.toList.drop c').take (m*(E.tyd e).size)
        have hsl:src.length=m*(E.tyd e).size:=by simp only [src,List.length_take,List.length_drop,Array.length_toList]; omega
        have hsrc:∀ j u,src[j]?=some u→w.cell? ((⟨b',c',none⟩:Addr).add j)=some u:=by
          intro j u hj
          simp only [src,List.getElem?_take,List.getElem?_drop,Array.getElem?_toList] at hj
          split at hj
          · simp [Addr.add_mid,World.cell?,hh',hj]
          · cases hj
        have hone:=z8g h hr' hok
        have h1:∀ u∈src,u.oneCell'=true:=fun u hu=>hone u (List.mem_of_mem_drop (List.mem_of_mem_take hu))
        have hl:=run_loadCells_list (P:=P) w ⟨b',c',none⟩ src hsrc
        rw [hsl] at hl
        have hst:=run_storeCells_at P b c T src 0 xs w hh (by rw [hsl]; omega) h1
        have hrun:(Builtin.copy_ #[t,t'] ty #[.slice (some ⟨b,c,none⟩) len cap,.slice (some ⟨b',c',none⟩) len' cap']).run P w = .ok (goInt m) (w.setRow b (xs.toList.take c++src++xs.toList.drop (c+src.length)).toArray):=by
          simp [Builtin.copy_,run_underlying hd1,Builtin.lenOf,Builtin.firstCells,sizeOf,typeInfo,hi,hsz,hmn,hl,hst]
        have hsrcR:VRels γ st.o w (z02 X γ st.o) (z9s (z7k cs' c') (m*(E.tyd e).size)) src:=by
          rw [z5m,z38]
          exact (hr'.drop c').take _
        have hvl:(z9s (z7k cs' c') (m*(E.tyd e).size)).length=m*(E.tyd e).size:=by rw [hsrcR.length,hsl]
        have hfit2:c+(z9s (z7k cs' c') (m*(E.tyd e).size)).length≤cs.length:=by rw [hvl]; omega
        have hO:z04 (γ n) (.box cs) b:=⟨_,hg,rfl⟩
        have hk1:Keep (z04 (γ n) (.box cs)) w (w.setRow b (xs.toList.take c++src++xs.toList.drop (c+src.length)).toArray):=Keep.setRow w b _ hO
        have hset:=Rel.set h hob (ob':=.box (z6t cs c (z9s (z7k cs' c') (m*(E.tyd e).size)))) (by simp only [Ob.fits]; rw [zbw hfit2]) hk1 (fun b hb=>hb) (by
          intro hO' hcmp
          simp only [ObRel]
          refine ⟨b,_,_,hg,setRow_heap w b xs _ T _ hh,?_⟩
          have hp:=hr.put hsrcR hfit2
          simp only
          refine VRels.mono (hk1.mono (O':=z02 X γ st.o) (fun b' _ hb'=>.inl ⟨n,_,hob,hb'⟩)) (fun b' _ hb'=>hO' b' hb') (VRels.cmp hcmp hp))
        refine ⟨γ,_,_,hrun,hset,?_⟩
        simp only [VRel,goInt]
        have hmb:(m:Int)≤9223372036854775807:=by
          have:maxLen≤9223372036854775807:=by simp [maxLen]
          omega
        refine ⟨trivial,by simp [IntKind.min,IntKind.signed,IntKind.bits],by simpa [IntKind.max,IntKind.signed,IntKind.bits] using hmb⟩
      · simp [T.get] at he
    · simp [T.get] at he
  · simp [T.get] at he
end
open Go Go.RowKit
section
variable {B:BT} {nt:Nat} {w0:World} {X:Zone} {γ:Nat→Value} {st st':St} {a:Act} {w:World} {P:Program} {E:Env}
theorem zbi (ρ:Operand→V):∀ l:List Operand,zdd ρ l=l.map ρ
  | []=>rfl
  | x :: r=>by simp [zdd,zbi ρ r]
theorem z3k (hT:TiOK P B E) {t e:Nat} (hd:(E.tyd t).d = .slice e):P.underlying t=some (.slice e):=by
  obtain ⟨d,hd1,_,hd2⟩:=(hT.desc (t:=t) (by rw [hd]; simp)).und
  rw [hd] at hd2
  rw [hd1,hd2]
theorem z8v:FM.strMax≤maxLen:=by unfold FM.strMax maxLen; omega
theorem zmd (hT:TiOK P B E) (h:Rel B nt w0 X γ st a w) {t ty:Nat} {x:V} {xv:Value} (hx:VRel γ st.o w (z02 X γ st.o) x xv)
    {v:V} {us:List Upd} (he:(zov E st.o t x).get=some (v,us)) :
    us=[]∧∃ n:Nat,v = .int .i64 (n:Int)∧n≤maxLen∧(Builtin.len_ #[t] ty #[xv]).run P w = .ok (goInt n) w:=by
  unfold zov at he
  split at he
  · rename_i ag ks l
    split at he
    · rename_i e hd
      simp only [T.get,Option.some.injEq,Prod.mk.injEq] at he
      obtain ⟨rfl,rfl⟩:=he
      simp only [VRel,Kd.Rel,IV.toList] at hx
      obtain ⟨p,c,rfl,_,_,hl,_⟩:=hx
      exact ⟨rfl,_,rfl,Nat.le_trans hl z8v,by simp [Builtin.len_,run_underlying (z3k hT hd)]⟩
    · simp [T.get] at he
  · rename_i s
    split at he
    · rename_i hd hk
      simp only [T.get,Option.some.injEq,Prod.mk.injEq] at he
      obtain ⟨rfl,rfl⟩:=he
      simp only [VRel] at hx
      obtain ⟨rfl,hs⟩:=hx
      obtain ⟨d,hd1,_,hd2⟩:=(hT.kinds (t:=t) (by rw [hk]; simp)).und
      rw [hd] at hd2
      have:=hd2.2.1 hk
      subst this
      exact ⟨rfl,_,rfl,Nat.le_trans hs z8v,by simp [Builtin.len_,run_underlying hd1]⟩
    · simp [T.get] at he
  · split at he
    · rename_i e hd
      simp only [T.get,Option.some.injEq,Prod.mk.injEq] at he
      obtain ⟨rfl,rfl⟩:=he
      simp only [VRel] at hx
      subst hx
      exact ⟨rfl,0,rfl,Nat.zero_le _,by simp [Builtin.len_,run_underlying (z3k hT hd)]⟩
    · simp [T.get] at he
  · rename_i n lo hi
    split at he
    · rename_i e own e' ag ks l hd hob
      simp only [T.get,Option.some.injEq,Prod.mk.injEq] at he
      obtain ⟨rfl,rfl⟩:=he
      simp only [VRel,hob] at hx
      obtain ⟨hl,p,len,cap,p',hg,rfl,h1,h2,h3,h4,_⟩:=hx
      refine ⟨rfl,_,rfl,?_,by simp [Builtin.len_,run_underlying (z3k hT hd)]⟩
      have hor:=h.ob n _ hob
      have:l.length≤strMax:=by
        cases own with
        | true=>simp only [ObRel] at hor; exact hor.2.1
        | false=>simp only [ObRel,Kd.Rel,IV.toList] at hor; obtain ⟨_,p,c,_,_,_,h5,_⟩:=hor; exact h5
      have:=z8v
      omega
    · simp [T.get] at he
  · rename_i n c cap sz len
    split at he
    · rename_i e cs hd hob
      simp only [T.get,Option.some.injEq,Prod.mk.injEq] at he
      obtain ⟨rfl,rfl⟩:=he
      simp only [VRel,hob] at hx
      obtain ⟨h1,h2,h3,b,hg,rfl⟩:=hx
      refine ⟨rfl,_,rfl,?_,by simp [Builtin.len_,run_underlying (z3k hT hd)]⟩
      omega
    · simp [T.get] at he
  · split at he
    · rename_i n e hd
      split at he
      · rename_i hn
        simp only [T.get,Option.some.injEq,Prod.mk.injEq] at he
        obtain ⟨rfl,rfl⟩:=he
        obtain ⟨d,hd1,_,hd2⟩:=(hT.desc (t:=t) (by rw [hd]; simp)).und
        rw [hd] at hd2
        subst hd2
        refine ⟨rfl,n,rfl,?_,by simp [Builtin.len_,run_underlying hd1]⟩
        have:=Nat.le_of_ble_eq_true hn
        unfold maxLen
        omega
      · simp [T.get] at he
    · simp [T.get] at he
theorem zng {o:Store} {O:Nat→Prop} {n:Nat} (h:n≤maxLen):VRel γ o w O (.int .i64 (n:Int)) (goInt n):=by
  simp only [VRel,goInt]
  have hmb:(n:Int)≤9223372036854775807:=by
    have:maxLen≤9223372036854775807:=by simp [maxLen]
    omega
  refine ⟨trivial,by simp [IntKind.min,IntKind.signed,IntKind.bits],by simpa [IntKind.max,IntKind.signed,IntKind.bits] using hmb⟩
theorem zjo (hT:TiOK P B E) (h:Rel B nt w0 X γ st a w) (o:Oper) (hd9:∀ d,o.dst=some d→d≠900000) {b:Go.Builtin} {args:Array Operand} {ats:Array TypeId} (ho:o.op = .call ⟨.builtin b,args,ats⟩) {v:V} {us:List Upd}
    (he:(z0r E st.o (opd st) o.dst o.op).get=some (v,us)):OpWp P B nt w0 X a w o st v us:=by
  rw [ho] at he
  simp only [z0r,z83] at he
  obtain ⟨args⟩:=args
  obtain ⟨ats⟩:=ats
  have hex:(execOp a.eval o)=builtin b ats.toArray o.type ((args.map fun | .const _=>true | _=>false)).toArray (args.map a.eval).toArray:=by
    obtain ⟨dst,op,type,pos,after,guard⟩:=o
    simp only at ho
    subst ho
    rw [BigFrame.execOp_builtin]
    simp
    rfl
  split at he
  · rename_i hb
    cases hb
    split at he
    · rename_i x t hx ht
      simp only at hx ht
      subst hx ht
      obtain ⟨rfl,n,rfl,hn,hr⟩:=zmd (ty:=o.type) hT h (z0d h x) he
      refine OpWp.pure h (x:=goInt n) ?_ (zng hn)
      rw [hex,BigFrame.builtin_len]
      simp only [List.map_cons,List.map_nil,Sem.run_bind,hr,Result.andThen_ok,Sem.run_pure]
    · simp [T.get] at he
  · rename_i d hb hd0
    cases hb
    split at he
    · rename_i s x t t' hx ht
      simp only at hx ht
      subst hx ht
      split at he
      · rename_i e e' hd hd'
        split at he
        · rename_i hk
          simp only [Bool.and_eq_true] at hk
          obtain ⟨γ',y,w',hr,h1,h2⟩:=zh1 (ty:=o.type) hT h (hd9 _ hd0) (z3k hT hd) (z3k hT hd') (z0d h s) (z0d h x) he (Nat.le_of_ble_eq_true hk.1) (Nat.le_of_ble_eq_true hk.2)
          refine OpWp.value (x:=y) (w':=w') ?_ h1 h2
          rw [hex,BigFrame.builtin_append]
          simp only [List.map_cons,List.map_nil,Sem.run_bind,hr,Result.andThen_ok,Sem.run_pure]
        · simp [T.get] at he
      · rename_i e hd hd'
        obtain ⟨γ',y,w',hr,h1,h2⟩:=zh2 (ty:=o.type) hT h (hd9 _ hd0) (z3k hT hd) (fun k hk=>by
          obtain ⟨dd,hd1,_,hd2⟩:=(hT.kinds (t:=t') (by rw [hk]; simp)).und
          rw [hd'] at hd2
          rw [hd1,hd2.1 k hk]) (z0d h s) (z0d h x) he
        refine OpWp.value (x:=y) (w':=w') ?_ h1 h2
        rw [hex,BigFrame.builtin_append]
        simp only [List.map_cons,List.map_nil,Sem.run_bind,hr,Result.andThen_ok,Sem.run_pure]
      · simp [T.get] at he
    · simp [T.get] at he
  · rename_i hb
    cases hb
    split at he
    · rename_i x y t t' hx ht
      simp only at hx ht
      subst hx ht
      obtain ⟨γ',z,w',hr,h1,h2⟩:=zkh (t':=t') (ty:=o.type) hT h (z0d h x) (z0d h y) he
      refine OpWp.value (x:=z) (w':=w') ?_ h1 h2
      rw [hex,BigFrame.builtin_copy]
      simp only [List.map_cons,List.map_nil,Sem.run_bind,hr,Result.andThen_ok,Sem.run_pure]
    · simp [T.get] at he
  · rename_i hb
    cases hb
    simp only [zbi] at he
    split at he
    · rename_i k x k' y hxy
      split at he
      · rename_i hkk
        simp only [T.get,Option.some.injEq,Prod.mk.injEq] at he
        obtain ⟨rfl,rfl⟩:=he
        obtain rfl:k=k':=by simpa using hkk
        obtain ⟨p,q,rfl,hp1,hq1⟩:∃ p q,args=[p,q]∧opd st p = .int k x∧opd st q = .int k y:=by
          cases args with
          | nil=>simp at hxy
          | cons p r=>cases r with
            | nil=>simp at hxy
            | cons q r=>cases r with
              | nil=>
                simp only [List.map_cons,List.map_nil,List.cons.injEq,and_true] at hxy
                exact ⟨p,q,rfl,hxy.1,hxy.2⟩
              | cons _ _=>simp at hxy
        have hp:=z0d h p
        have hq:=z0d h q
        rw [hp1] at hp
        rw [hq1] at hq
        simp only [VRel] at hp hq
        refine OpWp.pure h (x:=.int k (min x y)) ?_ ?_
        · rw [hex,BigFrame.builtin_min]
          have e1:(if y < x then y else x)=min x y:=by split <;> omega
          simp [Builtin.min_,Builtin.min2,hp.1,hq.1,e1]
        · simp only [VRel]
          exact ⟨trivial,by omega,by omega⟩
      · simp [T.get] at he
    · simp [T.get] at he
  · rename_i hb
    cases hb
    simp only [zbi] at he
    split at he
    · rename_i k x k' y hxy
      split at he
      · rename_i hkk
        simp only [T.get,Option.some.injEq,Prod.mk.injEq] at he
        obtain ⟨rfl,rfl⟩:=he
        obtain rfl:k=k':=by simpa using hkk
        obtain ⟨p,q,rfl,hp1,hq1⟩:∃ p q,args=[p,q]∧opd st p = .int k x∧opd st q = .int k y:=by
          cases args with
          | nil=>simp at hxy
          | cons p r=>cases r with
            | nil=>simp at hxy
            | cons q r=>cases r with
              | nil=>
                simp only [List.map_cons,List.map_nil,List.cons.injEq,and_true] at hxy
                exact ⟨p,q,rfl,hxy.1,hxy.2⟩
              | cons _ _=>simp at hxy
        have hp:=z0d h p
        have hq:=z0d h q
        rw [hp1] at hp
        rw [hq1] at hq
        simp only [VRel] at hp hq
        refine OpWp.pure h (x:=.int k (max x y)) ?_ ?_
        · rw [hex,BigFrame.builtin_max]
          have e1:(if x < y then y else x)=max x y:=by split <;> omega
          simp [Builtin.max_,Builtin.max2,hp.1,hq.1,e1]
        · simp only [VRel]
          exact ⟨trivial,by omega,by omega⟩
      · simp [T.get] at he
    · simp [T.get] at he
  · rename_i hb
    cases hb
  · rename_i hb _
    cases hb
  · simp [T.get] at he
end
end Go.FM
