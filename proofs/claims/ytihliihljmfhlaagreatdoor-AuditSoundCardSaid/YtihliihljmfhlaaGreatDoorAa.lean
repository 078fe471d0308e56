/-
  A small machine that reckons what a call comes to; the functions of the program, one by one. (THE SMALL MACHINE (1): what it reckons with. A deterministic, THE SMALL MACHINE (2): the run of an operation, of a region,, THE SMALL MACHINE (3): what its values say of the model's va, and so on.)
-/
import Derived.Laws.BytesArg
import Derived.Maps.RangeRun
import Derived.Lib.FrozenHead
import Derived.Deep.MidRow
import Derived.Great.BuildSlice
import Derived.Lib.AppendZerosOnto
import Derived.BigFrame
set_option linter.all false
set_option maxRecDepth 100000
open Array renaming length_toList→C1,getElem?_eq_some_iff→DK,toList_append→vaj,getElem?_toList→vaE,getD_eq_getD_getElem?→vbm,range→vby
open BitVec renaming ofInt→A0
open Bool renaming and_eq_true→AQ,false_or→vaF,true→AC,false→AD
open ByteArray renaming size_append→BC,empty→CQ,size_extract→vay
open Decidable renaming decide→AE
open Go renaming binOp→vad
open Go.Addr renaming add_mid→va3
open Go.Addr.mk renaming injEq→DI
open Go.Builtin renaming zeroCells→CT,append_→DB,len_→vaX
open Go.Instr renaming sliceBounds→va1,loadAt→va8,indexAt→vbd,sliceAt→vbe
open Go.IntKind renaming wrap→AI,i64→AJ,bits→AT,signed→vak
open Go.Lib renaming strCells→DO
open Go.Op renaming maxDepth→va2,equal→vbc,equalIn→vbo
open Go.Region renaming binds→va4
open Go.Result renaming andThen_ok→B9
open Go.Sem renaming run_bind→CL,run_pure→CM
open Go.Value renaming ownBlock→CO
open Go.Value.pointer renaming injEq→C6
open Go.Value.slice renaming injEq→CW
open Go.World renaming cell?→vaI
open Int renaming toNat_natCast→BE,fdiv_eq_ediv_of_nonneg→vaH
open List renaming getD→AR,length_cons→AV,mem_cons→AW,mem_cons_self→AY,length_append→A2,mem_append→A5,mem_cons_of_mem→A6,map_cons→A8,getElem?_eq_getElem→BD,length_take→BL,length_nil→BN,length_map→BW,getD_eq_getElem?_getD→BY,replicate→B6,getElem?_eq_none→B8,getElem?_cons_zero→CA,getElem?_map→CJ,map_nil→CN,take_of_length_le→C2,getElem?_take→C3,getElem?_cons_succ→C5,cons_append→C9,length_drop→DA,size_toArray→DM,mem_of_getElem?→vaa,append_nil→vab,nil_append→vac,getElem?_append→vah,all_cons→van,getElem?_drop→vat,eq_nil_of_length_eq_zero→vav,foldl_cons→vax,append_assoc→vaz,length_set→vaL,mem_of_mem_take→vaO,range→vaQ,mem_of_mem_drop→va7
open List.cons renaming injEq→vaD
open Nat renaming le_of_ble_eq_true→AX,le_refl→A4,zero_add→BU,blt→BV,beq→B2,ble→CG,zero_le→CH,mul_le_mul_right→CR,ble_eq_true_of_le→CV,lt_of_lt_of_le→CY,le_trans→DD,add_zero→DJ,lt_or_ge→DN,eq_of_beq_eq_true→vae,add_mul→vao,sub_zero→vas,min_eq_left→vaG,add_assoc→vaJ,le_mul_of_pos_right→vaN,succ_mul→vaW,beq_refl→vbj
open Option renaming map_eq_some_iff→DP,map_some→vaf,getD_some→vam,some→AA,none→AB
open Option.some renaming injEq→AK
open Prod.mk renaming injEq→A1
namespace Go.FM
theorem AF{A:Sort _}{a b:A}(h:a=b:=by kernel_rfl):a=b:=h
theorem AG{p:Prop}(h:p:=by omega):p:=h
end Go.FM
namespace Go
abbrev BA:=ByteArray
end Go
namespace Go.FM
abbrev AL:=@decide_eq_true
abbrev AS:=@decide_eq_false
abbrev AZ:=@decide_eq_true_eq
abbrev BB:=@of_decide_eq_true
abbrev BH:=@beq_eq_false_iff_ne
abbrev BK:=@cond_false
abbrev BM:=@of_decide_eq_false
abbrev BO:=@if_neg
abbrev BQ:=@run_underlying
abbrev BX:=@if_pos
abbrev B3:=@decide_eq_false_iff_not
abbrev B5:=@cond_true
abbrev CF:=@beq_iff_eq
abbrev CI:=@and_true
abbrev CX:=@if_true
abbrev C7:=@or_false
abbrev DF:=@beq_self_eq_true
abbrev vaq:=@heap_alloc_new
abbrev vaS:=@true_and
abbrev vbw:=@not_true_eq_false
abbrev vbx:=@setRow_heap
open Go
inductive Kd where
 |int (k:IntKind)
 |bool
 |str
 |list (ag:Bool) (ks:List Kd)
@[match_pattern] abbrev Kd.z:Kd:=.int .i64
inductive IV where
 |int (n:Int)
 |bool (b:Bool)
 |str (s:ByteArray)
 |list (l:List IV)
 |agg (l:List IV)
abbrev LI:=List IV
instance:Inhabited IV:=⟨.int 0⟩
def IV.toInt:IV->Int|.int n=>n|_=>0
def IV.toBool:IV->Bool|.bool b=>b|_=>AD
def IV.toStr:IV->BA|.str s=>s|_=>CQ
def IV.toList:IV->LI|.list l=>l|_=>[]
def LO(l:LI):Nat->IV
 |0=>match l with|[]=>default|x::_=>x
 |n+1=>match l with|[]=>default|_::r=>LO r n
def IV.cell:IV->Nat->IV|.agg l,j=>LO l j|_,_=>default
def GK(ag:Bool)(x:IV)(j:Nat):IV:=match ag with|true=>x.cell j|false=>x
inductive V where
 |any
 |int (k:IntKind) (n:Int)
 |bool (b:Bool)
 |str (s:BA)
 |list (ag:Bool) (ks:List Kd) (l:LI)
 |zs
 |row (n:Nat) (lo hi:Nat)
 |ptr (n:Nat) (i:Nat) (c:Nat)
 |iptr (ks:List Kd) (f:Nat->IV) (c:Nat)
 |bview (n:Nat) (c:Nat) (cap sz:Nat) (len:Nat)
 |agg (l:List V)
 |tup (l:List V)
 |err (AB:Bool)
 |nilp
 |clo (f:Nat) (caps:List V)
 |bor (cells:List V)
 |vec (e:Nat) (ag:Bool) (ks:List Kd) (l:LI)
 |bld (s:BA)
@[match_pattern] abbrev V.i (n:Int):V:=.int .i64 n
inductive Ob where
 |box (cs:List V)
 |row (own:Bool) (e:Nat) (ag:Bool) (ks:List Kd) (l:LI)
 |bld (s:BA)
 |map (k:Kd) (es:List (Int×IV))
 |iter (k:Kd) (last:Option (Int×IV)) (rest:List (Int×IV))
abbrev Store:=List (Nat×Option Ob)
abbrev DU:=Option (V×List (List V))
abbrev TF:=List V->DU
inductive R where
 |no
 |ok (v:V) (out:List (List V))
 |br (b:Bool) (x y:R)
def R.get:R->DU
 |.no=>AB
 |.ok v out=>AA (v,out)
 |.br AC x _=>x.get
 |.br AD _ y=>y.get
abbrev D4:=List V->R
inductive TD where
 |leaf
 |slice (e:Nat)
 |struct (fs:List (Nat×Nat))
 |array (n:Nat) (e:Nat)
 |ptr (e:Nat)
 |map (e:Nat) (k:Kd)
 |bld
 |iface
structure TI where
 size:Nat
 bytes:Nat
 agg:Bool
 ks:List Kd
 zero:List V
 d:TD
inductive Loc where
 |tmp (t:Nat)
 |cell (b c:Nat)
structure Can where
 loc:Loc
 nm:Nat
 e:Nat
 ag:Bool
 ks:List Kd
structure KP where
 t:List Nat
 o:List Nat
 c:List Can:=[]
structure Ip where
 e:Nat
 ret:Bool
 g:List V->LI->Option LI
structure Env where
 ti:List (Nat×TI)
 sp:List (Nat×D4)
 kp:List (Nat×List Nat)
 lp:List (Nat×KP)
 nt:Nat
 N:Nat
 eqs:List Nat:=[]
 ip:List (Nat×Ip):=[]
structure St where
 t:List (Nat×V)
 o:Store
def lk{α:Type}:List (Nat×α)->Nat->Option α
 |[],_=>AB
 |(j,x)::r,i=>match B2 j i with|true=>AA x|false=>lk r i
def FA{α:Type}(d:α):List (Nat×α)->Nat->α
 |[],_=>d
 |(j,x)::r,i=>match B2 j i with|true=>x|false=>FA d r i
def St.get(s:St)(i:Nat):V:=FA .any s.t i
def TI.none:TI:=⟨0,0,AD,[],[],.leaf⟩
def Env.tyd(E:Env)(t:Nat):TI:=FA TI.none E.ti t
def DV(o:Store)(n:Nat):Option Ob:=FA AB o n
def aR(k:IntKind)(n:Int):Bool:=AE (k.min<=n)&&AE (n<=k.max)
def qM:Value->V
 |.int k n=>match aR k n with|true=>.int k n|false=>.any
 |.bool b=>.bool b
 |.string s=>match CG s.size 140737488355327 with|true=>.str s|false=>.any
 |.slice AB 0 0=>.zs
 |.nilIface=>.err AC
 |.pointer AB=>.nilp
 |_=>.any
def opd(s:St):Operand->V
 |.tmp t=>s.get t
 |.const v=>qM v
 |.func f=>.clo f []
 |.global _=>.any
def L5(o:Store):V->Bool
 |.int _ _|.bool _|.str _|.list _ _ _|.zs|.iptr _ _ _|.err _|.nilp|.clo _ _=>AC
 |.row n _ _=>match DV o n with|some (.row _ _ _ _ _)=>AC|_=>AD
 |.ptr n _ _=>match DV o n with|some _=>AC|_=>AD
 |.bview n _ _ _ _=>match DV o n with|some (.box _)=>AC|_=>AD
 |_=>AD
def SJ(o:Store):V->Bool
 |.agg _=>AC
 |v=>L5 o v
def T7(o:Store):List V->Bool
 |[]=>AC
 |v::r=>match L5 o v with|true=>T7 o r|false=>AD
def OJ:Kd->IV->V
 |.int k,x=>.int k x.toInt
 |.bool,x=>.bool x.toBool
 |.str,x=>.str x.toStr
 |.list ag ks,x=>.list ag ks x.toList
def T2{α:Type}(g:Nat->α):Nat->Nat->List α
 |_,0=>[]
 |c,n+1=>g c::T2 g (c+1) n
def cells:V->List V
 |.agg l=>l
 |v=>[v]
def SG:List V->Nat->V
 |[],_=>.any
 |x::_,0=>x
 |_::r,n+1=>SG r n
def PL:List V->Nat->List V
 |_,0=>[]
 |[],_+1=>[]
 |x::r,n+1=>x::PL r n
def NK:List V->Nat->List V
 |l,0=>l
 |[],_+1=>[]
 |_::r,n+1=>NK r n
def I5:Kd->Kd->Bool
 |.int k,.int k'=>k==k'
 |.bool,.bool=>AC
 |.str,.str=>AC
 |.list a ks,.list a' ks'=>a==a'&&kdsEq ks ks'
 |_,_=>AD
where kdsEq:List Kd->List Kd->Bool
 |[],[]=>AC
 |x::r,y::r'=>I5 x y&&kdsEq r r'
 |_,_=>AD
def NO(o:Store):Kd->V->Option IV
 |.int k,.int k' n=>match k==k' with|true=>AA (.int n)|false=>AB
 |.bool,.bool b=>AA (.bool b)
 |.str,.str s=>AA (.str s)
 |.list ag ks,.list ag' ks' l=>match I5 (.list ag ks) (.list ag' ks')with|true=>AA (.list l)|false=>AB
 |.list _ _,.zs=>AA (.list [])
 |.list ag ks,.row n lo hi=>match DV o n with
  |some (.row _ _ ag' ks' l)=>match I5 (.list ag ks) (.list ag' ks')with|true=>AA (.list ((l.take hi).drop lo))|false=>AB
  |_=>AB
 |_,_=>AB
def K1(o:Store):List Kd->List V->Option LI
 |[],[]=>AA []
 |k::ks,v::vs=>match NO o k v with
  |some x=>match K1 o ks vs with|some r=>AA (x::r)|none=>AB
  |none=>AB
 |_,_=>AB
def Q4(o:Store)(ag:Bool)(ks:List Kd)(v:V):Option IV:=
 match ag,v with
 |true,.agg vs=>match K1 o ks vs with|some l=>AA (.agg l)|none=>AB
 |false,v=>match K1 o ks [v]with|some (x::_)=>AA x|_=>AB
 |_,_=>AB
def FD:List V->List Nat
 |[]=>[]
 |.row n _ _::r=>n::FD r
 |_::r=>FD r
def aY(agg:Bool)(size:Nat)(ks:List Kd)(f:Nat->IV)(c:Nat):Option V:=
 match CG (c+size) ks.length with
 |true=>match agg with
  |true=>AA (.agg (T2 (λj=>OJ (ks.getD j .bool) (f j)) c size))
  |false=>match B2 size 1 with|true=>AA (OJ (ks.getD c .bool) (f c))|false=>AB
 |false=>AB
def R9(agg:Bool)(size:Nat)(cs:List V)(c:Nat):Option V:=
 match CG (c+size) cs.length with
 |true=>match agg with
  |true=>AA (.agg (PL (NK cs c) size))
  |false=>match B2 size 1 with|true=>AA (SG cs c)|false=>AB
 |false=>AB
def HE:List V->Nat->List V->List V
 |cs,_,[]=>cs
 |[],_,_=>[]
 |_::r,0,v::vs=>v::HE r 0 vs
 |x::r,n+1,vs=>x::HE r n vs
def PH(ag:Bool)(ks:List Kd)(x:IV)(c:Nat)(vs:LI):IV:=
 match ag with
 |true=>.agg (T2 (λj=>match CG c j&&BV j (c+vs.length)with|true=>LO vs (j-c)|false=>x.cell j) 0 ks.length)
 |false=>LO vs 0
inductive Upd where
 |new (n:Nat) (ob:Ob)
 |set (n:Nat) (ob:Ob)
 |kill (n:Nat)
inductive T where
 |no
 |ok (v:V) (us:List Upd)
 |br (b:Bool) (x y:T)
def T.get:T->Option (V×List Upd)
 |.no=>AB
 |.ok v us=>AA (v,us)
 |.br AC x _=>x.get
 |.br AD _ y=>y.get
def T.run(k:V->List Upd->DU):T->DU
 |.no=>AB
 |.ok v us=>k v us
 |.br b x y=>match b with|true=>x.run k|false=>y.run k
theorem T.run_some{k:V->List Upd->DU}{r:V×List (List V)}:∀{t:T},t.run k=AA r->∃v us,t.get=AA (v,us)/\k v us=AA r
 |.no,h=>by simp[T.run]at h
 |.ok v us,h=>⟨v,us,rfl,h⟩
 |.br AC x _,h=>T.run_some (t:=x) h
 |.br AD _ y,h=>T.run_some (t:=y) h
def T.when(b:Bool)(x:T):T:=.br b x .no
def T.of:Option V->T|some v=>.ok v []|none=>.no
def fork:Nat->Nat->Int->(Nat->T)->T
 |0,_,_,_=>.no
 |n+1,j,i,g=>.br (AE (i=(j:Int))) (g j) (fork n (j+1) i g)
def YR:Kd->Bool
 |.list _ _=>AD
 |_=>AC
def M6:Kd->IV
 |.int _=>.int 0
 |.bool=>.bool AD
 |.str=>.str CQ
 |.list _ _=>.list []
def GC:List (Int×IV)->Int->Nat
 |[],_=>0
 |(j,_)::r,k=>cond (j==k) 0 (GC r k+1)
def T1(es:List (Int×IV))(k:Int):Option IV:=match es[GC es k]? with|some e=>AA e.2|none=>AB
def PE:List (Int×IV)->Nat->IV->List (Int×IV)
 |[],_,_=>[]
 |(j,_)::r,0,x=>(j,x)::r
 |e::r,i+1,x=>e::PE r i x
def HZ(es:List (Int×IV))(k:Int)(x:IV):List (Int×IV):=match BV (GC es k) es.length with|true=>PE es (GC es k) x|false=>es++[(k,x)]
def SC(es:List (Int×IV))(k:Int)(x:IV):List (Int×IV):=match BV (GC es k) es.length with|true=>es|false=>es++[(k,x)]
def H0:List (Int×IV)->Nat->Int×IV
 |[],_=>(0,.bool AD)
 |x::_,0=>x
 |_::r,n+1=>H0 r n
def J7:List (Int×IV)->Nat->List (Int×IV)
 |[],_=>[]
 |_::r,0=>r
 |x::r,n+1=>x::J7 r n
noncomputable def Z3(n:Nat)(g:Nat->DU):DU:=@ite _ (∀i,i<n->g i=g 0) (Classical.propDecidable _) (g 0) AB
theorem Zc{n:Nat}{g:Nat->DU}{r:V×List (List V)}(h:Z3 n g=AA r):∀i,i<n->g i=AA r:=by
 unfold Z3 at h;split at h
 .rename_i hh;exact λi hi=>(hh i hi).trans h
 .cases h
theorem Zb{n:Nat}{g:Nat->DU}{r:DU}(hn:0<n)(h:∀i,i<n->g i=r):Z3 n g=r:=by
 unfold Z3;rw[BX (λi hi=>(h i hi).trans (h 0 hn).symm)];exact h 0 hn
def KB(vk:Kd)(es:List (Int×IV))(k:Int):IV:=(T1 es k).getD (M6 vk)
def sB(op:BinOp)(k:IntKind)(a b:Int):T:=
 match op with
 |.add=>.ok (.int k (k.wrap (a+b))) []
 |.sub=>.ok (.int k (k.wrap (a-b))) []
 |.mul=>.ok (.int k (k.wrap (a*b))) []
 |.quo=>.br (AE (b=0)) .no (.ok (.int k (k.wrap (a.tdiv b))) [])
 |.rem=>.br (AE (b=0)) .no (.ok (.int k (a.tmod b)) [])
 |.and=>.ok (.int k (k.wrap (A0 k.bits a&&&A0 k.bits b).toNat)) []
 |.or=>.ok (.int k (k.wrap (A0 k.bits a|||A0 k.bits b).toNat)) []
 |.xor=>.ok (.int k (k.wrap (A0 k.bits a^^^A0 k.bits b).toNat)) []
 |.andNot=>.ok (.int k (k.wrap (A0 k.bits a&&& ~~~ (A0 k.bits b)).toNat)) []
 |.eql=>.ok (.bool (a==b)) []
 |.neq=>.ok (.bool (a !=b)) []
 |.lss=>.ok (.bool (AE (a<b))) []
 |.leq=>.ok (.bool (AE (a<=b))) []
 |.gtr=>.ok (.bool (AE (a>b))) []
 |.geq=>.ok (.bool (AE (a>=b))) []
 |_=>.no
def wE(op:BinOp)(k:IntKind)(a b:Int):T:=
 match op with
 |.shl=>.br (AE (b<0)) .no (.ok (.int k (k.wrap (a*2^(min b.toNat k.bits)))) [])
 |.shr=>.br (AE (b<0)) .no (.ok (.int k (a.fdiv (2^(min b.toNat k.bits)))) [])
 |_=>.no
def strMax:Nat:=140737488355327
def xI(op:BinOp)(a b:BA):T:=
 match op with
 |.add=>.when (AE (a.size+b.size<=strMax)) (.ok (.str (a++b)) [])
 |.eql=>.ok (.bool (a.toList==b.toList)) []
 |.neq=>.ok (.bool (!(a.toList==b.toList))) []
 |.lss=>.ok (.bool (Op.bytesLess a.toList b.toList)) []
 |_=>.no
def KK:List V->List V->Option Bool
 |[],[]=>AA AC
 |.int k a::r,.int k' b::r'=>match k==k' with
  |true=>match KK r r' with|some c=>AA ((a==b)&&c)|none=>AB
  |false=>AB
 |.bool a::r,.bool b::r'=>match KK r r' with|some c=>AA ((a==b)&&c)|none=>AB
 |_,_=>AB
def KA:List Kd->List V->Bool
 |[],[]=>AC
 |.int k::r,.int k' _::r'=>match k==k' with|true=>KA r r'|false=>AD
 |.bool::r,.bool _::r'=>KA r r'
 |_,_=>AD
def aA(op:BinOp)(eq:Bool):T:=
 match op with
 |.eql=>.ok (.bool eq) []
 |.neq=>.ok (.bool (!eq)) []
 |_=>.no
def mE:BinOp->Bool|.shl|.shr=>AC|_=>AD
def pW(op:BinOp)(x y:V):T:=
 match x,y with
 |.int k a,.int k' b=>match mE op with
  |true=>wE op k a b
  |false=>match k==k' with|true=>sB op k a b|false=>.no
 |.str a,.str b=>xI op a b
 |_,_=>.no
def K3(n:Nat):List Nat->Bool
 |[]=>AD
 |m::r=>match B2 m n with|true=>AC|false=>K3 n r
def sE:Operand->Bool|.const _=>AC|_=>AD
def kY(E:Env)(o:Store)(op:BinOp)(t:Nat)(yo:Operand)(x y:V):T:=
 match x,y with
 |.agg l,.agg l'=>match K3 t E.eqs,KA (E.tyd t).ks l,KK l l' with
  |true,AC,AA c=>aA op c
  |_,_,_=>.no
 |.err a,.err AC=>match sE yo,(E.tyd t).d with
  |true,.iface=>aA op a
  |_,_=>.no
 |.bool a,.bool b=>match(E.tyd t).d,(E.tyd t).ks with
  |.leaf,[.bool]=>aA op (a==b)
  |_,_=>.no
 |.ptr n _ _,.nilp=>match(E.tyd t).d,DV o n with
  |.ptr _,AA (.map _ _)=>.no
  |.ptr _,AA _=>aA op AD
  |_,_=>.no
 |x,y=>pW op x y
def xW(op:UnOp)(x:V):T:=
 match op,x with
 |.neg,.int k n=>.ok (.int k (k.wrap (0-n))) []
 |.not,.bool b=>.ok (.bool (!b)) []
 |_,_=>.no
def IE(n:Nat):List Nat->Nat
 |[]=>0
 |m::r=>match B2 m n with|true=>IE n r+1|false=>IE n r
def FS(o:Store)(all:List Nat):V->V
 |.row n lo hi=>match DV o n with
  |some (.row own e ag ks l)=>match own&&(B2 lo 0&&B2 (IE n all) 1)with
   |true=>.vec e ag ks (l.take hi)
   |false=>.list ag ks ((l.take hi).drop lo)
  |_=>.any
 |.int k n=>.int k n
 |.bool b=>.bool b
 |.str s=>.str s
 |.list ag ks l=>.list ag ks l
 |.zs=>.zs
 |.err b=>.err b
 |.nilp=>.nilp
 |_=>.any
def HJ(o:Store)(all:List Nat):List V->List Nat
 |[]=>[]
 |.row n lo _::r=>match DV o n with
  |some (.row own _ _ _ _)=>match own&&(B2 lo 0&&B2 (IE n all) 1)with
   |true=>n::HJ o all r
   |false=>HJ o all r
  |_=>HJ o all r
 |_::r=>HJ o all r
def IG(o:Store)(all:List Nat):List V->List Nat
 |[]=>[]
 |.row n lo _::r=>match DV o n with
  |some (.row own _ _ _ _)=>match own&&(B2 lo 0&&B2 (IE n all) 1)with
   |true=>IG o all r
   |false=>n::IG o all r
  |_=>IG o all r
 |_::r=>IG o all r
def EZ(o:Store)(bs:List V)(tk:Option Kd):V->V
 |.zs=>match tk with|some (.list ag ks)=>.list ag ks []|_=>.any
 |.row n lo hi=>match DV o n with
  |some (.row _ _ ag ks l)=>.list ag ks ((l.take hi).drop lo)
  |_=>.any
 |.ptr n i c=>match DV o n with
  |some (.row _ _ _ _ _)=>.any
  |some _=>match B2 i 0&&B2 c 0 with|true=>.bor bs|false=>.any
  |none=>.any
 |.int k n=>.int k n
 |.bool b=>.bool b
 |.str s=>.str s
 |.list ag ks l=>.list ag ks l
 |.err b=>.err b
 |.nilp=>.nilp
 |.iptr ks f c=>.iptr ks f c
 |_=>.any
def IN:V->V
 |.bor _=>.any
 |.iptr _ _ _=>.any
 |v=>v
def MV(f:Option Kd->V->V):List Kd->List V->List V
 |_,[]=>[]
 |[],v::vs=>f AB v::MV f [] vs
 |k::ks,v::vs=>f (AA k) v::MV f ks vs
def J2(o:Store)(bs:List V)(ks:List Kd):V->V
 |.agg l=>.agg (MV (λk v=>IN (EZ o bs k v)) ks l)
 |.clo f caps=>.clo f (caps.map (EZ o bs AB))
 |v=>EZ o bs ks.head? v
def GJ(o:Store)(bs:List V):List (List Kd)->List V->List V
 |_,[]=>[]
 |[],v::vs=>J2 o bs [] v::GJ o bs [] vs
 |t::ts,v::vs=>J2 o bs t v::GJ o bs ts vs
def FL:List V->List Nat
 |[]=>[]
 |.ptr n _ _::r=>n::FL r
 |.clo _ caps::r=>lentC caps++FL r
 |_::r=>FL r
where lentC:List V->List Nat
 |[]=>[]
 |.ptr n _ _::r=>n::lentC r
 |_::r=>lentC r
def YM:V->Bool
 |.list _ _ _=>AC
 |.vec _ _ _ _=>AC
 |_=>AD
def IU:List V->Bool
 |[]=>AD
 |v::r=>match YM v with|true=>AC|false=>IU r
def IY:V->Bool
 |.agg l=>IU l
 |.bor l=>IU l
 |.tup l=>go l
 |v=>YM v
where go:List V->Bool
 |[]=>AD
 |.agg l::r=>match IU l with|true=>AC|false=>go r
 |v::r=>match YM v with|true=>AC|false=>go r
def LB:V->List Nat
 |.row n _ _=>[n]
 |.agg l=>FD l
 |.clo _ l=>FD l
 |.tup l=>go l
 |_=>[]
where go:List V->List Nat
 |[]=>[]
 |.row n _ _::r=>n::go r
 |.agg l::r=>FD l++go r
 |_::r=>go r
def E6:List V->List Nat
 |[]=>[]
 |v::r=>LB v++E6 r
def E2(o:Store):List Nat->List Upd
 |[]=>[]
 |n::r=>match DV o n with
  |some (.row AC e ag ks l)=>.set n (.row AD e ag ks l)::E2 o r
  |_=>E2 o r
def MS:List Nat->List Upd
 |[]=>[]
 |n::r=>.kill n::MS r
def GY(nm:Nat):List V->List V
 |[]=>[]
 |.vec _ _ _ l::r=>.row nm 0 l.length::GY (nm+1) r
 |v::r=>v::GY (nm+1) r
def KV(nm:Nat):List V->List Upd
 |[]=>[]
 |.vec e ag ks l::r=>.new nm (.row AC e ag ks l)::KV (nm+1) r
 |_::r=>KV (nm+1) r
def OX:List V->List V
 |[]=>[]
 |_::r=>.any::OX r
def FX:List V->Option (List V)
 |[]=>AB
 |.bor cs::_=>AA cs
 |.clo _ caps::r=>match borC caps with|some cs=>AA cs|none=>FX r
 |_::r=>FX r
where borC:List V->Option (List V)
 |[]=>AB
 |.bor cs::_=>AA cs
 |_::r=>borC r
def mD:Option (List V)->Bool
 |some _=>AC
 |none=>AD
def R.toT(f:V->List (List V)->T):R->T
 |.no=>.no
 |.ok v out=>f v out
 |.br b x y=>.br b (x.toT f) (y.toT f)
theorem R.toT_get{f:V->List (List V)->T}{z:V×List Upd}:∀{r:R},(r.toT f).get=AA z->∃v out,r.get=AA (v,out)/\(f v out).get=AA z
 |.no,h=>by simp[R.toT,T.get]at h
 |.ok v out,h=>⟨v,out,rfl,h⟩
 |.br AC x _,h=>R.toT_get (r:=x) h
 |.br AD _ y,h=>R.toT_get (r:=y) h
def gH(o:Store)(d:Nat)(vs:List V)(v:V)(out:List (List V)):T:=
 match out with
 |[]=>match v with
  |.bor cs=>match CG (1000*(d+1)+cs.length) 900000 with
   |true=>.ok (.ptr d 0 0) (E2 o (match IU cs with|true=>E6 vs|false=>[])++(KV (1000*(d+1)) cs++[.new d (.box (GY (1000*(d+1)) cs))]))
   |false=>.no
  |.vec e ag ks l=>.ok (.row d 0 l.length) (E2 o (E6 vs)++[.new d (.row AC e ag ks l)])
  |v=>.ok v (E2 o (match IY v with|true=>E6 vs|false=>[]))
 |_=>.no
def gG(o:Store)(d n:Nat)(cs vs:List V)(v:V)(outs:List (List V)):T:=
 match outs with
 |[out]=>match B2 out.length cs.length&&((BV n (1000*(d+1))||CG (1000*(d+1)+out.length) n)&&CG (1000*(d+1)+out.length) 900000)with
  |true=>.ok v (E2 o (IG o (FD cs++E6 vs) cs++(match IY v||IU out with|true=>E6 vs|false=>[]))++
   (MS (HJ o (FD cs++E6 vs) cs)++(.set n (.box (OX cs))::(KV (1000*(d+1)) out++[.set n (.box (GY (1000*(d+1)) out))]))))
  |false=>.no
 |_=>.no
def gF(o:Store)(n:Nat)(vs:List V)(v:V)(outs:List (List V)):T:=
 match outs with
 |[[.bld s']]=>.ok v (E2 o (match IY v with|true=>E6 vs|false=>[])++[.set n (.bld s')])
 |_=>.no
def xZ:V->Option (Kd×IV)
 |.int k n=>AA (.int k,.int n)
 |.bool b=>AA (.bool,.bool b)
 |.str s=>AA (.str,.str s)
 |.list ag ks l=>AA (.list ag ks,.list l)
 |_=>AB
def kA:List V->Option (List Kd×LI)
 |[]=>AA ([],[])
 |v::r=>match xZ v,kA r with
  |some x,AA y=>AA (x.1::y.1,x.2::y.2)
  |_,_=>AB
def MO(o:Store):V->V
 |.ptr n i c=>match B2 i 0&&B2 c 0,DV o n with
  |true,AA (.box cs)=>match kA cs with
   |some y=>.iptr y.1 (LO y.2) 0
   |none=>.any
  |_,_=>.any
 |v=>IN (EZ o [] AB v)
def NC(o:Store)(ks:List Kd):V->V
 |.clo f caps=>.clo f (caps.map (MO o))
 |.ptr _ _ _=>.any
 |v=>J2 o [] ks v
def KU(o:Store):List (List Kd)->List V->List V
 |_,[]=>[]
 |[],v::vs=>NC o [] v::KU o [] vs
 |t::ts,v::vs=>NC o t v::KU o ts vs
def yX(v:V)(out:List (List V)):T:=
 match v,out with
 |.bool b,[]=>.ok (.bool b) []
 |_,_=>.no
def VM(o:Store)(d:Nat)(tks:List (List Kd))(sp:D4)(vs:List V):T:=
 match FL vs with
 |[]=>(sp (GJ o [] tks vs)).toT (gH o d vs)
 |[n]=>match DV o n with
  |some (.box cs)=>match mD (FX (GJ o (cs.map (FS o (FD cs++E6 vs))) tks vs))with
   |true=>(sp (GJ o (cs.map (FS o (FD cs++E6 vs))) tks vs)).toT (gG o d n cs vs)
   |false=>.no
  |some (.bld s)=>match mD (FX (GJ o [.bld s] tks vs))with
   |true=>(sp (GJ o [.bld s] tks vs)).toT (gF o n vs)
   |false=>.no
  |_=>.no
 |_=>(sp (KU o tks vs)).toT yX
def EV:V->V
 |.bor _=>.ptr 900000 0 0
 |.clo f caps=>.clo f (caps.map go)
 |v=>v
where go:V->V
 |.bor _=>.ptr 900000 0 0
 |v=>v
def MZ:V->V
 |.vec _ _ _ l=>.row 900000 0 l.length
 |v=>EV v
def LR(nr:Nat):List V->Store
 |[]=>[]
 |.vec e ag ks l::r=>(nr,AA (.row AC e ag ks l))::LR (nr+1) r
 |_::r=>LR (nr+1) r
def E7:List V->Store
 |[.bld s]=>[(900000,AA (.bld s))]
 |cs=>(900000,AA (.box (GY 900001 cs)))::LR 900001 cs
def I0(vs:List V):Store:=match FX vs with|some cs=>E7 cs|none=>[]
def GZ(r:V)(out:List (List V)):Store:=
 match r,out with
 |_,cs::_=>E7 cs
 |.bor cs,[]=>E7 cs
 |.vec e ag ks l,[]=>[(900000,AA (.row AC e ag ks l))]
 |_,[]=>[]
def NW(o:Store)(ks:List Kd):V->V
 |.agg l=>.agg (MV (λk v=>IN (EZ o [] k v)) ks l)
 |v=>IN (EZ o [] ks.head? v)
def H1(o:Store)(ks:List (List Kd)):V->V
 |.tup l=>.tup (go ks l)
 |v=>NW o (ks.headD []) v
where go:List (List Kd)->List V->List V
 |_,[]=>[]
 |[],v::vs=>NW o [] v::go [] vs
 |t::ts,v::vs=>NW o t v::go ts vs
def lT(o:Store)(ks:List (List Kd))(b:Option (List V))(v:V):DU:=
 match b with
 |some [.bld _]=>match DV o 900000 with
  |some (.bld s)=>AA (H1 o ks v,[[.bld s]])
  |_=>AB
 |some _=>match DV o 900000 with
  |some (.box cs)=>AA (H1 o ks v,[cs.map (FS o (FD cs++LB v))])
  |_=>AB
 |none=>match v with
  |.ptr n _ c=>match DV o n,B2 c 0 with
   |some (.box cs),AC=>AA (.bor (cs.map (FS o (FD cs++[]))),[])
   |_,_=>AB
  |.row n lo hi=>match ks,DV o n with
   |[],AA (.row AC e ag ks' l)=>match B2 lo 0 with
    |true=>AA (.vec e ag ks' (l.take hi),[])
    |false=>AB
   |_,_=>AA (H1 o ks (.row n lo hi),[])
  |v=>AA (H1 o ks v,[])
open Go
def EL:Nat:=70368744177664
def aJ(n:Nat)(lo hi:Option V)(k:Nat->Nat->T):T:=
 match lo,hi with
 |none,AB=>k 0 n
 |some (.int _ i),AB=>.when (AE (0<=i)&&AE (i<=(n:Int))) (k i.toNat n)
 |none,AA (.int _ j)=>.when (AE (0<=j)&&AE (j<=(n:Int))) (k 0 j.toNat)
 |some (.int _ i),AA (.int _ j)=>.when (AE (0<=i)&&(AE (i<=j)&&AE (j<=(n:Int)))) (k i.toNat j.toNat)
 |_,_=>.no
def TT(o:Store):V->Option LI
 |.list _ _ l=>AA l
 |.row n lo hi=>match DV o n with
  |some (.row _ _ _ _ l)=>AA ((l.take hi).drop lo)
  |_=>AB
 |.zs=>AA []
 |_=>AB
def RE(o:Store):V->Option (Bool×List Kd)
 |.list ag ks _=>AA (ag,ks)
 |.row n _ _=>match DV o n with
  |some (.row _ _ ag ks _)=>AA (ag,ks)
  |_=>AB
 |_=>AB
def N9(ag:Bool)(ks:List Kd)(o:Store)(cs:List V)(sz:Nat):Nat->Option LI
 |0=>AA []
 |n+1=>match Q4 o ag ks (match ag with|true=>.agg (PL cs sz)|false=>SG cs 0),N9 ag ks o (NK cs sz) sz n with
  |some x,AA r=>AA (x::r)
  |_,_=>AB
def P1(o:Store)(d e:Nat)(ag:Bool)(ks:List Kd)(bytes:Nat)(s:V)(l:LI):T:=
 match s with
 |.zs=>.when (AE (l.length*bytes<=EL)) (.ok (.row d 0 l.length) [.new d (.row AC e ag ks l)])
 |.row n lo hi=>match DV o n with
  |some (.row AC e' ag' ks' l0)=>match B2 lo 0&&B2 e e'&&BV e 1000000&&I5 (.list ag ks) (.list ag' ks')with
   |true=>.when (AE ((hi+l.length)*bytes<=EL)) (.ok (.row d 0 (hi+l.length)) [.kill n,.new d (.row AC e ag ks (l0.take hi++l))])
   |false=>.no
  |_=>.no
 |_=>.no
def XY(o:Store)(d et:Nat)(e:TI)(s x:V):T:=
 match x with
 |.bview n c cap sz len=>match DV o n with
  |some (.box cs)=>match B2 sz e.size&&(FD cs).isEmpty with
   |true=>fork (cap+1) 0 (len:Int) λm=>match N9 e.agg e.ks o (NK cs c) sz m with
    |some l=>P1 o d et e.agg e.ks e.bytes s l
    |none=>.no
   |false=>.no
  |_=>.no
 |.zs=>P1 o d et e.agg e.ks e.bytes s []
 |x=>match TT o x,RE o x with
  |some l,AA (ag,ks)=>match I5 (.list e.agg e.ks) (.list ag ks)with
   |true=>P1 o d et e.agg e.ks e.bytes s l
   |false=>.no
  |_,_=>.no
def Z5(o:Store)(d et:Nat)(e:TI)(tk:List Kd)(s x:V):T:=
 match tk,x,N9 e.agg e.ks [] e.zero e.size 1 with
 |[.int _],.int _ k,AA (z::_)=>match BV 0 e.size&&(BV et 1000000&&(AE (1<=k)&&(AE (k<=1000)&&(FD e.zero).isEmpty)))with
  |true=>P1 o d et e.agg e.ks e.bytes s (B6 k.toNat z)
  |false=>.no
 |_,_,_=>.no
def RI(o:Store)(x:TI)(p v:V):T:=
 match p with
 |.ptr n i c=>match DV o n with
  |some (.box cs)=>match CG (c+x.size) cs.length&&(B2 (cells v).length x.size&&B2 i 0)with
   |true=>.when (SJ o v&&(T7 o (cells v)&&BV 0 x.size)) (.ok .any [.set n (.box (HE cs c (cells v)))])
   |false=>.no
  |some (.row AC e ag ks l)=>match CG (c+x.size) ks.length&&B2 (cells v).length x.size with
   |true=>match K1 o (takeK (dropK ks c) x.size) (cells v)with
    |some vs=>.when (SJ o v&&(T7 o (cells v)&&BV 0 x.size)&&!(K3 n (FD (cells v)))&&(ag||B2 ks.length 1)) (.ok .any (E2 o (FD (cells v))++[.set n (.row AC e ag ks (l.set i (PH ag ks (l.getD i default) c vs)))]))
    |none=>.no
   |false=>.no
  |_=>.no
 |_=>.no
where
 takeK:List Kd->Nat->List Kd
  |_,0=>[]
  |[],_+1=>[]
  |x::r,n+1=>x::takeK r n
 dropK:List Kd->Nat->List Kd
  |l,0=>l
  |[],_+1=>[]
  |_::r,n+1=>dropK r n
def MQ(o:Store)(place:Nat->Option (Nat×Nat)):List V->List (Nat×V)->Option (List V)
 |cs,[]=>AA cs
 |cs,(i,v)::r=>match place i with
  |some (off,size)=>match SJ o v&&(B2 (cells v).length size&&CG (off+size) cs.length)with
   |true=>MQ o place (HE cs off (cells v)) r
   |false=>AB
  |none=>AB
def RA(z:List V):Nat->List V
 |0=>[]
 |n+1=>z++RA z n
def UF(E:Env)(fs:List (Nat×Nat))(i:Nat):Option (Nat×Nat):=
 match fs,i with
 |[],_=>AB
 |(off,t)::_,0=>match BV 0 (E.tyd t).size with|true=>AA (off,(E.tyd t).size)|false=>AB
 |_::r,i+1=>UF E r i
def L6(ρ:Operand->V):List (Nat×Operand)->List (Nat×V)
 |[]=>[]
 |(i,x)::r=>(i,ρ x)::L6 ρ r
def PK(E:Env)(e n:Nat):Bool:=B2 n (E.tyd e).size&&BV 0 n
def lF(E:Env)(o:Store)(t:Nat)(x y:V):T:=
 match x,y with
 |.bview n c _ sz len,.bview n' c' cap' sz' len'=>match DV o n,DV o n',(E.tyd t).d with
  |some (.box cs),AA (.box cs'),.slice e=>match PK E e sz&&B2 sz sz' with
   |true=>.when (T7 o cs') (fork (cap'+1) 0 ((min len' len:Nat):Int) λm=>.ok (.int .i64 (m:Int)) [.set n (.box (HE cs c (PL (NK cs' c') (m*sz))))])
   |false=>.no
  |_,_,_=>.no
 |_,_=>.no
def mU(E:Env)(o:Store)(t:Nat)(x:V):T:=
 match x with
 |.list _ _ l=>match(E.tyd t).d with|.slice _=>.ok (.int .i64 (l.length:Int)) []|_=>.no
 |.str s=>match(E.tyd t).d,(E.tyd t).ks with|.leaf,[.str]=>.ok (.int .i64 (s.size:Int)) []|_,_=>.no
 |.zs=>match(E.tyd t).d with|.slice _=>.ok (.int .i64 0) []|_=>.no
 |.row n lo hi=>match(E.tyd t).d,DV o n with|.slice _,AA (.row _ _ _ _ _)=>.ok (.int .i64 ((hi-lo:Nat):Int)) []|_,_=>.no
 |.bview n _ _ _ len=>match(E.tyd t).d,DV o n with|.slice _,AA (.box _)=>.ok (.int .i64 (len:Int)) []|_,_=>.no
 |_=>match(E.tyd t).d with
  |.array n _=>match CG n 1000 with|true=>.ok (.int .i64 (n:Int)) []|false=>.no
  |_=>.no
def oX(E:Env):List Nat->List (List Kd)
 |[]=>[]
 |t::r=>(E.tyd t).ks::oX E r
def KN(ρ:Operand->V):List Operand->List V
 |[]=>[]
 |x::r=>ρ x::KN ρ r
def X8:List V->Bool
 |[]=>AC
 |.clo _ _::_=>AD
 |.tup _::_=>AD
 |_::r=>X8 r
def l9:List V->Bool
 |[]=>AC
 |.int .i64 _::r=>l9 r
 |_=>AD
def YL(o:Store):List V->Option (List V)
 |[]=>AA []
 |[.clo f [.ptr m i c]]=>match B2 i 0&&B2 c 0,DV o m with
  |true,AA (.box cs)=>match l9 cs with|true=>AA [.clo f [.bor cs]]|false=>AB
  |_,_=>AB
 |_=>AB
def aS(o:Store)(d:Option Nat)(p:Ip)(vs:List V):T:=
 match vs with
 |.row n lo hi::rest=>match DV o n,YL o rest with
  |some (.row AC e AD [.z] l),AA rs=>match B2 lo 0&&(B2 e p.e&&BV e 1000000)with
   |true=>.when (B2 hi l.length) (match p.g rs l with
    |some l'=>match p.ret,d with
     |true,AA d=>.when (CG l'.length l.length) (.ok (.row d 0 l'.length) [.kill n,.new d (.row AC e AD [.z] l')])
     |false,_=>.when (B2 l'.length l.length) (.ok .any [.set n (.row AC e AD [.z] l')])
     |_,_=>.no
    |none=>.no)
   |false=>.no
  |_,_=>.no
 |.zs::rest=>match YL o rest with
  |some rs=>match p.g rs []with
   |some []=>match p.ret,d with
    |true,AA d=>.when (BV p.e 1000000) (.ok (.row d 0 0) [.new d (.row AC p.e AD [.z] [])])
    |false,_=>.ok .any []
    |_,_=>.no
   |_=>.no
  |none=>.no
 |_=>.no
def qB(E:Env)(o:Store)(d:Option Nat)(tks:List (List Kd))(f:Nat)(vs:List V):T:=
 match lk E.ip f with
 |some p=>aS o d p vs
 |none=>match d with
  |some d=>VM o d tks (FA (λ_=>.no) E.sp f) vs
  |none=>.no
def TQ(E:Env)(o:Store)(ρ:Operand->V)(d:Option Nat)(c:Call):T:=
 match c.callee,d with
 |.builtin .len,_=>match c.args.toList,c.argTypes.toList with
  |[x],[t]=>mU E o t (ρ x)
  |_,_=>.no
 |.builtin .append,AA d=>match c.args.toList,c.argTypes.toList with
  |[s,x],[t,t']=>match(E.tyd t).d,(E.tyd t').d with
   |.slice e,.slice _=>match BV 0 (E.tyd e).size&&BV e 1000000 with
    |true=>XY o d e (E.tyd e) (ρ s) (ρ x)
    |false=>.no
   |.slice e,.leaf=>Z5 o d e (E.tyd e) (E.tyd t').ks (ρ s) (ρ x)
   |_,_=>.no
  |_,_=>.no
 |.builtin .copy,_=>match c.args.toList,c.argTypes.toList with
  |[x,y],[t,_]=>lF E o t (ρ x) (ρ y)
  |_,_=>.no
 |.builtin .min,_=>match KN ρ c.args.toList with
  |[.int k a,.int k' b]=>match k==k' with|true=>.ok (.int k (min a b)) []|false=>.no
  |_=>.no
 |.builtin .max,_=>match KN ρ c.args.toList with
  |[.int k a,.int k' b]=>match k==k' with|true=>.ok (.int k (max a b)) []|false=>.no
  |_=>.no
 |.value (.func f),d=>qB E o d (oX E c.argTypes.toList) f (KN ρ c.args.toList)
 |.value x,AA d=>match ρ x with
  |.clo f caps=>match X8 caps with
   |true=>VM o d (oX E c.argTypes.toList) (FA (λ_=>.no) E.sp f) (KN ρ c.args.toList++caps)
   |false=>.no
  |_=>.no
 |_,_=>.no
def F9(n:Nat):V->V
 |.row m lo hi=>match B2 m n with|true=>.any|false=>.row m lo hi
 |.ptr m i c=>match B2 m n with|true=>.any|false=>.ptr m i c
 |.bview m c cap sz len=>match B2 m n with|true=>.any|false=>.bview m c cap sz len
 |.agg l=>.agg (l.map (leaf n))
 |.tup l=>.tup (l.map (leaf2 n))
 |.clo f l=>.clo f (l.map (leaf n))
 |v=>v
where
 leaf (n:Nat):V->V
  |.row m lo hi=>match B2 m n with|true=>.any|false=>.row m lo hi
  |.ptr m i c=>match B2 m n with|true=>.any|false=>.ptr m i c
  |.int k x=>.int k x
  |.bool b=>.bool b
  |.str s=>.str s
  |.list ag ks l=>.list ag ks l
  |.zs=>.zs
  |.err b=>.err b
  |.nilp=>.nilp
  |_=>.any
 leaf2 (n:Nat):V->V
  |.agg l=>.agg (l.map (leaf n))
  |v=>leaf n v
def EJ(E:Env)(o:Store)(ρ:Operand->V)(d:Option Nat):Op->T
 |.move x|.assign x=>.ok (ρ x) []
 |.pick c a b=>match ρ c with
  |.bool c=>match ρ a,ρ b with
   |.bool x,.bool y=>.ok (.bool (match c with|true=>x|false=>y)) []
   |x,y=>.br c (.ok x []) (.ok y [])
  |_=>.no
 |.alloc t=>match d with
  |some d=>match(E.tyd t).d with
   |.bld=>.ok (.ptr d 0 0) [.new d (.bld CQ)]
   |_=>match BV 0 (E.tyd t).size with
    |true=>.ok (.ptr d 0 0) [.new d (.box (E.tyd t).zero)]
    |false=>.no
  |none=>.no
 |.box _ x=>match d with
  |some d=>.when (SJ o (ρ x)) (.ok (.ptr d 0 0) [.new d (.box ((cells (ρ x)).map (F9 d)))])
  |none=>.no
 |.build t parts=>match(E.tyd t).d with
  |.struct fs=>match MQ o (UF E fs) (E.tyd t).zero (L6 ρ parts.toList)with
   |some cs=>.ok (.agg cs) []
   |none=>.no
  |.array _ e=>match MQ o (λi=>AA (i*(E.tyd e).size,(E.tyd e).size)) (E.tyd t).zero (L6 ρ parts.toList)with
   |some cs=>.when (BV 0 (E.tyd e).size) (.ok (.agg cs) [])
   |none=>.no
  |_=>.no
 |.buildSlice t len parts=>match d,(E.tyd t).d with
  |some d,.slice e=>match MQ o (λi=>AA (i*(E.tyd e).size,(E.tyd e).size)) (RA (E.tyd e).zero len) (L6 ρ parts.toList)with
   |some cs=>match N9 (E.tyd e).agg (E.tyd e).ks o cs (E.tyd e).size len with
    |some l=>.when (BV 0 (E.tyd e).size&&(BV e 1000000&&CG (len*(E.tyd e).size) 16777216)) (.ok (.row d 0 len) (E2 o (FD cs)++[.new d (.row AC e (E.tyd e).agg (E.tyd e).ks l)]))
    |none=>.no
   |none=>.no
  |_,_=>.no
 |.load t a=>match ρ a with
  |.ptr n i c=>match DV o n with
   |some (.box cs)=>T.of (R9 (E.tyd t).agg (E.tyd t).size cs c)
   |some (.row _ _ ag ks l)=>T.of (aY (E.tyd t).agg (E.tyd t).size ks (GK ag (l.getD i default)) c)
   |_=>.no
  |.iptr ks f c=>T.of (aY (E.tyd t).agg (E.tyd t).size ks f c)
  |_=>.no
 |.store t a x=>RI o (E.tyd t) (ρ a) (ρ x)
 |.nilCheck x=>match ρ x with
  |.ptr n i c=>match DV o n with
   |some (.map _ _)=>.no
   |some _=>.ok (.ptr n i c) []
   |none=>.no
  |_=>.no
 |.binOp op t x y _=>kY E o op t y (ρ x) (ρ y)
 |.unOp op _ x=>xW op (ρ x)
 |.convert s t x=>match ρ x with
  |.int _ n=>match(E.tyd t).d,(E.tyd t).ks,(E.tyd s).ks with
   |.leaf,[.int k],_::_=>.ok (.int k (k.wrap n)) []
   |_,_,_=>.no
  |.str a=>match(E.tyd t).d,(E.tyd t).ks,(E.tyd s).ks with
   |.leaf,[.str],_::_=>.ok (.str a) []
   |.slice e,[.list AD [.int .u8]],_::_=>match d,(E.tyd e).d,(E.tyd e).ks with
    |some d,.leaf,[.int .u8]=>.ok (.row d 0 a.size) [.new d (.row AC (e+1000000) AD [.int .u8] (a.data.toList.map λb=>.int (b.toNat:Int)))]
    |_,_,_=>.no
   |_,_,_=>.no
  |v=>match(E.tyd t).d,(E.tyd t).ks,(E.tyd s).d with
   |.leaf,[.str],.slice e=>match(E.tyd e).d,(E.tyd e).ks,TT o v,RE o v with
    |.leaf,[.int .u8],AA l,AA (AD,[.int .u8])=>.ok (.str (strOfNums (l.map IV.toInt))) []
    |_,_,_,_=>.no
   |_,_,_=>.no
 |.makeFunc (.func f) first captured=>match first.toList with
  |[]=>.ok (.clo f (KN ρ captured.toList)) []
  |_=>.no
 |.makeSlice t n m=>match d,(E.tyd t).d,ρ n,ρ m with
  |some d,.slice e,.int _ n,.int _ m=>match N9 (E.tyd e).agg (E.tyd e).ks o (E.tyd e).zero (E.tyd e).size 1 with
   |some (z::_)=>.when (BV 0 (E.tyd e).size&&(BV e 1000000&&AE (0<=n))&&(AE (n=m)&&AE (n*((E.tyd e).bytes:Int)<=(EL:Int)))) (.ok (.row d 0 n.toNat) (E2 o (FD (E.tyd e).zero)++[.new d (.row AC e (E.tyd e).agg (E.tyd e).ks (B6 n.toNat z))]))
   |_=>.no
  |_,_,_,_=>.no
 |.slice t x lo hi mx=>match mx,ρ x with
  |none,.str s=>match(E.tyd t).d,(E.tyd t).ks with
   |.leaf,[.str]=>aJ s.size (lo.map ρ) (hi.map ρ) λi j=>.ok (.str (s.extract i j)) []
   |_,_=>.no
  |none,.list ag ks l=>match(E.tyd t).d with
   |.slice e=>.when (PK E e ks.length) (aJ l.length (lo.map ρ) (hi.map ρ) λi j=>.ok (.list ag ks ((l.take j).drop i)) [])
   |_=>.no
  |none,.row n a b=>match(E.tyd t).d,DV o n with
   |.slice e,AA (.row _ _ _ ks _)=>.when (PK E e ks.length) (aJ (b-a) (lo.map ρ) (hi.map ρ) λi j=>.ok (.row n (a+i) (a+j)) [])
   |_,_=>.no
  |none,.ptr n _ c=>match(E.tyd t).d,lo,DV o n with
   |.array N e,AB,AA (.box cs)=>.when (PK E e (E.tyd e).size&&(CG (c+N*(E.tyd e).size) cs.length&&CG N 1000)) (aJ N AB (hi.map ρ) λ_ j=>.ok (.bview n c N (E.tyd e).size j) [])
   |_,_,_=>.no
  |_,_=>.no
 |.fieldAddr s x f=>match(E.tyd s).d with
  |.struct fs=>match UF E fs f with
   |some (off,_)=>match ρ x with
    |.ptr n i c=>match DV o n with
     |some (.box _)=>.ok (.ptr n i (c+off)) []
     |some (.row _ _ _ _ _)=>.ok (.ptr n i (c+off)) []
     |_=>.no
    |.iptr ks g c=>.ok (.iptr ks g (c+off)) []
    |_=>.no
   |none=>.no
  |_=>.no
 |.field t x f=>match(E.tyd t).d,ρ x with
  |.struct fs,.agg cs=>match fs[f]? with
   |some (off,ft)=>match BV 0 (E.tyd ft).size with
    |true=>T.of (R9 (E.tyd ft).agg (E.tyd ft).size cs off)
    |false=>.no
   |none=>.no
  |_,_=>.no
 |.indexAddr t x ix=>match(E.tyd t).d,ρ ix with
  |.slice e,.int _ i=>match ρ x with
   |.list ag ks l=>match PK E e ks.length with
    |true=>.when (AE (0<=i)&&AE (i<(l.length:Int))) (.ok (.iptr ks (GK ag (l.getD i.toNat default)) 0) [])
    |false=>.no
   |.row n lo hi=>match DV o n with
    |some (.row _ _ _ ks _)=>match PK E e ks.length with
     |true=>.when (AE (0<=i)&&AE (i<((hi-lo:Nat):Int))) (.ok (.ptr n (lo+i.toNat) 0) [])
     |false=>.no
    |_=>.no
   |.bview n c cap sz len=>match PK E e sz,DV o n with
    |true,AA (.box _)=>.when (AE (i<(len:Int))) (fork cap 0 i λj=>.ok (.ptr n 0 (c+j*sz)) [])
    |_,_=>.no
   |_=>.no
  |.array N e,.int _ i=>match ρ x with
   |.ptr n i0 c=>match DV o n with
    |some (.box _)=>T.when (PK E e (E.tyd e).size) (fork N 0 i λj=>.ok (.ptr n i0 (c+j*(E.tyd e).size)) [])
    |some (.row _ _ _ _ _)=>T.when (PK E e (E.tyd e).size) (fork N 0 i λj=>.ok (.ptr n i0 (c+j*(E.tyd e).size)) [])
    |_=>.no
   |.iptr ks f c=>T.when (PK E e (E.tyd e).size) (fork N 0 i λj=>.ok (.iptr ks f (c+j*(E.tyd e).size)) [])
   |_=>.no
  |_,_=>.no
 |.index t x ix=>match ρ x,ρ ix with
  |.str s,.int _ i=>match(E.tyd t).d,(E.tyd t).ks with
   |.leaf,[.str]=>.when (AE (0<=i)&&AE (i<(s.size:Int))) (.ok (.int .u8 ((s.data.toList.getD i.toNat 0).toNat:Int)) [])
   |_,_=>.no
  |.agg cs,.int _ i=>match(E.tyd t).d with
   |.array N e=>.when (PK E e (E.tyd e).size) (fork N 0 i λj=>T.of (R9 (E.tyd e).agg (E.tyd e).size cs (j*(E.tyd e).size)))
   |_=>.no
  |_,_=>.no
 |.extract x i=>match ρ x with
  |.tup vs=>match vs[i]? with
   |some v=>.ok v []
   |none=>.no
  |_=>.no
 |.call c=>TQ E o ρ d c
 |.makeMap t r=>match r,d,(E.tyd t).d with
  |none,AA d,.map _ k=>match YR k with
   |true=>.ok (.ptr d 0 0) [.new d (.map k [])]
   |false=>.no
  |_,_,_=>.no
 |.insert t m k v|.mapUpdate t m k v=>match ρ m,ρ k,(E.tyd t).d with
  |.ptr n _ _,.int .i64 z,.map _ _=>match DV o n with
   |some (.map vk es)=>match NO o vk (ρ v)with
    |some x=>.ok .any [.set n (.map vk (HZ es z x))]
    |none=>.no
   |_=>.no
  |_,_,_=>.no
 |.lookup t m k ok=>match ρ m,ρ k,(E.tyd t).d with
  |.ptr n _ _,.int .i64 z,.map _ vk'=>match DV o n with
   |some (.map vk es)=>match I5 vk vk',ok with
    |true,AC=>.ok (.tup [OJ vk (KB vk es z),.bool (BV (GC es z) es.length)]) []
    |true,AD=>.ok (OJ vk (KB vk es z)) []
    |_,_=>.no
   |_=>.no
  |_,_,_=>.no
 |.mapEntry t m k=>match ρ m,ρ k,(E.tyd t).d with
  |.ptr n _ _,.int .i64 z,.map _ vk'=>match DV o n with
   |some (.map vk es)=>match I5 vk vk' with
    |true=>.when (AE (es.length<=strMax)) (.ok (.tup [OJ vk (KB vk es z),.int .i64 ((GC es z:Nat):Int)]) [.set n (.map vk (SC es z (M6 vk)))])
    |false=>.no
   |_=>.no
  |_,_,_=>.no
 |.range t x=>match ρ x,d,(E.tyd t).d with
  |.ptr n _ _,AA d,.map _ _=>match DV o n with
   |some (.map vk es)=>.ok (.ptr d 0 0) [.kill n,.new d (.iter vk AB es)]
   |_=>.no
  |_,_,_=>.no
 |.entry x=>match ρ x with
  |.ptr n _ _=>match DV o n with
   |some (.iter vk (AA e) _)=>.ok (.tup [.int .i64 e.1,OJ vk e.2]) []
   |_=>.no
  |_=>.no
 |.entryStore _ m s v=>match ρ m,ρ s with
  |.ptr n _ _,.int .i64 z=>match DV o n with
   |some (.map vk es)=>match NO o vk (ρ v)with
    |some x=>.when (AE (0<=z)&&AE (z<(es.length:Int))) (.ok .any [.set n (.map vk (PE es z.toNat x))])
    |none=>.no
   |_=>.no
  |_,_=>.no
 |_=>.no
def HM(n:Nat):Option Ob->Option Ob
 |some (.box cs)=>AA (.box (cs.map (F9 n)))
 |x=>x
def YU{α:Type}(f:α->α):List (Nat×α)->List (Nat×α)
 |[]=>[]
 |(i,x)::r=>(i,f x)::YU f r
def St.up(s:St):Upd->St
 |.set n ob=>⟨s.t,(n,AA ob)::s.o⟩
 |.kill n=>⟨s.t,(n,AB)::s.o⟩
 |.new n ob=>⟨YU (F9 n) s.t,(n,AA ob)::YU (HM n) s.o⟩
def St.ups(s:St):List Upd->St
 |[]=>s
 |u::r=>(s.up u).ups r
def St.put(s:St):Option Nat->V->St
 |some d,v=>⟨(d,v)::s.t,s.o⟩
 |none,_=>s
def P5(ops:List Oper)(j:Nat):Option Nat:=
 match ops,j with
 |[],_=>AB
 |o::_,0=>o.dst
 |_::r,j+1=>P5 r j
def Q8(E:Env):Option Nat->Bool
 |some d=>BV d E.nt
 |none=>AC
noncomputable def bV(E:Env)(o:Store)(ρ:Operand->V)(d:Option Nat)(op:Op)(k:V->List Upd->DU):DU:=
 match op with
 |.next x AD=>match ρ x with
  |.ptr n _ _=>match DV o n with
   |some (.iter vk _ rest)=>match B2 rest.length 0 with
    |true=>k (.tup [.bool AD]) []
    |false=>Z3 rest.length λi=>k (.tup [.bool AC,.int .i64 (H0 rest i).1,OJ vk (H0 rest i).2]) [.set n (.iter vk (AA (H0 rest i)) (J7 rest i))]
   |_=>AB
  |_=>AB
 |op=>(EJ E o ρ d op).run k
noncomputable def P6(E:Env)(all:List Oper):List Oper->St->(St->DU)->DU
 |[],s,k=>k s
 |o::r,s,k=>
  match Q8 E o.dst with
  |false=>AB
  |true=>match o.guard with
   |none=>bV E s.o (opd s) o.dst o.op λv us=>P6 E all r ((s.ups us).put o.dst v) k
   |some (j,b)=>match P5 all j with
    |some dj=>match s.get dj with
     |.bool c=>match c with
      |true=>match b with
       |true=>bV E (s.put (AA dj) (.bool AC)).o (opd (s.put (AA dj) (.bool AC))) o.dst o.op λv us=>P6 E all r (((s.put (AA dj) (.bool AC)).ups us).put o.dst v) k
       |false=>P6 E all r ((s.put (AA dj) (.bool AC)).put o.dst (.tup [])) k
      |false=>match b with
       |false=>bV E (s.put (AA dj) (.bool AD)).o (opd (s.put (AA dj) (.bool AD))) o.dst o.op λv us=>P6 E all r (((s.put (AA dj) (.bool AD)).ups us).put o.dst v) k
       |true=>P6 E all r ((s.put (AA dj) (.bool AD)).put o.dst (.tup [])) k
     |.tup []=>P6 E all r (s.put o.dst (.tup [])) k
     |_=>AB
    |none=>AB
def EX:V->List Nat
 |.row n _ _=>[n]
 |.ptr n _ _=>[n]
 |.bview n _ _ _ _=>[n]
 |_=>[]
def FR:List V->List Nat
 |[]=>[]
 |v::r=>EX v++FR r
def FB:V->List Nat
 |.agg l=>FR l
 |.clo _ l=>go l
 |.tup l=>go l
 |v=>EX v
where go:List V->List Nat
 |[]=>[]
 |.agg l::r=>FR l++go r
 |v::r=>EX v++go r
def HL:List V->List Nat
 |[]=>[]
 |v::r=>FB v++HL r
def LK(o:Store):List Nat->List Nat
 |[]=>[]
 |n::r=>match DV o n with
  |some (.box cs)=>FR cs++LK o r
  |_=>LK o r
def yR(E:Env):Op->List Nat
 |.buildSlice t _ _|.makeSlice t _ _=>match(E.tyd t).d with
  |.slice e=>FR (E.tyd e).zero
  |_=>[]
 |_=>[]
def nW(E:Env)(o:Store)(ρ:Operand->V)(op:Op):List Nat:=
 HL (op.operands.toList.map ρ)++yR E op++LK o (HL (op.operands.toList.map ρ))
def Ms:Op->Bool
 |.move _|.assign _|.extract _ _=>AC
 |_=>AD
def OM(E:Env)(o:Store)(ρ:Operand->V)(op:Op):List Nat:=
 match Ms op with
 |true=>[]
 |false=>nW E o ρ op
structure Dn where
 dst:Option Nat
 tm:List Nat
 v:V
 us:List Upd
 rd:List Nat
def KF:List Upd->Store->Store
 |[],o=>o
 |.set n ob::r,o=>KF r ((n,AA ob)::o)
 |.kill n::r,o=>KF r ((n,AB)::o)
 |.new n ob::r,o=>KF r ((n,AA ob)::o)
def apD(s:St)(x:Dn):St:=⟨(s.put x.dst x.v).t,KF x.us s.o⟩
def apDs(s:St):List Dn->St
 |[]=>s
 |x::r=>apDs (apD s x) r
def OH(s:St)(j:Nat)(b:Bool):St:=⟨(j,.bool b)::s.t,s.o⟩
def ZG:List Operand->List Nat
 |[]=>[]
 |.tmp t::r=>t::ZG r
 |_::r=>ZG r
def M4(all:List Oper)(o:Oper):List Nat:=
 match o.guard with
 |some (j,_)=>match P5 all j with
  |some dj=>dj::ZG o.op.operands.toList
  |none=>ZG o.op.operands.toList
 |none=>ZG o.op.operands.toList
def Q7(E:Env)(all:List Oper):List Oper->St->List Dn->(List Dn->St->DU)->DU
 |[],s,acc,k=>k acc s
 |o::r,s,acc,k=>
  match Q8 E o.dst with
  |false=>AB
  |true=>match o.guard with
   |none=>(EJ E s.o (opd s) o.dst o.op).run λv us=>Q7 E all r (apD s ⟨o.dst,M4 all o,v,us,OM E s.o (opd s) o.op⟩) (⟨o.dst,M4 all o,v,us,OM E s.o (opd s) o.op⟩::acc) k
   |some (j,b)=>match P5 all j with
    |some dj=>match s.get dj with
     |.bool c=>match c with
      |true=>match b with
       |true=>(EJ E s.o (opd (OH s dj AC)) o.dst o.op).run λv us=>Q7 E all r (apD (OH s dj AC) ⟨o.dst,M4 all o,v,us,OM E s.o (opd (OH s dj AC)) o.op⟩) (⟨o.dst,M4 all o,v,us,OM E s.o (opd (OH s dj AC)) o.op⟩::acc) k
       |false=>Q7 E all r (apD (OH s dj AC) ⟨o.dst,M4 all o,.tup [],[],[]⟩) (⟨o.dst,M4 all o,.tup [],[],[]⟩::acc) k
      |false=>match b with
       |false=>(EJ E s.o (opd (OH s dj AD)) o.dst o.op).run λv us=>Q7 E all r (apD (OH s dj AD) ⟨o.dst,M4 all o,v,us,OM E s.o (opd (OH s dj AD)) o.op⟩) (⟨o.dst,M4 all o,v,us,OM E s.o (opd (OH s dj AD)) o.op⟩::acc) k
       |true=>Q7 E all r (apD (OH s dj AD) ⟨o.dst,M4 all o,.tup [],[],[]⟩) (⟨o.dst,M4 all o,.tup [],[],[]⟩::acc) k
     |.tup []=>Q7 E all r (apD s ⟨o.dst,M4 all o,.tup [],[],[]⟩) (⟨o.dst,M4 all o,.tup [],[],[]⟩::acc) k
     |_=>AB
    |none=>AB
def YF:List Oper->List Nat
 |[]=>[]
 |o::r=>match o.dst with|some d=>d::YF r|none=>YF r
def P8(ds:List Nat)(n:Nat):Bool:=K3 n ds||(CG 1000 n&&K3 (n/1000-1) ds)
def G8(p:Nat->Bool):V->V
 |.row m lo hi=>match p m with|true=>.any|false=>.row m lo hi
 |.ptr m i c=>match p m with|true=>.any|false=>.ptr m i c
 |.bview m c cap sz len=>match p m with|true=>.any|false=>.bview m c cap sz len
 |.agg l=>.agg (go p l)
 |.tup l=>.tup (go2 p l)
 |.clo f l=>.clo f (go p l)
 |v=>v
where
 leaf (p:Nat->Bool):V->V
  |.row m lo hi=>match p m with|true=>.any|false=>.row m lo hi
  |.ptr m i c=>match p m with|true=>.any|false=>.ptr m i c
  |.int k x=>.int k x
  |.bool b=>.bool b
  |.str s=>.str s
  |.list ag ks l=>.list ag ks l
  |.zs=>.zs
  |.err b=>.err b
  |.nilp=>.nilp
  |_=>.any
 go (p:Nat->Bool):List V->List V
  |[]=>[]
  |v::r=>leaf p v::go p r
 leaf2 (p:Nat->Bool):V->V
  |.agg l=>.agg (go p l)
  |v=>leaf p v
 go2 (p:Nat->Bool):List V->List V
  |[]=>[]
  |v::r=>leaf2 p v::go2 p r
def LT(p:Nat->Bool):Option Ob->Option Ob
 |some (.box cs)=>AA (.box (mapV (G8 p) cs))
 |x=>x
where mapV (f:V->V):List V->List V
 |[]=>[]
 |v::r=>f v::mapV f r
def aI(p:Nat->Bool):Store->Store
 |[]=>[]
 |(n,x)::r=>match p n with|true=>(n,AB)::aI p r|false=>(n,LT p x)::aI p r
def OA(ds:List Nat)(s:St):St:=⟨YU (G8 (P8 ds)) s.t,aI (P8 ds) s.o⟩
def aG:V->Bool
 |.any|.row _ _ _|.ptr _ _ _|.int _ _|.bool _|.str _|.list _ _ _|.zs|.err _|.nilp=>AC
 |_=>AD
def aH:List V->Bool
 |[]=>AC
 |v::r=>match aG v with|true=>aH r|false=>AD
def Q1:V->Bool
 |.agg l=>aH l
 |.clo _ l=>aH l
 |.tup l=>go l
 |_=>AC
where go:List V->Bool
 |[]=>AC
 |.agg l::r=>match aH l with|true=>go r|false=>AD
 |v::r=>match aG v with|true=>go r|false=>AD
def lB:List V->Bool
 |[]=>AC
 |v::r=>match Q1 v with|true=>lB r|false=>AD
def qI:Ob->Bool
 |.box cs=>lB cs
 |_=>AC
def jK:Ob->List Nat
 |.box cs=>HL cs
 |_=>[]
def QE:List Upd->List Nat
 |[]=>[]
 |.new n _::r=>n::QE r
 |_::r=>QE r
def JG:List Upd->List Nat
 |[]=>[]
 |.new n _::r=>n::JG r
 |.set n _::r=>n::JG r
 |.kill n::r=>n::JG r
def VX:List Upd->List Nat
 |[]=>[]
 |.new _ ob::r=>jK ob++VX r
 |.set _ ob::r=>jK ob++VX r
 |.kill _::r=>VX r
def TR:List Nat->List Nat->Bool
 |[],_=>AC
 |n::r,l=>match K3 n l with|true=>AD|false=>TR r l
def QP:List Upd->Bool
 |[]=>AC
 |.new _ ob::r=>qI ob&&(TR (QE r) (jK ob)&&QP r)
 |.set _ ob::r=>qI ob&&(TR (QE r) (jK ob)&&QP r)
 |.kill _::r=>QP r
def kT(ds:List Nat):List Nat->Bool
 |[]=>AC
 |n::r=>P8 ds n&&kT ds r
def i7(ds:List Nat):List Dn->Bool
 |[]=>AC
 |x::r=>Q1 x.v&&(QP x.us&&(kT ds (QE x.us)&&i7 ds r))
def ID:List (List Nat)->Nat->List Nat
 |[],_=>[]
 |x::_,0=>x
 |_::r,n+1=>ID r n
def V3(acc:List (List Nat)):List Edge->List Nat
 |[]=>[]
 |e::r=>match va4 .any e with
  |true=>e.on::(ID acc e.on++V3 acc r)
  |false=>V3 acc r
def i6(acc:List Nat):List Nat->(List Nat->List (List Nat))->List (List Nat)
 |[],k=>k acc
 |n::r,k=>match K3 n acc with
  |true=>i6 acc r k
  |false=>i6 (n::acc) r k
def JL(acc:List (List Nat)):List Oper->List (List Nat)
 |[]=>acc
 |o::r=>i6 [] (V3 acc o.after.toList) λl=>JL (acc++[l]) r
def TS:Nat->List Oper->Bool
 |_,[]=>AC
 |i,o::r=>go i o.after.toList&&TS (i+1) r
where go (i:Nat):List Edge->Bool
 |[]=>AC
 |e::r=>match va4 .any e with
  |true=>BV e.on i&&go i r
  |false=>go i r
def Kt:Option Nat->List Nat->Bool
 |some d,l=>K3 d l
 |none,_=>AD
def uJ:Option Nat->Option Nat->Bool
 |some d,AA e=>B2 d e
 |_,_=>AD
def jA(pi pj:List Nat)(i j:Nat)(x y:Dn):Bool:=
 match K3 i pj with
 |true=>AC
 |false=>TR (QE x.us) (FB y.v++VX y.us)&&(match K3 j pi with
  |true=>AC
  |false=>!(Kt y.dst x.tm)&&(!(uJ x.dst y.dst)&&(TR (JG y.us) x.rd&&TR (JG x.us) (JG y.us))))
def bI(ps:List (List Nat))(pi:List Nat)(i:Nat)(x:Dn):Nat->List Dn->Bool
 |_,[]=>AC
 |j,y::r=>(B2 i j||jA pi (ID ps j) i j x y)&&bI ps pi i x (j+1) r
def jB(ps:List (List Nat))(all:List Dn):Nat->List Dn->Bool
 |_,[]=>AC
 |i,x::r=>bI ps (ID ps i) i x 0 all&&jB ps all (i+1) r
def rS(ops:List Oper)(l:List Dn):Bool:=
 TS 0 ops&&(i7 (YF ops) l&&jB (JL [] ops) l 0 l)
def rH(E:Env)(ops:List Oper)(s:St)(k:St->DU):DU:=
 Q7 E ops ops (OA (YF ops) s) [] λacc s'=>match rS ops acc.reverse with
  |true=>k s'
  |false=>AB
inductive Out where
 |normal
 |exit (id:Nat)
 |ret
def VS(s:St):List Nat->List (Nat×V)
 |[]=>[]
 |i::r=>(i,s.get i)::VS s r
def iI(s:St):List Nat->Store
 |[]=>[]
 |i::r=>(i,DV s.o i)::iI s r
def prune(kp:Option (List Nat))(s:St):St:=
 match kp with
 |some l=>⟨VS s l,s.o⟩
 |none=>s
def tC(s:St):Loc->V
 |.tmp t=>s.get t
 |.cell b c=>match DV s.o b with
  |some (.box cs)=>SG cs c
  |_=>.any
def putLoc(s:St)(v:V):Loc->St
 |.tmp t=>⟨(t,v)::s.t,s.o⟩
 |.cell b c=>match DV s.o b with
  |some (.box cs)=>⟨s.t,(b,AA (.box (HE cs c [v])))::s.o⟩
  |_=>s
def canon1(c:Can)(s:St):St:=
 match B2 c.nm 900000 with
 |true=>s
 |false=>match tC s c.loc with
  |.zs=>match BV 0 c.ks.length with
   |true=>putLoc (s.up (.new c.nm (.row AC c.e c.ag c.ks []))) (.row c.nm 0 0) c.loc
   |false=>s
  |.row n lo hi=>match B2 n c.nm,B2 lo 0,DV s.o n with
   |false,AC,AA (.row AC e ag ks l)=>putLoc ((s.up (.kill n)).up (.new c.nm (.row AC e ag ks l))) (.row c.nm 0 hi) c.loc
   |_,_,_=>s
  |_=>s
def canons:List Can->St->St
 |[],s=>s
 |c::r,s=>canons r (canon1 c s)
def ui(kp:KP)(s:St):St:=⟨VS s kp.t,iI s kp.o⟩
def restrict(kp:KP)(s:St):St:=ui kp (canons kp.c ⟨VS s kp.t,s.o⟩)
def ES(again:St->DU)(kp:KP)(k:Out->St->DU):Out->St->DU
 |.normal,s=>again (restrict kp s)
 |.exit i,s=>k (.exit i) (restrict kp s)
 |.ret,s=>k .ret (restrict kp s)
def Ho(_c:Code)(ev:St->(Out->St->DU)->DU)(k:Out->St->DU):Out->St->DU
 |.normal,s=>ev s k
 |.exit i,s=>k (.exit i) s
 |.ret,s=>k .ret s
def DW(id:Nat)(k:Out->St->DU):Out->St->DU
 |.normal,s=>k .normal s
 |.exit i,s=>match B2 i id with|true=>k .normal s|false=>k (.exit i) s
 |.ret,s=>k .ret s
def SB(c:Code)(body:St->(Out->St->DU)->DU)(kp:KP):Nat->St->(Out->St->DU)->DU
 |0,_,_=>AB
 |n+1,s,k=>body s (ES (λs'=>SB c body kp n s' k) kp k)
def aO:Code->Nat
 |.region id _ _=>id
 |.seq a _=>aO a
 |.block _ c=>aO c
 |.scope c=>aO c
 |_=>0
def mX(s:St)(c:Operand)(b:Bool):St:=
 match c with
 |.tmp t=>⟨(t,.bool b)::s.t,s.o⟩
 |_=>s
abbrev Lp:=Code->(St->(Out->St->DU)->DU)->KP->Nat->St->(Out->St->DU)->DU
noncomputable def KL(lp:Lp)(E:Env):Code->St->(Out->St->DU)->DU
 |.skip,s,k=>k .normal s
 |.region id ops draw,s,k=>match draw with
  |false=>P6 E ops.toList ops.toList s λs'=>k .normal (prune (lk E.kp id) s')
  |true=>rH E ops.toList s λs'=>k .normal (prune (lk E.kp id) s')
 |.seq a b,s,k=>KL lp E a s (Ho b (KL lp E b) k)
 |.cond c a b,s,k=>match opd s c with
  |.bool x=>match x with
   |true=>KL lp E a (mX s c AC) k
   |false=>KL lp E b (mX s c AD) k
  |_=>AB
 |.block id c,s,k=>KL lp E c s (DW id k)
 |.loop c,s,k=>lp c (KL lp E c) (FA ⟨[],[],[]⟩ E.lp (aO c)) E.N (restrict (FA ⟨[],[],[]⟩ E.lp (aO c)) s) k
 |.exit id,s,k=>k (.exit id) s
 |.ret,s,k=>k .ret s
 |_,_,_=>AB
noncomputable abbrev Q6(E:Env):Code->St->(Out->St->DU)->DU:=KL SB E
def iA:Nat->List V->List (Nat×V)
 |_,[]=>[]
 |i,v::r=>(i,EV v)::iA (i+1) r
def V5(E:Env)(s:St):List ResultVar->Option (List V)
 |[]=>AA []
 |.tmp t::r=>match V5 E s r with
  |some l=>AA (s.get t::l)
  |none=>AB
 |.cell ad t::r=>match s.get ad with
  |.ptr n _ c=>match DV s.o n with
   |some (.box cs)=>match R9 (E.tyd t).agg (E.tyd t).size cs c,V5 E s r with
    |some v,AA l=>AA (v::l)
    |_,_=>AB
   |_=>AB
  |_=>AB
def bS:List V->V
 |[v]=>v
 |l=>.tup l
def D2(E:Env)(b:Option (List V))(rs:List ResultVar)(rks:List (List Kd)):Out->St->DU
 |.exit _,_=>AB
 |_,s=>match V5 E s rs with
  |some l=>lT s.o rks b (bS l)
  |none=>AB
noncomputable def EA(E:Env)(code:Code)(rs:List ResultVar)(rks:List (List Kd))(vs:List V):DU:=
 match CG vs.length E.nt with
 |true=>Q6 E code ⟨iA 0 vs,I0 vs⟩ (D2 E (FX vs) rs rks)
 |false=>AB
open Go Go.RowKit
mutual
def Kd.Rel(w:World)(O:Nat->Prop):Kd->IV->Value->Prop
 |.int k,x,v=>v=.int k x.toInt/\k.min<=x.toInt/\x.toInt<=k.max
 |.bool,x,v=>v=.bool x.toBool
 |.str,x,v=>v=.string x.toStr/\x.toStr.size<=strMax
 |.list ag ks,x,v=>∃p c,v=.slice p x.toList.length c/\x.toList.length<=c/\c<=maxLen/\x.toList.length<=strMax/\
  ∀i y,x.toList[i]?=AA y->∃b o,p=AA ⟨b,o,AB⟩/\¬O b/\b<w.heap.size/\
   Kd.RelAll w O ks (GK ag y) 0 (λj u=>w.cell? ⟨b,o+i*ks.length+j,AB⟩=AA u)
def Kd.RelAll(w:World)(O:Nat->Prop):List Kd->(Nat->IV)->Nat->(Nat->Value->Prop)->Prop
 |[],_,_,_=>True
 |k::ks,f,j,R=>(∃u,R j u/\Kd.Rel w O k (f j) u)/\Kd.RelAll w O ks f (j+1) R
end
structure Keep (O:Nat->Prop) (w w':World):Prop where
 os:w'.os=w.os
 tape:w'.tape=w.tape
 output:w'.output=w.output
 size:w.heap.size<=w'.heap.size
 block:∀b,b<w.heap.size->¬O b->w'.heap[b]?=w.heap[b]?
theorem Keep.refl(O:Nat->Prop)(w:World):Keep O w w:=⟨rfl,rfl,rfl,A4 _,λ_ _ _=>rfl⟩
theorem Keep.trans{O O':Nat->Prop}{a b c:World}(h:Keep O a b)(k:Keep O' b c)(hO:∀i,i<a.heap.size->O' i->O i):Keep O a c:=
 ⟨k.os.trans h.os,k.tape.trans h.tape,k.output.trans h.output,DD h.size k.size,λi hi hn=>
  (k.block i (CY hi h.size) (λh'=>hn (hO i hi h'))).trans (h.block i hi hn)⟩
theorem Keep.mono{O O':Nat->Prop}{a b:World}(h:Keep O a b)(hO:∀i,i<a.heap.size->O i->O' i):Keep O' a b:=
 ⟨h.os,h.tape,h.output,h.size,λi hi hn=>h.block i hi (λh'=>hn (hO i hi h'))⟩
theorem Keep.cell{O:Nat->Prop}{w w':World}(h:Keep O w w'){b o:Nat}(hb:b<w.heap.size)(hO:¬O b):w'.cell? ⟨b,o,AB⟩=w.cell? ⟨b,o,AB⟩:=
 World.cell?_of_block (w:=w) (h.block b hb hO)
theorem Keep.alloc(O:Nat->Prop)(w:World)(o:Obj):Keep O w (w.alloc o):=
 ⟨rfl,rfl,rfl,by simp,λb hb _=>Below.heap_alloc w o b hb⟩
theorem Keep.drew(O:Nat->Prop)(w:World):Keep O w w.drew:=⟨rfl,rfl,rfl,A4 _,λ_ _ _=>rfl⟩
theorem Keep.setRow{O:Nat->Prop}(w:World)(g:Nat)(cs:Array Value)(h:O g):Keep O w (w.setRow g cs):=
 ⟨rfl,rfl,rfl,by simp,λb _ hn=>setRow_other w g b cs (λe=>hn (e▸h))⟩
theorem Keep.grown{O:Nat->Prop}{w w':World}{row:Option Nat}(h:w.grownBy w' row)(hr:∀g,row=AA g->O g):Keep O w w':=
 ⟨h.os,h.tape,h.output,h.size,λb hb hn=>h.block b hb (λe=>hn (hr b e.symm))⟩
mutual
theorem Kd.Rel.mono{w w':World}{O O':Nat->Prop}(hk:Keep O w w')(hO:∀b,b<w.heap.size->O' b->O b):
  ∀{k:Kd} {x:IV} {v:Value},Kd.Rel w O k x v->Kd.Rel w' O' k x v
 |.int _,_,_,h=>by simpa only[Kd.Rel]using h
 |.bool,_,_,h=>by simpa only[Kd.Rel]using h
 |.str,_,_,h=>by simpa only[Kd.Rel]using h
 |.list ag ks,x,v,h=>by
  simp only[Kd.Rel]at h ⊢;obtain⟨p,c,hv,hc,hm,hl,hi⟩:=h;refine⟨p,c,hv,hc,hm,hl,λi y hy=>?_⟩;obtain⟨b,o,hp,hb,hs,hr⟩:=hi i y hy;refine⟨b,o,hp,λh'=>hb (hO b hs h'),CY hs hk.size,?_⟩;exact Kd.RelAll.mono hk hO (λj u hu=>by rw[hk.cell hs hb];exact hu) hr
theorem Kd.RelAll.mono{w w':World}{O O':Nat->Prop}(hk:Keep O w w')(hO:∀b,b<w.heap.size->O' b->O b):
  ∀{ks:List Kd} {f:Nat->IV} {j:Nat} {R R':Nat->Value->Prop},(∀j u,R j u->R' j u)->Kd.RelAll w O ks f j R->Kd.RelAll w' O' ks f j R'
 |[],_,_,_,_,_,_=>by simp only[Kd.RelAll]
 |k::ks,f,j,R,R',hR,h=>by
  simp only[Kd.RelAll]at h ⊢;obtain⟨⟨u,hu,hr⟩,h2⟩:=h;exact⟨⟨u,hR _ _ hu,Kd.Rel.mono hk hO hr⟩,Kd.RelAll.mono hk hO hR h2⟩
end
theorem Kd.RelAll_iff{w:World}{O:Nat->Prop}:∀{ks:List Kd} {f:Nat->IV} {j0:Nat} {R:Nat->Value->Prop},
  Kd.RelAll w O ks f j0 R↔∀j k,ks[j]?=AA k->∃u,R (j0+j) u/\Kd.Rel w O k (f (j0+j)) u
 |[],f,j0,R=>by simp[Kd.RelAll]
 |k::ks,f,j0,R=>by
  simp only[Kd.RelAll,Kd.RelAll_iff (ks:=ks)];constructor
  .rintro⟨h0,h⟩ j k' hj;cases j with
   |zero=>simp at hj;subst hj;simpa using h0
   |succ j=>
    have:=h j k' (by simpa using hj)
    rwa [show j0+1+j=j0+(j+1) by omega]at this
  .intro h;refine⟨by simpa using h 0 k rfl,λj k' hj=>?_⟩
   have:=h (j+1) k' (by simpa using hj)
   rwa [show j0+(j+1)=j0+1+j by omega]at this
def yW(g:Value)(lo hi sz:Nat)(x:Value):Prop:=
 ∃p len cap p',g=.slice p len cap/\x=.slice p' (hi-lo) (cap-lo)/\lo<=hi/\hi<=len/\len<=cap/\cap<=maxLen/\
  (p'=p.map (·.add (lo*sz))\/cap=lo)/\(lo=0->p'=p)
mutual
def VRel(γ:Nat->Value)(o:Store)(w:World)(O:Nat->Prop):V->Value->Prop
 |.any,_=>True
 |.int k n,x=>x=.int k n/\k.min<=n/\n<=k.max
 |.bool b,x=>x=.bool b
 |.str s,x=>x=.string s/\s.size<=strMax
 |.list ag ks l,x=>Kd.Rel w O (.list ag ks) (.list l) x
 |.zs,x=>x=.slice AB 0 0
 |.row n lo hi,x=>match DV o n with
  |some (.row _ _ _ ks l)=>hi<=l.length/\yW (γ n) lo hi ks.length x
  |_=>True
 |.ptr n i c,x=>match DV o n with
  |some (.box _)=>i=0/\∃b,γ n=.pointer (AA ⟨b,0,AB⟩)/\x=.pointer (AA ⟨b,c,AB⟩)
  |some (.row _ _ _ ks l)=>i<l.length/\∃b off len cap,γ n=.slice (AA ⟨b,off,AB⟩) len cap/\x=.pointer (AA ⟨b,off+i*ks.length+c,AB⟩)
  |some (.bld _)=>c=0/\∃b v,γ n=.tuple #[.pointer (AA ⟨b,0,AB⟩),v]/\x=.pointer (AA ⟨b,0,AB⟩)
  |some (.map _ _)=>x=γ n
  |some (.iter _ _ _)=>∃r y,γ n=.tuple #[.pointer (AA ⟨r,0,AB⟩),y]/\x=.pointer (AA ⟨r,0,AB⟩)
  |none=>True
 |.iptr ks f c,x=>∃b off,x=.pointer (AA ⟨b,off+c,AB⟩)/\¬O b/\b<w.heap.size/\Kd.RelAll w O ks f 0 (λj u=>w.cell? ⟨b,off+j,AB⟩=AA u)
 |.bview n c cap sz len,x=>match DV o n with
  |some (.box cs)=>len<=cap/\cap<=maxLen/\c+cap*sz<=cs.length/\∃b,γ n=.pointer (AA ⟨b,0,AB⟩)/\x=.slice (AA ⟨b,c,AB⟩) len cap
  |_=>True
 |.agg l,x=>∃cs,x=.agg cs/\VRels γ o w O l cs.toList
 |.tup l,x=>∃cs,x=.tuple cs/\VRels γ o w O l cs.toList
 |.err b,x=>match b with|true=>x=.nilIface|false=>∃t v,x=.iface t v
 |.nilp,x=>x=.pointer AB
 |.clo f l,x=>∃cs,x=.func (.func f) #[] cs/\VRels γ o w O l cs.toList
 |.bor _,_=>False
 |.vec _ _ _ _,_=>False
 |.bld _,_=>False
def VRels(γ:Nat->Value)(o:Store)(w:World)(O:Nat->Prop):List V->List Value->Prop
 |[],[]=>True
 |v::vs,x::xs=>VRel γ o w O v x/\VRels γ o w O vs xs
 |_,_=>False
end
def FE(g:Value):Ob->Nat->Prop
 |.box _,b=>∃a,g=.pointer (AA a)/\a.block=b
 |.row AC _ _ _ _,b=>g.ownBlock=AA b
 |.row AD _ _ _ _,_=>False
 |.bld _,b=>∃a v,g=.tuple #[.pointer (AA a),v]/\(a.block=b\/v.ownBlock=AA b)
 |.map _ _,b=>g=.map (AA b)
 |.iter _ _ _,b=>∃r m,g=.tuple #[.pointer (AA ⟨r,0,AB⟩),.map (AA m)]/\(b=r\/b=m)
def FN(γ:Nat->Value)(o:Store)(b:Nat):Prop:=∃n ob,DV o n=AA ob/\FE (γ n) ob b
structure Zone where
 own:Nat->Prop
 far:Nat->Prop
def DY(X:Zone)(γ:Nat->Value)(o:Store)(b:Nat):Prop:=FN γ o b\/X.far b
def OwnRow(w:World)(e size:Nat)(v:Value)(n:Nat)(xs:List Value):Prop:=
 xs.length=n*size/\((v=.slice AB 0 0/\n=0)\/
  ∃g cap cur T fr,v=.slice (AA ⟨g,0,AB⟩) n cap/\w.heap[g]?=AA (.cells cur T fr)/\n<=cap/\cap<=maxLen/\cur.size=cap*size/\cur.toList.take (n*size)=xs/\
   ((e<1000000/\T=e/\fr=(0,0))\/(1000000<=e/\cur.size<=fr.1)))
theorem OwnRow.of{w:World}{e size n:Nat}{v:Value}{xs:List Value}(h:w.ownsRow 0 e size v n xs)(he:e<1000000):OwnRow w e size v n xs:=by
 refine⟨h.1,?_⟩;rcases h.2 with h1|⟨g,cap,cur,h1,_,h2,h3,h4,h5,h6⟩
 .exact .inl h1
 .exact .inr ⟨g,cap,cur,e,(0,0),h1,h2,h3,h4,h5,h6,.inl ⟨he,rfl,rfl⟩⟩
theorem OwnRow.plain{w:World}{e size n:Nat}{v:Value}{xs:List Value}(h:OwnRow w e size v n xs)(he:e<1000000):w.ownsRow 0 e size v n xs:=by
 refine⟨h.1,?_⟩;rcases h.2 with h1|⟨g,cap,cur,T,fr,h1,h2,h3,h4,h5,h6,h7⟩
 .exact .inl h1
 .rcases h7 with⟨_,rfl,rfl⟩|⟨h7,_⟩
  .exact .inr ⟨g,cap,cur,h1,CH _,h2,h3,h4,h5,h6⟩
  .omega
theorem OwnRow.cells{w:World}{e size n:Nat}{v:Value}{xs:List Value}(h:OwnRow w e size v n xs){b off len cap:Nat}(hv:v=.slice (AA ⟨b,off,AB⟩) len cap):
  off=0/\len=n/\b<w.heap.size/\∀j u,xs[j]?=AA u->w.cell? ⟨b,j,AB⟩=AA u:=by
 rcases h.2 with⟨h1,_⟩|⟨g,cap',cur,T,fr,h1,h2,h3,h4,h5,h6,h7⟩
 .rw[hv]at h1;simp at h1
 .rw[hv]at h1;simp only[CW,AK,DI,CI]at h1;obtain⟨⟨rfl,rfl⟩,rfl,rfl⟩:=h1;refine⟨rfl,rfl,(DK.1 h2).1,λj u hu=>?_⟩;rw[<-h6,C3]at hu;split at hu
  .simp only[vaI,h2];simpa using hu
  .cases hu
structure BT where
 T:Nat
 e:Nat
 pin:Option Value:=AB
 ng:Nat:=0
 F:(Nat->Option Obj)->Prop:=λ_=>True
def BT.base(B:BT):BT:=⟨B.T,B.e,AB,B.ng,B.F⟩
def Glob(B:BT)(w:World):Prop:=B.ng<=w.heap.size/\B.F (λb=>if b<B.ng then w.heap[b]? else AB)
def TG:Value->Value
 |.tuple cs=>cs.getD 0 undef
 |v=>v
def KRel(w:World)(O:Nat->Prop)(vk:Kd)(e:Int×IV)(v:Value):Prop:=Kd.Rel w O vk e.2 v/\AJ.min<=e.1/\e.1<=AJ.max
theorem KRel.mono{w w':World}{O O':Nat->Prop}(hk:Keep O w w')(hO:∀b,b<w.heap.size->O' b->O b){vk:Kd}{e:Int×IV}{v:Value}(h:KRel w O vk e v):KRel w' O' vk e v:=⟨Kd.Rel.mono hk hO h.1,h.2⟩
def EntRel(w:World)(O:Nat->Prop)(vk:Kd)(es:List (Int×IV))(ents:Array MapEntry):Prop:=
 ents.size=es.length/\∀(i:Nat) (e:Int×IV),es[i]?=AA e->∃v,ents[i]?=AA ⟨.int .i64 e.1,v,i⟩/\KRel w O vk e v
theorem EntRel.mono{w w':World}{O O':Nat->Prop}(hk:Keep O w w')(hO:∀b,b<w.heap.size->O' b->O b){vk:Kd}{es:List (Int×IV)}{ents:Array MapEntry}(h:EntRel w O vk es ents):EntRel w' O' vk es ents:=
 ⟨h.1,λi e he=>by
  obtain⟨v,h1,h2⟩:=h.2 i e he;exact⟨v,h1,KRel.mono hk hO h2⟩⟩
def Yu(w:World)(O:Nat->Prop)(vk:Kd)(rest:List (Int×IV))(l:List MapEntry):Prop:=
 l.length=rest.length/\∀(i:Nat) (e:Int×IV),rest[i]?=AA e->∃m,l[i]?=AA m/\m.key=.int .i64 e.1/\KRel w O vk e m.val
def IterRel(w:World)(O:Nat->Prop)(vk:Kd)(last:Option (Int×IV))(rest:List (Int×IV))(since:Nat)(seen:Array Nat)(ents:Array MapEntry)(clock:Nat):Prop:=
 since<=clock/\(∀x∈ents.toList,x.born<since)/\(ents.toList.map (·.born)).Nodup/\Yu w O vk rest (leftOf ents seen).toList/\
  ∀e,last=AA e->∃m s0,m∈ents.toList/\seen=Array.push s0 m.born/\m.key=.int .i64 e.1/\KRel w O vk e m.val
theorem IterRel.mono{w w':World}{O O':Nat->Prop}(hk:Keep O w w')(hO:∀b,b<w.heap.size->O' b->O b){vk:Kd}{last:Option (Int×IV)}{rest:List (Int×IV)}{since:Nat}{seen:Array Nat}{ents:Array MapEntry}{clock:Nat}
  (h:IterRel w O vk last rest since seen ents clock):IterRel w' O' vk last rest since seen ents clock:=by
 obtain⟨h1,h2,h3,h4,h5⟩:=h;refine⟨h1,h2,h3,⟨h4.1,λi e he=>?_⟩,λe he=>?_⟩
 .obtain⟨m,q1,q2,q3⟩:=h4.2 i e he;exact⟨m,q1,q2,KRel.mono hk hO q3⟩
 .obtain⟨m,s0,q1,q2,q3,q4⟩:=h5 e he;exact⟨m,s0,q1,q2,q3,KRel.mono hk hO q4⟩
def ObRel(B:BT)(γ:Nat->Value)(o:Store)(w:World)(O:Nat->Prop)(g:Value):Ob->Prop
 |.box l=>∃b c T,g=.pointer (AA ⟨b,0,AB⟩)/\w.heap[b]?=AA (.cells c T (0,0))/\VRels γ o w O l c.toList
 |.row AC e ag ks l=>0<ks.length/\l.length<=strMax/\
  ∃xs,OwnRow w e ks.length g l.length xs/\∀i y,l[i]?=AA y->Kd.RelAll w O ks (GK ag y) 0 (λj u=>xs[i*ks.length+j]?=AA u)
 |.row AD _ ag ks l=>0<ks.length/\Kd.Rel w O (.list ag ks) (.list l) g
 |.bld s=>∃b v p,g=.tuple #[.pointer (AA ⟨b,0,AB⟩),v]/\(p=.pointer AB\/p=.pointer (AA ⟨b,0,AB⟩))/\
  w.heap[b]?=AA (.cells #[p,v] B.T (0,0))/\w.ownsRowF 0 B.e 1 v s.size (DO s)/\v.ownBlock≠AA b/\s.size<=strMax
 |.map vk es=>YR vk=AC/\∃b ents,g=.map (AA b)/\w.heap[b]?=AA (.map ents es.length)/\EntRel w O vk es ents
 |.iter vk last rest=>YR vk=AC/\∃r b since seen ents clock,g=.tuple #[.pointer (AA ⟨r,0,AB⟩),.map (AA b)]/\w.heap[r]?=AA (.mapIter (AA b) since seen clock)/\w.heap[b]?=AA (.map ents clock)/\IterRel w O vk last rest since seen ents clock
structure Rel (B:BT) (nt:Nat) (w0:World) (X:Zone) (γ:Nat->Value) (st:St) (a:Act) (w:World):Prop where
 sz:a.tmps.size=nt
 df:a.defers=[]
 tm:∀i,VRel γ st.o w (DY X γ st.o) (st.get i) (a.tmps.getD i undef)
 ob:∀n ob,DV st.o n=AA ob->ObRel B γ st.o w (DY X γ st.o) (γ n) ob
 lt:∀b,FN γ st.o b->b<w.heap.size/\(w0.heap.size<=b\/X.own b)
 dis:∀n m ob ob' b,n≠m->DV st.o n=AA ob->DV st.o m=AA ob'->FE (γ n) ob b->FE (γ m) ob' b->False
 keep:Keep X.own w0 w
 nr:∀b,FN γ st.o b->¬X.far b
 fl:∀b,X.far b->b<w.heap.size
 pn:∀p,B.pin=AA p->∀ob,DV st.o 900000=AA ob->TG (γ 900000)=p
def GX(B:BT)(w0:World)(X:Zone):Prop:=Glob B w0/\∀b,X.own b->B.ng<=b
theorem Glob.keep{B:BT}{O:Nat->Prop}{w w':World}(h:Glob B w)(hk:Keep O w w')(hO:∀b,O b->B.ng<=b):Glob B w':=by
 refine⟨DD h.1 hk.size,?_⟩
 have:(λb=>if b<B.ng then w'.heap[b]? else AB)=(λb=>if b<B.ng then w.heap[b]? else AB):=by
  funext b
  split
  .rename_i hb;exact hk.block b (CY hb h.1) (λh'=>by have:=hO b h';omega)
  .rfl
 rw[this];exact h.2
theorem Rel.glob{B:BT}{nt:Nat}{w0:World}{X:Zone}{γ:Nat->Value}{st:St}{a:Act}{w:World}(h:Rel B nt w0 X γ st a w)(g:GX B w0 X):Glob B w:=g.1.keep h.keep g.2
theorem Rel.high{B:BT}{nt:Nat}{w0:World}{X:Zone}{γ:Nat->Value}{st:St}{a:Act}{w:World}(h:Rel B nt w0 X γ st a w)(g:GX B w0 X){b:Nat}(hb:FN γ st.o b):B.ng<=b:=by
 rcases(h.lt b hb).2 with h1|h1
 .exact DD g.1.1 h1
 .exact g.2 b h1
theorem Rel.near{B:BT}{nt:Nat}{w0:World}{X:Zone}{γ:Nat->Value}{st:St}{a:Act}{w:World}(h:Rel B nt w0 X γ st a w){b:Nat}(hb:FN γ st.o b):¬X.far b:=h.nr b hb
mutual
theorem VRel.mono{γ:Nat->Value}{o:Store}{w w':World}{O O':Nat->Prop}(hk:Keep O w w')(hO:∀b,b<w.heap.size->O' b->O b):
  ∀{v:V} {x:Value},VRel γ o w O v x->VRel γ o w' O' v x
 |.any,_,_=>by simp only[VRel]
 |.int _ _,_,h=>by simpa only[VRel]using h
 |.bool _,_,h=>by simpa only[VRel]using h
 |.str _,_,h=>by simpa only[VRel]using h
 |.list _ _ _,_,h=>by simp only[VRel]at h ⊢;exact Kd.Rel.mono hk hO h
 |.zs,_,h=>by simpa only[VRel]using h
 |.row _ _ _,_,h=>by simpa only[VRel]using h
 |.ptr _ _ _,_,h=>by simpa only[VRel]using h
 |.iptr ks f c,x,h=>by
  simp only[VRel]at h ⊢;obtain⟨b,off,hx,hb,hs,hr⟩:=h;exact⟨b,off,hx,λh'=>hb (hO b hs h'),CY hs hk.size,Kd.RelAll.mono hk hO (λj u hu=>by rw[hk.cell hs hb];exact hu) hr⟩
 |.bview _ _ _ _ _,_,h=>by simpa only[VRel]using h
 |.agg l,x,h=>by
  simp only[VRel]at h ⊢;obtain⟨cs,hx,hr⟩:=h;exact⟨cs,hx,VRels.mono hk hO hr⟩
 |.tup l,x,h=>by
  simp only[VRel]at h ⊢;obtain⟨cs,hx,hr⟩:=h;exact⟨cs,hx,VRels.mono hk hO hr⟩
 |.err _,_,h=>by simpa only[VRel]using h
 |.nilp,_,h=>by simpa only[VRel]using h
 |.clo _ l,x,h=>by
  simp only[VRel]at h ⊢;obtain⟨cs,hx,hr⟩:=h;exact⟨cs,hx,VRels.mono hk hO hr⟩
 |.bor _,_,h=>by simp only[VRel]at h
 |.vec _ _ _ _,_,h=>by simp only[VRel]at h
 |.bld _,_,h=>by simp only[VRel]at h
theorem VRels.mono{γ:Nat->Value}{o:Store}{w w':World}{O O':Nat->Prop}(hk:Keep O w w')(hO:∀b,b<w.heap.size->O' b->O b):
  ∀{l:List V} {xs:List Value},VRels γ o w O l xs->VRels γ o w' O' l xs
 |[],[],_=>by simp only[VRels]
 |[],_::_,h=>by simp only[VRels]at h
 |_::_,[],h=>by simp only[VRels]at h
 |v::vs,x::xs,h=>by
  simp only[VRels]at h ⊢;exact⟨VRel.mono hk hO h.1,VRels.mono hk hO h.2⟩
end
def Ob.fits:Ob->Ob->Prop
 |.box cs,.box cs'=>cs.length=cs'.length
 |.row _ _ _ ks l,.row _ _ _ ks' l'=>ks=ks'/\l.length=l'.length
 |.bld _,.bld _=>True
 |.map k _,.map k' _=>k=k'
 |.iter k _ _,.iter k' _ _=>k=k'
 |_,_=>False
def Cmp(γ:Nat->Value)(o:Store)(γ':Nat->Value)(o':Store):Prop:=
 ∀n ob',DV o' n=AA ob'->γ' n=γ n/\∃ob,DV o n=AA ob/\ob.fits ob'
mutual
theorem VRel.cmp{γ γ':Nat->Value}{o o':Store}{w:World}{O:Nat->Prop}(hc:Cmp γ o γ' o'):
  ∀{v:V} {x:Value},VRel γ o w O v x->VRel γ' o' w O v x
 |.any,_,_=>by simp only[VRel]
 |.int _ _,_,h=>by simpa only[VRel]using h
 |.bool _,_,h=>by simpa only[VRel]using h
 |.str _,_,h=>by simpa only[VRel]using h
 |.list _ _ _,_,h=>by simpa only[VRel]using h
 |.zs,_,h=>by simpa only[VRel]using h
 |.row n lo hi,x,h=>by
  simp only[VRel]at h ⊢;cases h':DV o' n with
  |none=>trivial
  |some ob'=>
   obtain⟨hg,ob,ho,hf⟩:=hc n ob' h';rw[ho]at h;rw[hg];cases ob<;>cases ob'<;>simp only[Ob.fits]at hf<;>try trivial
   obtain⟨rfl,hl⟩:=hf;exact⟨by rw[<-hl];exact h.1,h.2⟩
 |.ptr n i c,x,h=>by
  simp only[VRel]at h ⊢;cases h':DV o' n with
  |none=>trivial
  |some ob'=>
   obtain⟨hg,ob,ho,hf⟩:=hc n ob' h';rw[ho]at h;rw[hg];cases ob<;>cases ob'<;>simp only[Ob.fits]at hf
   .exact h
   .obtain⟨rfl,hl⟩:=hf;exact⟨by rw[<-hl];exact h.1,h.2⟩
   .exact h
   .exact h
   .exact h
 |.iptr _ _ _,_,h=>by simpa only[VRel]using h
 |.bview n c cap sz len,x,h=>by
  simp only[VRel]at h ⊢;cases h':DV o' n with
  |none=>trivial
  |some ob'=>
   obtain⟨hg,ob,ho,hf⟩:=hc n ob' h';rw[ho]at h;rw[hg];cases ob<;>cases ob'<;>simp only[Ob.fits]at hf<;>try trivial
   exact⟨h.1,h.2.1,by rw[<-hf];exact h.2.2.1,h.2.2.2⟩
 |.agg l,x,h=>by
  simp only[VRel]at h ⊢;obtain⟨cs,hx,hr⟩:=h;exact⟨cs,hx,VRels.cmp hc hr⟩
 |.tup l,x,h=>by
  simp only[VRel]at h ⊢;obtain⟨cs,hx,hr⟩:=h;exact⟨cs,hx,VRels.cmp hc hr⟩
 |.err _,_,h=>by simpa only[VRel]using h
 |.nilp,_,h=>by simpa only[VRel]using h
 |.clo _ l,x,h=>by
  simp only[VRel]at h ⊢;obtain⟨cs,hx,hr⟩:=h;exact⟨cs,hx,VRels.cmp hc hr⟩
 |.bor _,_,h=>by simp only[VRel]at h
 |.vec _ _ _ _,_,h=>by simp only[VRel]at h
 |.bld _,_,h=>by simp only[VRel]at h
theorem VRels.cmp{γ γ':Nat->Value}{o o':Store}{w:World}{O:Nat->Prop}(hc:Cmp γ o γ' o'):
  ∀{l:List V} {xs:List Value},VRels γ o w O l xs->VRels γ' o' w O l xs
 |[],[],_=>by simp only[VRels]
 |[],_::_,h=>by simp only[VRels]at h
 |_::_,[],h=>by simp only[VRels]at h
 |v::vs,x::xs,h=>by
  simp only[VRels]at h ⊢;exact⟨VRel.cmp hc h.1,VRels.cmp hc h.2⟩
end
def PV(m:Nat)(γ:Nat->Value)(o:Store)(γ':Nat->Value)(o':Store):Prop:=
 ∀n ob',n≠m->DV o' n=AA ob'->γ' n=γ n/\∃ob,DV o n=AA ob/\ob.fits ob'
theorem F1{a b:Nat}:B2 a b=AC↔a=b:=⟨vae,λh=>by subst h;exact vbj a⟩
theorem I4{a b:Nat}:B2 a b=AD↔a≠b:=by
 constructor
 .intro h e;rw[F1.2 e]at h;cases h
 .intro h;cases hb:B2 a b with
  |false=>rfl
  |true=>exact absurd (F1.1 hb) h
section
variable {γ γ':Nat→Value} {o o':Store} {w:World} {O:Nat→Prop} {m:Nat}
theorem Nw(hc:PV m γ o γ' o'){n lo hi:Nat}{x:Value}(hn:n≠m)(h:VRel γ o w O (.row n lo hi) x):VRel γ' o' w O (.row n lo hi) x:=by
 simp only[VRel]at h ⊢;cases h':DV o' n with
 |none=>trivial
 |some ob'=>
  obtain⟨hg,ob,ho,hf⟩:=hc n ob' hn h';rw[ho]at h;rw[hg];cases ob<;>cases ob'<;>simp only[Ob.fits]at hf<;>try trivial
  obtain⟨rfl,hl⟩:=hf;exact⟨by rw[<-hl];exact h.1,h.2⟩
theorem Mh(hc:PV m γ o γ' o'){n i c:Nat}{x:Value}(hn:n≠m)(h:VRel γ o w O (.ptr n i c) x):VRel γ' o' w O (.ptr n i c) x:=by
 simp only[VRel]at h ⊢;cases h':DV o' n with
 |none=>trivial
 |some ob'=>
  obtain⟨hg,ob,ho,hf⟩:=hc n ob' hn h';rw[ho]at h;rw[hg];cases ob<;>cases ob'<;>simp only[Ob.fits]at hf
  .exact h
  .obtain⟨rfl,hl⟩:=hf;exact⟨by rw[<-hl];exact h.1,h.2⟩
  .exact h
  .exact h
  .exact h
theorem bc(hc:PV m γ o γ' o'){n c cap sz len:Nat}{x:Value}(hn:n≠m)(h:VRel γ o w O (.bview n c cap sz len) x):VRel γ' o' w O (.bview n c cap sz len) x:=by
 simp only[VRel]at h ⊢;cases h':DV o' n with
 |none=>trivial
 |some ob'=>
  obtain⟨hg,ob,ho,hf⟩:=hc n ob' hn h';rw[ho]at h;rw[hg];cases ob<;>cases ob'<;>simp only[Ob.fits]at hf<;>try trivial
  exact⟨h.1,h.2.1,by rw[<-hf];exact h.2.2.1,h.2.2.2⟩
theorem On(hc:PV m γ o γ' o'){v:V}{x:Value}(h:VRel γ o w O v x):VRel γ' o' w O (F9.leaf m v) x:=by
 cases v<;>simp only[F9.leaf]
 case row n lo hi=>
  cases hb:B2 n m with
  |true=>simp only[VRel]
  |false=>exact Nw hc (I4.1 hb) h
 case ptr n i c=>
  cases hb:B2 n m with
  |true=>simp only[VRel]
  |false=>exact Mh hc (I4.1 hb) h
 all_goals first
  |(simp only[VRel]at h ⊢;exact h)
  |simp only[VRel]
theorem oA(hc:PV m γ o γ' o'):∀{l:List V} {xs:List Value},VRels γ o w O l xs->VRels γ' o' w O (l.map (F9.leaf m)) xs
 |[],[],_=>by simp only[CN,VRels]
 |[],_::_,h=>by simp only[VRels]at h
 |_::_,[],h=>by simp only[VRels]at h
 |v::vs,x::xs,h=>by
  simp only[VRels,A8]at h ⊢;exact⟨On hc h.1,oA hc h.2⟩
theorem zdh(hc:PV m γ o γ' o'){v:V}{x:Value}(h:VRel γ o w O v x):VRel γ' o' w O (F9.leaf2 m v) x:=by
 cases v<;>simp only[F9.leaf2]<;>try exact On hc h
 simp only[VRel]at h ⊢;obtain⟨cs,hx,hr⟩:=h;exact⟨cs,hx,oA hc hr⟩
theorem Oo(hc:PV m γ o γ' o'):∀{l:List V} {xs:List Value},VRels γ o w O l xs->VRels γ' o' w O (l.map (F9.leaf2 m)) xs
 |[],[],_=>by simp only[CN,VRels]
 |[],_::_,h=>by simp only[VRels]at h
 |_::_,[],h=>by simp only[VRels]at h
 |v::vs,x::xs,h=>by
  simp only[VRels,A8]at h ⊢;exact⟨zdh hc h.1,Oo hc h.2⟩
theorem wA(hc:PV m γ o γ' o'){v:V}{x:Value}(h:VRel γ o w O v x):VRel γ' o' w O (F9 m v) x:=by
 cases v<;>simp only[F9]
 case row n lo hi=>
  cases hb:B2 n m with
  |true=>simp only[VRel]
  |false=>exact Nw hc (I4.1 hb) h
 case ptr n i c=>
  cases hb:B2 n m with
  |true=>simp only[VRel]
  |false=>exact Mh hc (I4.1 hb) h
 case bview n c cap sz len=>
  cases hb:B2 n m with
  |true=>simp only[VRel]
  |false=>exact bc hc (I4.1 hb) h
 case agg l=>
  simp only[VRel]at h ⊢;obtain⟨cs,hx,hr⟩:=h;exact⟨cs,hx,oA hc hr⟩
 case tup l=>
  simp only[VRel]at h ⊢;obtain⟨cs,hx,hr⟩:=h;exact⟨cs,hx,Oo hc hr⟩
 case clo f l=>
  simp only[VRel]at h ⊢;obtain⟨cs,hx,hr⟩:=h;exact⟨cs,hx,oA hc hr⟩
 all_goals (simp only[VRel]at h ⊢;try exact h)
theorem oC(hc:PV m γ o γ' o'):∀{l:List V} {xs:List Value},VRels γ o w O l xs->VRels γ' o' w O (l.map (F9 m)) xs
 |[],[],_=>by simp only[CN,VRels]
 |[],_::_,h=>by simp only[VRels]at h
 |_::_,[],h=>by simp only[VRels]at h
 |v::vs,x::xs,h=>by
  simp only[VRels,A8]at h ⊢;exact⟨wA hc h.1,oC hc h.2⟩
end
open Go Go.RowKit
theorem EP(n m:Nat)(x:Option Ob)(o:Store):DV ((n,x)::o) m=if n=m then x else DV o m:=by
 unfold DV;simp only[FA];cases hb:B2 n m with
 |true=>rw[BX (F1.1 hb)]
 |false=>rw[BO (I4.1 hb)]
theorem SA{α:Type}(d:α)(n m:Nat)(x:α)(o:List (Nat×α)):FA d ((n,x)::o) m=if n=m then x else FA d o m:=by
 simp only[FA];cases hb:B2 n m with
 |true=>rw[BX (F1.1 hb)]
 |false=>rw[BO (I4.1 hb)]
theorem iR{α:Type}(f:α->α)(d:α)(hd:f d=d):∀(l:List (Nat×α)) (i:Nat),FA d (YU f l) i=f (FA d l i)
 |[],_=>by simp[YU,FA,hd]
 |(j,x)::r,i=>by
  simp only[YU,SA,iR f d hd r i];split<;>rfl
theorem iF(s:St)(n:Nat)(ob:Ob)(i:Nat):(s.up (.new n ob)).get i=F9 n (s.get i):=by
 simp only[St.up,St.get];exact iR _ _ rfl _ _
theorem GS(s:St)(n:Nat)(ob:Ob)(m:Nat):DV (s.up (.new n ob)).o m=if n=m then AA ob else HM n (DV s.o m):=by
 simp only[St.up,EP];split
 .rfl
 .unfold DV;exact iR _ _ rfl _ _
theorem QL{n:Nat}{x:Option Ob}{ob:Ob}(h:HM n x=AA ob):∃ob0,x=AA ob0/\HM n (AA ob0)=AA ob:=by
 cases x with
 |none=>simp[HM]at h
 |some ob0=>exact⟨ob0,rfl,h⟩
theorem WA{n:Nat}{ob0 ob:Ob}(h:HM n (AA ob0)=AA ob):ob0.fits ob/\∀g b,FE g ob b↔FE g ob0 b:=by
 cases ob0<;>simp only[HM,AK]at h<;>subst h
 .exact⟨by simp[Ob.fits],λ_ _=>Iff.rfl⟩
 .exact⟨⟨rfl,rfl⟩,λ_ _=>Iff.rfl⟩
 .exact⟨trivial,λ_ _=>Iff.rfl⟩
 .exact⟨rfl,λ_ _=>Iff.rfl⟩
 .exact⟨rfl,λ_ _=>Iff.rfl⟩
theorem Ob.fits_refl(ob:Ob):ob.fits ob:=by cases ob<;>simp[Ob.fits]
section
variable {B:BT} {γ γ':Nat→Value} {o o':Store} {w w':World} {O O':Nat→Prop} {g:Value} {ob:Ob}
theorem uN{e size:Nat}{v:Value}{n:Nat}{xs:List Value}(h:OwnRow w e size v n xs)(hb:∀b,v.ownBlock=AA b->w'.heap[b]?=w.heap[b]?):OwnRow w' e size v n xs:=by
 refine⟨h.1,?_⟩;rcases h.2 with hn|⟨g,cap,cur,T,fr,rfl,h2,rest⟩
 .exact .inl hn
 .exact .inr ⟨g,cap,cur,T,fr,rfl,by rw[hb g rfl];exact h2,rest⟩
theorem bH{e size:Nat}{v:Value}{n:Nat}{xs:List Value}(h:w.ownsRowF 0 e size v n xs)(hb:∀b,v.ownBlock=AA b->w'.heap[b]?=w.heap[b]?):w'.ownsRowF 0 e size v n xs:=by
 refine⟨h.1,?_⟩;rcases h.2 with hn|⟨g,cap,cur,fz,rfl,h1,h2,rest⟩
 .exact .inl hn
 .exact .inr ⟨g,cap,cur,fz,rfl,h1,by rw[hb g rfl];exact h2,rest⟩
theorem ObRel.later(h:ObRel B γ o w O g ob)(hb:∀b,FE g ob b->w'.heap[b]?=w.heap[b]?)(hk:Keep O w w')(hO:∀b,b<w.heap.size->O' b->O b)
  (hc:Cmp γ o γ' o'):ObRel B γ' o' w' O' g ob:=by
 cases ob with
 |box l=>
  simp only[ObRel]at h ⊢;obtain⟨b,c,T,rfl,hh,hr⟩:=h;exact⟨b,c,T,rfl,by rw[hb b ⟨_,rfl,rfl⟩];exact hh,VRels.mono hk hO (VRels.cmp hc hr)⟩
 |row own e ag ks l=>
  cases own with
  |true=>
   simp only[ObRel]at h ⊢;obtain⟨h1,h2,xs,hx,hr⟩:=h;exact⟨h1,h2,xs,uN hx hb,λi y hy=>Kd.RelAll.mono hk hO (λ_ _ hu=>hu) (hr i y hy)⟩
  |false=>
   simp only[ObRel]at h ⊢;exact⟨h.1,Kd.Rel.mono hk hO h.2⟩
 |bld s=>
  simp only[ObRel]at h ⊢;obtain⟨b,v,p,rfl,hp,h1,h2,h3⟩:=h;exact⟨b,v,p,rfl,hp,by rw[hb b ⟨_,_,rfl,.inl rfl⟩];exact h1,bH h2 (λb' hb'=>hb b' ⟨_,_,rfl,.inr hb'⟩),h3⟩
 |map vk es=>
  simp only[ObRel]at h ⊢;obtain⟨h0,b,ents,rfl,h1,h2⟩:=h;exact⟨h0,b,ents,rfl,by rw[hb b rfl];exact h1,EntRel.mono hk hO h2⟩
 |iter vk last rest=>
  simp only[ObRel]at h ⊢;obtain⟨h0,r,b,since,seen,ents,clock,rfl,h1,h2,h3⟩:=h;exact⟨h0,r,b,since,seen,ents,clock,rfl,by rw[hb r ⟨_,_,rfl,.inl rfl⟩];exact h1,by rw[hb b ⟨_,_,rfl,.inr rfl⟩];exact h2,IterRel.mono hk hO h3⟩
theorem Cmp.refl(γ:Nat->Value)(o:Store):Cmp γ o γ o:=λ_ ob' h=>⟨rfl,ob',h,ob'.fits_refl⟩
end
section
variable {B:BT} {nt:Nat} {w0:World} {X:Zone} {γ:Nat→Value} {st:St} {a:Act} {w:World}
theorem Rel.put(h:Rel B nt w0 X γ st a w){E:Env}(hE:E.nt=nt){d:Option Nat}(hd:Q8 E d=AC){v:V}{x:Value}(hv:VRel γ st.o w (DY X γ st.o) v x):
  Rel B nt w0 X γ (st.put d v) (a.put d x) w:=by
 cases d with
 |none=>exact h
 |some d=>
  have hlt:d<nt:=by
   simp only[Q8]at hd;rw[<-hE];exact AX hd
  refine⟨by simp[Act.put,h.sz],h.df,λi=>?_,h.ob,h.lt,h.dis,h.keep,h.nr,h.fl,h.pn⟩;simp only[St.put,St.get,SA,Act.put];by_cases hi:d=i
  .subst hi;rw[BX rfl]
   have:(a.tmps.setIfInBounds d x).getD d undef=x:=by simp[Array.getD,h.sz,hlt]
   rw[this];exact hv
  .rw[BO hi]
   have:(a.tmps.setIfInBounds d x).getD i undef=a.tmps.getD i undef:=by
    simp only[vbm];rw[Array.getElem?_setIfInBounds_ne hi]
   rw[this];exact h.tm i
theorem Rel.world(h:Rel B nt w0 X γ st a w){w':World}(hk:Keep (λ_=>False) w w'):Rel B nt w0 X γ st a w':=by
 have hk':Keep (DY X γ st.o) w w':=hk.mono (λ_ _ h=>h.elim);refine⟨h.sz,h.df,λi=>VRel.mono hk' (λ_ _ h=>h) (h.tm i),λn ob hn=>?_,λb hb=>?_,h.dis,h.keep.trans hk (λ_ _ h=>h.elim),h.nr,λb hb=>CY (h.fl b hb) hk.size,h.pn⟩
 .exact(h.ob n ob hn).later (λb hb=>hk.block b (h.lt b ⟨n,ob,hn,hb⟩).1 (λh=>h)) hk' (λ_ _ h=>h) (Cmp.refl _ _)
 .exact⟨CY (h.lt b hb).1 hk.size,(h.lt b hb).2⟩
theorem Rel.set(h:Rel B nt w0 X γ st a w){n:Nat}{ob ob':Ob}(ho:DV st.o n=AA ob)(hf:ob.fits ob'){w':World}(hk:Keep (FE (γ n) ob) w w')
  (hb:∀b,FE (γ n) ob' b->FE (γ n) ob b)
  (hr:(∀b,DY X γ ((n,AA ob')::st.o) b->DY X γ st.o b)->Cmp γ st.o γ ((n,AA ob')::st.o)->ObRel B γ ((n,AA ob')::st.o) w' (DY X γ ((n,AA ob')::st.o)) (γ n) ob'):
  Rel B nt w0 X γ (st.up (.set n ob')) a w':=by
 have hownP:∀b,FN γ ((n,AA ob')::st.o) b->FN γ st.o b:=by
  rintro b ⟨m,ob1,hm,hb1⟩;rw[EP]at hm;split at hm
  .rename_i e;subst e;simp only[AK]at hm;subst hm;exact⟨n,ob,ho,hb b hb1⟩
  .exact⟨m,ob1,hm,hb1⟩
 have hown:∀b,DY X γ ((n,AA ob')::st.o) b->DY X γ st.o b:=λb hb=>hb.imp_left (hownP b)
 have hkP:Keep (FN γ st.o) w w':=hk.mono (λb _ hb=>⟨n,ob,ho,hb⟩);have hk':Keep (DY X γ st.o) w w':=hkP.mono (λb _ hb=>.inl hb);have hcmp:Cmp γ st.o γ ((n,AA ob')::st.o):=by
  intro m ob1 hm;rw[EP]at hm;split at hm
  .rename_i e;subst e;simp only[AK]at hm;subst hm;exact⟨rfl,ob,ho,hf⟩
  .exact⟨rfl,ob1,hm,ob1.fits_refl⟩
 refine⟨h.sz,h.df,λi=>?_,λm ob1 hm=>?_,λb hb1=>?_,?_,?_,λb hb=>h.nr b (hownP b hb),λb hb=>CY (h.fl b hb) hk.size,λp hp ob1 h1=>?_⟩
 case refine_6=>
  simp only[St.up]at h1;rw[EP]at h1;split at h1
  .rename_i e;subst e;exact h.pn p hp ob ho
  .exact h.pn p hp ob1 h1
 .exact VRel.mono hk' (λb _ hb=>hown b hb) (VRel.cmp hcmp (h.tm i))
 .simp only[St.up]at hm ⊢;rw[EP]at hm;split at hm
  .rename_i e;subst e;simp only[AK]at hm;subst hm;exact hr hown hcmp
  .rename_i e;refine(h.ob m ob1 hm).later (λb hb1=>?_) hk' (λb _ hb=>hown b hb) hcmp;exact hk.block b (h.lt b ⟨m,ob1,hm,hb1⟩).1 (λhb2=>h.dis n m ob ob1 b e ho hm hb2 hb1)
 .exact⟨CY (h.lt b (hownP b hb1)).1 hk.size,(h.lt b (hownP b hb1)).2⟩
 .intro m1 m2 ob1 ob2 b hne h1 h2 hb1 hb2;simp only[St.up]at h1 h2;rw[EP]at h1 h2;split at h1
  .rename_i e1;subst e1;simp only[AK]at h1;subst h1;rw[BO hne]at h2;exact h.dis n m2 ob ob2 b hne ho h2 (hb b hb1) hb2
  .split at h2
   .rename_i e1 e2;subst e2;simp only[AK]at h2;subst h2;exact h.dis m1 n ob1 ob b hne h1 ho hb1 (hb b hb2)
   .exact h.dis m1 m2 ob1 ob2 b hne h1 h2 hb1 hb2
 .refine h.keep.trans hkP (λb hb h1=>?_);rcases(h.lt b h1).2 with h2|h2
  .omega
  .exact h2
def pD(γ:Nat->Value)(o:Store)(ks:List Nat)(b:Nat):Prop:=∃n∈ks,∃ob,DV o n=AA ob/\FE (γ n) ob b
def PB(o:Store):List Nat->Store
 |[]=>o
 |n::r=>PB ((n,AB)::o) r
theorem YY:∀(ks:List Nat) (o:Store) (m:Nat),DV (PB o ks) m=if m∈ks then AB else DV o m
 |[],o,m=>by simp[PB]
 |n::r,o,m=>by
  simp only[PB,YY r,EP,AW];by_cases h1:m∈r
  .simp[h1]
  .by_cases h2:n=m
   .simp[h2]
   .have h3:¬m=n:=λe=>h2 e.symm
    simp[h1,h2,h3]
theorem Rel.new(h:Rel B nt w0 X γ st a w)(ks:List Nat)(d:Nat)(hd9:d≠900000)(ob':Ob)(g:Value){w':World}(hk:Keep (pD γ st.o ks) w w')
  (hb:∀b,FE g ob' b->b<w'.heap.size/\(w.heap.size<=b\/pD γ st.o ks b))
  (hr:∀O':Nat->Prop,(∀b,b<w.heap.size->O' b->DY X γ st.o b)->PV d γ st.o (λn=>if d=n then g else γ n) (St.up ⟨st.t,PB st.o ks⟩ (.new d ob')).o->
   ObRel B (λn=>if d=n then g else γ n) (St.up ⟨st.t,PB st.o ks⟩ (.new d ob')).o w' O' g ob'):
  Rel B nt w0 X (λn=>if d=n then g else γ n) (St.up ⟨st.t,PB st.o ks⟩ (.new d ob')) a w':=by
 have hownP:∀b,b<w.heap.size->FN (λn=>if d=n then g else γ n) (St.up ⟨st.t,PB st.o ks⟩ (.new d ob')).o b->FN γ st.o b:=by
  rintro b hlt ⟨m,ob1,hm,hb1⟩;rw[GS]at hm;split at hm
  .rename_i e;subst e;simp only[AK]at hm;subst hm;simp only[CX]at hb1;rcases(hb b hb1).2 with h1|⟨n,_,ob,ho,hbn⟩
   .omega
   .exact⟨n,ob,ho,hbn⟩
  .rename_i e;obtain⟨ob0,h0,hs⟩:=QL hm;simp only[BO e]at hb1;rw[YY]at h0;split at h0
   .cases h0
   .exact⟨m,ob0,h0,((WA hs).2 _ _).1 hb1⟩
 have hown:∀b,b<w.heap.size->DY X (λn=>if d=n then g else γ n) (St.up ⟨st.t,PB st.o ks⟩ (.new d ob')).o b->DY X γ st.o b:=λb hb h1=>h1.imp_left (hownP b hb)
 have hkP:Keep (FN γ st.o) w w':=hk.mono (λb _ ⟨n,_,ob,ho,hbn⟩=>⟨n,ob,ho,hbn⟩);have hk':Keep (DY X γ st.o) w w':=hkP.mono (λb _ hb=>.inl hb);have hcmp:PV d γ st.o (λn=>if d=n then g else γ n) (St.up ⟨st.t,PB st.o ks⟩ (.new d ob')).o:=by
  intro m ob1 hmd hm;rw[GS,BO (λe=>hmd e.symm)]at hm;obtain⟨ob0,h0,hs⟩:=QL hm;rw[YY]at h0;split at h0
  .cases h0
  .exact⟨BO (λe=>hmd e.symm),ob0,h0,(WA hs).1⟩
 have hnr:∀b,FN (λn=>if d=n then g else γ n) (St.up ⟨st.t,PB st.o ks⟩ (.new d ob')).o b->¬X.far b:=λb hb1 hf=>h.nr b (hownP b (h.fl b hf) hb1) hf
 refine⟨h.sz,h.df,λi=>?_,λm ob1 hm=>?_,?_,?_,?_,hnr,λb hb=>CY (h.fl b hb) hk.size,λp hp ob1 h1=>?_⟩
 case refine_6=>
  rw[GS,BO hd9]at h1;obtain⟨ob0,h0,_⟩:=QL h1;rw[YY]at h0;split at h0
  .cases h0
  .simp only[BO hd9];exact h.pn p hp ob0 h0
 .rw[iF];exact VRel.mono hk' hown (wA hcmp (h.tm i))
 .by_cases e:d=m
  .subst e;rw[GS,BX rfl,AK]at hm;subst hm;simp only[CX];exact hr _ hown hcmp
  .rw[GS,BO e]at hm;obtain⟨ob0,h0,hs⟩:=QL hm;rw[YY]at h0;split at h0
   .cases h0
   rename_i hnk;simp only[BO e];have hbl:∀b,FE (γ m) ob0 b->w'.heap[b]?=w.heap[b]?:=λb hb1=>
    hk.block b (h.lt b ⟨m,ob0,h0,hb1⟩).1 (λ⟨n,hn,ob,ho,hbn⟩=>by
     by_cases hnm:n=m
     .subst hnm;exact hnk hn
     .exact h.dis n m ob ob0 b hnm ho h0 hbn hb1)
   have hor:=h.ob m ob0 h0;cases ob0 with
   |box l=>
    simp only[HM,AK]at hs;subst hs;simp only[ObRel]at hor ⊢;obtain⟨b,c,T,hg,hh,hr1⟩:=hor;exact⟨b,c,T,hg,by rw[hbl b ⟨_,hg,rfl⟩];exact hh,VRels.mono hk' hown (oC hcmp hr1)⟩
   |row own e' ag ks' l=>
    simp only[HM,AK]at hs;subst hs;cases own with
    |true=>
     simp only[ObRel]at hor ⊢;obtain⟨h1,h2,xs,hx,hr1⟩:=hor;exact⟨h1,h2,xs,uN hx hbl,λi y hy=>Kd.RelAll.mono hk' hown (λ_ _ hu=>hu) (hr1 i y hy)⟩
    |false=>
     simp only[ObRel]at hor ⊢;exact⟨hor.1,Kd.Rel.mono hk' hown hor.2⟩
   |bld s=>
    simp only[HM,AK]at hs;subst hs;simp only[ObRel]at hor ⊢;obtain⟨b,v,p,hg,hp,h1,h2,h3⟩:=hor;exact⟨b,v,p,hg,hp,by rw[hbl b ⟨_,_,hg,.inl rfl⟩];exact h1,bH h2 (λb' hb'=>hbl b' ⟨_,_,hg,.inr hb'⟩),h3⟩
   |map vk es=>
    simp only[HM,AK]at hs;subst hs;simp only[ObRel]at hor ⊢;obtain⟨h0,b,ents,hg,h1,h2⟩:=hor;exact⟨h0,b,ents,hg,by rw[hbl b hg];exact h1,EntRel.mono hk' hown h2⟩
   |iter vk last rest=>
    simp only[HM,AK]at hs;subst hs;simp only[ObRel]at hor ⊢;obtain⟨h0,r,b,since,seen,ents,clock,hg,h1,h2,h3⟩:=hor;exact⟨h0,r,b,since,seen,ents,clock,hg,by rw[hbl r ⟨_,_,hg,.inl rfl⟩];exact h1,by rw[hbl b ⟨_,_,hg,.inr rfl⟩];exact h2,IterRel.mono hk' hown h3⟩
 .rintro b ⟨m,ob1,hm,hb1⟩;by_cases e:d=m
  .subst e;rw[GS,BX rfl,AK]at hm;subst hm;simp only[CX]at hb1;refine⟨(hb b hb1).1,?_⟩;rcases(hb b hb1).2 with h1|⟨n,_,ob,ho,hbn⟩
   .exact .inl (DD h.keep.size h1)
   .exact(h.lt b ⟨n,ob,ho,hbn⟩).2
  .rw[GS,BO e]at hm;obtain⟨ob0,h0,hs⟩:=QL hm;rw[YY]at h0;split at h0
   .cases h0
   simp only[BO e]at hb1
   have:=h.lt b ⟨m,ob0,h0,((WA hs).2 _ _).1 hb1⟩
   exact⟨CY this.1 hk.size,this.2⟩
 .intro m1 m2 ob1 ob2 b hne h1 h2 hb1 hb2;have key:∀m ob1,DV (St.up ⟨st.t,PB st.o ks⟩ (.new d ob')).o m=AA ob1->d≠m->FE (if d=m then g else γ m) ob1 b->m∉ks/\∃ob0,DV st.o m=AA ob0/\FE (γ m) ob0 b:=by
   intro m ob1 hm e hb1;rw[GS,BO e]at hm;obtain⟨ob0,h0,hs⟩:=QL hm;rw[YY]at h0;split at h0
   .cases h0
   rename_i hnk;rw[BO e]at hb1;exact⟨hnk,ob0,h0,((WA hs).2 _ _).1 hb1⟩
  by_cases e1:d=m1
  .have e2:d≠m2:=λe=>hne (e1.symm.trans e)
   obtain⟨hk2,ob0,h0,hb0⟩:=key m2 ob2 h2 e2 hb2;subst e1;rw[GS,BX rfl,AK]at h1;subst h1;simp only[CX]at hb1;rcases(hb b hb1).2 with h3|⟨n,hn,ob,ho,hbn⟩
   .have:=(h.lt b ⟨m2,ob0,h0,hb0⟩).1
    omega
   .by_cases hnm:n=m2
    .subst hnm;exact hk2 hn
    .exact h.dis n m2 ob ob0 b hnm ho h0 hbn hb0
  .obtain⟨hk1,ob01,h01,hb01⟩:=key m1 ob1 h1 e1 hb1;by_cases e2:d=m2
   .subst e2;rw[GS,BX rfl,AK]at h2;subst h2;simp only[CX]at hb2;rcases(hb b hb2).2 with h3|⟨n,hn,ob,ho,hbn⟩
    .have:=(h.lt b ⟨m1,ob01,h01,hb01⟩).1
     omega
    .by_cases hnm:n=m1
     .subst hnm;exact hk1 hn
     .exact h.dis n m1 ob ob01 b hnm ho h01 hbn hb01
   .obtain⟨_,ob02,h02,hb02⟩:=key m2 ob2 h2 e2 hb2;exact h.dis m1 m2 ob01 ob02 b hne h01 h02 hb01 hb02
 .refine h.keep.trans hkP (λb hb h1=>?_);rcases(h.lt b h1).2 with h2|h2
  .omega
  .exact h2
end
open Go Go.RowKit
def WP:Kd->Value->Prop
 |.int k,z=>z=.int k 0
 |.bool,z=>z=.bool AD
 |.str,z=>z=.string CQ
 |.list _ _,_=>False
structure TISnd (P:Program) (B:BT) (t:Nat) (x:TI):Prop where
 info:∃i z,P.info? t=AA i/\i.size=x.size/\i.bytes=x.bytes/\i.zero=AA z/\z.cells.size=x.size/\∀γ o w O,VRels γ o w O x.zero z.cells.toList
 ks:x.ks.length=x.size
 by1:1<=x.bytes
 one:x.agg=AD->x.size=1
 und:∃d,P.underlying t=AA d/\d.isRow=x.agg/\match x.d with
  |.slice e=>d=.slice e
  |.struct fs=>∃fields,d=.struct fields/\fs=fields.toList.map (λf=>(f.offset,f.type))/\∀f∈fields.toList,(P.info? f.type).isSome=AC
  |.array n e=>d=.array n e
  |.ptr e=>d=.pointer e
  |.bld=>t=B.T
  |.map e k=>∃kt i z,d=.map kt e/\P.underlying kt=AA (.int .i64)/\P.info? e=AA i/\i.zero=AA z/\WP k z
  |.iface=>∃ms,d=.interface ms
  |.leaf=>(∀k,x.ks=[.int k]->d=.int k)/\(x.ks=[.str]->d=.string)/\(x.ks=[.bool]->d=.bool)
def TiOK(P:Program)(B:BT)(E:Env):Prop:=∀t x,lk E.ti t=AA x->TISnd P B t x
theorem a9{α:Type}(d:α):∀(l:List (Nat×α)) (i:Nat),FA d l i=(lk l i).getD d
 |[],_=>rfl
 |(j,x)::r,i=>by
  simp only[FA,lk];cases B2 j i with
  |true=>rfl
  |false=>exact a9 d r i
section
variable {P:Program} {B:BT} {E:Env}
theorem TiOK.size(h:TiOK P B E){t:Nat}(hs:0<(E.tyd t).size):TISnd P B t (E.tyd t):=by
 unfold Env.tyd at hs ⊢;rw[a9]at hs ⊢;cases hl:lk E.ti t with
 |none=>rw[hl]at hs;simp[TI.none]at hs
 |some x=>exact h t x hl
theorem TiOK.desc(h:TiOK P B E){t:Nat}(hs:(E.tyd t).d≠.leaf):TISnd P B t (E.tyd t):=by
 unfold Env.tyd at hs ⊢;rw[a9]at hs ⊢;cases hl:lk E.ti t with
 |none=>rw[hl]at hs;simp[TI.none]at hs
 |some x=>exact h t x hl
theorem TiOK.kinds(h:TiOK P B E){t:Nat}(hs:(E.tyd t).ks≠[]):TISnd P B t (E.tyd t):=by
 unfold Env.tyd at hs ⊢;rw[a9]at hs ⊢;cases hl:lk E.ti t with
 |none=>rw[hl]at hs;simp[TI.none]at hs
 |some x=>exact h t x hl
end
theorem tq{k:IntKind}{n:Int}:aR k n=AC↔k.min<=n/\n<=k.max:=by simp[aR]
theorem db(γ:Nat->Value)(o:Store)(w:World)(O:Nat->Prop)(v:Value):VRel γ o w O (qM v) v:=by
 unfold qM;split
 .rename_i k n;cases h:aR k n with
  |true=>simp only[VRel];exact⟨trivial,tq.1 h⟩
  |false=>simp only[VRel]
 .simp only[VRel]
 .rename_i s;cases h:CG s.size 140737488355327 with
  |true=>simp only[VRel];exact⟨trivial,AX h⟩
  |false=>simp only[VRel]
 .simp only[VRel]
 .simp only[VRel]
 .simp only[VRel]
 .simp only[VRel]
theorem kD(k:IntKind)(n:Int):k.min<=k.wrap n/\k.wrap n<=k.max:=by
 cases k<;>simp[AI,IntKind.min,IntKind.max,vak,AT]<;>(try split)<;>omega
section
variable {P:Program} {γ:Nat→Value} {o:Store} {w:World} {O:Nat→Prop}
theorem kZ{op:BinOp}{c:Bool}{v:V}{us:List Upd}(h:(aA op c).get=AA (v,us)):us=[]/\((op=.eql/\v=.bool c)\/(op=.neq/\v=.bool (!c))):=by
 cases op<;>simp[aA,T.get]at h
 .exact⟨h.2,.inl ⟨rfl,h.1.symm⟩⟩
 .exact⟨h.2,.inr ⟨rfl,h.1.symm⟩⟩
theorem Jj(k:IntKind):k.min<=0/\0<=k.max:=by cases k<;>simp[IntKind.min,IntKind.max,vak,AT]
theorem zfv(x y:Int):(0<=x->0<=x.tmod y/\x.tmod y<=x)/\(x<0->x<=x.tmod y/\x.tmod y<=0):=by
 have h1:(x.tmod y).natAbs<=x.natAbs:=by rw[Int.natAbs_tmod];exact Nat.mod_le _ _
 constructor
 .intro hx;have h2:=Int.tmod_nonneg y hx;omega
 .intro hx;have h2:(-x).tmod y= -(x.tmod y):=Int.neg_tmod x y;have h3:=Int.tmod_nonneg (a:= -x) y AG;omega
theorem zfw{k:IntKind}{x:Int}(hx:k.min<=x/\x<=k.max)(y:Int):k.min<=x.tmod y/\x.tmod y<=k.max:=by
 have h1:=zfv x y;have h2:=Jj k;rcases Int.lt_or_le x 0 with h|h
 .have:=h1.2 h;omega
 .have:=h1.1 h;omega
theorem lh(x:Int)(n:Nat):(0<=x->0<=x.fdiv (2^n)/\x.fdiv (2^n)<=x)/\(x<0->x<=x.fdiv (2^n)/\x.fdiv (2^n)<=0):=by
 have hp:(0:Int)<2^n:=Int.pow_pos AG;rw[vaH _ (Int.le_of_lt hp)];have hq:=Int.mul_ediv_add_emod x (2^n);have hr:=Int.emod_nonneg x (Int.ne_of_gt hp);have hr2:=Int.emod_lt_of_pos x hp;constructor
 .intro hx;refine⟨Int.ediv_nonneg hx (Int.le_of_lt hp),Int.ediv_le_self _ hx⟩
 .intro hx;have h1:x/2^n<0:=Int.ediv_neg_of_neg_of_pos hx hp;refine⟨?_,Int.le_of_lt h1⟩;rw[Int.le_ediv_iff_mul_le hp]
  have:x*2^n<=x*1:=Int.mul_le_mul_of_nonpos_left (Int.le_of_lt hx) AG
  omega
theorem lj{k:IntKind}{x:Int}(hx:k.min<=x/\x<=k.max)(n:Nat):k.min<=x.fdiv (2^n)/\x.fdiv (2^n)<=k.max:=by
 have h1:=lh x n;have h2:=Jj k;rcases Int.lt_or_le x 0 with h|h
 .have:=h1.2 h;omega
 .have:=h1.1 h;omega
theorem tp{op:BinOp}{k:IntKind}{x y:Int}(hx:k.min<=x/\x<=k.max){v:V}{us:List Upd}(ho:mE op=AD)(h:(sB op k x y).get=AA (v,us))(t:Nat):
  us=[]/\∃z,(vad op t (.int k x) (.int k y)).run P w=.ok z w/\VRel γ o w O v z:=by
 cases op<;>simp only[mE]at ho<;>try (simp at ho;done)
 all_goals simp only[sB,T.get,AK,A1]at h
 case quo=>
  by_cases hb:y=0
  .simp[hb,T.get]at h
  .simp only[hb,decide_false,T.get,AK,A1]at h;obtain⟨rfl,rfl⟩:=h;refine⟨rfl,_,by simp[vad,Op.intDiv,hb];rfl,?_⟩;simp only[VRel];exact⟨trivial,kD _ _⟩
 case rem=>
  by_cases hb:y=0
  .simp[hb,T.get]at h
  .simp only[hb,decide_false,T.get,AK,A1]at h;obtain⟨rfl,rfl⟩:=h;refine⟨rfl,_,by simp[vad,Op.intDiv,hb];rfl,?_⟩;simp only[VRel];exact⟨trivial,zfw hx y⟩
 all_goals obtain⟨rfl,rfl⟩:=h
 all_goals refine⟨rfl,_,by simp only[vad,ne_eq,vbw,if_false,Op.intArith,Op.intBits,Op.intCmp,CM];rfl,?_⟩
 all_goals simp only[VRel]
 all_goals first|exact⟨trivial,kD _ _⟩|rfl|simp
theorem zdm{op:BinOp}{k k':IntKind}{x y:Int}(hx:k.min<=x/\x<=k.max){v:V}{us:List Upd}(h:(wE op k x y).get=AA (v,us))(t:Nat):
  us=[]/\∃z,(vad op t (.int k x) (.int k' y)).run P w=.ok z w/\VRel γ o w O v z:=by
 cases op<;>simp only[wE,T.get]at h<;>try (simp at h;done)
 all_goals
  by_cases hb:y<0
  .simp[hb,T.get]at h
  .simp only[hb,decide_false,T.get,AK,A1]at h;obtain⟨rfl,rfl⟩:=h;refine⟨rfl,_,by simp only[vad,Op.shift,hb,if_false,CM];rfl,?_⟩;simp only[VRel]
   first|exact⟨trivial,kD _ _⟩|exact⟨trivial,lj hx _⟩
theorem size_append(a b:BA):(a++b).size=a.size+b.size:=BC
theorem zfc{op:BinOp}{x y:BA}{v:V}{us:List Upd}(h:(xI op x y).get=AA (v,us))(t:Nat):
  us=[]/\∃z,(vad op t (.string x) (.string y)).run P w=.ok z w/\VRel γ o w O v z:=by
 cases op<;>simp only[xI,T.get]at h<;>try (simp at h;done)
 case add=>
  by_cases hb:x.size+y.size<=strMax
  .simp only[T.when,hb,decide_true,T.get,AK,A1]at h;obtain⟨rfl,rfl⟩:=h;have h2:¬((x.size+y.size:Nat):Int)>AJ.max:=by
    simp only[strMax]at hb;simp[IntKind.max,vak,AT];omega
   refine⟨rfl,.string (x++y),by simp only[vad,Op.stringOp,h2,if_false,CM],?_⟩;simp only[VRel];exact⟨trivial,by rw[size_append];exact hb⟩
  .simp[T.when,hb,T.get]at h
 all_goals
  simp only[AK,A1]at h;obtain⟨rfl,rfl⟩:=h;refine⟨rfl,_,by simp only[vad,Op.stringOp,CM];rfl,?_⟩;simp only[VRel]
def EqSnd(P:Program)(t:Nat)(ks:List Kd):Prop:=P.eqGuardType P.depth t=AD/\∀(γ:Nat->Value) (o:Store) (w w':World) (O:Nat->Prop) (l l':List V) (xs ys:Array Value) (c:Bool),KA ks l=AC->KK l l'=AA c->
 VRels γ o w O l xs.toList->VRels γ o w O l' ys.toList->(vbc t (.agg xs) (.agg ys)).run P w'=.ok c w'
theorem iY{n:Nat}:∀{l:List Nat},K3 n l=AC↔n∈l
 |[]=>by simp[K3]
 |m::r=>by
  simp only[K3,AW];cases hb:B2 m n with
  |true=>simp[F1.1 hb]
  |false=>
   have:=I4.1 hb
   simp only[iY (l:=r)];constructor
   .exact λh=>.inr h
   .rintro(h|h)
    .exact absurd h.symm this
    .exact h
theorem ak{op:BinOp}{x y:V}{v:V}{us:List Upd}{X Y:Value}(hX:VRel γ o w O x X)(hY:VRel γ o w O y Y)(h:(pW op x y).get=AA (v,us))(t:Nat)(xo yo:Operand):
  us=[]/\∃z,(do eqGuard op t xo yo X Y;vad op t X Y).run P w=.ok z w/\VRel γ o w O v z:=by
 unfold pW at h;split at h
 .rename_i k a k' b;simp only[VRel]at hX hY;obtain⟨rfl,hX⟩:=hX;obtain⟨rfl,hY⟩:=hY;have hg:(eqGuard op t xo yo (.int k a) (.int k' b)).run P w=.ok () w:=by
   cases op<;>simp[eqGuard]
  cases hs:mE op with
  |true=>
   rw[hs]at h;obtain⟨hu,z,hz,hv⟩:=zdm (P:=P) (γ:=γ) (o:=o) (w:=w) (O:=O) (k':=k') hX h t;exact⟨hu,z,by simp[hg,hz],hv⟩
  |false=>
   rw[hs]at h;cases hk:k==k' with
   |false=>simp[hk,T.get]at h
   |true=>
    have:k=k':=by simpa using hk
    subst this;simp only[hk]at h;obtain⟨hu,z,hz,hv⟩:=tp (P:=P) (γ:=γ) (o:=o) (w:=w) (O:=O) hX hs h t;exact⟨hu,z,by simp[hg,hz],hv⟩
 .rename_i a b;simp only[VRel]at hX hY;obtain⟨rfl,hX⟩:=hX;obtain⟨rfl,hY⟩:=hY;have hg:(eqGuard op t xo yo (.string a) (.string b)).run P w=.ok () w:=by
   cases op<;>simp[eqGuard]
  obtain⟨hu,z,hz,hv⟩:=zfc (P:=P) (γ:=γ) (o:=o) (w:=w) (O:=O) h t;exact⟨hu,z,by simp[hg,hz],hv⟩
 .simp[T.get]at h
theorem aj{B:BT}{E:Env}(hT:TiOK P B E)(hE:∀t,t∈E.eqs->EqSnd P t (E.tyd t).ks){op:BinOp}{x y:V}{v:V}{us:List Upd}{X Y:Value}(hX:VRel γ o w O x X)(hY:VRel γ o w O y Y)
    (t:Nat) (xo yo:Operand) (h:(kY E o op t yo x y).get=AA (v,us)):
    us=[]/\∃z,(do eqGuard op t xo yo X Y;vad op t X Y).run P w=.ok z w/\VRel γ o w O v z:=by
  unfold kY at h
  split at h
  . rename_i l l'
    simp only[VRel]at hX hY
    obtain⟨xs,rfl,hX⟩:=hX
    obtain⟨ys,rfl,hY⟩:=hY
    cases hm:K3 t E.eqs with
    |false=>simp[hm,T.get]at h
    |true=>
     cases hkm:KA (E.tyd t).ks l with
     |false=>simp[hm,hkm,T.get]at h
     |true=>
      cases hc:KK l l' with
      |none=>simp[hm,hc,hkm,T.get]at h
      |some c=>
        simp only[hm,hc,hkm]at h
        obtain⟨he1,he2⟩:=hE t (iY.1 hm)
        have he:=he2 γ o w w O l l' xs ys c hkm hc hX hY
        obtain⟨hu,⟨rfl,rfl⟩|⟨rfl,rfl⟩⟩:=kZ h
        . exact⟨hu,.bool c,by simp[eqGuard,vad,he1,he],by simp only[VRel]⟩
        . exact⟨hu,.bool (!c),by simp[eqGuard,vad,he1,he],by simp only[VRel]⟩
  . rename_i a
    cases hc:sE yo with
    |false=>simp[hc,T.get]at h
    |true=>
      cases hd:(E.tyd t).d<;>simp only[hc,hd,T.get]at h<;>try (simp at h;done)
      have hs:=hT.desc (t:=t) (by rw[hd];simp)
      obtain⟨d,hd1,_,hd2⟩:=hs.und
      rw[hd]at hd2
      obtain⟨ms,rfl⟩:=hd2
      simp only[VRel]at hX hY
      subst hY
      have hyo:∃c,yo=.const c:=by cases yo<;>simp[sE]at hc;exact⟨_,rfl⟩
      obtain⟨yc,rfl⟩:=hyo
      have key:∀d,(vbo (d+1) t X .nilIface).run P w=.ok a w:=λd=>by
        cases a with
        |true=>simp only at hX;subst hX;simp[vbo,BQ hd1]
        |false=>simp only at hX;obtain⟨tt,vv,rfl⟩:=hX;simp[vbo,BQ hd1]
      have hg:∀op,(eqGuard op t xo (.const yc) X .nilIface).run P w=.ok () w:=λop=>by
        cases a with
        |true=>simp only at hX;subst hX;cases op<;>simp[eqGuard]
        |false=>simp only at hX;obtain⟨tt,vv,rfl⟩:=hX;cases op<;>simp[eqGuard]
      have hk:=key 9999
      obtain⟨hu,⟨rfl,rfl⟩|⟨rfl,rfl⟩⟩:=kZ h
      . refine⟨hu,.bool a,?_,by simp only[VRel]⟩
        simp only[CL,hg,B9]
        cases a with
        |true=>simp only at hX;subst hX;simp[vad,vbc,va2,hk]
        |false=>simp only at hX;obtain⟨tt,vv,rfl⟩:=hX;simp[vad,vbc,va2,hk]
      . refine⟨hu,.bool (!a),?_,by simp only[VRel]⟩
        simp only[CL,hg,B9]
        cases a with
        |true=>simp only at hX;subst hX;simp[vad,vbc,va2,hk]
        |false=>simp only at hX;obtain⟨tt,vv,rfl⟩:=hX;simp[vad,vbc,va2,hk]
  . rename_i a b
    simp only[VRel]at hX hY
    subst hX
    subst hY
    split at h
    . rename_i hd hks
      have hs:=hT.kinds (t:=t) (by rw[hks];simp)
      obtain⟨d,hd1,_,hd2⟩:=hs.und
      rw[hd]at hd2
      obtain rfl:=hd2.2.2 hks
      have key:∀d,(vbo (d+1) t (.bool a) (.bool b)).run P w=.ok (a==b) w:=λd=>by simp[vbo,BQ hd1]
      have hk:=key 9999
      have hg:∀op,(eqGuard op t xo yo (.bool a) (.bool b)).run P w=.ok () w:=λop=>by
        cases op<;>simp[eqGuard]
      obtain⟨hu,⟨rfl,rfl⟩|⟨rfl,rfl⟩⟩:=kZ h
      . exact⟨hu,.bool (a==b),by simp[hg,vad,vbc,va2,hk],by simp only[VRel]⟩
      . exact⟨hu,.bool (!(a==b)),by simp only[CL,hg,B9,vad,vbc,va2,hk,CM],by simp only[VRel]⟩
    . simp[T.get]at h
  . rename_i n i c
    split at h
    . simp[T.get]at h
    . rename_i e ob hnm hd ho
      have hs:=hT.desc (t:=t) (by rw[hd];simp)
      obtain⟨d,hd1,_,hd2⟩:=hs.und
      rw[hd]at hd2
      subst hd2
      simp only[VRel,ho]at hX hY
      subst hY
      obtain⟨ad,rfl⟩:∃ad,X=.pointer (AA ad):=by
        cases ob with
        |box cs=>obtain⟨_,b,_,h⟩:=hX;exact⟨_,h⟩
        |row own e ag ks l=>obtain⟨_,b,off,len,cap,_,h⟩:=hX;exact⟨_,h⟩
        |bld s=>obtain⟨_,b,v,_,h⟩:=hX;exact⟨_,h⟩
        |map vk es=>exact absurd rfl (hnm _ _)
        |iter _ _ _=>obtain⟨r,y,_,h⟩:=hX;exact⟨_,h⟩
      have key:∀d,(vbo (d+1) t (.pointer (AA ad)) (.pointer AB)).run P w=.ok AD w:=λd=>by simp[vbo,BQ hd1]
      have hk:=key 9999
      have hg:∀op,(eqGuard op t xo yo (.pointer (AA ad)) (.pointer AB)).run P w=.ok () w:=λop=>by
        cases op<;>simp[eqGuard]
      obtain⟨hu,⟨rfl,rfl⟩|⟨rfl,rfl⟩⟩:=kZ h
      . exact⟨hu,.bool AD,by simp[hg,vad,vbc,va2,hk],by simp only[VRel]⟩
      . exact⟨hu,.bool AC,by simp[hg,vad,vbc,va2,hk],by simp only[VRel];rfl⟩
    . simp[T.get]at h
  . exact ak hX hY h t xo yo
theorem zfL{op:UnOp}{x:V}{v:V}{us:List Upd}{X:Value}(hX:VRel γ o w O x X)(h:(xW op x).get=AA (v,us)):
  us=[]/\∃z,(Op.unary op X).run P w=.ok z w/\VRel γ o w O v z:=by
 unfold xW at h;split at h
 .simp only[VRel]at hX;obtain⟨rfl,hX⟩:=hX;simp only[T.get,AK,A1]at h;obtain⟨rfl,rfl⟩:=h;refine⟨rfl,_,by simp only[Op.unary,Op.intArith,CM];rfl,?_⟩;simp only[VRel];exact⟨trivial,kD _ _⟩
 .simp only[VRel]at hX;subst hX;simp only[T.get,AK,A1]at h;obtain⟨rfl,rfl⟩:=h;exact⟨rfl,_,by simp only[Op.unary,CM];rfl,by simp only[VRel]⟩
 .simp[T.get]at h
end
open Go Go.RowKit
theorem ZF:∀(l:List V) (n:Nat),PL l n=l.take n
 |l,0=>by cases l<;>simp[PL]
 |[],n+1=>by simp[PL]
 |x::r,n+1=>by simp[PL,ZF r n]
theorem R5:∀(l:List V) (n:Nat),NK l n=l.drop n
 |l,0=>by cases l<;>simp[NK]
 |[],n+1=>by simp[NK]
 |x::r,n+1=>by simp[NK,R5 r n]
theorem i5:∀(l:List V) (n:Nat),SG l n=(l[n]?).getD .any
 |[],n=>by simp[SG]
 |x::r,0=>by simp[SG]
 |x::r,n+1=>by simp[SG,i5 r n]
theorem SH:∀(l:LI) (n:Nat),LO l n=(l[n]?).getD default
 |[],0=>by simp[LO]
 |[],n+1=>by simp[LO]
 |x::r,0=>by simp[LO]
 |x::r,n+1=>by simp[LO,SH r n]
theorem iV{α:Type}(g:Nat->α):∀(c n:Nat),(T2 g c n).length=n
 |_,0=>rfl
 |c,n+1=>by simp[T2,iV g (c+1) n]
theorem iU{α:Type}(g:Nat->α):∀(c n j:Nat),j<n->(T2 g c n)[j]?=AA (g (c+j))
 |_,0,_,h=>by omega
 |c,n+1,0,_=>by simp[T2]
 |c,n+1,j+1,h=>by
  simp only[T2,C5];rw[iU g (c+1) n j AG];congr 2;omega
section
variable {γ:Nat→Value} {o:Store} {w:World} {O:Nat→Prop}
theorem VRels.length:∀{l:List V} {xs:List Value},VRels γ o w O l xs->l.length=xs.length
 |[],[],_=>rfl
 |[],_::_,h=>by simp only[VRels]at h
 |_::_,[],h=>by simp only[VRels]at h
 |v::vs,x::xs,h=>by
  simp only[VRels]at h;simp[VRels.length h.2]
theorem VRels.get:∀{l:List V} {xs:List Value} {j:Nat} {v:V},VRels γ o w O l xs->l[j]?=AA v->∃x,xs[j]?=AA x/\VRel γ o w O v x
 |[],_,_,_,_,hj=>by simp at hj
 |_::_,[],_,_,h,_=>by simp only[VRels]at h
 |u::vs,x::xs,0,v,h,hj=>by
  simp only[VRels]at h;simp at hj;subst hj;exact⟨x,rfl,h.1⟩
 |u::vs,x::xs,j+1,v,h,hj=>by
  simp only[VRels]at h;simp at hj;obtain⟨y,hy,hr⟩:=VRels.get h.2 hj;exact⟨y,by simpa using hy,hr⟩
theorem VRels.of_get:∀{l:List V} {xs:List Value},l.length=xs.length->(∀(j:Nat) (v:V) (x:Value),l[j]?=AA v->xs[j]?=AA x->VRel γ o w O v x)->VRels γ o w O l xs
 |[],[],_,_=>by simp only[VRels]
 |[],_::_,h,_=>by simp at h
 |_::_,[],h,_=>by simp at h
 |v::vs,x::xs,h,hr=>by
  simp only[VRels];exact⟨hr 0 v x rfl rfl,VRels.of_get (by simpa using h) (λj v x h1 h2=>hr (j+1) v x (by simpa using h1) (by simpa using h2))⟩
theorem VRels.get'{l:List V}{xs:List Value}{j:Nat}{v:V}{x:Value}(h:VRels γ o w O l xs)(hv:l[j]?=AA v)(hx:xs[j]?=AA x):VRel γ o w O v x:=by
 obtain⟨y,hy,hr⟩:=h.get hv;rw[hx,AK]at hy;exact hy▸hr
theorem VRels.take(n:Nat){l:List V}{xs:List Value}(h:VRels γ o w O l xs):VRels γ o w O (l.take n) (xs.take n):=by
 refine VRels.of_get (by simp[h.length]) (λj v x h1 h2=>?_);rw[C3]at h1 h2;split at h1
 .rename_i hj;rw[BX hj]at h2;exact h.get' h1 h2
 .cases h1
theorem VRels.drop(n:Nat){l:List V}{xs:List Value}(h:VRels γ o w O l xs):VRels γ o w O (l.drop n) (xs.drop n):=by
 refine VRels.of_get (by simp[h.length]) (λj v x h1 h2=>?_);rw[vat]at h1 h2;exact h.get' h1 h2
theorem VRels.append{l l':List V}{xs xs':List Value}(h:VRels γ o w O l xs)(h':VRels γ o w O l' xs'):VRels γ o w O (l++l') (xs++xs'):=by
 have hl:=h.length;refine VRels.of_get (by simp[hl,h'.length]) (λj v x h1 h2=>?_);rw[vah]at h1 h2;rw[hl]at h1;split at h1
 .rename_i hj;rw[BX hj]at h2;exact h.get' h1 h2
 .rename_i hj;rw[BO hj]at h2;exact h'.get' h1 h2
theorem bD{k:Kd}{x:IV}{u:Value}(h:Kd.Rel w O k x u):VRel γ o w O (OJ k x) u:=by
 cases k with
 |int k=>simp only[Kd.Rel]at h;simp only[OJ,VRel];exact h
 |bool=>simp only[Kd.Rel]at h;simp only[OJ,VRel];exact h
 |str=>simp only[Kd.Rel]at h;simp only[OJ,VRel];exact h
 |list ag ks=>simp only[Kd.Rel]at h;simp only[OJ,VRel,Kd.Rel,IV.toList];exact h
theorem sD{P:Program}{B:BT}{t:Nat}{x:TI}(h:TISnd P B t x)(w:World):(isAgg t).run P w=.ok x.agg w:=by
 obtain⟨d,hd,hr,_⟩:=h.und;unfold isAgg;rw[CL,BQ hd w,<-hr];cases d<;>rfl
theorem SP{P:Program}{B:BT}{t:Nat}{x:TI}(h:TISnd P B t x)(w:World):(sizeOf t).run P w=.ok x.size w:=by
 obtain⟨i,z,hi,hs,_⟩:=h.info;simp[sizeOf,typeInfo,hi,hs]
theorem It{P:Program}{B:BT}{t:Nat}{x:TI}(h:TISnd P B t x)(ha:x.agg=AC)(b c:Nat)(cs:List Value)(hl:cs.length=x.size)
  (hc:∀j v,cs[j]?=AA v->w.cell? ⟨b,c+j,AB⟩=AA v):(va8 t (.pointer (AA ⟨b,c,AB⟩))).run P w=.ok (.agg cs.toArray) w:=by
 obtain⟨d,hd,hr,_⟩:=h.und;obtain⟨i,z,hi,hs,_⟩:=h.info;exact run_loadAt_mid w b c t cs d hc hd (by rw[hr,ha]) (by rw[hi];simp[hs,hl])
theorem Iu{P:Program}{B:BT}{t:Nat}{x:TI}(h:TISnd P B t x)(ha:x.agg=AD)(b c:Nat)(u:Value)
  (hc:w.cell? ⟨b,c,AB⟩=AA u):(va8 t (.pointer (AA ⟨b,c,AB⟩))).run P w=.ok u w:=by
 simp only[va8,Instr.sureAddr,CM,CL,B9,loadVar,sD h,ha,Bool.false_eq_true,if_false,run_load,hc]
theorem Ib{P:Program}{B:BT}{t:Nat}{x:TI}(h:TISnd P B t x){ks:List Kd}{f:Nat->IV}{c:Nat}{v:V}(hv:aY x.agg x.size ks f c=AA v)
  {b off:Nat} (hr:Kd.RelAll w O ks f 0 (λj u=>w.cell? ⟨b,off+j,AB⟩=AA u)):
  ∃y,(va8 t (.pointer (AA ⟨b,off+c,AB⟩))).run P w=.ok y w/\VRel γ o w O v y:=by
 rw[Kd.RelAll_iff]at hr;unfold aY at hv;cases hb:CG (c+x.size) ks.length with
 |false=>simp[hb]at hv
 |true=>
  have hb':=AX hb;simp only[hb]at hv;have key:∀j,j<x.size->∃u,w.cell? ⟨b,off+c+j,AB⟩=AA u/\VRel γ o w O (OJ (ks.getD (c+j) .bool) (f (c+j))) u:=by
   intro j hj;have hlt:c+j<ks.length:=by omega
   obtain⟨u,hu,hr'⟩:=hr (c+j) ks[c+j] (BD hlt);simp only[BU]at hu hr';refine⟨u,by rw[<-hu];congr 2;omega,?_⟩
   have:ks.getD (c+j) .bool=ks[c+j]:=by simp[AR,BD hlt]
   rw[this];exact bD hr'
  cases ha:x.agg with
  |true=>
   rw[ha]at hv;simp only[AK]at hv;subst hv
   let us:List Value:=T2 (λj=>(w.cell? ⟨b,off+j,AB⟩).getD undef) c x.size
   have hus:∀j,j<x.size->us[j]?=AA ((w.cell? ⟨b,off+(c+j),AB⟩).getD undef):=λj hj=>iU _ _ _ _ hj
   refine⟨.agg us.toArray,It h ha b (off+c) us (iV _ _ _) ?_,?_⟩
   .intro j v' hj;have hjl:j<x.size:=by
     rcases DN j x.size with h'|h'
     .exact h'
     .rw[B8 (by rw[iV];exact h')]at hj;cases hj
    obtain⟨u,hu,_⟩:=key j hjl;rw[hus j hjl,AK,<-vaJ,hu]at hj;rw[hu,<-hj];rfl
   .simp only[VRel];refine⟨us.toArray,rfl,VRels.of_get (by simp[iV,us]) (λj v' y h1 h2=>?_)⟩;have hjl:j<x.size:=by
     rcases DN j x.size with h'|h'
     .exact h'
     .rw[B8 (by rw[iV];exact h')]at h1;cases h1
    obtain⟨u,hu,hr'⟩:=key j hjl;rw[iU _ _ _ _ hjl,AK]at h1;rw[hus j hjl,AK,<-vaJ,hu]at h2;simp only[vam]at h2;rw[<-h1,<-h2];exact hr'
  |false=>
   rw[ha]at hv;cases h1:B2 x.size 1 with
   |false=>simp[h1]at hv
   |true=>
    simp only[h1,AK]at hv;subst hv;obtain⟨u,hu,hr'⟩:=key 0 (by rw[F1.1 h1];omega);exact⟨u,Iu h ha b (off+c) u (by simpa using hu),by simpa using hr'⟩
theorem Hz{P:Program}{B:BT}{t:Nat}{x:TI}(h:TISnd P B t x){cs:List V}{c:Nat}{v:V}(hv:R9 x.agg x.size cs c=AA v)
  {b:Nat} {xs:Array Value} {T:TypeId} {fr:Nat×Nat} (hh:w.heap[b]?=AA (.cells xs T fr)) (hr:VRels γ o w O cs xs.toList):
  ∃y,(va8 t (.pointer (AA ⟨b,c,AB⟩))).run P w=.ok y w/\VRel γ o w O v y:=by
 unfold R9 at hv;have hcell:∀j,w.cell? ⟨b,j,AB⟩=xs.toList[j]?:=λj=>by simp[vaI,hh]
 cases hb:CG (c+x.size) cs.length with
 |false=>simp[hb]at hv
 |true=>
  have hb':=AX hb;have hlen:=hr.length;simp only[hb]at hv;cases ha:x.agg with
  |true=>
   rw[ha]at hv;simp only[AK]at hv;subst hv;refine⟨.agg ((xs.toList.drop c).take x.size).toArray,It h ha b c _ (by rw[BL,DA];omega) (λj v' hj=>?_),?_⟩
   .rw[C3]at hj;split at hj
    .rw[vat]at hj;rw[hcell,hj]
    .cases hj
   .simp only[VRel];refine⟨_,rfl,?_⟩;rw[ZF,R5];simpa using(hr.drop c).take x.size
  |false=>
   rw[ha]at hv;cases h1:B2 x.size 1 with
   |false=>simp[h1]at hv
   |true=>
    have h1':=F1.1 h1;simp only[h1,AK]at hv;subst hv;obtain⟨u,hu⟩:∃u,cs[c]?=AA u:=⟨cs[c]'AG,BD _⟩;obtain⟨y,hy,hr'⟩:=hr.get hu;refine⟨y,Iu h ha b c y (by rw[hcell,hy]),?_⟩;rw[i5,hu];exact hr'
theorem Lj{P:Program}{B:BT}{t:Nat}{x:TI}(h:TISnd P B t x){cs:List V}{c:Nat}{v:V}(hv:R9 x.agg x.size cs c=AA v)
  {xs:Array Value} (hr:VRels γ o w O cs xs.toList):∃y,(part t xs c).run P w=.ok y w/\VRel γ o w O v y:=by
 unfold R9 at hv;cases hb:CG (c+x.size) cs.length with
 |false=>simp[hb]at hv
 |true=>
  have hb':=AX hb;have hlen:=hr.length;simp only[hb]at hv;cases ha:x.agg with
  |true=>
   rw[ha]at hv;simp only[AK]at hv;subst hv;refine⟨.agg (xs.extract c (c+x.size)),by simp[part,sD h,ha,SP h],?_⟩;simp only[VRel];refine⟨_,rfl,?_⟩;rw[ZF,R5]
   have:(xs.extract c (c+x.size)).toList=(xs.toList.drop c).take x.size:=by
    simp[List.extract_eq_take_drop]
   rw[this];exact(hr.drop c).take x.size
  |false=>
   rw[ha]at hv;cases h1:B2 x.size 1 with
   |false=>simp[h1]at hv
   |true=>
    have h1':=F1.1 h1;simp only[h1,AK]at hv;subst hv;obtain⟨u,hu⟩:∃u,cs[c]?=AA u:=⟨cs[c]'AG,BD _⟩;obtain⟨y,hy,hr'⟩:=hr.get hu;have hy':xs[c]?=AA y:=by simpa using hy
    refine⟨y,by simp[part,sD h,ha,hy'],?_⟩;rw[i5,hu];exact hr'
end
section
variable {B:BT} {nt:Nat} {w0:World} {X:Zone} {γ:Nat→Value} {st:St} {a:Act} {w:World}
theorem FZ(h:Rel B nt w0 X γ st a w)(x:Operand):VRel γ st.o w (DY X γ st.o) (opd st x) (a.eval x):=by
 cases x with
 |tmp t=>exact h.tm t
 |const v=>exact db _ _ _ _ v
 |global g=>simp only[opd,VRel]
 |func f=>simp only[opd,VRel];exact⟨#[],rfl,by simp only[VRels]⟩
theorem Rel.elem(h:Rel B nt w0 X γ st a w){n:Nat}{own:Bool}{e:Nat}{ag:Bool}{ks:List Kd}{l:LI}(ho:DV st.o n=AA (.row own e ag ks l)){i:Nat}(hi:i<l.length)
  {b off len cap:Nat} (hg:γ n=.slice (AA ⟨b,off,AB⟩) len cap):
  b<w.heap.size/\Kd.RelAll w (DY X γ st.o) ks (GK ag (l.getD i default)) 0 (λj u=>w.cell? ⟨b,off+i*ks.length+j,AB⟩=AA u):=by
 have hob:=h.ob n _ ho;have hy:l[i]?=AA (l.getD i default):=by simp[AR,BD hi]
 cases own with
 |true=>
  simp only[ObRel]at hob;obtain⟨_,_,xs,hx,hr⟩:=hob;obtain⟨rfl,_,h1,h2⟩:=hx.cells hg;refine⟨h1,Kd.RelAll.mono (Keep.refl _ w) (λ_ _ h=>h) (λj u hu=>?_) (hr i _ hy)⟩
  have:=h2 _ u hu
  rw[<-this];congr 2;omega
 |false=>
  simp only[ObRel,Kd.Rel,IV.toList]at hob;obtain⟨_,p,c,hv,_,_,_,hr⟩:=hob;obtain⟨b',o',hp,_,hs,hr'⟩:=hr i _ hy;rw[hg,hp]at hv;simp only[CW,AK,DI]at hv;obtain⟨⟨rfl,rfl,_⟩,_⟩:=hv;exact⟨hs,hr'⟩
def OpWp(P:Program)(B:BT)(nt:Nat)(w0:World)(X:Zone)(a:Act)(w:World)(o:Oper)(st:St)(v:V)(us:List Upd):Prop:=
 ∀(K:Act->World->Prop) (Q:Exit->Act->World->Prop),
  (∀γ' x w',Rel B nt w0 X γ' (st.ups us) a w'->VRel γ' (st.ups us).o w' (DY X γ' (st.ups us).o) v x->K (a.put o.dst x) w')->o.wp P a w K Q
theorem OpWp.value{P:Program}{o:Oper}{v:V}{us:List Upd}{γ':Nat->Value}{x:Value}{w':World}(hr:(execOp a.eval o).run P w=.ok (.value x) w')
  (h:Rel B nt w0 X γ' (st.ups us) a w') (hv:VRel γ' (st.ups us).o w' (DY X γ' (st.ups us).o) v x):OpWp P B nt w0 X a w o st v us:=by
 intro K Q hK;unfold Oper.wp;rw[hr];exact hK γ' x w' h hv
theorem OpWp.skip{P:Program}{o:Oper}{us:List Upd}{γ':Nat->Value}{w':World}(hr:(execOp a.eval o).run P w=.ok .skip w')
  (h:Rel B nt w0 X γ' (st.ups us) a w'):OpWp P B nt w0 X a w o st .any us:=by
 intro K Q hK;unfold Oper.wp;rw[hr];exact hK γ' undef w' h (by simp only[VRel])
theorem OpWp.pure{P:Program}{o:Oper}{v:V}{x:Value}(h:Rel B nt w0 X γ st a w)(hr:(execOp a.eval o).run P w=.ok (.value x) w)
 (hv:VRel γ st.o w (DY X γ st.o) v x):OpWp P B nt w0 X a w o st v []:=OpWp.value (us:=[]) hr h hv
theorem T.get_of{x:Option V}{v:V}{us:List Upd}(h:(T.of x).get=AA (v,us)):us=[]/\x=AA v:=by
 cases x with
 |none=>simp[T.of,T.get]at h
 |some y=>simp[T.of,T.get]at h;exact⟨h.2,by rw[h.1]⟩
theorem T.get_when{b:Bool}{x:T}{r:V×List Upd}(h:(T.when b x).get=AA r):b=AC/\x.get=AA r:=by
 cases b with
 |true=>exact⟨rfl,h⟩
 |false=>simp[T.when,T.get]at h
theorem VO:∀{n j:Nat} {i:Int} {g:Nat->T} {r:V×List Upd},(fork n j i g).get=AA r->∃m:Nat,j<=m/\m<j+n/\i=(m:Int)/\(g m).get=AA r
 |0,_,_,_,_,h=>by simp[fork,T.get]at h
 |n+1,j,i,g,r,h=>by
  unfold fork at h;by_cases hi:i=(j:Int)
  .simp only[hi,decide_true,T.get]at h;exact⟨j,A4 _,by omega,hi,h⟩
  .simp only[hi,decide_false,T.get]at h;obtain⟨m,h1,h2,h3,h4⟩:=VO h;exact⟨m,by omega,by omega,h3,h4⟩
variable {P:Program} {E:Env}
theorem TiOK.known(hT:TiOK P B E){t:Nat}(h:(E.tyd t).agg=AC\/0<(E.tyd t).size):TISnd P B t (E.tyd t):=by
 rcases h with h|h
 .unfold Env.tyd at h ⊢;rw[a9]at h ⊢;cases hl:lk E.ti t with
  |none=>rw[hl]at h;simp[TI.none]at h
  |some x=>exact hT t x hl
 .exact hT.size h
theorem Hy{agg:Bool}{size:Nat}{cs:List V}{c:Nat}{v:V}(h:R9 agg size cs c=AA v):agg=AC\/0<size:=by
 unfold R9 at h;cases agg with
 |true=>exact .inl rfl
 |false=>
  right;cases hb:CG (c+size) cs.length<;>simp only[hb]at h
  .cases h
  .cases h1:B2 size 1<;>simp only[h1]at h
   .cases h
   .rw[F1.1 h1];omega
theorem Ia{agg:Bool}{size:Nat}{ks:List Kd}{f:Nat->IV}{c:Nat}{v:V}(h:aY agg size ks f c=AA v):agg=AC\/0<size:=by
 unfold aY at h;cases agg with
 |true=>exact .inl rfl
 |false=>
  right;cases hb:CG (c+size) ks.length<;>simp only[hb]at h
  .cases h
  .cases h1:B2 size 1<;>simp only[h1]at h
   .cases h
   .rw[F1.1 h1];omega
theorem zbx(hT:TiOK P B E)(h:Rel B nt w0 X γ st a w)(o:Oper){t:Nat}{x:Operand}(ho:o.op=.load t x){v:V}{us:List Upd}
  (he:(EJ E st.o (opd st) o.dst o.op).get=AA (v,us)):OpWp P B nt w0 X a w o st v us:=by
 have hx:=FZ h x;rw[ho]at he;simp only[EJ]at he;have hrun:∀y,(va8 t (a.eval x)).run P w=.ok y w->(execOp a.eval o).run P w=.ok (.value y) w:=λy hy=>by
  unfold execOp;simp only[ho,CL,hy,B9,CM]
 split at he
 .rename_i n i c hop;rw[hop]at hx;simp only[VRel]at hx;split at he
  .rename_i cs hob;obtain⟨rfl,hv⟩:=T.get_of he;rw[hob]at hx;obtain⟨rfl,b,hg,hx⟩:=hx;have hor:=h.ob n _ hob;simp only[ObRel]at hor;obtain⟨b',cs',T,hg',hh,hr⟩:=hor;rw[hg]at hg';simp only[C6,AK,DI,CI]at hg';subst hg';obtain⟨y,hy,hr'⟩:=Hz (hT.known (Hy hv)) hv hh hr;rw[hx]at hrun;exact OpWp.pure h (hrun y hy) hr'
  .rename_i own e ag ks l hob;obtain⟨rfl,hv⟩:=T.get_of he;rw[hob]at hx;obtain⟨hi,b,off,len,cap,hg,hx⟩:=hx;obtain⟨_,hr⟩:=h.elem hob hi hg;obtain⟨y,hy,hr'⟩:=Ib (γ:=γ) (o:=st.o) (hT.known (Ia hv)) hv hr;rw[hx]at hrun;exact OpWp.pure h (hrun y hy) hr'
  .simp[T.get]at he
 .rename_i ks f c hop;obtain⟨rfl,hv⟩:=T.get_of he;rw[hop]at hx;simp only[VRel]at hx;obtain⟨b,off,hx,_,_,hr⟩:=hx;obtain⟨y,hy,hr'⟩:=Ib (γ:=γ) (o:=st.o) (hT.known (Ia hv)) hv hr;rw[hx]at hrun;exact OpWp.pure h (hrun y hy) hr'
 .simp[T.get]at he
end
open Go Go.RowKit
section
variable {B:BT} {nt:Nat} {w0:World} {X:Zone} {γ:Nat→Value} {st:St} {a:Act} {w:World} {P:Program} {E:Env}
theorem Kr(h:Rel B nt w0 X γ st a w)(o:Oper){x:Operand}(ho:o.op=.move x\/o.op=.assign x){v:V}{us:List Upd}
  (he:(EJ E st.o (opd st) o.dst o.op).get=AA (v,us)):OpWp P B nt w0 X a w o st v us:=by
 rcases ho with ho|ho<;>
 .rw[ho]at he;simp only[EJ,T.get,AK,A1]at he;obtain⟨rfl,rfl⟩:=he;exact OpWp.pure h (by unfold execOp;simp only[ho,CM]) (FZ h x)
theorem zbF(h:Rel B nt w0 X γ st a w)(o:Oper){c x y:Operand}(ho:o.op=.pick c x y){v:V}{us:List Upd}
  (he:(EJ E st.o (opd st) o.dst o.op).get=AA (v,us)):OpWp P B nt w0 X a w o st v us:=by
 have hc:=FZ h c;have hx:=FZ h x;have hy:=FZ h y;rw[ho]at he;simp only[EJ]at he;split at he
 .rename_i cb hcb;rw[hcb]at hc;simp only[VRel]at hc;have hrun:(execOp a.eval o).run P w=.ok (.value (if cb=AC then a.eval x else a.eval y)) w:=by
   unfold execOp;simp only[ho,hc,asBool,CM,CL,B9]
  split at he
  .rename_i bx by_ h1 h2;simp only[T.get,AK,A1]at he;obtain⟨rfl,rfl⟩:=he;refine OpWp.pure h hrun ?_;rw[h1]at hx;rw[h2]at hy;cases cb<;>simpa using(by assumption)
  .cases cb with
   |true=>
    simp only[T.get,AK,A1]at he;obtain⟨rfl,rfl⟩:=he;exact OpWp.pure h hrun (by simpa using hx)
   |false=>
    simp only[T.get,AK,A1]at he;obtain⟨rfl,rfl⟩:=he;exact OpWp.pure h hrun (by simpa using hy)
 .simp[T.get]at he
theorem zbi(hT:TiOK P B E)(hE:∀t,t∈E.eqs->EqSnd P t (E.tyd t).ks)(h:Rel B nt w0 X γ st a w)(o:Oper){op:BinOp}{t t':Nat}{x y:Operand}(ho:o.op=.binOp op t x y t'){v:V}{us:List Upd}
  (he:(EJ E st.o (opd st) o.dst o.op).get=AA (v,us)):OpWp P B nt w0 X a w o st v us:=by
 rw[ho]at he;simp only[EJ]at he;obtain⟨rfl,z,hz,hv⟩:=aj hT hE (FZ h x) (FZ h y) t x y he;exact OpWp.pure h (by unfold execOp;simp only[ho,CL,CM]at hz ⊢;rw[hz];rfl) hv
theorem zbJ(h:Rel B nt w0 X γ st a w)(o:Oper){op:UnOp}{t:Nat}{x:Operand}(ho:o.op=.unOp op t x){v:V}{us:List Upd}
  (he:(EJ E st.o (opd st) o.dst o.op).get=AA (v,us)):OpWp P B nt w0 X a w o st v us:=by
 rw[ho]at he;simp only[EJ]at he;obtain⟨rfl,z,hz,hv⟩:=zfL (P:=P) (FZ h x) he;exact OpWp.pure h (by unfold execOp;simp only[ho,CL,CM,hz,B9]) hv
theorem Mi(_:Rel B nt w0 X γ st a w){n i c:Nat}{x:Value}(hx:VRel γ st.o w (DY X γ st.o) (.ptr n i c) x){ob:Ob}(ho:DV st.o n=AA ob)(hnm:∀k es,ob=.map k es->False):∃ad,x=.pointer (AA ad):=by
 simp only[VRel,ho]at hx;cases ob with
 |box cs=>obtain⟨_,b,_,h⟩:=hx;exact⟨_,h⟩
 |row own e ag ks l=>obtain⟨_,b,off,len,cap,_,h⟩:=hx;exact⟨_,h⟩
 |bld s=>obtain⟨_,b,v,_,h⟩:=hx;exact⟨_,h⟩
 |map vk es=>exact(hnm _ _ rfl).elim
 |iter _ _ _=>obtain⟨r,y,_,h⟩:=hx;exact⟨_,h⟩
theorem zbE(h:Rel B nt w0 X γ st a w)(o:Oper){x:Operand}(ho:o.op=.nilCheck x){v:V}{us:List Upd}
  (he:(EJ E st.o (opd st) o.dst o.op).get=AA (v,us)):OpWp P B nt w0 X a w o st v us:=by
 have hx:=FZ h x;rw[ho]at he;simp only[EJ]at he;split at he
 .rename_i n i c hop;split at he
  .simp[T.get]at he
  .rename_i ob hnm hob;simp only[T.get,AK,A1]at he;obtain⟨rfl,rfl⟩:=he;rw[hop]at hx;obtain⟨ad,hp⟩:=Mi h hx hob hnm;exact OpWp.pure h (by unfold execOp;simp only[ho,hp,CM]) hx
  .simp[T.get]at he
 .simp[T.get]at he
theorem Tv{fs:List (Nat×Nat)}:∀{i:Nat} {off sz:Nat},UF E fs i=AA (off,sz)->∃t,fs[i]?=AA (off,t)/\sz=(E.tyd t).size/\0<(E.tyd t).size:=by
 induction fs with
 |nil=>intro i off sz h;simp[UF]at h
 |cons p r ih=>
  obtain⟨o1,t1⟩:=p;intro i off sz h;cases i with
  |zero=>
   simp only[UF]at h;cases hb:BV 0 (E.tyd t1).size<;>simp only[hb]at h
   .cases h
   .simp only[AK,A1]at h;exact⟨t1,by simp[h.1],h.2.symm,AX hb⟩
  |succ i=>
   simp only[UF]at h;obtain⟨t,h1,h2⟩:=ih h;exact⟨t,by simpa using h1,h2⟩
theorem lu(hT:TiOK P B E){s f:Nat}{fs:List (Nat×Nat)}(hd:(E.tyd s).d=.struct fs){off sz:Nat}(hp:UF E fs f=AA (off,sz))(b c:Nat):
  (Instr.fieldAt s (.pointer (AA ⟨b,c,AB⟩)) f).run P w=.ok (.pointer (AA ⟨b,c+off,AB⟩)) w:=by
 obtain⟨d,hd1,_,hd2⟩:=(hT.desc (t:=s) (by rw[hd];simp)).und;rw[hd]at hd2;obtain⟨fields,rfl,rfl,_⟩:=hd2;obtain⟨t,h1,h2,h3⟩:=Tv hp;rw[CJ,DP]at h1;obtain⟨fd,hfd,h4⟩:=h1;simp only[A1]at h4;obtain⟨rfl,rfl⟩:=h4;have hfd':fields[f]?=AA fd:=by simpa using hfd
 have hsz:=SP (hT.size h3) w;have h0:(E.tyd fd.type).size≠0:=by omega
 simp[Instr.fieldAt,BQ hd1,hfd',Instr.sureAddr,fieldPlace,hsz,h0,va3]
theorem zbu(hT:TiOK P B E)(h:Rel B nt w0 X γ st a w)(o:Oper){s f:Nat}{x:Operand}(ho:o.op=.fieldAddr s x f){v:V}{us:List Upd}
  (he:(EJ E st.o (opd st) o.dst o.op).get=AA (v,us)):OpWp P B nt w0 X a w o st v us:=by
 have hx:=FZ h x;rw[ho]at he;simp only[EJ]at he;split at he
 .rename_i fs hd;split at he
  .rename_i off sz hp;have hrun:∀b c,a.eval x=.pointer (AA ⟨b,c,AB⟩)->(execOp a.eval o).run P w=.ok (.value (.pointer (AA ⟨b,c+off,AB⟩))) w:=λb c e=>by
    unfold execOp;simp only[ho,CL,e,lu hT hd hp b c,B9,CM]
   split at he
   .rename_i n i c hop;rw[hop]at hx;split at he
    .rename_i cs hob;simp only[T.get,AK,A1]at he;obtain⟨rfl,rfl⟩:=he;simp only[VRel,hob]at hx;obtain⟨hi,b,hg,hx⟩:=hx;refine OpWp.pure h (hrun b c hx) ?_;simp only[VRel,hob];exact⟨hi,b,hg,rfl⟩
    .rename_i own e ag ks l hob;simp only[T.get,AK,A1]at he;obtain⟨rfl,rfl⟩:=he;simp only[VRel,hob]at hx;obtain⟨hi,b,off',len,cap,hg,hx⟩:=hx;refine OpWp.pure h (hrun b _ hx) ?_;simp only[VRel,hob];exact⟨hi,b,off',len,cap,hg,by rw[vaJ _ c off]⟩
    .simp[T.get]at he
   .rename_i ks g c hop;rw[hop]at hx;simp only[T.get,AK,A1]at he;obtain⟨rfl,rfl⟩:=he;simp only[VRel]at hx;obtain⟨b,off',hx,h1,h2,h3⟩:=hx;refine OpWp.pure h (hrun b _ hx) ?_;simp only[VRel];exact⟨b,off',by rw[vaJ],h1,h2,h3⟩
   .simp[T.get]at he
  .simp[T.get]at he
 .simp[T.get]at he
theorem zbt(hT:TiOK P B E)(h:Rel B nt w0 X γ st a w)(o:Oper){t f:Nat}{x:Operand}(ho:o.op=.field t x f){v:V}{us:List Upd}
  (he:(EJ E st.o (opd st) o.dst o.op).get=AA (v,us)):OpWp P B nt w0 X a w o st v us:=by
 have hx:=FZ h x;rw[ho]at he;simp only[EJ]at he;split at he
 .rename_i fs cs hd hop;split at he
  .rename_i off ft hf;split at he
   .rename_i hb;obtain⟨rfl,hv⟩:=T.get_of he;rw[hop]at hx;simp only[VRel]at hx;obtain⟨xs,hx,hr⟩:=hx;obtain⟨y,hy,hr'⟩:=Lj (hT.size (AX hb)) hv hr;obtain⟨d,hd1,_,hd2⟩:=(hT.desc (t:=t) (by rw[hd];simp)).und;rw[hd]at hd2;obtain⟨fields,rfl,rfl,_⟩:=hd2;rw[CJ,DP]at hf;obtain⟨fd,hfd,h4⟩:=hf;simp only[A1]at h4;obtain⟨rfl,rfl⟩:=h4;have hfd':fields[f]?=AA fd:=by simpa using hfd
    refine OpWp.pure h ?_ hr';unfold execOp;simp[ho,hx,Instr.field,BQ hd1,hfd',asAgg,hy]
   .simp[T.get]at he
  .simp[T.get]at he
 .simp[T.get]at he
theorem zbs(h:Rel B nt w0 X γ st a w)(o:Oper){i:Nat}{x:Operand}(ho:o.op=.extract x i){v:V}{us:List Upd}
  (he:(EJ E st.o (opd st) o.dst o.op).get=AA (v,us)):OpWp P B nt w0 X a w o st v us:=by
 have hx:=FZ h x;rw[ho]at he;simp only[EJ]at he;split at he
 .rename_i vs hop;rw[hop]at hx;simp only[VRel]at hx;obtain⟨xs,hx,hr⟩:=hx;split at he
  .rename_i v' hv;simp only[T.get,AK,A1]at he;obtain⟨rfl,rfl⟩:=he;obtain⟨y,hy,hr'⟩:=hr.get hv;have hy':xs[i]?=AA y:=by simpa using hy
   exact OpWp.pure h (by unfold execOp;simp[ho,hx,Instr.extract,hy']) hr'
  .simp[T.get]at he
 .simp[T.get]at he
end
open Go Go.RowKit
section
variable {B:BT} {nt:Nat} {w0:World} {X:Zone} {γ:Nat→Value} {st:St} {a:Act} {w:World} {P:Program} {E:Env}
theorem r7(hT:TiOK P B E){t e:Nat}(hd:(E.tyd t).d=.slice e)(hs:0<(E.tyd e).size){k:IntKind}{i:Int}{b o len cap:Nat}(h0:0<=i)(h1:i<len):
  (vbd t (.slice (AA ⟨b,o,AB⟩) len cap) (.int k i)).run P w=.ok (.pointer (AA ⟨b,o+i.toNat*(E.tyd e).size,AB⟩)) w:=by
 obtain⟨d,hd1,_,hd2⟩:=(hT.desc (t:=t) (by rw[hd];simp)).und;rw[hd]at hd2;subst hd2;have hz:=SP (hT.size hs) w;simp[vbd,asIntOf,BQ hd1,h0,h1,hz,va3]
theorem rZ(hT:TiOK P B E){t e N:Nat}(hd:(E.tyd t).d=.array N e)(hs:0<(E.tyd e).size){k:IntKind}{i:Nat}{b o:Nat}(h1:i<N):
  (vbd t (.pointer (AA ⟨b,o,AB⟩)) (.int k (i:Int))).run P w=.ok (.pointer (AA ⟨b,o+i*(E.tyd e).size,AB⟩)) w:=by
 obtain⟨d,hd1,_,hd2⟩:=(hT.desc (t:=t) (by rw[hd];simp)).und;rw[hd]at hd2;subst hd2;have hz:=SP (hT.size hs) w;simp[vbd,asIntOf,BQ hd1,Instr.sureAddr,h1,hz,va3]
theorem RJ{e n:Nat}(h:PK E e n=AC):n=(E.tyd e).size/\0<(E.tyd e).size:=by
 simp only[PK,AQ]at h;have h1:=F1.1 h.1;have h2:=AX h.2;exact⟨h1,by omega⟩
theorem zbw(hT:TiOK P B E)(h:Rel B nt w0 X γ st a w)(o:Oper){t:Nat}{x ix:Operand}(ho:o.op=.indexAddr t x ix){v:V}{us:List Upd}
  (he:(EJ E st.o (opd st) o.dst o.op).get=AA (v,us)):OpWp P B nt w0 X a w o st v us:=by
 have hx:=FZ h x;have hix:=FZ h ix;rw[ho]at he;simp only[EJ]at he;have hrun:∀y,(vbd t (a.eval x) (a.eval ix)).run P w=.ok y w->(execOp a.eval o).run P w=.ok (.value y) w:=λy hy=>by
  unfold execOp;simp only[ho,CL,hy,B9,CM]
 split at he
 .rename_i e k i hd hi;rw[hi]at hix;simp only[VRel]at hix;rw[hix.1]at hrun;split at he
  .rename_i ag ks l hop;rw[hop]at hx;split at he
   .rename_i hks;obtain⟨hks',hpos⟩:=RJ hks;obtain⟨hc,he⟩:=T.get_when he;simp only[T.get,AK,A1]at he;obtain⟨rfl,rfl⟩:=he;simp only[AQ,AZ]at hc;simp only[VRel,Kd.Rel,IV.toList]at hx;obtain⟨p,c,hv,_,_,_,hr⟩:=hx;have hlt:i.toNat<l.length:=by omega
    have hy:l[i.toNat]?=AA (l.getD i.toNat default):=by simp[AR,BD hlt]
    obtain⟨b,off,hp,hO,hs,hr'⟩:=hr _ _ hy;subst hp;rw[hv]at hrun;refine OpWp.pure h (hrun _ (r7 hT hd hpos hc.1 hc.2)) ?_;simp only[VRel];refine⟨b,off+i.toNat*ks.length,by rw[<-hks'];rfl,hO,hs,hr'⟩
   .simp[T.get]at he
  .rename_i n lo hi' hop;rw[hop]at hx;split at he
   .rename_i own e' ag ks l hob;split at he
    .rename_i hks;obtain⟨hks',hpos⟩:=RJ hks;obtain⟨hc,he⟩:=T.get_when he;simp only[T.get,AK,A1]at he;obtain⟨rfl,rfl⟩:=he;simp only[AQ,AZ]at hc;simp only[VRel,hob]at hx;obtain⟨hlen,p,len,cap,p',hg,hv,h1,h2,h3,_,h4,_⟩:=hx;have hlt:lo+i.toNat<l.length:=by omega
     have hcap:cap≠lo:=by omega
     have hp':=h4.resolve_right hcap;obtain⟨b,off,rfl⟩:∃b off,p=AA ⟨b,off,AB⟩:=by
      have hor:=h.ob n _ hob;have hy:l[lo+i.toNat]?=AA (l.getD (lo+i.toNat) default):=by simp[AR,BD hlt]
      cases own with
      |true=>
       simp only[ObRel]at hor;obtain⟨_,_,xs,hx,_⟩:=hor;rcases hx.2 with⟨h5,h6⟩|⟨g,cap',cur,T,fr,h5,_⟩
       .rw[hg]at h5;simp only[CW]at h5;omega
       .rw[hg]at h5;simp only[CW]at h5;exact⟨_,_,h5.1⟩
      |false=>
       simp only[ObRel,Kd.Rel,IV.toList]at hor;obtain⟨_,p2,c2,h5,_,_,_,hr⟩:=hor;obtain⟨b,off,hp2,_⟩:=hr _ _ hy;rw[hg]at h5;simp only[CW]at h5;exact⟨b,off,by rw[h5.1,hp2]⟩
     subst hp';rw[hv]at hrun;simp only[vaf,va3]at hrun;refine OpWp.pure h (hrun _ (r7 hT hd hpos hc.1 (by have:=hc.2;omega))) ?_;simp only[VRel,hob];refine⟨hlt,b,off,len,cap,hg,?_⟩;rw[hks',vao];congr 3;omega
    .simp[T.get]at he
   .simp[T.get]at he
  .rename_i n c cap sz len hop;rw[hop]at hx;split at he
   .rename_i cs hks hob;obtain⟨hks',hpos⟩:=RJ hks;obtain⟨hc,he⟩:=T.get_when he;obtain⟨m,_,hm,hi2,he2⟩:=VO he;subst hi2;simp only[T.get,AK,A1]at he2;obtain⟨rfl,rfl⟩:=he2;simp only[AZ]at hc;simp only[VRel,hob]at hx;obtain⟨hl,_,hcs,b,hg,hv⟩:=hx;rw[hv]at hrun;refine OpWp.pure h (hrun _ (r7 hT hd hpos AG hc)) ?_;simp only[VRel,hob];exact⟨trivial,b,hg,by rw[hks'];simp⟩
   .simp[T.get]at he
  .simp[T.get]at he
 .rename_i N e k i hd hi;rw[hi]at hix;simp only[VRel]at hix;rw[hix.1]at hrun;split at he
  .rename_i n i0 c hop;rw[hop]at hx;split at he
   .rename_i cs hob;obtain⟨hsz,he⟩:=T.get_when he;obtain⟨_,hpos⟩:=RJ hsz;obtain⟨m,_,hm,hi2,he2⟩:=VO he;subst hi2;simp only[T.get,AK,A1]at he2;obtain⟨rfl,rfl⟩:=he2;simp only[VRel,hob]at hx;obtain⟨hi0,b,hg,hv⟩:=hx;rw[hv]at hrun;refine OpWp.pure h (hrun _ (rZ hT hd hpos AG)) ?_;simp only[VRel,hob];exact⟨hi0,b,hg,rfl⟩
   .rename_i own e' ag ks l hob;obtain⟨hsz,he⟩:=T.get_when he;obtain⟨_,hpos⟩:=RJ hsz;obtain⟨m,_,hm,hi2,he2⟩:=VO he;subst hi2;simp only[T.get,AK,A1]at he2;obtain⟨rfl,rfl⟩:=he2;simp only[VRel,hob]at hx;obtain⟨hi0,b,off,len,cap,hg,hv⟩:=hx;rw[hv]at hrun;refine OpWp.pure h (hrun _ (rZ hT hd hpos AG)) ?_;simp only[VRel,hob];exact⟨hi0,b,off,len,cap,hg,by rw[vaJ _ c]⟩
   .simp[T.get]at he
  .rename_i ks f c hop;rw[hop]at hx;obtain⟨hsz,he⟩:=T.get_when he;obtain⟨_,hpos⟩:=RJ hsz;obtain⟨m,_,hm,hi2,he2⟩:=VO he;subst hi2;simp only[T.get,AK,A1]at he2;obtain⟨rfl,rfl⟩:=he2;simp only[VRel]at hx;obtain⟨b,off,hv,h1,h2,h3⟩:=hx;rw[hv]at hrun;refine OpWp.pure h (hrun _ (rZ hT hd hpos AG)) ?_;simp only[VRel];exact⟨b,off,by rw[vaJ _ c],h1,h2,h3⟩
  .simp[T.get]at he
 .simp[T.get]at he
theorem Y1(h:Rel B nt w0 X γ st a w)(lo:Option Operand):(lo.map (opd st)=AB/\lo.map a.eval=AB)\/∃v x,lo.map (opd st)=AA v/\lo.map a.eval=AA x/\VRel γ st.o w (DY X γ st.o) v x:=by
 cases lo with
 |none=>exact .inl ⟨rfl,rfl⟩
 |some y=>exact .inr ⟨_,_,rfl,rfl,FZ h y⟩
theorem lH{O:Nat->Prop}{o:Store}{n cap:Nat}(hn:n<=cap)(s:Bool){lo hi:Option V}{lo' hi':Option Value}
  (hlo:(lo=AB/\lo'=AB)\/∃v x,lo=AA v/\lo'=AA x/\VRel γ o w O v x)
  (hhi:(hi=AB/\hi'=AB)\/∃v x,hi=AA v/\hi'=AA x/\VRel γ o w O v x) {k:Nat->Nat->T} {r:V×List Upd}
  (h:(aJ n lo hi k).get=AA r):∃i j,i<=j/\j<=n/\(lo=AB->i=0)/\(k i j).get=AA r/\(va1 s n cap lo' hi' AB).run P w=.ok (i,j,cap) w:=by
 have hb:∀{kk:IntKind} {z:Int} {y:Nat} {code:BoundsCode},0<=z->z<=y->(Instr.sliceBound (.int kk z) y code).run P w=.ok z.toNat w:=λh1 h2=>by
  simp[Instr.sliceBound,asIntOf,h1,h2]
 unfold aJ at h;split at h
 .have h1:=hlo.resolve_right (by rintro⟨v,x,h,_⟩;cases h);have h2:=hhi.resolve_right (by rintro⟨v,x,h,_⟩;cases h);refine⟨0,n,CH _,A4 _,λ_=>rfl,h,?_⟩;simp[h1.2,h2.2,va1]
 .rename_i kk i;have h2:=hhi.resolve_right (by rintro⟨v,x,h,_⟩;cases h);obtain⟨v,x,h3,h4,h5⟩:=hlo.resolve_left (by rintro⟨h,_⟩;cases h);simp only[AK]at h3;subst h3;simp only[VRel]at h5;obtain⟨hc,h⟩:=T.get_when h;simp only[AQ,AZ]at hc;refine⟨i.toNat,n,by omega,A4 _,(by simp),h,?_⟩;simp[h4,h5.1,h2.2,va1,hb hc.1 hc.2]
 .rename_i kk j;have h2:=hlo.resolve_right (by rintro⟨v,x,h,_⟩;cases h);obtain⟨v,x,h3,h4,h5⟩:=hhi.resolve_left (by rintro⟨h,_⟩;cases h);simp only[AK]at h3;subst h3;simp only[VRel]at h5;obtain⟨hc,h⟩:=T.get_when h;simp only[AQ,AZ]at hc;refine⟨0,j.toNat,CH _,by omega,λ_=>rfl,h,?_⟩;have hle:j<=(cap:Int):=by omega
  simp[h4,h5.1,h2.2,va1,hb hc.1 hle]
 .rename_i kk i kk' j;obtain⟨v,x,h3,h4,h5⟩:=hhi.resolve_left (by rintro⟨h,_⟩;cases h);obtain⟨v',x',h3',h4',h5'⟩:=hlo.resolve_left (by rintro⟨h,_⟩;cases h);simp only[AK]at h3 h3';subst h3;subst h3';simp only[VRel]at h5 h5';obtain⟨hc,h⟩:=T.get_when h;simp only[AQ,AZ]at hc;refine⟨i.toNat,j.toNat,by omega,by omega,(by simp),h,?_⟩;have hle:j<=(cap:Int):=by omega
  have hle2:i<=((j.toNat:Nat):Int):=by omega
  have h0:0<=j:=by omega
  simp[h4,h5.1,h4',h5'.1,va1,hb h0 hle,hb hc.1 hle2]
 .simp[T.get]at h
theorem zbH(hT:TiOK P B E)(h:Rel B nt w0 X γ st a w)(o:Oper){t:Nat}{x:Operand}{lo hi mx:Option Operand}(ho:o.op=.slice t x lo hi mx){v:V}{us:List Upd}
  (he:(EJ E st.o (opd st) o.dst o.op).get=AA (v,us)):OpWp P B nt w0 X a w o st v us:=by
 have hx:=FZ h x;rw[ho]at he;simp only[EJ]at he;have hrun:∀y,(vbe t (a.eval x) (lo.map a.eval) (hi.map a.eval) (mx.map a.eval)).run P w=.ok y w->(execOp a.eval o).run P w=.ok (.value y) w:=λy hy=>by
  unfold execOp;simp only[ho,CL,hy,B9,CM]
 split at he
 .rename_i s hop;rw[hop]at hx;simp only[VRel]at hx;split at he
  .rename_i hd hks;obtain⟨i,j,hij,hj,_,he,hb⟩:=lH (P:=P) (w:=w) (A4 s.size) AD (Y1 h lo) (Y1 h hi) he;simp only[T.get,AK,A1]at he;obtain⟨rfl,rfl⟩:=he;obtain⟨d,hd1,_,hd2⟩:=(hT.kinds (t:=t) (by rw[hks];simp)).und;rw[hd]at hd2;obtain rfl:=hd2.2.1 hks;refine OpWp.pure h (hrun (.string (s.extract i j)) ?_) ?_
   .simp[vbe,BQ hd1,hx.1,Instr.slice,hb]
   .simp only[VRel];refine⟨trivial,?_⟩;rw[vay]
    have:=hx.2
    omega
  .simp[T.get]at he
 .rename_i ag ks l hop;rw[hop]at hx;split at he
  .rename_i e hd;obtain⟨hsz,he⟩:=T.get_when he;obtain⟨hks,hpos⟩:=RJ hsz;simp only[VRel,Kd.Rel,IV.toList]at hx;obtain⟨p,c,hv,hc,hm,hl,hr⟩:=hx;obtain⟨i,j,hij,hj,_,he,hb⟩:=lH (P:=P) (w:=w) hc AC (Y1 h lo) (Y1 h hi) he;simp only[T.get,AK,A1]at he;obtain⟨rfl,rfl⟩:=he;obtain⟨d,hd1,_,hd2⟩:=(hT.desc (t:=t) (by rw[hd];simp)).und;rw[hd]at hd2;subst hd2;have hz:=SP (hT.size hpos) w;have hlen:((l.take j).drop i).length=j-i:=by rw[DA,BL];omega
   refine OpWp.pure h (hrun (.slice (if c=i then p else p.map (·.add (i*(E.tyd e).size))) (j-i) (c-i)) ?_) ?_
   .simp[vbe,BQ hd1,hv,Instr.slice,hb,hz]
   .simp only[VRel,Kd.Rel,IV.toList];refine⟨_,c-i,by rw[hlen],by omega,by omega,by omega,λm y hy=>?_⟩;rw[vat,C3]at hy;split at hy
    .rename_i hlt;obtain⟨b,off,hp,hO,hs,hr'⟩:=hr (i+m) y hy;subst hp;rw[BO AG];refine⟨b,off+i*ks.length,by rw[hks];simp[va3],hO,hs,?_⟩;refine Kd.RelAll.mono (Keep.refl _ w) (λ_ _ h=>h) (λq u hu=>?_) hr';rw[<-hu];congr 2;rw[vao];omega
    .cases hy
  .simp[T.get]at he
 .rename_i n a1 b1 hop;rw[hop]at hx;split at he
  .rename_i e own e' ag ks l hd hob;obtain⟨hsz,he⟩:=T.get_when he;obtain⟨hks,hpos⟩:=RJ hsz;simp only[VRel,hob]at hx;obtain⟨hlen,p,len,cap,p',hg,hv,h1,h2,h3,hmx,h4,h5⟩:=hx;obtain⟨i,j,hij,hj,_,he,hb⟩:=lH (P:=P) (w:=w) (n:=b1-a1) (cap:=cap-a1) AG AC (Y1 h lo) (Y1 h hi) he;simp only[T.get,AK,A1]at he;obtain⟨rfl,rfl⟩:=he;obtain⟨d,hd1,_,hd2⟩:=(hT.desc (t:=t) (by rw[hd];simp)).und;rw[hd]at hd2;subst hd2;have hz:=SP (hT.size hpos) w;refine OpWp.pure h (hrun (.slice (if cap-a1=i then p' else p'.map (·.add (i*(E.tyd e).size))) (j-i) (cap-a1-i)) ?_) ?_
   .simp[vbe,BQ hd1,hv,Instr.slice,hb,hz]
   .simp only[VRel,hob];refine⟨by omega,p,len,cap,_,hg,by rw[show a1+j-(a1+i)=j-i by omega,show cap-(a1+i)=cap-a1-i by omega],by omega,by omega,h3,hmx,?_,?_⟩
    .by_cases hc:cap-a1=i
     .right;omega
     .left;rw[BO hc,h4.resolve_right AG,hks];by_cases hln:l=[]
      .subst hln;simp only[BN]at hlen;obtain rfl:a1=0:=by omega
       obtain rfl:i=0:=by omega
       cases p<;>simp[Addr.add]
      cases hp:p with
      |none=>rfl
      |some ad=>
       have hspot:ad.spot=AB:=by
        have hor:=h.ob n _ hob;cases own with
        |true=>
         simp only[ObRel]at hor;obtain⟨_,_,xs,hx,_⟩:=hor;rcases hx.2 with⟨h5,h6⟩|⟨g,cap',cur,T,fr,h5,_⟩
         .rw[hg,hp]at h5;simp at h5
         .rw[hg,hp]at h5;simp only[CW,AK]at h5;rw[h5.1]
        |false=>
         simp only[ObRel,Kd.Rel,IV.toList]at hor;obtain⟨_,p2,c2,h5,_,_,_,hr⟩:=hor;obtain⟨y,ys,rfl⟩:=List.exists_cons_of_ne_nil hln;obtain⟨b,off,hp2,_⟩:=hr 0 y rfl;rw[hg,hp,hp2]at h5;simp only[CW,AK]at h5;rw[h5.1]
       obtain⟨b,off,spot⟩:=ad;simp only at hspot;subst hspot;simp only[vaf,va3,vao,vaJ]
    .intro h0;have ha:a1=0:=by omega
     have hi0:i=0:=by omega
     subst ha;subst hi0;rw[h5 rfl];cases p<;>simp[Addr.add]
  .simp[T.get]at he
 .rename_i n i0 c hop;rw[hop]at hx;split at he
  .rename_i N e cs hd hob;obtain⟨hsz,he⟩:=T.get_when he;simp only[AQ]at hsz;obtain⟨_,hpos⟩:=RJ hsz.1;have hle:=AX hsz.2.1;have hN:=AX hsz.2.2;simp only[VRel,hob]at hx;obtain⟨hi0,b,hg,hv⟩:=hx;obtain⟨i,j,hij,hj,h0,he,hb⟩:=lH (P:=P) (w:=w) (A4 N) AD (lo:=AB) (lo':=AB) (.inl ⟨rfl,rfl⟩) (Y1 h hi) he;obtain rfl:=h0 rfl;simp only[T.get,AK,A1]at he;obtain⟨rfl,rfl⟩:=he;obtain⟨d,hd1,_,hd2⟩:=(hT.desc (t:=t) (by rw[hd];simp)).und;rw[hd]at hd2;subst hd2;have hz:=SP (hT.size hpos) w;refine OpWp.pure h (hrun (.slice (AA ⟨b,c,AB⟩) j N) ?_) ?_
   .simp[vbe,BQ hd1,hv,Instr.sureAddr,hb,hz,Addr.add]
   .simp only[VRel,hob];exact⟨hj,by unfold maxLen;omega,hle,b,hg,rfl⟩
  .simp[T.get]at he
 .simp[T.get]at he
end
open Go Go.RowKit
section
variable {B:BT} {nt:Nat} {w0:World} {X:Zone} {γ:Nat→Value} {st:St} {a:Act} {w:World} {P:Program} {E:Env}
theorem zbv(hT:TiOK P B E)(h:Rel B nt w0 X γ st a w)(o:Oper){t:Nat}{x ix:Operand}(ho:o.op=.index t x ix){v:V}{us:List Upd}
  (he:(EJ E st.o (opd st) o.dst o.op).get=AA (v,us)):OpWp P B nt w0 X a w o st v us:=by
 have hx:=FZ h x;have hix:=FZ h ix;rw[ho]at he;simp only[EJ]at he;have hrun:∀y,(Instr.index t (a.eval x) (a.eval ix)).run P w=.ok y w->(execOp a.eval o).run P w=.ok (.value y) w:=λy hy=>by
  unfold execOp;simp only[ho,CL,hy,B9,CM]
 split at he
 .rename_i s k i hop hi;rw[hop]at hx;rw[hi]at hix;simp only[VRel]at hx hix;rw[hx.1,hix.1]at hrun;split at he
  .rename_i hd hks;obtain⟨hc,he⟩:=T.get_when he;simp only[T.get,AK,A1]at he;obtain⟨rfl,rfl⟩:=he;simp only[AQ,AZ]at hc;obtain⟨d,hd1,_,hd2⟩:=(hT.kinds (t:=t) (by rw[hks];simp)).und;rw[hd]at hd2;obtain rfl:=hd2.2.1 hks;have hlt:i.toNat<s.size:=by omega
   have h1:s[i.toNat]?=AA s[i.toNat]:=getElem?_pos s i.toNat hlt;have h2:s.data.toList.getD i.toNat 0=s[i.toNat]:=by
    have hlt':i.toNat<s.data.size:=hlt
    have:s[i.toNat]=s.data[i.toNat]:=rfl
    simp[AR,this,getElem?_pos s.data i.toNat hlt']
   refine OpWp.pure h (hrun (.int .u8 (s[i.toNat].toNat:Int)) ?_) ?_
   .simp[Instr.index,asIntOf,BQ hd1,hc.1,h1]
   .simp only[VRel,h2];refine⟨trivial,?_⟩
    have:=s[i.toNat].toNat_lt
    simp[IntKind.min,IntKind.max,vak,AT];omega
  .simp[T.get]at he
 .rename_i cs k i hop hi;rw[hop]at hx;rw[hi]at hix;simp only[VRel]at hx hix;obtain⟨xs,hx,hr⟩:=hx;rw[hx,hix.1]at hrun;split at he
  .rename_i N e hd;obtain⟨hsz,he⟩:=T.get_when he;obtain⟨_,hpos⟩:=RJ hsz;obtain⟨m,_,hm,hi2,he2⟩:=VO he;subst hi2;obtain⟨rfl,hv⟩:=T.get_of he2;obtain⟨y,hy,hr'⟩:=Lj (hT.size hpos) hv hr;obtain⟨d,hd1,_,hd2⟩:=(hT.desc (t:=t) (by rw[hd];simp)).und;rw[hd]at hd2;subst hd2;have hz:=SP (hT.size hpos) w;have hm':m<N:=by omega
   exact OpWp.pure h (hrun y (by simp[Instr.index,asIntOf,BQ hd1,hm',hz,hy])) hr'
  .simp[T.get]at he
 .simp[T.get]at he
theorem zbz(h:Rel B nt w0 X γ st a w)(o:Oper){f:Fn}{first captured:Array Operand}(ho:o.op=.makeFunc f first captured){v:V}{us:List Upd}
  (he:(EJ E st.o (opd st) o.dst o.op).get=AA (v,us)):OpWp P B nt w0 X a w o st v us:=by
 rw[ho]at he;cases f with
 |func f=>
  simp only[EJ]at he;split at he
  .rename_i hf;simp only[T.get,AK,A1]at he;obtain⟨rfl,rfl⟩:=he;have hf':first= #[]:=by simpa using hf
   subst hf';refine OpWp.pure h (x:=.func (.func f) #[] (captured.map a.eval)) (by unfold execOp;simp[ho,Instr.makeFunc]) ?_;simp only[VRel];refine⟨_,rfl,?_⟩;rw[Array.toList_map];have key:∀l:List Operand,VRels γ st.o w (DY X γ st.o) (KN (opd st) l) (l.map a.eval):=by
    intro l
    induction l with
    |nil=>simp only[KN,CN,VRels]
    |cons y r ih=>simp only[KN,A8,VRels];exact⟨FZ h y,ih⟩
   exact key _
  .simp[T.get]at he
 |method _=>simp[EJ,T.get]at he
 |methodOf _ _=>simp[EJ,T.get]at he
 |via _ _ _ _=>simp[EJ,T.get]at he
 |yield _=>simp[EJ,T.get]at he
theorem Fc(h:Rel B nt w0 X γ st a w){v:V}{x:Value}(hx:VRel γ st.o w (DY X γ st.o) v x){l:LI}(hl:TT st.o v=AA l){ag:Bool}{ks:List Kd}(hs:RE st.o v=AA (ag,ks)):
  ∃p c,x=.slice p l.length c/\l.length<=c/\l.length<=strMax/\(0<l.length->∃b o,p=AA ⟨b,o,AB⟩)/\
   ∀i y,l[i]?=AA y->∃b o,p=AA ⟨b,o,AB⟩/\b<w.heap.size/\Kd.RelAll w (DY X γ st.o) ks (GK ag y) 0 (λj u=>w.cell? ⟨b,o+i*ks.length+j,AB⟩=AA u):=by
 unfold TT at hl;split at hl
 .rename_i ag' ks' l';simp only[RE,AK,A1]at hs hl;obtain⟨rfl,rfl⟩:=hs;subst hl;simp only[VRel,Kd.Rel,IV.toList]at hx;obtain⟨p,c,hv,hc,hm,hl,hr⟩:=hx;refine⟨p,c,hv,hc,hl,λhpos=>?_,λi y hy=>?_⟩
  .obtain⟨b,o,hp,_⟩:=hr 0 _ (BD hpos);exact⟨b,o,hp⟩
  .obtain⟨b,o,hp,_,hs,hr'⟩:=hr i y hy;exact⟨b,o,hp,hs,hr'⟩
 .rename_i n lo hi;split at hl
  .rename_i own e ag' ks' l' hob;simp only[RE,hob,AK,A1]at hs hl;obtain⟨rfl,rfl⟩:=hs;subst hl;simp only[VRel,hob]at hx;obtain⟨hlen,p,len,cap,p',hg,hv,h1,h2,h3,hmx,h4,h5⟩:=hx;have hll:((l'.take hi).drop lo).length=hi-lo:=by rw[DA,BL];omega
   have hor:=h.ob n _ hob;have hstr:l'.length<=strMax:=by
    cases own with
    |true=>simp only[ObRel]at hor;exact hor.2.1
    |false=>simp only[ObRel,Kd.Rel,IV.toList]at hor;obtain⟨_,_,_,_,_,_,hl,_⟩:=hor;exact hl
   have hp0:hi-lo>0->∃b off,p=AA ⟨b,off,AB⟩:=by
    intro hpos;cases own with
    |true=>
     simp only[ObRel]at hor;obtain⟨_,_,xs,hx,_⟩:=hor;rcases hx.2 with⟨h6,h7⟩|⟨g,cap',cur,T,fr,h6,_⟩
     .rw[hg]at h6;simp only[CW]at h6;omega
     .rw[hg]at h6;simp only[CW]at h6;exact⟨_,_,h6.1⟩
    |false=>
     simp only[ObRel,Kd.Rel,IV.toList]at hor;obtain⟨_,p2,c2,h6,_,_,_,hr⟩:=hor;have hlt:0<l'.length:=by omega
     obtain⟨b,off,hp2,_⟩:=hr 0 _ (BD hlt);rw[hg]at h6;simp only[CW]at h6;exact⟨b,off,by rw[h6.1,hp2]⟩
   refine⟨p',cap-lo,by rw[hll];exact hv,by omega,by omega,λhpos=>?_,λi y hy=>?_⟩
   .rw[hll]at hpos;obtain⟨b,off,rfl⟩:=hp0 hpos;rw[h4.resolve_right AG];exact⟨b,off+lo*ks'.length,by simp[va3]⟩
   .rw[vat,C3]at hy;split at hy
    .rename_i hlt;obtain⟨b,off,rfl⟩:=hp0 AG;obtain⟨hb,hr⟩:=h.elem hob (i:=lo+i) AG hg;have hgd:l'.getD (lo+i) default=y:=by simp[AR,hy]
     rw[hgd]at hr;refine⟨b,off+lo*ks'.length,by rw[h4.resolve_right AG];simp[va3],hb,?_⟩;refine Kd.RelAll.mono (Keep.refl _ w) (λ_ _ h=>h) (λq u hu=>?_) hr;rw[<-hu];congr 2;rw[vao];omega
    .cases hy
  .cases hl
 .simp only[RE]at hs;cases hs
 .cases hl
theorem zbo(hT:TiOK P B E)(h:Rel B nt w0 X γ st a w)(o:Oper){s t:Nat}{x:Operand}(ho:o.op=.convert s t x){v:V}
  (he:(EJ E st.o (opd st) o.dst o.op).get=AA (v,[])):OpWp P B nt w0 X a w o st v []:=by
 have hx:=FZ h x;rw[ho]at he;simp only[EJ]at he;have hrun:∀y,(convert s t (a.eval x)).run P w=.ok y w->(execOp a.eval o).run P w=.ok (.value y) w:=λy hy=>by
  unfold execOp;simp only[ho,CL,hy,B9,CM]
 split at he
 .rename_i k0 n hop;rw[hop]at hx;simp only[VRel]at hx;rw[hx.1]at hrun;split at he
  .rename_i k ks1 kss hd hks hkss;simp only[T.get,AK,A1,CI]at he;subst he;obtain⟨d,hd1,_,hd2⟩:=(hT.kinds (t:=t) (by rw[hks];simp)).und;rw[hd]at hd2;obtain rfl:=hd2.1 k hks;obtain⟨d',hd1',_,_⟩:=(hT.kinds (t:=s) (by rw[hkss];simp)).und;refine OpWp.pure h (hrun (.int k (k.wrap n)) ?_) ?_
   .simp[convert,BQ hd1,BQ hd1',Conv.intToInt]
   .simp only[VRel];exact⟨trivial,kD _ _⟩
  .simp[T.get]at he
 .rename_i b hop;rw[hop]at hx;simp only[VRel]at hx;rw[hx.1]at hrun;split at he
  .rename_i k1 kss hd hks hkss;simp only[T.get,AK,A1,CI]at he;subst he;obtain⟨d,hd1,_,hd2⟩:=(hT.kinds (t:=t) (by rw[hks];simp)).und;rw[hd]at hd2;obtain rfl:=hd2.2.1 hks;obtain⟨d',hd1',_,_⟩:=(hT.kinds (t:=s) (by rw[hkss];simp)).und;refine OpWp.pure h (hrun (.string b) ?_) ?_
   .simp[convert,BQ hd1,BQ hd1']
   .simp only[VRel];exact⟨trivial,hx.2⟩
  .split at he
   .simp[T.get]at he
   .simp[T.get]at he
  .simp[T.get]at he
 .split at he
  .rename_i e hd hks hds;split at he
   .rename_i l hde hkse hl hsh;simp only[T.get,AK,A1,CI]at he;subst he;obtain⟨d,hd1,_,hd2⟩:=(hT.kinds (t:=t) (by rw[hks];simp)).und;rw[hd]at hd2;obtain rfl:=hd2.2.1 hks;obtain⟨d',hd1',_,hd2'⟩:=(hT.desc (t:=s) (by rw[hds];simp)).und;rw[hds]at hd2';subst hd2';obtain⟨d'',hd1'',_,hd2''⟩:=(hT.kinds (t:=e) (by rw[hkse];simp)).und;rw[hde]at hd2'';obtain rfl:=hd2''.1 _ hkse;obtain⟨p,c,hv,hc,hlm,hp0,hr⟩:=Fc h hx hl hsh;rw[hv]at hrun;refine OpWp.pure h (hrun (.string (strOfNums (l.map IV.toInt))) ?_) ?_
    .cases hp:p with
     |none=>
      have hl0:l=[]:=by
       rcases Nat.eq_zero_or_pos l.length with h0|h0
       .exact vav h0
       .obtain⟨b,off,h1⟩:=hp0 h0;rw[hp]at h1;cases h1
      subst hl0;simp[convert,BQ hd1,BQ hd1',BQ hd1'',Conv.bytesToString,strOfNums];rfl
     |some ad=>
      have hload:(loadCells ad l.length).run P w=.ok ((l.map IV.toInt).map (Value.int .u8)).toArray w:=by
       have hll:((l.map IV.toInt).map (Value.int .u8)).length=l.length:=by simp
       rw[<-hll];refine run_loadCells_list (P:=P) w ad _ (λj u hu=>?_);simp only[CJ,DP]at hu;obtain⟨n,⟨y,hy,rfl⟩,rfl⟩:=hu;obtain⟨b,off,h1,_,hr'⟩:=hr j y hy;rw[hp]at h1;simp only[AK]at h1;subst h1;simp only[Kd.RelAll,GK,AV,BN]at hr';obtain⟨⟨u,hu,hk⟩,_⟩:=hr';simp only[Kd.Rel]at hk;rw[va3,<-hk.1,<-hu];congr 2;omega
      have:=run_bytesToString w ad l.length c (l.map IV.toInt) hload
      have he:(l.map IV.toInt).foldl (λr n=>r.push (UInt8.ofNat n.toNat)) CQ=strOfNums (l.map IV.toInt):=by
       rw[foldl_push_bytes];simp[strOfNums]
      rw[he]at this;simp[convert,BQ hd1,BQ hd1',BQ hd1'',this]
    .simp only[VRel];exact⟨trivial,by rw[strOfNums_size];simpa using hlm⟩
   .simp[T.get]at he
  .simp[T.get]at he
end
open Go Go.RowKit
section
variable {B:BT} {nt:Nat} {w0:World} {X:Zone} {γ:Nat→Value} {st:St} {a:Act} {w:World} {P:Program} {E:Env}
theorem Km(h:Rel B nt w0 X γ st a w){v:V}{x:Value}(hv:VRel γ st.o w (DY X γ st.o) v x)(hk:L5 st.o v=AC):x.oneCell'=AC/\x.cells= #[x]:=by
 have key:(x.oneCell'=AC)->x.oneCell'=AC/\x.cells= #[x]:=λh1=>⟨h1,by cases x<;>first|rfl|(simp[Value.oneCell']at h1)⟩
 cases v with
 |any=>simp[L5]at hk
 |int k n=>simp only[VRel]at hv;exact key (by rw[hv.1];rfl)
 |bool b=>simp only[VRel]at hv;exact key (by rw[hv];rfl)
 |str s=>simp only[VRel]at hv;exact key (by rw[hv.1];rfl)
 |list ag ks l=>simp only[VRel,Kd.Rel]at hv;obtain⟨p,c,hv,_⟩:=hv;exact key (by rw[hv];rfl)
 |zs=>simp only[VRel]at hv;exact key (by rw[hv];rfl)
 |row n lo hi=>
  simp only[L5]at hk;split at hk
  .rename_i ob;simp only[VRel,ob]at hv;obtain⟨_,p,len,cap,p',_,hv,_⟩:=hv;exact key (by rw[hv];rfl)
  .cases hk
 |ptr n i c=>
  simp only[L5]at hk;split at hk
  .rename_i ob' ob;by_cases hm:∃k es,ob'=.map k es
   .obtain⟨k,es,rfl⟩:=hm;obtain⟨_,b,ents,hg,_⟩:=h.ob _ _ ob;simp only[VRel,ob]at hv;exact key (by rw[hv,hg];rfl)
   .obtain⟨ad,hp⟩:=Mi h hv ob (λk es e=>hm ⟨k,es,e⟩);exact key (by rw[hp];rfl)
  .cases hk
 |iptr ks f c=>simp only[VRel]at hv;obtain⟨b,off,hv,_⟩:=hv;exact key (by rw[hv];rfl)
 |bview n c cap sz len=>
  simp only[L5]at hk;split at hk
  .rename_i ob;simp only[VRel,ob]at hv;obtain⟨_,_,_,b,_,hv⟩:=hv;exact key (by rw[hv];rfl)
  .cases hk
 |agg l=>simp[L5]at hk
 |tup l=>simp[L5]at hk
 |err b=>
  simp only[VRel]at hv;cases b with
  |true=>exact key (by rw[hv];rfl)
  |false=>obtain⟨t,u,hv⟩:=hv;exact key (by rw[hv];rfl)
 |nilp=>simp only[VRel]at hv;exact key (by rw[hv];rfl)
 |clo f l=>simp only[VRel]at hv;obtain⟨cs,hv,_⟩:=hv;exact key (by rw[hv];rfl)
 |bor l=>simp[L5]at hk
 |vec e ag ks l=>simp[L5]at hk
 |bld s=>simp[L5]at hk
theorem nL(h:Rel B nt w0 X γ st a w){v:V}{x:Value}(hv:VRel γ st.o w (DY X γ st.o) v x)(hk:SJ st.o v=AC):VRels γ st.o w (DY X γ st.o) (cells v) x.cells.toList:=by
 by_cases hg:∃l,v=.agg l
 .obtain⟨l,rfl⟩:=hg;simp only[VRel]at hv;obtain⟨cs,rfl,hr⟩:=hv;exact hr
 .have h1:cells v=[v]:=by cases v<;>first|rfl|(exact absurd ⟨_,rfl⟩ hg)
  have h2:L5 st.o v=AC:=by cases v<;>first|exact hk|(exact absurd ⟨_,rfl⟩ hg)
  rw[h1,(Km h hv h2).2];simp only[VRels,CI];exact hv
theorem nK(h:Rel B nt w0 X γ st a w):∀{l:List V} {xs:List Value},VRels γ st.o w (DY X γ st.o) l xs->T7 st.o l=AC->∀x∈xs,x.oneCell'=AC
 |[],[],_,_,_,hx=>by cases hx
 |[],_::_,hr,_,_,_=>by simp only[VRels]at hr
 |_::_,[],hr,_,_,_=>by simp only[VRels]at hr
 |v::vs,x::xs,hr,hk,y,hy=>by
  simp only[VRels]at hr;simp only[T7]at hk;cases h1:L5 st.o v<;>simp only[h1]at hk
  .cases hk
  .rcases AW.1 hy with rfl|hy
   .exact(Km h hr.1 h1).1
   .exact nK h hr.2 hk y hy
theorem jH:∀(cs:List V) (n:Nat) (vs:List V),n+vs.length<=cs.length->HE cs n vs=cs.take n++vs++cs.drop (n+vs.length)
 |cs,n,[],_=>by
  cases cs with
  |nil=>simp[HE]
  |cons x r=>simp[HE]
 |[],n,v::vs,h=>by simp at h
 |x::r,0,v::vs,h=>by
  simp only[HE,List.take_zero,vac,AV,BU,List.drop_succ_cons,C9];rw[jH r 0 vs (by simp at h ⊢;omega)];simp
 |x::r,n+1,v::vs,h=>by
  simp only[HE,List.take_succ_cons,C9];rw[jH r n (v::vs) (by simp at h ⊢;omega)];congr 2;simp only[AV];rw[show n+1+(vs.length+1)=(n+(vs.length+1))+1 by omega,List.drop_succ_cons]
theorem VRels.put{γ:Nat->Value}{o:Store}{w:World}{O:Nat->Prop}{cs vs:List V}{xs ys:List Value}{n:Nat}(h:VRels γ o w O cs xs)(h':VRels γ o w O vs ys)(hl:n+vs.length<=cs.length):
  VRels γ o w O (HE cs n vs) (xs.take n++ys++xs.drop (n+ys.length)):=by
 rw[jH cs n vs hl,<-h'.length];exact((h.take n).append h').append (h.drop _)
theorem Gf(off:Nat):∀(vs:List Value) (j:Nat) (cs:Array Value),off+j+vs.length<=cs.size->
  ((vs.zipIdx j).foldl (λcs (c,j)=>cs.setIfInBounds (off+j) c) cs).toList=cs.toList.take (off+j)++vs++cs.toList.drop (off+j+vs.length)
 |[],j,cs,_=>by simp
 |v::vs,j,cs,h=>by
  simp only[List.zipIdx_cons,vax];rw[Gf off vs (j+1) _ (by simp at h ⊢;omega)];have e:=list_seg_step cs.toList (off+j) v vs (by simp at h ⊢;omega);simpa[Array.toList_setIfInBounds,vaJ]using e
theorem lV(h:Rel B nt w0 X γ st a w){pv pm:Nat->Option (Nat×Nat)}(hp:∀i q,pv i=AA q->pm i=AA q):∀{parts:List (Nat×V)} {parts':List (Nat×Value)} {cs cs':List V} {xs:Array Value},
  VRels γ st.o w (DY X γ st.o) cs xs.toList->parts.length=parts'.length->(∀(j i:Nat) (v:V),parts[j]?=AA (i,v)->∃x,parts'[j]?=AA (i,x)/\VRel γ st.o w (DY X γ st.o) v x)->
  MQ st.o pv cs parts=AA cs'->∃xs',Instr.fill pm xs parts'=AA xs'/\VRels γ st.o w (DY X γ st.o) cs' xs'.toList
 |[],[],cs,cs',xs,hr,_,_,hf=>by
  simp only[MQ,AK]at hf;subst hf;exact⟨xs,rfl,hr⟩
 |[],_::_,_,_,_,_,hl,_,_=>by simp at hl
 |_::_,[],_,_,_,_,hl,_,_=>by simp at hl
 |(i,v)::r,(i',x)::r',cs,cs',xs,hr,hl,hpt,hf=>by
  obtain⟨x',hx',hv⟩:=hpt 0 i v rfl;simp only[CA,AK,A1]at hx';obtain⟨rfl,rfl⟩:=hx';simp only[MQ]at hf;split at hf
  .rename_i off size hq;split at hf
   .rename_i hc;simp only[AQ]at hc;have h1:=F1.1 hc.2.1;have h2:=AX hc.2.2;have hcr:=nL h hv hc.1;have hlen:=hcr.length;have hlen2:=hr.length;have hsz:x.cells.size=size:=by rw[<-h1,hlen];simp
    have hxs:xs.size=cs.length:=by rw[hlen2];simp
    have hfold:=Gf off x.cells.toList 0 xs (by rw[DJ,<-hlen,h1,hxs];exact h2);obtain⟨xs',hx1,hx2⟩:=lV h hp (parts:=r) (parts':=r') (cs:=HE cs off (cells v)) (cs':=cs') (xs:=x.cells.zipIdx.foldl (λcs (c,j)=>cs.setIfInBounds (off+j) c) xs)
     (by
      have:(x.cells.zipIdx.foldl (λcs (c,j)=>cs.setIfInBounds (off+j) c) xs)=(x.cells.toList.zipIdx 0).foldl (λcs (c,j)=>cs.setIfInBounds (off+j) c) xs:=by
       rw[<-Array.foldl_toList,Array.toList_zipIdx]
      rw[this,hfold];simp only[DJ];exact hr.put hcr (by rw[h1];exact h2))
     (by simpa using hl) (λj i v hj=>by
      have:=hpt (j+1) i v (by simpa using hj)
      simpa using this) hf
    refine⟨xs',?_,hx2⟩;simp only[Instr.fill,hp _ _ hq];rw[BO]
    .exact hx1
    .simp only[hsz,ne_eq,vbw,decide_false,vaF,AZ,hxs];omega
   .cases hf
  .cases hf
theorem uG(h:Rel B nt w0 X γ st a w):∀(l:List (Nat×Operand)),(L6 (opd st) l).length=(l.map λ(i,x)=>(i,a.eval x)).length/\
  ∀(j i:Nat) (v:V),(L6 (opd st) l)[j]?=AA (i,v)->∃x,(l.map λ(i,x)=>(i,a.eval x))[j]?=AA (i,x)/\VRel γ st.o w (DY X γ st.o) v x
 |[]=>by simp[L6]
 |(i,x)::r=>by
  obtain⟨h1,h2⟩:=uG h r;refine⟨by simpa[L6]using h1,λj i' v hj=>?_⟩;cases j with
  |zero=>
   simp only[L6,CA,AK,A1]at hj;obtain⟨rfl,rfl⟩:=hj;exact⟨a.eval x,by simp,FZ h x⟩
  |succ j=>
   simp only[L6,C5]at hj;obtain⟨y,hy,hr⟩:=h2 j i' v hj;exact⟨y,by simpa using hy,hr⟩
theorem zbj(h:Rel B nt w0 X γ st a w)(o:Oper)(hd9:∀d,o.dst=AA d->d≠900000){t:Nat}{x:Operand}(ho:o.op=.box t x){v:V}{us:List Upd}
  (he:(EJ E st.o (opd st) o.dst o.op).get=AA (v,us)):OpWp P B nt w0 X a w o st v us:=by
 have hx:=FZ h x;rw[ho]at he;simp only[EJ]at he;split at he
 .rename_i d hd;obtain⟨hk,he⟩:=T.get_when he;simp only[T.get,AK,A1]at he;obtain⟨rfl,rfl⟩:=he;have hc:=nL h hx hk;have hn:=Rel.new h [] d (hd9 d hd) (.box ((cells (opd st x)).map (F9 d))) (.pointer (AA ⟨w.heap.size,0,AB⟩)) (w':=w.alloc (.cells (a.eval x).cells t)) (Keep.alloc _ w _)
   (by
    rintro b ⟨ad,hb,rfl⟩;simp only[C6,AK]at hb;subst hb;exact⟨by simp,.inl (A4 _)⟩)
   (by
    intro O' hO hcmp;simp only[ObRel];exact⟨w.heap.size,(a.eval x).cells,t,rfl,vaq w _,VRels.mono (Keep.alloc _ w _) hO (oC hcmp hc)⟩)
  refine OpWp.value (x:=.pointer (AA ⟨w.heap.size,0,AB⟩)) (w':=w.alloc (.cells (a.eval x).cells t)) (by unfold execOp;simp[ho,Instr.box,newVar,newRow]) hn ?_;simp only[St.ups,VRel,GS,CX];exact⟨trivial,w.heap.size,rfl,rfl⟩
 .simp[T.get]at he
theorem UM{t:Nat}(hs:TISnd P B t (E.tyd t)):∃i z,P.info? t=AA i/\i.zero=AA z/\z.cells.size=(E.tyd t).size/\i.size=(E.tyd t).size/\i.bytes=(E.tyd t).bytes/\
  ∀γ o w O,VRels γ o w O (E.tyd t).zero z.cells.toList:=by
 obtain⟨i,z,hi,hsz,hby,hz,hzs,hzr⟩:=hs.info;exact⟨i,z,hi,hz,hzs,hsz,hby,hzr⟩
theorem zbh(hT:TiOK P B E)(h:Rel B nt w0 X γ st a w)(o:Oper)(hd9:∀d,o.dst=AA d->d≠900000){t:Nat}(ho:o.op=.alloc t){v:V}{us:List Upd}(hB:(E.tyd B.T).d=.bld->∃i,P.info? B.T=AA i/\i.zero=AA (.agg #[.pointer AB,.slice AB 0 0]))
  (he:(EJ E st.o (opd st) o.dst o.op).get=AA (v,us)):OpWp P B nt w0 X a w o st v us:=by
 rw[ho]at he;simp only[EJ]at he;split at he
 .rename_i d hd;split at he
  .rename_i hdb;simp only[T.get,AK,A1]at he;obtain⟨rfl,rfl⟩:=he;have hs:=hT.desc (t:=t) (by rw[hdb];simp);obtain⟨_,_,_,hd2⟩:=hs.und;rw[hdb]at hd2;subst hd2;obtain⟨i,hi,hz⟩:=hB hdb;have hn:=Rel.new h [] d (hd9 d hd) (.bld CQ) (.tuple #[.pointer (AA ⟨w.heap.size,0,AB⟩),.slice AB 0 0]) (w':=w.alloc (.cells #[.pointer AB,.slice AB 0 0] B.T)) (Keep.alloc _ w _)
    (by
     rintro b ⟨ad,u,hb,hb2⟩;simp only[Value.tuple.injEq,Array.mk.injEq,vaD,C6,AK,CI]at hb;obtain⟨rfl,rfl⟩:=hb;rcases hb2 with rfl|hb2
     .exact⟨by simp,.inl (A4 _)⟩
     .simp[CO]at hb2)
    (by
     intro O' hO hcmp;simp only[ObRel];refine⟨w.heap.size,.slice AB 0 0,.pointer AB,rfl,.inl rfl,vaq w _,?_,by simp[CO],by simp[strMax]⟩;exact⟨by simp[DO],.inl ⟨rfl,rfl⟩⟩)
   refine OpWp.value (x:=.pointer (AA ⟨w.heap.size,0,AB⟩)) (w':=w.alloc (.cells #[.pointer AB,.slice AB 0 0] B.T)) ?_ hn ?_
   .unfold execOp;simp[ho,Instr.alloc,zeroValue,typeInfo,hi,hz,newVar,newRow,Value.cells]
   .simp only[St.ups,VRel,GS,CX];exact⟨trivial,w.heap.size,_,rfl,rfl⟩
  .split at he
   .rename_i hb;simp only[T.get,AK,A1]at he;obtain⟨rfl,rfl⟩:=he;have hs:=hT.size (AX hb);obtain⟨i,z,hi,hz,_,_,_,hzr⟩:=UM hs;have hn:=Rel.new h [] d (hd9 d hd) (.box (E.tyd t).zero) (.pointer (AA ⟨w.heap.size,0,AB⟩)) (w':=w.alloc (.cells z.cells t)) (Keep.alloc _ w _)
     (by
      rintro b ⟨ad,hb,rfl⟩;simp only[C6,AK]at hb;subst hb;exact⟨by simp,.inl (A4 _)⟩)
     (by
      intro O' hO hcmp;simp only[ObRel];exact⟨w.heap.size,z.cells,t,rfl,vaq w _,hzr _ _ _ _⟩)
    refine OpWp.value (x:=.pointer (AA ⟨w.heap.size,0,AB⟩)) (w':=w.alloc (.cells z.cells t)) ?_ hn ?_
    .unfold execOp;cases z<;>simp[ho,Instr.alloc,zeroValue,typeInfo,hi,hz,newVar,newRow]
    .simp only[St.ups,VRel,GS,CX];exact⟨trivial,w.heap.size,rfl,rfl⟩
   .simp[T.get]at he
 .simp[T.get]at he
end
open Go Go.RowKit
section
variable {B:BT} {nt:Nat} {w0:World} {X:Zone} {γ:Nat→Value} {st:St} {a:Act} {w:World} {P:Program} {E:Env}
theorem zbk(hT:TiOK P B E)(h:Rel B nt w0 X γ st a w)(o:Oper){t:Nat}{parts:Array (Nat×Operand)}(ho:o.op=.build t parts){v:V}{us:List Upd}
  (he:(EJ E st.o (opd st) o.dst o.op).get=AA (v,us)):OpWp P B nt w0 X a w o st v us:=by
 rw[ho]at he;simp only[EJ]at he;have hrun:∀y,(Instr.build t (parts.map λ(i,x)=>(i,a.eval x))).run P w=.ok y w->(execOp a.eval o).run P w=.ok (.value y) w:=λy hy=>by
  unfold execOp;simp only[ho,CL,hy,B9,CM]
 obtain⟨hp1,hp2⟩:=uG h parts.toList;split at he
 .rename_i fs hd;split at he
  .rename_i cs hf;simp only[T.get,AK,A1]at he;obtain⟨rfl,rfl⟩:=he;have hs:=hT.desc (t:=t) (by rw[hd];simp);obtain⟨d,hd1,_,hd2⟩:=hs.und;rw[hd]at hd2;obtain⟨fields,rfl,rfl,hsome⟩:=hd2;obtain⟨i,z,hi,hz,hzs,_,_,hzr⟩:=UM hs;have hpl:∀l:List Field,(∀f∈l,(P.info? f.type).isSome=AC)->l.mapM (λf=>(P.info? f.type).map λi=>(f.offset,i.size))=AA (l.map λf=>(f.offset,P.cellsOf f.type)):=by
    intro l
    induction l with
    |nil=>intro _;rfl
    |cons f r ih=>
     intro hl;obtain⟨j,hj⟩:=Option.isSome_iff_exists.1 (hl f (by simp));rw[List.mapM_cons,ih (λg hg=>hl g (by simp[hg])),hj];simp[Program.cellsOf,hj]
   have hpv:∀j q,UF E (fields.toList.map (λf=>(f.offset,f.type))) j=AA q->(fields.toList.map λf=>(f.offset,P.cellsOf f.type)).toArray[j]?=AA q:=by
    rintro j ⟨off,sz⟩ hq;obtain⟨ft,h1,h2,h3⟩:=Tv hq;rw[CJ,DP]at h1;obtain⟨fd,hfd,h4⟩:=h1;simp only[A1]at h4;obtain⟨rfl,rfl⟩:=h4;obtain⟨i',z',hi',hs',_⟩:=(hT.size h3).info;simp only[List.getElem?_toArray,CJ,hfd,vaf,AK,A1,vaS];rw[h2];simp[Program.cellsOf,hi',hs']
   obtain⟨xs,hx1,hx2⟩:=lV h (pm:=λj=>(fields.toList.map λf=>(f.offset,P.cellsOf f.type)).toArray[j]?) hpv (hzr γ st.o w (DY X γ st.o)) hp1 hp2 hf;refine OpWp.pure h (hrun (.agg xs) (run_build w t _ xs ?_)) (by simp only[VRel];exact⟨xs,rfl,hx2⟩);simp only[Program.built,hi,hd1,hz,hpl _ hsome,Array.toList_map];exact hx1
  .simp[T.get]at he
 .rename_i N e hd;split at he
  .rename_i cs hf;obtain⟨hpos,he⟩:=T.get_when he;simp only[T.get,AK,A1]at he;obtain⟨rfl,rfl⟩:=he;have hs:=hT.desc (t:=t) (by rw[hd];simp);obtain⟨d,hd1,_,hd2⟩:=hs.und;rw[hd]at hd2;subst hd2;obtain⟨i,z,hi,hz,hzs,_,_,hzr⟩:=UM hs;obtain⟨ie,ze,hie,_,_,hse,_⟩:=UM (hT.size (AX hpos));obtain⟨xs,hx1,hx2⟩:=lV h (pm:=λj=>AA (j*(E.tyd e).size,(E.tyd e).size)) (λ_ _ h=>h) (hzr γ st.o w (DY X γ st.o)) hp1 hp2 hf;refine OpWp.pure h (hrun (.agg xs) (run_build w t _ xs ?_)) (by simp only[VRel];exact⟨xs,rfl,hx2⟩);simp only[Program.built,hi,hd1,hz,hie,hse,Array.toList_map];exact hx1
  .simp[T.get]at he
 .simp[T.get]at he
def FrzLe(o o':Store):Prop:=∀m,DV o' m=DV o m\/∃e ag ks l,DV o m=AA (.row AC e ag ks l)/\DV o' m=AA (.row AD e ag ks l)
theorem FrzLe.refl(o:Store):FrzLe o o:=λ_=>.inl rfl
theorem FrzLe.trans{o1 o2 o3:Store}(h:FrzLe o1 o2)(k:FrzLe o2 o3):FrzLe o1 o3:=by
 intro m;rcases h m with h1|⟨e,ag,ks,l,h1,h2⟩
 .rcases k m with k1|⟨e,ag,ks,l,k1,k2⟩
  .exact .inl (k1.trans h1)
  .exact .inr ⟨e,ag,ks,l,by rw[<-h1];exact k1,k2⟩
 .rcases k m with k1|⟨e',ag',ks',l',k1,k2⟩
  .exact .inr ⟨e,ag,ks,l,h1,k1.trans h2⟩
  .rw[h2]at k1;cases k1
theorem FrzLe.cmp{o o':Store}(h:FrzLe o o')(γ:Nat->Value):Cmp γ o γ o':=by
 intro m ob' hm;rcases h m with h1|⟨e,ag,ks,l,h1,h2⟩
 .exact⟨rfl,ob',by rw[<-h1];exact hm,ob'.fits_refl⟩
 .rw[h2,AK]at hm;subst hm;exact⟨rfl,_,h1,⟨rfl,rfl⟩⟩
theorem FrzLe.ownedP{o o':Store}(h:FrzLe o o'){γ:Nat->Value}{b:Nat}(hb:FN γ o' b):FN γ o b:=by
 obtain⟨m,ob',hm,hb'⟩:=hb;rcases h m with h1|⟨e,ag,ks,l,h1,h2⟩
 .exact⟨m,ob',by rw[<-h1];exact hm,hb'⟩
 .rw[h2,AK]at hm;subst hm;exact hb'.elim
theorem FrzLe.owned{o o':Store}(h:FrzLe o o'){γ:Nat->Value}{b:Nat}(hb:DY X γ o' b):DY X γ o b:=hb.imp_left h.ownedP
theorem Nx(h:Rel B nt w0 X γ st a w){n:Nat}{own:Bool}{e:Nat}{ag:Bool}{ks:List Kd}{l:LI}(ho:DV st.o n=AA (.row own e ag ks l)){O':Nat->Prop}
  (hO:∀b,b<w.heap.size->O' b->DY X γ st.o b) (hn:own=AC->∀b,(γ n).ownBlock=AA b->¬O' b):0<ks.length/\Kd.Rel w O' (.list ag ks) (.list l) (γ n):=by
 have hor:=h.ob n _ ho;cases own with
 |false=>
  simp only[ObRel]at hor;exact⟨hor.1,Kd.Rel.mono (Keep.refl _ w) hO hor.2⟩
 |true=>
  simp only[ObRel]at hor;obtain⟨h1,h2,xs,hx,hr⟩:=hor;refine⟨h1,?_⟩;simp only[Kd.Rel,IV.toList];rcases hx.2 with⟨h3,h4⟩|⟨g,cap,cur,T,fr,h3,h4,h5,h6,h7,h8,_⟩
  .refine⟨AB,0,by rw[h3,h4],by omega,by simp[maxLen],h2,λi y hy=>?_⟩
   have:l=[]:=vav h4
   subst this;simp at hy
  .refine⟨_,cap,h3,h5,h6,h2,λi y hy=>⟨g,0,rfl,hn rfl g (by rw[h3];rfl),(DK.1 h4).1,?_⟩⟩;obtain⟨_,_,_,hc⟩:=hx.cells h3;refine Kd.RelAll.mono (Keep.refl _ w) hO (λq u hu=>?_) (hr i y hy)
   have:=hc _ u hu
   rw[<-this];congr 2;omega
theorem OE(o:Store):∀(ns:List Nat) {st:St},FrzLe o st.o->Rel B nt w0 X γ st a w->
  Rel B nt w0 X γ (st.ups (E2 o ns)) a w/\FrzLe st.o (st.ups (E2 o ns)).o/\(st.ups (E2 o ns)).t=st.t/\
   (∀n∈ns,∀own e ag ks l,DV (st.ups (E2 o ns)).o n=AA (.row own e ag ks l)->own=AD)/\
   (∀m,m∉ns->DV (st.ups (E2 o ns)).o m=DV st.o m)
 |[],st,_,h=>⟨h,FrzLe.refl _,rfl,(λ_ hn=>by cases hn),λ_ _=>rfl⟩
 |n::r,st,ho,h=>by
  cases hrow:DV o n with
  |none=>
   have he:E2 o (n::r)=E2 o r:=by simp only[E2,hrow]
   rw[he];obtain⟨h1,h2,h3,h4,h9⟩:=OE o r ho h;refine⟨h1,h2,h3,λm hm own e ag ks l hml=>?_,λm hm=>h9 m (λhr=>hm (A6 _ hr))⟩;rcases AW.1 hm with rfl|hm
   .rcases(ho.trans h2) m with h5|⟨_,_,_,_,h5,_⟩
    .rw[hrow]at h5;rw[h5]at hml;cases hml
    .rw[hrow]at h5;cases h5
   .exact h4 m hm own e ag ks l hml
  |some ob=>
   by_cases hob:∃e ag ks l,ob=.row AC e ag ks l
   .obtain⟨e,ag,ks,l,rfl⟩:=hob;have he:E2 o (n::r)=.set n (.row AD e ag ks l)::E2 o r:=by simp only[E2,hrow]
    rw[he];simp only[St.ups];obtain⟨own,hcur⟩:∃own,DV st.o n=AA (.row own e ag ks l):=by
     rcases ho n with h5|⟨e',ag',ks',l',h5,h6⟩
     .exact⟨AC,h5.trans hrow⟩
     .rw[hrow]at h5;simp only[AK,Ob.row.injEq,vaS]at h5;obtain⟨rfl,rfl,rfl,rfl⟩:=h5;exact⟨AD,h6⟩
    have hs:Rel B nt w0 X γ (st.up (.set n (.row AD e ag ks l))) a w:=by
     refine h.set (ob':=.row AD e ag ks l) hcur ⟨rfl,rfl⟩ (Keep.refl _ w) (λb hb=>hb.elim) (λhown hcmp=>?_);simp only[ObRel];refine Nx h hcur (λb _ hb=>hown b hb) ?_;rintro rfl b hb hO1;obtain⟨m,ob1,hm,hb1⟩:=hO1.resolve_right (h.near ⟨n,_,hcur,hb⟩);rw[EP]at hm;split at hm
     .simp only[AK]at hm;subst hm;exact hb1.elim
     .rename_i hne;exact h.dis n m _ ob1 b hne hcur hm hb hb1
    have hfl:FrzLe st.o (st.up (.set n (.row AD e ag ks l))).o:=by
     intro m;simp only[St.up,EP];by_cases hm:n=m
     .subst hm;rw[BX rfl];cases own with
      |true=>exact .inr ⟨e,ag,ks,l,hcur,rfl⟩
      |false=>exact .inl hcur.symm
     .rw[BO hm];exact .inl rfl
    obtain⟨h1,h2,h3,h4,h9⟩:=OE o r (ho.trans hfl) hs;refine⟨h1,hfl.trans h2,h3,λm hm own' e' ag' ks' l' hml=>?_,λm hm=>?_⟩
    case refine_2=>
     rw[h9 m (λhr=>hm (A6 _ hr))];simp only[St.up,EP];rw[BO (λe=>hm (by rw[e];exact AY ..))]
    rcases AW.1 hm with rfl|hm
    .rcases h2 m with h5|⟨_,_,_,_,h5,_⟩
     .rw[h5]at hml;simp only[St.up,EP,CX,AK,Ob.row.injEq]at hml;exact hml.1.symm
     .simp only[St.up,EP,CX,AK,Ob.row.injEq]at h5;exact absurd h5.1 (by simp)
    .exact h4 m hm own' e' ag' ks' l' hml
   .have he:E2 o (n::r)=E2 o r:=by
     simp only[E2,hrow];cases ob with
     |box _=>rfl
     |bld _=>rfl
     |map _ _=>rfl
     |iter _ _ _=>rfl
     |row own e ag ks l=>
      cases own with
      |false=>rfl
      |true=>exact absurd ⟨e,ag,ks,l,rfl⟩ hob
    rw[he];obtain⟨h1,h2,h3,h4,h9⟩:=OE o r ho h;refine⟨h1,h2,h3,λm hm own e ag ks l hml=>?_,λm hm=>h9 m (λhr=>hm (A6 _ hr))⟩;rcases AW.1 hm with rfl|hm
    .rcases(ho.trans h2) m with h5|⟨e',ag',ks',l',h5,_⟩
     .rw[hrow]at h5;rw[h5]at hml;simp only[AK]at hml;subst hml;cases own with
      |false=>rfl
      |true=>exact absurd ⟨e,ag,ks,l,rfl⟩ hob
     .rw[hrow,AK]at h5;exact absurd ⟨e',ag',ks',l',h5⟩ hob
    .exact h4 m hm own e ag ks l hml
end
open Go Go.RowKit
mutual
theorem YQ:∀{a b:Kd},I5 a b=AC->a=b
 |.int k,b,h=>by
  cases b<;>simp only[I5,CF]at h<;>first|(rw[h];done)|(cases h;done)
 |.bool,b,h=>by
  cases b<;>simp only[I5]at h<;>first|rfl|(cases h;done)
 |.str,b,h=>by
  cases b<;>simp only[I5]at h<;>first|rfl|(cases h;done)
 |.list ag ks,b,h=>by
  cases b with
  |list ag' ks'=>
   simp only[I5,AQ,CF]at h;rw[h.1,sM h.2]
  |int _=>simp only[I5]at h;cases h
  |bool=>simp only[I5]at h;cases h
  |str=>simp only[I5]at h;cases h
theorem sM:∀{l l':List Kd},I5.kdsEq l l'=AC->l=l'
 |[],l',h=>by
  cases l' with
  |nil=>rfl
  |cons y r'=>simp only[I5.kdsEq]at h;cases h
 |x::r,l',h=>by
  cases l' with
  |nil=>simp only[I5.kdsEq]at h;cases h
  |cons y r'=>
   simp only[I5.kdsEq,AQ]at h;rw[YQ h.1,sM h.2]
end
section
variable {B:BT} {nt:Nat} {w0:World} {X:Zone} {γ:Nat→Value} {st st':St} {a:Act} {w:World} {P:Program} {E:Env}
theorem Tw{O:Nat->Prop}{ag:Bool}{ks:List Kd}{l:LI}{g x:Value}{lo hi:Nat}(h:Kd.Rel w O (.list ag ks) (.list l) g)(hs:yW g lo hi ks.length x)(hl:hi<=l.length):
  Kd.Rel w O (.list ag ks) (.list ((l.take hi).drop lo)) x:=by
 simp only[Kd.Rel,IV.toList]at h ⊢;obtain⟨p,c,hv,hc,hm,hln,hr⟩:=h;obtain⟨p1,len,cap,p',hg,hx,h1,h2,h3,h4,h5,h6⟩:=hs;rw[hv]at hg;simp only[CW]at hg;obtain⟨rfl,rfl,rfl⟩:=hg;have hll:((l.take hi).drop lo).length=hi-lo:=by rw[DA,BL];omega
 refine⟨p',c-lo,by rw[hll];exact hx,by omega,by omega,by omega,λi y hy=>?_⟩;rw[vat,C3]at hy;split at hy
 .rename_i hlt;obtain⟨b,off,hp,hO,hb,hr'⟩:=hr (lo+i) y hy;subst hp;refine⟨b,off+lo*ks.length,by rw[h5.resolve_right AG];simp[va3],hO,hb,?_⟩;refine Kd.RelAll.mono (Keep.refl _ w) (λ_ _ h=>h) (λq u hu=>?_) hr';rw[<-hu];congr 2;rw[vao];omega
 .cases hy
structure Frz (B:BT) (nt:Nat) (w0:World) (X:Zone) (γ:Nat->Value) (st st':St) (a:Act) (w:World) (vs:List V):Prop where
 Nk:Rel B nt w0 X γ st a w
 rel:Rel B nt w0 X γ st' a w
 le:FrzLe st.o st'.o
 rows:∀n lo hi,V.row n lo hi∈vs->∀own e ag ks l,DV st'.o n=AA (.row own e ag ks l)->own=AD
theorem YV{n lo hi:Nat}:∀{l:List V},V.row n lo hi∈l->n∈FD l
 |v::r,h=>by
  rcases AW.1 h with rfl|h
  .simp[FD]
  .have:=YV h
   cases v<;>simp[FD,this]
theorem Frz.of(h:Rel B nt w0 X γ st a w)(vs:List V):Frz B nt w0 X γ st (st.ups (E2 st.o (FD vs))) a w vs:=by
 obtain⟨h1,h2,_,h4,_⟩:=OE st.o (FD vs) (FrzLe.refl _) h;exact⟨h,h1,h2,λn lo hi hm=>h4 n (YV hm)⟩
theorem uq{vs:List V}(hz:Frz B nt w0 X γ st st' a w vs){v:V}(hm:v∈vs){k:Kd}{y:IV}(hy:NO st.o k v=AA y){x:Value}(hv:VRel γ st.o w (DY X γ st.o) v x):
  Kd.Rel w (DY X γ st'.o) k y x:=by
 have hO:∀b,b<w.heap.size->DY X γ st'.o b->DY X γ st.o b:=λb _ hb=>hz.le.owned hb
 unfold NO at hy;split at hy
 .rename_i k k' n;cases hk:k==k'<;>simp only[hk]at hy
  .cases hy
  .simp only[AK]at hy;subst hy
   have:k=k':=by simpa using hk
   subst this;simp only[VRel]at hv;simp only[Kd.Rel,IV.toInt];exact hv
 .simp only[AK]at hy;subst hy;simp only[VRel]at hv;simp only[Kd.Rel,IV.toBool];exact hv
 .simp only[AK]at hy;subst hy;simp only[VRel]at hv;simp only[Kd.Rel,IV.toStr];exact hv
 .rename_i ag ks ag' ks' l;cases hk:I5 (.list ag ks) (.list ag' ks')<;>simp only[hk]at hy
  .cases hy
  .simp only[AK]at hy;subst hy
   have:=YQ hk
   simp only[Kd.list.injEq]at this;obtain⟨rfl,rfl⟩:=this;simp only[VRel]at hv;exact Kd.Rel.mono (Keep.refl _ w) hO hv
 .rename_i ag ks;simp only[AK]at hy;subst hy;simp only[VRel]at hv;simp only[Kd.Rel,IV.toList];exact⟨AB,0,hv,by simp,by simp[maxLen],by simp[strMax],λi y hy=>by simp at hy⟩
 .rename_i ag ks n lo hi;split at hy
  .rename_i own e ag' ks' l hob;cases hk:I5 (.list ag ks) (.list ag' ks')<;>simp only[hk]at hy
   .cases hy
   .simp only[AK]at hy;subst hy
    have:=YQ hk
    simp only[Kd.list.injEq]at this;obtain⟨rfl,rfl⟩:=this;simp only[VRel,hob]at hv;have hfin:DV st'.o n=AA (.row AD e ag ks l):=by
     rcases hz.le n with h1|⟨e',ag',ks',l',h1,h2⟩
     .have h2:=h1.trans hob
      have:=hz.rows n lo hi hm own e ag ks l h2
      rw[this]at h2;exact h2
     .rw[hob]at h1;simp only[AK,Ob.row.injEq]at h1;obtain⟨_,rfl,rfl,rfl,rfl⟩:=h1;exact h2
    have hor:=hz.rel.ob n _ hfin;simp only[ObRel]at hor;exact Tw hor.2 hv.2 hv.1
  .cases hy
 .cases hy
theorem mR{vs0:List V}(hz:Frz B nt w0 X γ st st' a w vs0):∀{ks:List Kd} {vs:List V} {ys:LI} {xs:List Value},(∀v∈vs,v∈vs0)->K1 st.o ks vs=AA ys->VRels γ st.o w (DY X γ st.o) vs xs->
  ys.length=ks.length/\xs.length=ks.length/\∀(j:Nat) (k:Kd),ks[j]?=AA k->∃y u,ys[j]?=AA y/\xs[j]?=AA u/\Kd.Rel w (DY X γ st'.o) k y u
 |[],[],ys,xs,_,hy,hv=>by
  simp only[K1,AK]at hy;subst hy;cases xs with
  |nil=>exact⟨rfl,rfl,λj k hj=>by simp at hj⟩
  |cons x r=>simp only[VRels]at hv
 |[],_::_,_,_,_,hy,_=>by simp[K1]at hy
 |_::_,[],_,_,_,hy,_=>by simp[K1]at hy
 |k::ks,v::vs,ys,xs,hm,hy,hv=>by
  simp only[K1]at hy;split at hy
  .rename_i y hy1;split at hy
   .rename_i r hy2;simp only[AK]at hy;subst hy;cases xs with
    |nil=>simp only[VRels]at hv
    |cons x xs=>
     simp only[VRels]at hv;obtain⟨h1,h2,h3⟩:=mR hz (λv hv=>hm v (by simp[hv])) hy2 hv.2;refine⟨by simp[h1],by simp[h2],λj k' hj=>?_⟩;cases j with
     |zero=>
      simp only[CA,AK]at hj;subst hj;exact⟨y,x,rfl,rfl,uq hz (hm v (by simp)) hy1 hv.1⟩
     |succ j=>
      obtain⟨y',u,h4,h5,h6⟩:=h3 j k' (by simpa using hj);exact⟨y',u,by simpa using h4,by simpa using h5,h6⟩
   .cases hy
  .cases hy
theorem gU{vs0:List V}(hz:Frz B nt w0 X γ st st' a w vs0){ag:Bool}{ks:List Kd}{sz:Nat}(hks:ks.length=sz)(h1:ag=AD->sz=1):∀{n:Nat} {cs:List V} {l:LI} {xs:List Value},
  (∀v∈cs,v∈vs0)->N9 ag ks st.o cs sz n=AA l->VRels γ st.o w (DY X γ st.o) cs xs->
  l.length=n/\∀i y,l[i]?=AA y->Kd.RelAll w (DY X γ st'.o) ks (GK ag y) 0 (λj u=>xs[i*sz+j]?=AA u)
 |0,cs,l,xs,_,hc,_=>by
  simp only[N9,AK]at hc;subst hc;exact⟨rfl,λi y hy=>by simp at hy⟩
 |n+1,cs,l,xs,hm,hc,hv=>by
  simp only[N9]at hc;split at hc
  .rename_i y r hy hr;simp only[AK]at hc;subst hc;obtain⟨h2,h3⟩:=gU hz hks h1 (n:=n) (cs:=NK cs sz) (xs:=xs.drop sz) (λv hv=>by rw[R5]at hv;exact hm v (va7 hv)) hr (by rw[R5];exact hv.drop sz);refine⟨by simp[h2],λi y' hy'=>?_⟩;cases i with
   |zero=>
    simp only[CA,AK]at hy';subst hy';cases ag with
    |true=>
     simp only[Q4]at hy;split at hy
     .rename_i ys hys;simp only[AK]at hy;subst hy;have hvt:VRels γ st.o w (DY X γ st.o) (PL cs sz) (xs.take sz):=by rw[ZF];exact hv.take sz
      obtain⟨h4,h5,h6⟩:=mR hz (λv hv=>by rw[ZF]at hv;exact hm v (vaO hv)) hys hvt;rw[Kd.RelAll_iff];intro j k hj;obtain⟨y,u,h7,h8,h9⟩:=h6 j k hj;refine⟨u,?_,?_⟩
      .rw[C3]at h8;split at h8
       .simpa using h8
       .cases h8
      .simp only[GK,IV.cell,BU,SH,h7,vam];exact h9
     .cases hy
    |false=>
     have hsz:=h1 rfl;simp only[Q4]at hy;split at hy
     .rename_i y1 ys hys;simp only[AK]at hy;subst hy;cases cs with
      |nil=>
       simp only[SG]at hys;cases ks with
       |nil=>simp only[K1]at hys;cases hys
       |cons k r=>simp only[K1]at hys;cases k<;>simp only[NO]at hys<;>cases hys
      |cons c0 cr=>
       cases xs with
       |nil=>simp only[VRels]at hv
       |cons x0 xr=>
        simp only[SG]at hys;simp only[VRels]at hv;have hv0:VRels γ st.o w (DY X γ st.o) [c0] [x0]:=by simp only[VRels,CI];exact hv.1
        obtain⟨h4,h5,h6⟩:=mR hz (λv hv=>by simp at hv;subst hv;exact hm v (by simp)) hys hv0;rw[Kd.RelAll_iff];intro j k hj;obtain⟨y,u,h7,h8,h9⟩:=h6 j k hj;have hj0:j=0:=by
         rcases Nat.eq_zero_or_pos j with h0|h0
         .exact h0
         .rw[B8 (by simp;omega)]at h8;cases h8
        subst hj0;refine⟨u,by simpa using h8,?_⟩;simp only[GK];simp only[CA,AK]at h7;rw[h7];exact h9
     .cases hy
   |succ i=>
    have:=h3 i y' (by simpa using hy')
    refine Kd.RelAll.mono (Keep.refl _ w) (λ_ _ h=>h) (λj u hu=>?_) this;rw[vat]at hu;rw[<-hu];congr 1;rw[vao];omega
  .cases hc
end
open Go Go.RowKit
theorem MD(s:St):∀(a b:List Upd),s.ups (a++b)=(s.ups a).ups b
 |[],b=>rfl
 |u::r,b=>by simp only[C9,St.ups];exact MD (s.up u) r b
theorem nY(z:List V):∀n,(RA z n).length=n*z.length
 |0=>by simp[RA]
 |n+1=>by simp[RA,nY z n,vao];omega
theorem Nn(z:List V):∀(n j:Nat),j<n*z.length->(RA z n)[j]?=z[j%z.length]?
 |0,j,h=>by omega
 |n+1,j,h=>by
  simp only[RA];rw[vah];split
  .rename_i hj;rw[Nat.mod_eq_of_lt hj]
  .rename_i hj;rw[vaW]at h;rw[Nn z n (j-z.length) AG];congr 1;exact(Nat.mod_eq_sub_mod AG).symm
section
variable {B:BT} {nt:Nat} {w0:World} {X:Zone} {γ:Nat→Value} {st st':St} {a:Act} {w:World} {P:Program} {E:Env}
theorem zcN{o:Store}{O:Nat->Prop}{z:List V}{zc:Array Value}(h:VRels γ o w O z zc.toList)(n:Nat):VRels γ o w O (RA z n) ((vby (n*zc.size)).map (zc[· % zc.size]!)).toList:=by
 have hl:=h.length;simp only[C1]at hl;refine VRels.of_get (by simp[nY,hl]) (λj v x h1 h2=>?_);have hj:j<n*z.length:=by
  rcases DN j (n*z.length)with h'|h'
  .exact h'
  .rw[B8 (by rw[nY];exact h')]at h1;cases h1
 rw[Nn z n j hj]at h1;have hj2:j<n*zc.size:=by rw[<-hl];exact hj
 have hpos:0<zc.size:=by
  rcases Nat.eq_zero_or_pos zc.size with h0|h0
  .rw[h0]at hj2;omega
  .exact h0
 have hm:j%zc.size<zc.size:=Nat.mod_lt _ hpos;simp[hj2]at h2;rw[hl]at h1;refine h.get' h1 ?_;rw[<-h2];simp[hm]
theorem zbl(hT:TiOK P B E)(h:Rel B nt w0 X γ st a w)(o:Oper)(hd9:∀d,o.dst=AA d->d≠900000){t len:Nat}{parts:Array (Nat×Operand)}(ho:o.op=.buildSlice t len parts){v:V}{us:List Upd}
  (he:(EJ E st.o (opd st) o.dst o.op).get=AA (v,us)):OpWp P B nt w0 X a w o st v us:=by
 rw[ho]at he;simp only[EJ]at he;obtain⟨hp1,hp2⟩:=uG h parts.toList;split at he
 .rename_i d e hdst hd;split at he
  .rename_i cs hf;split at he
   .rename_i l hc;obtain⟨hk,he⟩:=T.get_when he;simp only[T.get,AK,A1]at he;obtain⟨rfl,rfl⟩:=he;simp only[AQ]at hk;have hpos:=AX hk.1;have he6:e<1000000:=AX hk.2.1;have h24:=AX hk.2.2;have hs:=hT.size (t:=e) hpos;obtain⟨i,z,hi,hz,hzs,hsz,_,hzr⟩:=UM hs;obtain⟨dd,hd1,_,hd2⟩:=(hT.desc (t:=t) (by rw[hd];simp)).und;rw[hd]at hd2;subst hd2;obtain⟨xs,hx1,hx2⟩:=lV h (pm:=λj=>AA (j*(E.tyd e).size,(E.tyd e).size)) (λ_ _ h=>h) (zcN (hzr γ st.o w (DY X γ st.o)) len) hp1 hp2 hf;have hz':=Frz.of h cs;obtain⟨hl,hr⟩:=gU hz' hs.ks (λha=>hs.one ha) (λv hv=>hv) hc hx2;have hxl:=hx2.length;have hcsl:cs.length=len*(E.tyd e).size:=by
     have:∀{p:Nat->Option (Nat×Nat)} {q:List (Nat×V)} {c c':List V},MQ st.o p c q=AA c'->c'.length=c.length:=by
      intro p q
      induction q with
      |nil=>intro c c' h;simp only[MQ,AK]at h;rw[h]
      |cons y r ih=>
       intro c c' h;obtain⟨i,v⟩:=y;simp only[MQ]at h;split at h
       .split at h
        .rename_i hb;simp only[AQ]at hb;have h1:=F1.1 hb.2.1;have h2:=AX hb.2.2;rw[ih h,jH _ _ _ AG];simp;omega
        .cases h
       .cases h
     rw[this hf,nY];congr 1
     have:=(hzr γ st.o w (DY X γ st.o)).length
     rw[this,<-hzs];simp
    have hrun:(execOp a.eval o).run P w=.ok (.value (.slice (AA ⟨w.heap.size,0,AB⟩) len len)) (w.alloc (.cells xs e)):=by
     unfold execOp;have hsm:¬len*(E.tyd e).size>2^24:=by omega
     have hx1':Instr.fill (λj=>AA (j*(E.tyd e).size,(E.tyd e).size)) ((vby (len*(E.tyd e).size)).map (z.cells[· % z.cells.size]!)) (parts.map λ(i,x)=>(i,a.eval x)).toList=AA xs:=by
      rw[Array.toList_map,<-hzs];rw[<-hzs]at hx1;exact hx1
     by_cases h0:len*(E.tyd e).size=0
     .have e0:(vby (len*(E.tyd e).size)).map (z.cells[· % z.cells.size]!)=(vby (len*(E.tyd e).size)).map ((#[]:Array Value)[· % (#[]:Array Value).size]!):=by
       rw[h0];simp
      rw[e0]at hx1';simp[ho,Instr.buildSlice,BQ hd1,SP hs,h0,newRow]at hx1' ⊢;rw[hx1'];rfl
     .have hb:=run_buildSlice (P:=P) w t e len (parts.map λ(i,x)=>(i,a.eval x)) xs i z hd1 hi hz (by rw[hsz];exact hsm) (by rw[hsz];exact h0) (by rw[hsz];exact hx1');simp only[ho,CL,hb,B9,CM]
    have hn:=Rel.new hz'.rel [] d (hd9 d hdst) (.row AC e (E.tyd e).agg (E.tyd e).ks l) (.slice (AA ⟨w.heap.size,0,AB⟩) len len) (w':=w.alloc (.cells xs e)) (Keep.alloc _ w _)
     (by
      intro b hb;simp only[FE,CO,AK]at hb;subst hb;exact⟨by simp,.inl (A4 _)⟩)
     (by
      intro O' hO hcmp;simp only[ObRel];refine⟨by rw[hs.ks];exact hpos,by rw[hl];unfold strMax;have:=vaN len hpos;omega,xs.toList,?_,λi y hy=>?_⟩
      .rw[hl,hs.ks];refine⟨by rw[<-hxl,hcsl],.inr ⟨w.heap.size,len,xs,e,(0,0),rfl,vaq w _,A4 _,?_,?_,?_,.inl ⟨he6,rfl,rfl⟩⟩⟩
       .unfold maxLen;have:=vaN len hpos;omega
       .rw[<-hcsl,hxl];simp
       .exact C2 (by rw[<-hcsl,hxl];exact A4 _)
      .rw[hs.ks];exact Kd.RelAll.mono (Keep.alloc _ w _) hO (λ_ _ h=>h) (hr i y hy))
    refine OpWp.value (γ':=_) hrun (by rw[MD];exact hn) ?_;rw[MD];simp only[St.ups,VRel,GS,CX,HM];refine⟨by omega,_,len,len,_,rfl,by simp,CH _,A4 _,A4 _,?_,.inl ?_,λ_=>rfl⟩
    .unfold maxLen;have:=vaN len hpos;omega
    .simp[Addr.add]
   .simp[T.get]at he
  .simp[T.get]at he
 .simp[T.get]at he
theorem Tq(P:Program)(g o:Nat)(t:TypeId)(fr:Nat×Nat):∀(vs:List Value) (i:Nat) (cur:Array Value) (w:World),w.heap[g]?=AA (.cells cur t fr)->o+i+vs.length<=cur.size->
  (∀j,j<cur.size->¬(fr.1<=j/\j<fr.2))->(∀v∈vs,v.oneCell'=AC)->
  (storeCells ⟨g,o,AB⟩ vs i).run P w=.ok () (w.setRow g (cur.toList.take (o+i)++vs++cur.toList.drop (o+i+vs.length)).toArray)
 |[],i,cur,w,hg,_,_,_=>by
  simp only[storeCells,vab,BN,DJ,List.take_append_drop,Array.toArray_toList];rw[setRow_self w g cur t fr hg];rfl
 |v::rest,i,cur,w,hg,hl,hf,h1=>by
  have hi:o+i<cur.size:=by simp at hl;omega
  have hcell:w.cell? ⟨g,o+i,AB⟩=AA cur[o+i]:=by simp[vaI,hg,hi]
  have hfro:w.frozen? ⟨g,o+i,AB⟩=AD:=by
   have:=hf (o+i) hi
   simp only[World.frozen?,hg];simpa using this
  have hst:(store ((⟨g,o,AB⟩:Addr).add i) v).run P w=.ok () (w.setRow g (cur.setIfInBounds (o+i) v)):=by
   rw[va3,run_store P w _ v _ (h1 v (by simp)),hcell];simp[hfro,setCell_eq_setRow w g (o+i) cur t fr v hg]
  have ih:=Tq P g o t fr rest (i+1) (cur.setIfInBounds (o+i) v) (w.setRow g (cur.setIfInBounds (o+i) v)) (vbx w g cur _ t _ hg) (by simp at hl ⊢;omega) (by simpa using hf) (λx hx=>h1 x (by simp[hx]));simp only[storeCells,CL,hst,B9,ih,setRow_setRow];congr 3;have e:=list_seg_step cur.toList (o+i) v rest (by simp at hl ⊢;omega);simpa[Array.toList_setIfInBounds,vaJ]using e
theorem Tp(w:World){b c:Nat}{xs:Array Value}{T:Nat}{fr:Nat×Nat}(hh:w.heap[b]?=AA (.cells xs T fr))(hf:∀j,j<xs.size->¬(fr.1<=j/\j<fr.2)){t:Nat}(hs:TISnd P B t (E.tyd t)){v:Value}
  (hsz:v.cells.size=(E.tyd t).size) (hle:c+v.cells.size<=xs.size) (h1:∀u∈v.cells.toList,u.oneCell'=AC):
  (Instr.storeAt t (.pointer (AA ⟨b,c,AB⟩)) v).run P w=.ok () (w.setRow b (xs.toList.take c++v.cells.toList++xs.toList.drop (c+v.cells.size)).toArray):=by
 have hst:=Tq P b c T fr v.cells.toList 0 xs w hh (by simpa using hle) hf h1;simp only[DJ,C1]at hst;simp[Instr.storeAt,Instr.sureAddr,storeVar,SP hs,hsz,hst]
theorem Mq{cs vs:List V}{n:Nat}(h:n+vs.length<=cs.length):(HE cs n vs).length=cs.length:=by
 rw[jH cs n vs h];simp;omega
theorem Ty:∀(l:List Kd) (n:Nat),RI.takeK l n=l.take n
 |l,0=>by cases l<;>simp[RI.takeK]
 |[],n+1=>by simp[RI.takeK]
 |x::r,n+1=>by simp[RI.takeK,Ty r n]
theorem Ey:∀(l:List Kd) (n:Nat),RI.dropK l n=l.drop n
 |l,0=>by cases l<;>simp[RI.dropK]
 |[],n+1=>by simp[RI.dropK]
 |x::r,n+1=>by simp[RI.dropK,Ey r n]
theorem mc(h:Rel B nt w0 X γ st a w)(ns:List Nat){m:Nat}(hm:m∉ns):DV (st.ups (E2 st.o ns)).o m=DV st.o m:=
 (OE st.o ns (FrzLe.refl _) h).2.2.2.2 m hm
theorem zc1{O:Nat->Prop}{ag:Bool}{ks:List Kd}{l:LI}{xs:List Value}(_:0<ks.length)(hag:ag=AD->ks.length=1)(hr:∀i y,l[i]?=AA y->Kd.RelAll w O ks (GK ag y) 0 (λj u=>xs[i*ks.length+j]?=AA u))
  (hx:xs.length=l.length*ks.length) {i c:Nat} (hi:i<l.length) {ys:LI} {us:List Value} (hc:c+us.length<=ks.length) (hy:ys.length=us.length) (hpos:0<us.length)
  (hw:∀j k,j<us.length->ks[c+j]?=AA k->∃y u,ys[j]?=AA y/\us[j]?=AA u/\Kd.Rel w O k y u):
  ∀i' y,(l.set i (PH ag ks (l.getD i default) c ys))[i']?=AA y->
   Kd.RelAll w O ks (GK ag y) 0 (λj u=>(xs.take (i*ks.length+c)++us++xs.drop (i*ks.length+c+us.length))[i'*ks.length+j]?=AA u):=by
 intro i' y hy';have hle:i*ks.length+ks.length<=xs.length:=by
  rw[hx,<-vaW];exact CR _ hi
 have hget:∀p,(xs.take (i*ks.length+c)++us++xs.drop (i*ks.length+c+us.length))[p]?=if i*ks.length+c<=p/\p<i*ks.length+c+us.length then us[p-(i*ks.length+c)]? else xs[p]?:=by
  intro p;rw[vah];simp only[A2,BL];rw[vaG AG];by_cases h1:p<i*ks.length+c
  .rw[BX AG,vah,BX (by rw[BL];omega),C3,BX h1,BO AG]
  .by_cases h2:p<i*ks.length+c+us.length
   .rw[BX h2,vah,BO (by rw[BL];omega),BX AG];congr 1;rw[BL];omega
   .rw[BO h2,vat,BO AG];congr 1;omega
 rw[Kd.RelAll_iff];intro j k hj;have hjl:j<ks.length:=by
  rcases DN j ks.length with h'|h'
  .exact h'
  .rw[B8 h']at hj;cases hj
 simp only[BU];rw[List.getElem?_set]at hy';by_cases hii:i=i'
 .subst hii;rw[BX rfl,BX hi,AK]at hy';subst hy';have hold:=hr i (l.getD i default) (by simp[AR,BD hi]);rw[Kd.RelAll_iff]at hold;by_cases hin:c<=j/\j<c+us.length
  .obtain⟨y,u,h1,h2,h3⟩:=hw (j-c) k AG (by rw[show c+(j-c)=j by omega];exact hj);refine⟨u,?_,?_⟩
   .rw[hget,BX AG,<-h2];congr 1;omega
   .cases ag with
    |true=>
     simp only[PH,GK,IV.cell,SH,iU _ _ _ _ hjl,BU,vam];have hb:(CG c j&&BV j (c+ys.length))=AC:=by
      simp only[AQ];exact⟨CV hin.1,CV (by rw[hy];exact hin.2)⟩
     rw[hb];simp only[h1,vam];exact h3
    |false=>
     have h10:=hag rfl;have hj0:j=0:=by omega
     have hc0:c=0:=by omega
     subst hj0;subst hc0;simp only[PH,GK,SH];simp only[vas]at h1;rw[h1];exact h3
  .obtain⟨u,h1,h2⟩:=hold j k hj;simp only[BU]at h1 h2;refine⟨u,?_,?_⟩
   .rw[hget,BO AG];exact h1
   .cases ag with
    |true=>
     simp only[PH,GK,IV.cell,SH,iU _ _ _ _ hjl,BU,vam];have hb:(CG c j&&BV j (c+ys.length))=AD:=by
      rw[Bool.and_eq_false_iff];by_cases h3:c<=j
      .right;cases h4:BV j (c+ys.length)with
       |false=>rfl
       |true=>have:=AX h4;omega
      .left;cases h4:CG c j with
       |false=>rfl
       |true=>have:=AX h4;omega
     rw[hb];simp only[GK]at h2;cases hyy:l.getD i default with
     |agg q=>rw[hyy]at h2;simpa[IV.cell,SH]using h2
     |int q=>rw[hyy]at h2;simpa[IV.cell,SH]using h2
     |bool q=>rw[hyy]at h2;simpa[IV.cell,SH]using h2
     |str q=>rw[hyy]at h2;simpa[IV.cell,SH]using h2
     |list q=>rw[hyy]at h2;simpa[IV.cell,SH]using h2
    |false=>
     have h10:=hag rfl;exfalso;omega
 .rw[BO hii]at hy';have hold:=hr i' y hy';rw[Kd.RelAll_iff]at hold;obtain⟨u,h1,h2⟩:=hold j k hj;simp only[BU]at h1 h2;refine⟨u,?_,h2⟩;rw[hget,BO]
  .exact h1
  .rcases Nat.lt_or_gt_of_ne hii with h3|h3
   .have:i*ks.length+ks.length<=i'*ks.length:=by rw[<-vaW];exact CR _ h3
    omega
   .have:i'*ks.length+ks.length<=i*ks.length:=by rw[<-vaW];exact CR _ h3
    omega
end
open Go Go.RowKit
theorem zfn{α:Type}(cs U:List α)(A n:Nat)(h1:A+U.length<=n)(h2:n<=cs.length):(cs.take A++U++cs.drop (A+U.length)).take n=(cs.take n).take A++U++(cs.take n).drop (A+U.length):=by
 have e1:(cs.take n).take A=cs.take A:=by rw[List.take_take,vaG AG]
 have e2:(cs.take n).drop (A+U.length)=(cs.drop (A+U.length)).take (n-(A+U.length)):=by rw[List.drop_take]
 have e3:(cs.take A++U).length=A+U.length:=by rw[A2,BL,vaG AG]
 rw[e1,e2,List.take_append,e3,C2 (by rw[e3];exact h1)]
section
variable {B:BT} {nt:Nat} {w0:World} {X:Zone} {γ:Nat→Value} {st st':St} {a:Act} {w:World} {P:Program} {E:Env}
theorem zbI(hT:TiOK P B E)(h:Rel B nt w0 X γ st a w)(o:Oper){t:Nat}{p x:Operand}(ho:o.op=.store t p x){v:V}{us:List Upd}
  (he:(EJ E st.o (opd st) o.dst o.op).get=AA (v,us)):OpWp P B nt w0 X a w o st v us:=by
 have hp:=FZ h p;have hx:=FZ h x;rw[ho]at he;simp only[EJ,RI]at he;have hrun:∀w',(Instr.storeAt t (a.eval p) (a.eval x)).run P w=.ok () w'->(execOp a.eval o).run P w=.ok .skip w':=λw' hy=>by
  unfold execOp;simp only[ho,CL,hy,B9,CM]
 split at he
 .rename_i n i c hop;rw[hop]at hp;simp only[VRel]at hp;split at he
  .rename_i cs hob;rw[hob]at hp;obtain⟨rfl,b,hg,hpv⟩:=hp;split at he
   .rename_i hc;obtain⟨hk,he⟩:=T.get_when he;simp only[T.get,AK,A1]at he;obtain⟨rfl,rfl⟩:=he;simp only[AQ]at hc hk;have h1:=AX hc.1;have h2:=F1.1 hc.2.1;have hs:=hT.size (AX hk.2.2);have hcr:=nL h hx hk.1;have hone:=nK h hcr hk.2.1;have hlen:=hcr.length;have hor:=h.ob n _ hob;simp only[ObRel]at hor;obtain⟨b',xs,T,hg',hh,hr⟩:=hor;rw[hg]at hg';simp only[C6,AK,DI,CI]at hg';subst hg';have hrl:=hr.length;have hsz:(a.eval x).cells.size=(E.tyd t).size:=by rw[<-h2,hlen];simp
    have hst:=Tp w (P:=P) (B:=B) (E:=E) (c:=c) hh (λj _=>by simp) hs hsz (by simp at hrl;omega) hone;rw[hpv]at hrun;refine OpWp.skip (hrun _ hst) (γ':=γ) ?_;simp only[St.ups];refine h.set hob (by simp only[Ob.fits];rw[Mq AG]) (Keep.setRow w b _ ⟨_,hg,rfl⟩) (λb' hb=>hb) (λhown hcmp=>?_);simp only[ObRel];refine⟨b,_,T,hg,vbx w b xs _ T (0,0) hh,?_⟩;have hk':Keep (DY X γ st.o) w (w.setRow b (xs.toList.take c++(a.eval x).cells.toList++xs.toList.drop (c+(a.eval x).cells.size)).toArray):=
     Keep.setRow w b _ (.inl ⟨n,_,hob,⟨_,hg,rfl⟩⟩)
    refine VRels.mono hk' (λb _ hb=>hown b hb) (VRels.cmp hcmp ?_)
    have:=hr.put hcr (n:=c) AG
    simpa using this
   .simp[T.get]at he
  .rename_i e ag ks l hob;rw[hob]at hp;obtain⟨hi,b,off,len,cap,hg,hpv⟩:=hp;split at he
   .rename_i hc;split at he
    .rename_i vs hvs;obtain⟨hk,he⟩:=T.get_when he;simp only[T.get,AK,A1]at he;obtain⟨rfl,rfl⟩:=he;simp only[AQ]at hc hk;obtain⟨⟨⟨hk1,hk2,hk3⟩,hk4⟩,hk5⟩:=hk;have h1:=AX hc.1;have h2:=F1.1 hc.2;have hpos:=AX hk3;have hs:=hT.size hpos;have hcr:=nL h hx hk1;have hone:=nK h hcr hk2;have hlen:=hcr.length;have hsz:(a.eval x).cells.size=(E.tyd t).size:=by rw[<-h2,hlen];simp
     have hz:=Frz.of h (cells (opd st x));have hnm:n∉FD (cells (opd st x)):=by
      intro hm;rw[iY.2 hm]at hk4;simp at hk4
     have hob':DV (st.ups (E2 st.o (FD (cells (opd st x))))).o n=AA (.row AC e ag ks l):=by
      rw[mc h _ hnm];exact hob
     rw[Ty,Ey]at hvs;obtain⟨hl1,hl2,hl3⟩:=mR hz (λv hv=>hv) hvs hcr;have hkl:((ks.drop c).take (E.tyd t).size).length=(E.tyd t).size:=by rw[BL,DA];omega
     rw[hkl]at hl1 hl2;have hor:=hz.rel.ob n _ hob';simp only[ObRel]at hor;obtain⟨hkp,hstr,xs,hxs,hr⟩:=hor;rcases hxs.2 with⟨h3,h4⟩|⟨g,cap',cur,T,fr,h3,h4,h5,h6,h7,h8,h9⟩
     .rw[hg]at h3;simp at h3
     rw[hg]at h3;simp only[CW,AK,DI,CI]at h3;obtain⟨⟨rfl,rfl⟩,rfl,rfl⟩:=h3;have hxl:=hxs.1;have hfrz:∀j,j<cur.size->¬(fr.1<=j/\j<fr.2):=by
      intro j hj;rcases h9 with⟨_,_,rfl⟩|⟨_,h9⟩
      .simp
      .omega
     have hbnd:i*ks.length+ks.length<=cur.size:=by
      have e1:(i+1)*ks.length<=cap*ks.length:=CR _ AG;rw[vaW]at e1;omega
     have hst:=Tp w (P:=P) (B:=B) (E:=E) (c:=0+i*ks.length+c) h4 hfrz hs hsz AG hone;rw[hpv]at hrun;refine OpWp.skip (hrun _ hst) (γ':=γ) ?_;rw[MD];simp only[St.ups];refine hz.rel.set (ob':=.row AC e ag ks (l.set i (PH ag ks (l.getD i default) c vs))) hob' ⟨rfl,by simp⟩ (Keep.setRow w b _ (by show(γ n).ownBlock=AA b;rw[hg];rfl)) (λb' hb=>hb) (λhown hcmp=>?_);simp only[ObRel];refine⟨hkp,by simpa using hstr,xs.take (i*ks.length+c)++(a.eval x).cells.toList++xs.drop (i*ks.length+c+(a.eval x).cells.toList.length),?_,?_⟩
     .refine⟨by simp only[A2,BL,DA,vaL,C1];rw[hsz];have e1:(i+1)*ks.length<=l.length*ks.length:=CR _ hi;rw[vaW]at e1;omega,?_⟩;right;refine⟨b,cap,_,T,fr,by rw[hg];simp,vbx w b cur _ T fr h4,by simpa using h5,h6,?_,?_,?_⟩
      .simp only[DM,A2,BL,DA,C1];rw[hsz];omega
      .simp only[vaL,BU,C1];rw[<-h8];have e1:(i+1)*ks.length<=l.length*ks.length:=CR _ hi;rw[vaW]at e1;have e2:l.length*ks.length<=cur.size:=by rw[h7];exact CR _ h5
       have hcl:(a.eval x).cells.toList.length=(a.eval x).cells.size:=by simp
       rw[<-hcl];exact zfn cur.toList _ _ _ (by rw[hcl,hsz];omega) (by simpa using e2)
      .rcases h9 with⟨q1,q2,q3⟩|⟨q1,q2⟩
       .exact .inl ⟨q1,q2,q3⟩
       .refine .inr ⟨q1,?_⟩;simp only[DM,A2,BL,DA,C1];rw[hsz];omega
     .have hk':Keep (DY X γ (st.ups (E2 st.o (FD (cells (opd st x))))).o) w (w.setRow b (cur.toList.take (0+i*ks.length+c)++(a.eval x).cells.toList++cur.toList.drop (0+i*ks.length+c+(a.eval x).cells.size)).toArray):=
       Keep.setRow w b _ (.inl ⟨n,_,hob',by show(γ n).ownBlock=AA b;rw[hg];rfl⟩)
      intro i' y hy;refine Kd.RelAll.mono hk' (λb _ hb=>hown b hb) (λ_ _ h=>h) ?_;refine zc1 hkp (λhag=>?_) hr hxl hi (ys:=vs) (us:=(a.eval x).cells.toList) (c:=c) (by rw[hl2];exact h1) (by rw[hl1,hl2]) (by rw[hl2];exact hpos) (λj k hj hjk=>?_) i' y hy
      .rw[hag]at hk5;simpa using F1.1 (by simpa using hk5)
      .refine hl3 j k ?_;rw[C3,BX (by rw[hl2]at hj;exact hj),vat];exact hjk
    .simp[T.get]at he
   .simp[T.get]at he
  .simp[T.get]at he
 .simp[T.get]at he
theorem zbB(hT:TiOK P B E)(h:Rel B nt w0 X γ st a w)(o:Oper)(hd9:∀d,o.dst=AA d->d≠900000){t:Nat}{n m:Operand}(ho:o.op=.makeSlice t n m){v:V}{us:List Upd}
  (he:(EJ E st.o (opd st) o.dst o.op).get=AA (v,us)):OpWp P B nt w0 X a w o st v us:=by
 have hn:=FZ h n;have hm:=FZ h m;rw[ho]at he;simp only[EJ]at he;split at he
 .rename_i d e k1 n1 k2 m1 hdst hd hn1 hm1;rw[hn1]at hn;rw[hm1]at hm;simp only[VRel]at hn hm;split at he
  .rename_i z zr hc;obtain⟨hk,he⟩:=T.get_when he;simp only[T.get,AK,A1]at he;obtain⟨rfl,rfl⟩:=he;simp only[AQ,AZ]at hk;obtain⟨⟨hk1,hk2,h0⟩,hnm,hbd⟩:=hk;subst hnm;have hpos:=AX hk1;have he6:e<1000000:=AX hk2;have hs:=hT.size (t:=e) hpos;have hb1:=hs.by1;obtain⟨i,zv,hi,hz,hzs,hsz,hby,hzr⟩:=UM hs;obtain⟨dd,hd1,_,hd2⟩:=(hT.desc (t:=t) (by rw[hd];simp)).und;rw[hd]at hd2;subst hd2;have hz':=Frz.of h (E.tyd e).zero;obtain⟨hl,hr⟩:=gU hz' hs.ks (λha=>hs.one ha) (λv hv=>hv) hc (hzr γ st.o w (DY X γ st.o));have hr0:=hr 0 z rfl;have hn46:n1<=70368744177664:=by
    have e1:n1*1<=n1*((E.tyd e).bytes:Int):=Int.mul_le_mul_of_nonneg_left AG h0;simp only[EL]at hbd;omega
   let xs:Array Value:=(vby (n1.toNat*zv.cells.size)).map (zv.cells[· % zv.cells.size]!)
   have hxs:xs.size=n1.toNat*(E.tyd e).size:=by simp[xs,hzs]
   have hrun:(execOp a.eval o).run P w=.ok (.value (.slice (AA ⟨w.heap.size,0,AB⟩) n1.toNat n1.toNat)) (w.alloc (.cells xs e)):=by
    unfold execOp;have hw:AJ.wrap n1=n1:=by
     simp[AI,vak,AT];split<;>omega
    have hbig:¬((E.tyd e).bytes:Int)*n1>2^48:=by
     rw[Int.mul_comm];simp only[EL]at hbd;omega
    have hbig':¬ 281474976710656<((i.bytes:Nat):Int)*n1:=by rw[hby];omega
    have hr0:∀f:Nat->Value,(vby 0).map f= #[]:=λf=>by apply Array.eq_empty_of_size_eq_zero;simp
    have hneg:¬n1<0:=by omega
    have hz0:n1.toNat*(E.tyd e).size=0->xs= #[]:=λh0=>by
     apply Array.eq_empty_of_size_eq_zero;rw[hxs,h0]
    by_cases hzero:n1.toNat*(E.tyd e).size=0
    .simp[ho,hn.1,hm.1,Instr.makeSlice,BQ hd1,asInt,asIntOf,typeInfo,hi,hbig',hneg,hw,sizeOf,hsz,hzero,newRow,hz0 hzero,hr0]
    .simp[ho,hn.1,hm.1,Instr.makeSlice,BQ hd1,asInt,asIntOf,typeInfo,hi,hbig',hneg,hw,sizeOf,hsz,hzero,newRow,zeroValue,hz,xs,hzs]
   have hnn:=Rel.new hz'.rel [] d (hd9 d hdst) (.row AC e (E.tyd e).agg (E.tyd e).ks (B6 n1.toNat z)) (.slice (AA ⟨w.heap.size,0,AB⟩) n1.toNat n1.toNat) (w':=w.alloc (.cells xs e)) (Keep.alloc _ w _)
    (by
     intro b hb;simp only[FE,CO,AK]at hb;subst hb;exact⟨by simp,.inl (A4 _)⟩)
    (by
     intro O' hO hcmp;simp only[ObRel];refine⟨by rw[hs.ks];exact hpos,by rw[List.length_replicate];unfold strMax;omega,xs.toList,?_,λi' y hy=>?_⟩
     .rw[List.length_replicate,hs.ks];refine⟨by simp[hxs],.inr ⟨w.heap.size,n1.toNat,xs,e,(0,0),rfl,vaq w _,A4 _,by unfold maxLen;omega,hxs,?_,.inl ⟨he6,rfl,rfl⟩⟩⟩;exact C2 (by rw[C1,hxs];exact A4 _)
     .rw[List.getElem?_replicate]at hy;split at hy
      .rename_i hlt;simp only[AK]at hy;subst hy;refine Kd.RelAll.mono (Keep.alloc _ w _) hO (λ_ _ h=>h) ?_;rw[Kd.RelAll_iff]at hr0 ⊢;intro j k hj;obtain⟨u,hu,hk⟩:=hr0 j k hj;refine⟨u,?_,hk⟩;have hjl:j<(E.tyd e).size:=by
        rw[<-hs.ks];rcases DN j (E.tyd e).ks.length with h'|h'
        .exact h'
        .rw[B8 h']at hj;cases hj
       have hjz:j<zv.cells.size:=by rw[hzs];exact hjl
       simp only[BU,Nat.zero_mul,vaE]at hu ⊢;rw[hs.ks];have hbnd:i'*(E.tyd e).size+j<n1.toNat*zv.cells.size:=by
        rw[hzs];have e1:(i'+1)*(E.tyd e).size<=n1.toNat*(E.tyd e).size:=CR _ hlt;rw[vaW]at e1;omega
       have hmod:(i'*(E.tyd e).size+j)%zv.cells.size=j:=by
        rw[hzs,Nat.mul_comm,Nat.mul_add_mod,Nat.mod_eq_of_lt hjl]
       simp only[xs,Array.getElem?_map];simp[hbnd,hmod];rw[getElem!_pos zv.cells j hjz];simpa[hjz]using hu
      .cases hy)
   refine OpWp.value (γ':=_) hrun (by rw[MD];exact hnn) ?_;rw[MD];simp only[St.ups,VRel,GS,CX,HM];refine⟨by simp,_,n1.toNat,n1.toNat,_,rfl,by simp,CH _,A4 _,A4 _,by unfold maxLen;omega,.inl ?_,λ_=>rfl⟩;simp[Addr.add]
  .simp[T.get]at he
 .simp[T.get]at he
end
open Go Go.RowKit
theorem y4{P:Program}(w:World)(t ty e:TypeId)(i:TypeInfo)(z:Value)(size bytes:Nat)(ht:P.underlying t=AA (.slice e))(hi:P.info? e=AA i)(hz:i.zero=AA z)
  (hsize:i.size=size) (hby:i.bytes=bytes) (hzs:z.cells.size=size) (hsz:0<size)
  (v:Value) (n:Nat) (xs:List Value) (hown:w.ownsRow 0 e size v n xs)
  (a:Addr) (m c:Nat) (news:List Value) (hl:news.length=m*size) (hnews:∀j u,news[j]?=AA u->w.cell? (a.add j)=AA u) (h1:∀u∈news,u.oneCell'=AC)
  (h63:n+m<=maxLen) (hbytes:(n+m)*bytes<=140737488355328):
  ∃v' w',(DB #[t,t] ty #[v,.slice (AA a) m c]).run P w=.ok v' w'/\w'.ownsRow 0 e size v' (n+m) (xs++news)/\w.grownBy w' v.ownBlock/\
   (∀b,v'.ownBlock=AA b->v.ownBlock=AA b\/b=w.heap.size):=by
 subst hsize;subst hby;have hsmall:n+m<=9223372036854775807:=by simp only[maxLen]at h63;omega
 have hlen:(xs++news).length=(n+m)*i.size:=by rw[A2,hown.1,hl,vao]
 have grown:∀(old:Nat),old<n+m->∀(row:Option Nat),
   (w.drew.alloc (.cells (xs.toArray++news.toArray++CT z.cells (grownCap w (n+m) old e-(n+m))) e)).ownsRow 0 e i.size
    (.slice (AA ⟨w.heap.size,0,AB⟩) (n+m) (grownCap w (n+m) old e)) (n+m) (xs++news)/\
   w.grownBy (w.drew.alloc (.cells (xs.toArray++news.toArray++CT z.cells (grownCap w (n+m) old e-(n+m))) e)) row:=by
  intro old ho row;have hge:=grownCap_ge w (n+m) old e;have hcm:grownCap w (n+m) old e<=maxLen:=grownCap_le_maxLen w (n+m) old e h63;refine⟨⟨hlen,.inr ⟨w.heap.size,_,_,rfl,CH _,vaq w.drew _,hge,hcm,?_,?_⟩⟩,⟨rfl,rfl,rfl,by simp,λk hk _=>@heap_alloc_old w.drew _ k hk⟩⟩
  .simp only[Array.size_append,DM,size_zeroCells,hzs,hown.1,hl,<-vao];congr 1;omega
  .simp only[vaj,vaz];rw[<-vaz,<-hlen];exact List.take_left
 have hnb:∀{len cap b:Nat},(Value.slice (AA ⟨w.heap.size,0,AB⟩) len cap).ownBlock=AA b->b=w.heap.size:=λh=>by
  simp only[CO,AK]at h;exact h.symm
 rcases hown.2 with⟨rfl,rfl⟩|⟨g,cap,cur,rfl,hbg,hg,hnc,hcm,hcs,htake⟩
 .have hx:xs=[]:=vav (by simpa using hown.1);subst hx;by_cases hm:m=0
  .subst hm;have hn:news=[]:=vav (by simpa using hl);subst hn;refine⟨.slice AB 0 0,w,?_,World.ownsRow_nil w 0 e i.size,⟨rfl,rfl,rfl,A4 _,λ_ _ _=>rfl⟩,λb hb=>.inl hb⟩;simp[DB,BQ ht,Go.sizeOf,typeInfo,hi,Builtin.lenOf,Builtin.firstCells,loadCells,loadCellsFrom]
  .have hr:=run_append_nil (P:=P) w t ty e i z ht hi hz a m c news hl hnews AG AG (by have hb:=hbytes;simp only[BU]at hb;omega);have hgr:=grown 0 AG (CO (.slice AB 0 0));simp only[BU,vac,Array.empty_append]at hgr ⊢;exact⟨_,_,hr,hgr.1,hgr.2,λb hb=>.inr (hnb hb)⟩
 .by_cases hroom:n+m<=cap
  .have hfit:n*i.size+news.length<=cur.size:=by rw[hl,hcs,<-vao];exact CR _ hroom
   have hr:=run_append_room (P:=P) w t ty e i ht hi g n cap cur hg a m c news hl hnews h1 hroom hfit;refine⟨_,_,hr,⟨hlen,.inr ⟨g,cap,_,rfl,hbg,vbx w g cur _ e _ hg,hroom,hcm,?_,?_⟩⟩,⟨rfl,rfl,rfl,by simp,λk _ hk=>setRow_other w g k _ (λe=>hk (by simp[CO,e]))⟩,λb hb=>.inl hb⟩
   .simp only[DM,A2,BL,DA,C1];omega
   .rw[htake,<-hlen];exact List.take_left
  .have holds:∀j u,xs[j]?=AA u->w.cell? ((⟨g,0,AB⟩:Addr).add j)=AA u:=hown.cells (g:=g) rfl;have hr:=run_append_grow (P:=P) w t ty e i z ht hi hz ⟨g,0,AB⟩ n cap xs hown.1 holds a m c news hl hnews AG AG (growslice_fits AG hbytes);have hgr:=grown cap AG (CO (.slice (AA ⟨g,0,AB⟩) n cap));exact⟨_,_,hr,hgr.1,hgr.2,λb hb=>.inr (hnb hb)⟩
theorem Zq{P:Program}{t t' ty e e':TypeId}{w:World}(h:P.underlying t=AA (.slice e))(h':P.underlying t'=AA (.slice e')){q p:Option Addr}{n cap m c:Nat}:
  (DB #[t,t'] ty #[.slice q n cap,.slice p m c]).run P w=(DB #[t,t] ty #[.slice q n cap,.slice p m c]).run P w:=by
 cases hi:P.info? e<;>simp[DB,BQ h,BQ h',Go.sizeOf,typeInfo,hi]
theorem Zn{P:Program}{w:World}{t ty e:TypeId}{i:TypeInfo}(ht:P.underlying t=AA (.slice e))(hi:P.info? e=AA i){p:Option Addr}{n cap c:Nat}(hc:n<=cap):
  (DB #[t,t] ty #[.slice p n cap,.slice AB 0 c]).run P w=.ok (.slice p n cap) w:=by
 cases p<;>simp[DB,BQ ht,Go.sizeOf,typeInfo,hi,Builtin.lenOf,Builtin.firstCells,hc,storeCells]
theorem Kd.Rel.one{w:World}{O:Nat->Prop}{k:Kd}{x:IV}{v:Value}(h:Kd.Rel w O k x v):v.oneCell'=AC:=by
 cases k with
 |int k=>simp only[Kd.Rel]at h;rw[h.1];rfl
 |bool=>simp only[Kd.Rel]at h;rw[h];rfl
 |str=>simp only[Kd.Rel]at h;rw[h.1];rfl
 |list ag ks=>simp only[Kd.Rel]at h;obtain⟨p,c,hv,_⟩:=h;rw[hv];rfl
def VN(w:World)(b o n:Nat):List Value:=(vaQ n).map λq=>(w.cell? ⟨b,o+q,AB⟩).getD undef
theorem k8(w:World)(b o n:Nat):(VN w b o n).length=n:=by simp[VN]
theorem qE(w:World)(b o n q:Nat)(h:q<n):(VN w b o n)[q]?=AA ((w.cell? ⟨b,o+q,AB⟩).getD undef):=by simp[VN,h]
theorem cf{w:World}{O:Nat->Prop}{ag:Bool}{ks:List Kd}{l:LI}{b o:Nat}(hks:0<ks.length)
  (hr:∀i y,l[i]?=AA y->Kd.RelAll w O ks (GK ag y) 0 (λj u=>w.cell? ⟨b,o+i*ks.length+j,AB⟩=AA u)):
  (∀j u,(VN w b o (l.length*ks.length))[j]?=AA u->w.cell? ⟨b,o+j,AB⟩=AA u)/\(∀u∈VN w b o (l.length*ks.length),u.oneCell'=AC)/\
   ∀i y,l[i]?=AA y->Kd.RelAll w O ks (GK ag y) 0 (λj u=>(VN w b o (l.length*ks.length))[i*ks.length+j]?=AA u):=by
 have key:∀q,q<l.length*ks.length->∃u,w.cell? ⟨b,o+q,AB⟩=AA u/\u.oneCell'=AC:=by
  intro q hq;have h1:q/ks.length<l.length:=(Nat.div_lt_iff_lt_mul hks).2 hq;have h2:=hr (q/ks.length) l[q/ks.length] (BD h1);rw[Kd.RelAll_iff]at h2;have h3:q%ks.length<ks.length:=Nat.mod_lt _ hks;obtain⟨u,hu,hk⟩:=h2 (q%ks.length) ks[q%ks.length] (BD h3);refine⟨u,?_,hk.one⟩;rw[<-hu];congr 2
  have:=Nat.div_add_mod q ks.length
  rw[Nat.mul_comm]at this;omega
 refine⟨λj u hj=>?_,λu hu=>?_,λi y hy=>?_⟩
 .have hjl:j<l.length*ks.length:=by
   rcases DN j (l.length*ks.length)with h'|h'
   .exact h'
   .rw[B8 (by rw[k8];exact h')]at hj;cases hj
  obtain⟨u',hu',_⟩:=key j hjl;rw[qE _ _ _ _ _ hjl,hu',vam,AK]at hj;rw[hu',hj]
 .obtain⟨j,hj⟩:=List.mem_iff_getElem?.1 hu;have hjl:j<l.length*ks.length:=by
   rcases DN j (l.length*ks.length)with h'|h'
   .exact h'
   .rw[B8 (by rw[k8];exact h')]at hj;cases hj
  obtain⟨u',hu',h1⟩:=key j hjl;rw[qE _ _ _ _ _ hjl,hu',vam,AK]at hj;rw[<-hj];exact h1
 .have hil:i<l.length:=by
   rcases DN i l.length with h'|h'
   .exact h'
   .rw[B8 h']at hy;cases hy
  have h2:=hr i y hy;rw[Kd.RelAll_iff]at h2 ⊢;intro j k hj;obtain⟨u,hu,hk⟩:=h2 j k hj;have hjl:j<ks.length:=by
   rcases DN j ks.length with h'|h'
   .exact h'
   .rw[B8 h']at hj;cases hj
  refine⟨u,?_,hk⟩;have hq:i*ks.length+(0+j)<l.length*ks.length:=by
   have e1:(i+1)*ks.length<=l.length*ks.length:=CR _ hil;rw[vaW]at e1;omega
  rw[qE _ _ _ _ _ hq,<-vaJ o,hu];rfl
section
variable {B:BT} {nt:Nat} {w0:World} {X:Zone} {γ:Nat→Value} {st st':St} {a:Act} {w:World} {P:Program} {E:Env}
theorem zbN{e size n m cap:Nat}{p:Option Addr}{xs:List Value}(h:w.ownsRow 0 e size (.slice p n cap) n xs)(hm:m<=n):w.ownsRow 0 e size (.slice p m cap) m (xs.take (m*size)):=by
 have hx:=h.1;refine⟨by rw[BL,hx,vaG (CR _ hm)],?_⟩;rcases h.2 with⟨h1,rfl⟩|⟨g,cap',cur,h1,h2,h3,h4,h5,h6,h7⟩
 .simp only[CW]at h1;obtain⟨rfl,_,rfl⟩:=h1;obtain rfl:m=0:=by omega
  exact .inl ⟨rfl,rfl⟩
 .simp only[CW]at h1;obtain⟨rfl,_,rfl⟩:=h1;refine .inr ⟨g,cap,cur,rfl,h2,h3,by omega,h5,h6,?_⟩;rw[<-h7,List.take_take,vaG (CR _ hm)]
theorem y3(hT:TiOK P B E)(h:Rel B nt w0 X γ st a w){d ty e:Nat}(hd9:d≠900000)(hpos:0<(E.tyd e).size)(he6:e<1000000){s:V}{sv:Value}(hs:VRel γ st.o w (DY X γ st.o) s sv)
  {l:LI} {v:V} {us:List Upd} (he:(P1 st.o d e (E.tyd e).agg (E.tyd e).ks (E.tyd e).bytes s l).get=AA (v,us))
  {ts:Array TypeId} {av:Value}
  (hcore:∀(n:Nat) (xs:List Value),w.ownsRow 0 e (E.tyd e).size sv n xs->(n+l.length)*(E.tyd e).bytes<=EL->
   ∃x w' news,(DB ts ty #[sv,av]).run P w=.ok x w'/\w'.ownsRow 0 e (E.tyd e).size x (n+l.length) (xs++news)/\w.grownBy w' sv.ownBlock/\
    (∀b,x.ownBlock=AA b->sv.ownBlock=AA b\/b=w.heap.size)/\news.length=l.length*(E.tyd e).size/\
    ∀i y,l[i]?=AA y->Kd.RelAll w (DY X γ st.o) (E.tyd e).ks (GK (E.tyd e).agg y) 0 (λj u=>news[i*(E.tyd e).ks.length+j]?=AA u)):
  ∃γ' x w',(DB ts ty #[sv,av]).run P w=.ok x w'/\Rel B nt w0 X γ' (st.ups us) a w'/\VRel γ' (st.ups us).o w' (DY X γ' (st.ups us).o) v x:=by
 have hsn:=hT.size (t:=e) hpos;have hks:=hsn.ks;have main:∀(n:Nat) (l0:LI) (xs:List Value) (kl:List Nat),w.ownsRow 0 e (E.tyd e).size sv n xs->l0.length=n->
   (∀b,sv.ownBlock=AA b->pD γ st.o kl b)->(∀i y,l0[i]?=AA y->Kd.RelAll w (DY X γ st.o) (E.tyd e).ks (GK (E.tyd e).agg y) 0 (λj u=>xs[i*(E.tyd e).ks.length+j]?=AA u))->
   (n+l.length)*(E.tyd e).bytes<=EL->
   ∃x w',(DB ts ty #[sv,av]).run P w=.ok x w'/\
    Rel B nt w0 X (λm=>if d=m then x else γ m) (St.up ⟨st.t,PB st.o kl⟩ (.new d (.row AC e (E.tyd e).agg (E.tyd e).ks (l0++l)))) a w'/\
    ∃p' cap,x=.slice p' (n+l.length) cap/\n+l.length<=cap/\cap<=maxLen:=by
  intro n l0 xs kl hown hl0 hkl hr0 hbd;have hb1:=hsn.by1;have hle:n+l.length<=70368744177664:=by
   have:=vaN (n+l.length) (show 0<(E.tyd e).bytes by omega)
   simp only[EL]at hbd;omega
  obtain⟨x,w',news,hrun,hown',hgrow,hblk,hnl,hnr⟩:=hcore n xs hown hbd;have hown2:=hown';obtain⟨p',cap,hx,hcap,hcm⟩:∃p' cap,x=.slice p' (n+l.length) cap/\n+l.length<=cap/\cap<=maxLen:=by
   rcases hown'.2 with⟨h1,h2⟩|⟨g,cap,cur,h1,_,_,h4,h5,_⟩
   .exact⟨AB,0,by rw[h1,h2],by omega,by simp[maxLen]⟩
   .exact⟨_,cap,h1,h4,h5⟩
  refine⟨x,w',hrun,Rel.new h kl d hd9 _ x (Keep.grown hgrow (λg hg=>hkl g hg)) (λb hb=>?_) (λO' hO hcmp=>?_),p',cap,hx,hcap,hcm⟩
  .refine⟨(hown'.lt b hb).2,?_⟩;rcases hblk b hb with h1|h1
   .exact .inr (hkl b h1)
   .exact .inl AG
  .have hk':Keep (DY X γ st.o) w w':=Keep.grown hgrow (λg hg=>by obtain⟨n',_,ob,h1,h2⟩:=hkl g hg;exact .inl ⟨n',ob,h1,h2⟩);simp only[ObRel];refine⟨by rw[hks];exact hpos,by rw[A2,hl0];unfold strMax;omega,xs++news,?_,λi y hy=>?_⟩
   .rw[A2,hl0,hks];exact OwnRow.of hown' he6
   .refine Kd.RelAll.mono hk' hO (λ_ _ h=>h) ?_;rw[vah]at hy;split at hy
    .rename_i hlt;refine Kd.RelAll.mono (Keep.refl _ w) (λ_ _ h=>h) (λj u hu=>?_) (hr0 i y hy);rw[List.getElem?_append_left]
     .exact hu
     .rcases DN (i*(E.tyd e).ks.length+j) xs.length with h'|h'
      .exact h'
      .rw[B8 h']at hu;cases hu
    .rename_i hlt;refine Kd.RelAll.mono (Keep.refl _ w) (λ_ _ h=>h) (λj u hu=>?_) (hnr (i-l0.length) y hy);have hxl:=hown.1;rw[List.getElem?_append_right]
     .rw[<-hu];congr 1;rw[hxl,hks,<-hl0,Nat.sub_mul]
      have:l0.length*(E.tyd e).size<=i*(E.tyd e).size:=CR _ AG
      omega
     .rw[hxl,hks,<-hl0]
      have:l0.length*(E.tyd e).size<=i*(E.tyd e).size:=CR _ AG
      omega
 unfold P1 at he;split at he
 .obtain⟨hk,he⟩:=T.get_when he;simp only[T.get,AK,A1]at he;obtain⟨rfl,rfl⟩:=he;simp only[AZ]at hk;simp only[VRel]at hs;subst hs;obtain⟨x,w',h1,h2,p',cap,h3,h4,h5⟩:=main 0 [] [] [] (World.ownsRow_nil w 0 e _) rfl (λb hb=>by simp[CO]at hb) (λi y hy=>by simp at hy) (by simpa using hk);refine⟨_,x,w',h1,h2,?_⟩;simp only[St.ups,VRel,GS,CX,HM];simp only[BU]at h3 h4;refine⟨A4 _,p',_,cap,p',h3,by rw[h3];simp,CH _,A4 _,h4,h5,.inl ?_,λ_=>rfl⟩;cases p'<;>simp[Addr.add]
 .rename_i n lo hi;split at he
  .rename_i e' ag' ks' l0 hob;split at he
   .rename_i hc;obtain⟨hk,he⟩:=T.get_when he;simp only[T.get,AK,A1]at he;obtain⟨rfl,rfl⟩:=he;simp only[AZ]at hk;simp only[AQ]at hc;obtain⟨⟨⟨hc1,hc2⟩,hc3⟩,hc4⟩:=hc;obtain rfl:=F1.1 hc1;obtain rfl:=F1.1 hc2;have hkk:=YQ hc4;simp only[Kd.list.injEq]at hkk;obtain⟨rfl,rfl⟩:=hkk;simp only[VRel,hob]at hs;obtain⟨hlen,q,len,cap,q',hg,hv,_,h2,h3,hm,_,h5⟩:=hs;rw[h5 rfl,vas,vas]at hv;have hor:=h.ob n _ hob;simp only[ObRel]at hor;obtain⟨hkp,hstr,xs,hx,hrx⟩:=hor;rw[hks]at hx;have hx':=hx.plain he6;have hlen':len=l0.length:=by
     rcases hx'.2 with⟨h6,h7⟩|⟨g,cap',cur,h6,_⟩
     .rw[hg]at h6;simp only[CW]at h6;omega
     .rw[hg]at h6;simp only[CW]at h6;exact h6.2.1
    subst hlen';rw[hg]at hx';have hsh:=zbN hx' hlen;rw[<-hv]at hsh;obtain⟨x,w',h1,h2,p',cap',h3,h4,h6⟩:=main hi (l0.take hi) (xs.take (hi*(E.tyd e).size)) [n] hsh (by rw[BL,vaG hlen])
     (λb hb=>⟨n,by simp,_,hob,by simp only[FE];rw[hg];rw[hv]at hb;cases q<;>first|(simp[CO]at hb;done)|simpa[CO]using hb⟩)
     (λi y hy=>by
      rw[C3]at hy;split at hy
      .rename_i hlt;have h7:=hrx i y hy;rw[Kd.RelAll_iff]at h7 ⊢;intro j k hj;obtain⟨u,hu,hk⟩:=h7 j k hj;refine⟨u,?_,hk⟩;have hjl:j<(E.tyd e).ks.length:=by
        rcases DN j (E.tyd e).ks.length with h'|h'
        .exact h'
        .rw[B8 h']at hj;cases hj
       rw[C3,BX]
       .exact hu
       .have e1:(i+1)*(E.tyd e).ks.length<=hi*(E.tyd e).ks.length:=CR _ hlt;rw[vaW]at e1;rw[hks]at e1 hjl ⊢;omega
      .cases hy) hk
    refine⟨_,x,w',h1,h2,?_⟩;simp only[St.ups,St.up,VRel,EP,CX];have hll:(l0.take hi++l).length=hi+l.length:=by rw[A2,BL,vaG hlen]
    refine⟨by rw[hll];exact A4 _,p',_,cap',p',h3,by rw[h3];simp,CH _,A4 _,h4,h6,.inl ?_,λ_=>rfl⟩;cases p'<;>simp[Addr.add]
   .simp[T.get]at he
  .simp[T.get]at he
 .simp[T.get]at he
theorem pM(hT:TiOK P B E)(h:Rel B nt w0 X γ st a w){d t t' ty e e':Nat}(hd9:d≠900000)(ht:P.underlying t=AA (.slice e))(ht':P.underlying t'=AA (.slice e'))(hpos:0<(E.tyd e).size)(he6:e<1000000){s:V}{sv:Value}(hs:VRel γ st.o w (DY X γ st.o) s sv)
  {l:LI} {v:V} {us:List Upd} (he:(P1 st.o d e (E.tyd e).agg (E.tyd e).ks (E.tyd e).bytes s l).get=AA (v,us))
  {p:Option Addr} {c:Nat} (hp0:0<l.length->∃b o,p=AA ⟨b,o,AB⟩)
  (hr:∀i y,l[i]?=AA y->∃b o,p=AA ⟨b,o,AB⟩/\b<w.heap.size/\Kd.RelAll w (DY X γ st.o) (E.tyd e).ks (GK (E.tyd e).agg y) 0 (λj u=>w.cell? ⟨b,o+i*(E.tyd e).ks.length+j,AB⟩=AA u)):
  ∃γ' x w',(DB #[t,t'] ty #[sv,.slice p l.length c]).run P w=.ok x w'/\Rel B nt w0 X γ' (st.ups us) a w'/\VRel γ' (st.ups us).o w' (DY X γ' (st.ups us).o) v x:=by
 have hsn:=hT.size (t:=e) hpos;obtain⟨i,z,hi,hz,hzs,hsz,hby,_⟩:=UM hsn;have hks:=hsn.ks;refine y3 hT h hd9 hpos he6 hs he (λn xs hown hbd=>?_);have hb1:=hsn.by1;have hle:n+l.length<=70368744177664:=by
  have:=vaN (n+l.length) (show 0<(E.tyd e).bytes by omega)
  simp only[EL]at hbd;omega
 obtain⟨q,cap0,hq,hqc⟩:∃q cap,sv=.slice q n cap/\n<=cap:=by
  rcases hown.2 with⟨h1,h2⟩|⟨g,cap,cur,h1,_,_,h4,_⟩
  .exact⟨AB,0,by rw[h1,h2],by omega⟩
  .exact⟨_,cap,h1,h4⟩
 rw[hq,Zq ht ht',<-hq];cases hp:p with
 |none=>
  have hl0:l=[]:=by
   rcases Nat.eq_zero_or_pos l.length with h0|h0
   .exact vav h0
   .obtain⟨b,o,h1⟩:=hp0 h0;rw[hp]at h1;cases h1
  subst hl0;refine⟨sv,w,[],?_,by simpa using hown,⟨rfl,rfl,rfl,A4 _,λ_ _ _=>rfl⟩,λb hb=>.inl hb,by simp,λi y hy=>by simp at hy⟩;rw[hq];exact Zn ht hi hqc
 |some ad=>
  obtain⟨b,o,spot⟩:=ad;by_cases hl0:l=[]
  .subst hl0;obtain⟨x,w',h1,h2,h3,h4⟩:=y4 w t ty e i z (E.tyd e).size (E.tyd e).bytes ht hi hz hsz hby hzs hpos sv n xs hown ⟨b,o,spot⟩ 0 c [] (by simp) (λj u hj=>by simp at hj) (λu hu=>by cases hu) (by unfold maxLen;omega) (by simp only[EL]at hbd;simp only[BN,DJ]at hbd ⊢;omega);exact⟨x,w',[],h1,h2,h3,h4,by simp,λi y hy=>by simp at hy⟩
  .obtain⟨b',o',hp'⟩:=hp0 (List.length_pos_iff.2 hl0);rw[hp]at hp';simp only[AK,DI]at hp';obtain⟨rfl,rfl,rfl⟩:=hp';have hr':∀i y,l[i]?=AA y->Kd.RelAll w (DY X γ st.o) (E.tyd e).ks (GK (E.tyd e).agg y) 0 (λj u=>w.cell? ⟨b,o+i*(E.tyd e).ks.length+j,AB⟩=AA u):=by
    intro i y hy;obtain⟨b1,o1,h1,_,h2⟩:=hr i y hy;rw[hp]at h1;simp only[AK,DI]at h1;obtain⟨rfl,rfl,_⟩:=h1;exact h2
   obtain⟨c1,c2,c3⟩:=cf (by rw[hks];exact hpos) hr';rw[hks]at c1 c2 c3;obtain⟨x,w',h1,h2,h3,h4⟩:=y4 w t ty e i z (E.tyd e).size (E.tyd e).bytes ht hi hz hsz hby hzs hpos sv n xs hown ⟨b,o,AB⟩ l.length c (VN w b o (l.length*(E.tyd e).size)) (k8 _ _ _ _)
    (λj u hj=>by rw[va3];exact c1 j u hj) c2 (by unfold maxLen;omega) (by simp only[EL]at hbd;omega)
   refine⟨x,w',_,h1,h2,h3,h4,k8 _ _ _ _,λi y hy=>?_⟩;rw[hks];exact c3 i y hy
theorem Vt(z:Array Value)(n i j:Nat)(hi:i<n)(hj:j<z.size):(CT z n).toList[i*z.size+j]?=z[j]?:=by
 have hb:i*z.size+j<n*z.size:=by
  have e1:(i+1)*z.size<=n*z.size:=CR _ hi;rw[vaW]at e1;omega
 have hm:(i*z.size+j)%z.size=j:=by rw[Nat.mul_comm,Nat.mul_add_mod,Nat.mod_eq_of_lt hj]
 simp only[CT,vaE,Array.getElem?_map];simp[hb,hm];rw[getElem!_pos z j hj];simp[hj]
theorem Zo{P:Program}(w:World)(t tn ty e:TypeId)(i:TypeInfo)(z:Value)(kq kn:IntKind)(ht:P.underlying t=AA (.slice e))(htn:P.underlying tn=AA (.int kn))(hi:P.info? e=AA i)(hz:i.zero=AA z)
  (g sLen sCap:Nat) (cur:Array Value) (hg:w.heap[g]?=AA (.cells cur e (0,0))) (k:Nat) (h0:0<k) (hs:0<i.size) (hk:k<=1000) (h48:k*i.bytes<=281474976710656) (h1:∀u∈(CT z.cells k).toList,u.oneCell'=AC)
  (hroom:sLen+k<=sCap) (hfit:sLen*i.size+(CT z.cells k).toList.length<=cur.size):
  (DB #[t,tn] ty #[.slice (AA ⟨g,0,AB⟩) sLen sCap,.int kq k]).run P w=
   .ok (.slice (AA ⟨g,0,AB⟩) (sLen+k) sCap) (w.setRow g (cur.toList.take (sLen*i.size)++(CT z.cells k).toList++cur.toList.drop (sLen*i.size+(CT z.cells k).toList.length)).toArray):=by
 have hk0:k≠0:=by omega
 have hw:AJ.wrap (k:Int)=k:=by simp[AI,vak,AT];omega
 have h48i:¬(281474976710656<(k:Int)*(i.bytes:Int)):=by
  rw[<-Int.natCast_mul];omega
 have hneg:¬((k:Int)<0):=by omega
 have hns:¬(k*i.size=0):=Nat.mul_ne_zero hk0 AG;have hst:=run_storeCells_at P g (sLen*i.size) e (CT z.cells k).toList 0 cur w hg (by simpa using hfit) h1;simp only[DJ]at hst;simp[DB,BQ ht,BQ htn,sizeOf,typeInfo,zeroValue,hi,hz,asInt,asIntOf,hw,hroom,hneg,hns,h48i,Addr.add_lit,hst]
theorem uo{k:Kd}{v:V}{x:IV}(h:NO [] k v=AA x)(o:Store):NO o k v=AA x:=by
 cases k<;>cases v<;>simp only[NO]at h ⊢ <;>first|exact h|(simp[DV,FA]at h)
theorem s9:∀{ks:List Kd} {vs:List V} {l:LI},K1 [] ks vs=AA l->∀o:Store,K1 o ks vs=AA l
 |[],[],_,h,_=>h
 |k::ks,v::vs,l,h,o=>by
  simp only[K1]at h ⊢;split at h
  .rename_i x hx;rw[uo hx o];simp only;split at h
   .rename_i r hr;rw[s9 hr o];exact h
   .cases h
  .cases h
 |[],_::_,_,h,_=>by simp[K1]at h
 |_::_,[],_,h,_=>by simp[K1]at h
theorem fe{ag:Bool}{ks:List Kd}{v:V}{x:IV}(h:Q4 [] ag ks v=AA x)(o:Store):Q4 o ag ks v=AA x:=by
 unfold Q4 at h ⊢;split at h
 .split at h
  .rename_i l hl;rw[s9 hl o];exact h
  .cases h
 .split at h
  .rename_i y l hl;rw[s9 hl o];exact h
  .cases h
 .cases h
theorem Dt{ag:Bool}{ks:List Kd}{sz:Nat}:∀{n:Nat} {cs:List V} {l:LI},N9 ag ks [] cs sz n=AA l->∀o:Store,N9 ag ks o cs sz n=AA l
 |0,_,_,h,_=>h
 |n+1,cs,l,h,o=>by
  simp only[N9]at h ⊢;split at h
  .rename_i x r hx hr;rw[fe hx o,Dt hr o];exact h
  .cases h
theorem Zl(hT:TiOK P B E)(h:Rel B nt w0 X γ st a w){d t t' ty e:Nat}(hd9:d≠900000)(ht:P.underlying t=AA (.slice e))(ht':∀k,(E.tyd t').ks=[.int k]->P.underlying t'=AA (.int k)){s x:V}{sv xv:Value}(hs:VRel γ st.o w (DY X γ st.o) s sv)(hx:VRel γ st.o w (DY X γ st.o) x xv)
  {v:V} {us:List Upd} (he:(Z5 st.o d e (E.tyd e) (E.tyd t').ks s x).get=AA (v,us)):
  ∃γ' y w',(DB #[t,t'] ty #[sv,xv]).run P w=.ok y w'/\Rel B nt w0 X γ' (st.ups us) a w'/\VRel γ' (st.ups us).o w' (DY X γ' (st.ups us).o) v y:=by
 unfold Z5 at he;split at he
 .rename_i kn kq k z zr hks' hc;split at he
  .rename_i hk;simp only[AQ,AZ,List.isEmpty_iff]at hk;obtain⟨hk1,hk2,hk3,hk4,hk5⟩:=hk;simp only[VRel]at hx;obtain⟨rfl,_⟩:=hx;obtain⟨m,rfl⟩:∃m:Nat,k=m:=⟨k.toNat,by omega⟩;simp only[BE]at he;have hpos:=AX hk1;have he6:e<1000000:=AX hk2;have hsn:=hT.size (t:=e) hpos;have hb1:=hsn.by1;obtain⟨i,zv,hi,hz,hzs,hsz,hby,hzr⟩:=UM hsn;have hks:=hsn.ks;have hz':=Frz.of h (E.tyd e).zero;rw[hk5]at hz';obtain⟨_,hr⟩:=gU hz' hsn.ks (λha=>hsn.one ha) (λv hv=>hv) (Dt hc st.o) (hzr γ st.o w (DY X γ st.o));have hr0:=hr 0 z rfl;refine y3 hT h hd9 hpos he6 hs he (λn xs hown hbd=>?_);rw[List.length_replicate]at hbd ⊢;have hle:n+m<=70368744177664:=by
    have:=vaN (n+m) (show 0<(E.tyd e).bytes by omega)
    simp only[EL]at hbd;omega
   have hmb:m*(E.tyd e).bytes<=70368744177664:=by
    have:=CR (E.tyd e).bytes (Nat.le_add_left m n)
    simp only[EL]at hbd;omega
   have hnl:(CT zv.cells m).toList.length=m*(E.tyd e).size:=by rw[C1,size_zeroCells,hzs]
   have hone:∀u∈(CT zv.cells m).toList,u.oneCell'=AC:=λu hu=>by
    obtain⟨q,hq⟩:=List.getElem?_of_mem hu;have hql:q<m*(E.tyd e).size:=by
     rcases DN q (m*(E.tyd e).size)with h'|h'
     .exact h'
     .rw[B8 (by rw[hnl];exact h')]at hq;cases hq
    have hdiv:q/(E.tyd e).size<m:=(Nat.div_lt_iff_lt_mul hpos).2 hql;have hmod:q%(E.tyd e).size<(E.tyd e).size:=Nat.mod_lt _ hpos;have hqe:q=q/(E.tyd e).size*zv.cells.size+q%(E.tyd e).size:=by rw[hzs,Nat.mul_comm];exact(Nat.div_add_mod q _).symm
    rw[hqe,Vt _ _ _ _ hdiv (by rw[hzs];exact hmod)]at hq;rw[Kd.RelAll_iff]at hr0;obtain⟨kd,hkd⟩:∃kd,(E.tyd e).ks[q%(E.tyd e).size]?=AA kd:=⟨_,BD (by rw[hks];exact hmod)⟩;obtain⟨u',hu',hrel⟩:=hr0 _ kd hkd;simp only[Nat.zero_mul,BU,vaE]at hu';rw[hq]at hu';simp only[AK]at hu';subst hu';exact Kd.Rel.one hrel
   have hnr:∀i' y,(B6 m z)[i']?=AA y->Kd.RelAll w (DY X γ st.o) (E.tyd e).ks (GK (E.tyd e).agg y) 0 (λj u=>(CT zv.cells m).toList[i'*(E.tyd e).ks.length+j]?=AA u):=λi' y hy=>by
    rw[List.getElem?_replicate]at hy;split at hy
    .rename_i hlt;simp only[AK]at hy;subst hy;rw[Kd.RelAll_iff]at hr0 ⊢;intro j kd hj;obtain⟨u,hu,hkr⟩:=hr0 j kd hj;refine⟨u,?_,hkr⟩;have hjl:j<(E.tyd e).size:=by
      rw[<-hks];rcases DN j (E.tyd e).ks.length with h'|h'
      .exact h'
      .rw[B8 h']at hj;cases hj
     simp only[BU,Nat.zero_mul,vaE]at hu ⊢;rw[hks,<-hzs,<-vaE,Vt _ _ _ _ hlt (by rw[hzs];exact hjl)];exact hu
    .cases hy
   have htn:=ht' kn hks';have hxs:=hown.1;have grown:∀(old:Nat),(w.drew.alloc (.cells (xs.toArray++CT zv.cells m++CT zv.cells (grownCap w (n+m) old e-(n+m))) e)).ownsRow 0 e (E.tyd e).size
      (.slice (AA ⟨w.heap.size,0,AB⟩) (n+m) (grownCap w (n+m) old e)) (n+m) (xs++(CT zv.cells m).toList):=λold=>by
    have hge:=grownCap_ge w (n+m) old e;have hcm:grownCap w (n+m) old e<=maxLen:=grownCap_le_maxLen w (n+m) old e (by unfold maxLen;omega);have hlen:(xs++(CT zv.cells m).toList).length=(n+m)*(E.tyd e).size:=by rw[A2,hxs,hnl,vao]
    refine⟨hlen,.inr ⟨w.heap.size,_,_,rfl,CH _,vaq w.drew _,hge,hcm,?_,?_⟩⟩
    .simp only[Array.size_append,DM,size_zeroCells,hzs,hxs,<-vao];congr 1;omega
    .simp only[vaj];rw[<-hlen];exact List.take_left
   have gb:∀(old:Nat) (row:Option Nat),w.grownBy (w.drew.alloc (.cells (xs.toArray++CT zv.cells m++CT zv.cells (grownCap w (n+m) old e-(n+m))) e)) row:=λold row=>
    ⟨rfl,rfl,rfl,by simp,λk hk _=>@heap_alloc_old w.drew _ k hk⟩
   have hnb:∀{len cap b:Nat},(Value.slice (AA ⟨w.heap.size,0,AB⟩) len cap).ownBlock=AA b->b=w.heap.size:=λh=>by
    simp only[CO,AK]at h;exact h.symm
   rcases hown.2 with⟨rfl,rfl⟩|⟨g,cap,cur,rfl,hbg,hg,hnc,hcm,hcs,htake⟩
   .have hxn:xs=[]:=vav (by simpa using hxs);subst hxn;have hrun:=Lib.run_append_nil_zeros (P:=P) w t t' ty e i zv kq kn ht htn hi hz m AG (by rw[hsz];exact hpos) AG (by rw[hby];omega);have g0:=grown 0;have g1:=gb 0 (CO (.slice AB 0 0));simp only[BU,vac,Array.empty_append]at g0 g1 ⊢;exact⟨_,_,_,hrun,g0,g1,λb hb=>.inr (hnb hb),hnl,hnr⟩
   .by_cases hroom:n+m<=cap
    .have hfit:n*i.size+(CT zv.cells m).toList.length<=cur.size:=by rw[hnl,hcs,hsz,<-vao];exact CR _ hroom
     have hrun:=Zo (P:=P) w t t' ty e i zv kq kn ht htn hi hz g n cap cur hg m AG (by rw[hsz];exact hpos) AG (by rw[hby];omega) hone hroom hfit;have hlen:(xs++(CT zv.cells m).toList).length=(n+m)*(E.tyd e).size:=by rw[A2,hxs,hnl,vao]
     refine⟨_,_,_,hrun,⟨hlen,.inr ⟨g,cap,_,rfl,hbg,vbx w g cur _ e _ hg,hroom,hcm,?_,?_⟩⟩,⟨rfl,rfl,rfl,by simp,λk _ hk=>setRow_other w g k _ (λe=>hk (by simp[CO,e]))⟩,λb hb=>.inl hb,hnl,hnr⟩
     .simp only[DM,A2,BL,DA];rw[C1 (xs:=cur)];omega
     .rw[hsz,htake,<-hlen];exact List.take_left
    .have holds:∀j u,xs[j]?=AA u->w.cell? ((⟨g,0,AB⟩:Addr).add j)=AA u:=hown.cells (g:=g) rfl;have hf:=run_firstCells_some (P:=P) w.drew i.size n ⟨g,0,AB⟩ n cap xs (by rw[hsz];exact hxs) (by simpa using holds);have hrun:=Lib.run_append_grow_zeros (P:=P) w t t' ty e i zv kq kn ht htn hi hz (AA ⟨g,0,AB⟩) n cap xs hf m AG (by rw[hsz];exact hpos) AG AG (by rw[hby];omega) (by rw[hby];exact growslice_fits AG (by simp only[EL]at hbd;omega));exact⟨_,_,_,hrun,grown cap,gb cap _,λb hb=>.inr (hnb hb),hnl,hnr⟩
  .simp[T.get]at he
 .simp[T.get]at he
end
open Go Go.RowKit
section
variable {B:BT} {nt:Nat} {w0:World} {X:Zone} {γ:Nat→Value} {st st':St} {a:Act} {w:World} {P:Program} {E:Env}
theorem Zj(hT:TiOK P B E)(h:Rel B nt w0 X γ st a w){d t t' ty e e':Nat}(hd9:d≠900000)(ht:P.underlying t=AA (.slice e))(ht':P.underlying t'=AA (.slice e')){s x:V}{sv xv:Value}
  (hs:VRel γ st.o w (DY X γ st.o) s sv) (hx:VRel γ st.o w (DY X γ st.o) x xv)
  {v:V} {us:List Upd} (he:(XY st.o d e (E.tyd e) s x).get=AA (v,us)) (hpos:0<(E.tyd e).size) (he6:e<1000000):
  ∃γ' y w',(DB #[t,t'] ty #[sv,xv]).run P w=.ok y w'/\Rel B nt w0 X γ' (st.ups us) a w'/\VRel γ' (st.ups us).o w' (DY X γ' (st.ups us).o) v y:=by
 have hsn:=hT.size (t:=e) hpos;have hks:=hsn.ks;unfold XY at he;split at he
 .rename_i n c cap sz len;split at he
  .rename_i cs hob;split at he
   .rename_i hc;simp only[AQ,List.isEmpty_iff]at hc;obtain⟨hc1,hc2⟩:=hc;obtain rfl:=F1.1 hc1;obtain⟨m,_,hm,hml,he'⟩:=VO he;clear he;simp only[VRel,hob]at hx;obtain⟨hlc,hcm,hfit,b,hg,rfl⟩:=hx;have hor:=h.ob n _ hob;simp only[ObRel]at hor;obtain⟨b',xs,T,hg',hh,hr⟩:=hor;rw[hg]at hg';simp only[C6,AK,DI,CI]at hg';subst hg';split at he'
    .rename_i l hl;have hz:=Frz.of h cs;rw[hc2]at hz;simp only[E2,St.ups]at hz;obtain⟨h1,h2⟩:=gU hz hks (λha=>hsn.one ha) (λv hv=>by rw[R5]at hv;exact va7 hv) hl (by rw[R5];exact hr.drop c);obtain rfl:len=l.length:=by omega
     refine pM hT h hd9 ht ht' hpos he6 hs he' (λ_=>⟨b,c,rfl⟩) (λi y hy=>⟨b,c,rfl,(DK.1 hh).1,?_⟩);refine Kd.RelAll.mono (Keep.refl _ w) (λ_ _ h=>h) (λj u hu=>?_) (h2 i y hy);simp only[vat,vaE]at hu;simp[vaI,hh,<-hu,hks,vaJ]
    .simp[FM.T.get]at he'
   .simp[T.get]at he
  .simp[T.get]at he
 .simp only[VRel]at hx;subst hx;exact pM hT h hd9 ht ht' hpos he6 hs he (l:=[]) (λh0=>absurd h0 (by simp)) (λi y hy=>by simp at hy)
 .split at he
  .rename_i l ag ks hl hsh;split at he
   .rename_i hkd;have hkk:=YQ hkd;simp only[Kd.list.injEq]at hkk;obtain⟨rfl,rfl⟩:=hkk;obtain⟨p,c,rfl,_,_,hp,hr⟩:=Fc h hx hl hsh;exact pM hT h hd9 ht ht' hpos he6 hs he hp hr
   .simp[T.get]at he
  .simp[T.get]at he
theorem dc(hT:TiOK P B E)(h:Rel B nt w0 X γ st a w){t t' ty:Nat}{x y:V}{xv yv:Value}
  (hx:VRel γ st.o w (DY X γ st.o) x xv) (hy:VRel γ st.o w (DY X γ st.o) y yv)
  {v:V} {us:List Upd} (he:(lF E st.o t x y).get=AA (v,us)):
  ∃γ' z w',(Builtin.copy_ #[t,t'] ty #[xv,yv]).run P w=.ok z w'/\Rel B nt w0 X γ' (st.ups us) a w'/\VRel γ' (st.ups us).o w' (DY X γ' (st.ups us).o) v z:=by
 unfold lF at he;split at he
 .rename_i n c cap sz len n' c' cap' sz' len';split at he
  .rename_i cs cs' e hob hob' hd;split at he
   .rename_i hc;obtain⟨hok,he⟩:=T.get_when he;simp only[AQ]at hc;obtain⟨hc1,hc2⟩:=hc;obtain rfl:=F1.1 hc2;obtain⟨rfl,hpos⟩:=RJ hc1;obtain⟨m,_,hm,hml,he⟩:=VO he;simp only[T.get,AK,A1]at he;obtain⟨rfl,rfl⟩:=he;simp only[VRel,hob]at hx;obtain⟨hlc,hcm,hfit,b,hg,rfl⟩:=hx;simp only[VRel,hob']at hy;obtain⟨hlc',hcm',hfit',b',hg',rfl⟩:=hy;have hor:=h.ob n _ hob;simp only[ObRel]at hor;obtain⟨b1,xs,T,hg1,hh,hr⟩:=hor;rw[hg]at hg1;simp only[C6,AK,DI,CI]at hg1;subst hg1;have hor':=h.ob n' _ hob';simp only[ObRel]at hor';obtain⟨b1,ys,T',hg1,hh',hr'⟩:=hor';rw[hg']at hg1;simp only[C6,AK,DI,CI]at hg1;subst hg1;have hsn:=hT.size (t:=e) hpos;obtain⟨i,z,hi,_,_,hsz,_,_⟩:=UM hsn;have hd1:P.underlying t=AA (.slice e):=by
     obtain⟨d,hd1,_,hd2⟩:=(hT.desc (t:=t) (by rw[hd];simp)).und;rw[hd]at hd2;rw[hd1,hd2]
    have hmn:Nat.min len' len=m:=by
     have:min len' len=m:=by omega
     exact this
    have hm':m<=len'/\m<=len:=by
     have:min len' len=m:=hmn
     omega
    have hxl:=hr.length;have hyl:=hr'.length;simp only[C1]at hxl hyl;have hb1:c'+m*(E.tyd e).size<=ys.size:=by
     have:=CR (E.tyd e).size (show m<=cap' by omega)
     omega
    have hb2:c+m*(E.tyd e).size<=xs.size:=by
     have:=CR (E.tyd e).size (show m<=cap by omega)
     omega
    let src:=(ys.toList.drop c').take (m*(E.tyd e).size)
    have hsl:src.length=m*(E.tyd e).size:=by simp only[src,BL,DA,C1];omega
    have hsrc:∀j u,src[j]?=AA u->w.cell? ((⟨b',c',AB⟩:Addr).add j)=AA u:=by
     intro j u hj;simp only[src,C3,vat,vaE]at hj;split at hj
     .simp[va3,vaI,hh',hj]
     .cases hj
    have hone:=nK h hr' hok;have h1:∀u∈src,u.oneCell'=AC:=λu hu=>hone u (va7 (vaO hu))
    have hl:=run_loadCells_list (P:=P) w ⟨b',c',AB⟩ src hsrc;rw[hsl]at hl;have hst:=run_storeCells_at P b c T src 0 xs w hh (by rw[hsl];omega) h1;have hrun:(Builtin.copy_ #[t,t'] ty #[.slice (AA ⟨b,c,AB⟩) len cap,.slice (AA ⟨b',c',AB⟩) len' cap']).run P w=.ok (goInt m) (w.setRow b (xs.toList.take c++src++xs.toList.drop (c+src.length)).toArray):=by
     simp[Builtin.copy_,BQ hd1,Builtin.lenOf,Builtin.firstCells,sizeOf,typeInfo,hi,hsz,hmn,hl,hst]
    have hsrcR:VRels γ st.o w (DY X γ st.o) (PL (NK cs' c') (m*(E.tyd e).size)) src:=by
     rw[ZF,R5];exact(hr'.drop c').take _
    have hvl:(PL (NK cs' c') (m*(E.tyd e).size)).length=m*(E.tyd e).size:=by rw[hsrcR.length,hsl]
    have hfit2:c+(PL (NK cs' c') (m*(E.tyd e).size)).length<=cs.length:=by rw[hvl];omega
    have hO:FE (γ n) (.box cs) b:=⟨_,hg,rfl⟩;have hk1:Keep (FE (γ n) (.box cs)) w (w.setRow b (xs.toList.take c++src++xs.toList.drop (c+src.length)).toArray):=Keep.setRow w b _ hO;have hset:=Rel.set h hob (ob':=.box (HE cs c (PL (NK cs' c') (m*(E.tyd e).size)))) (by simp only[Ob.fits];rw[Mq hfit2]) hk1 (λb hb=>hb) (by
     intro hO' hcmp;simp only[ObRel];refine⟨b,_,_,hg,vbx w b xs _ T _ hh,?_⟩;have hp:=hr.put hsrcR hfit2;simp only;refine VRels.mono (hk1.mono (O':=DY X γ st.o) (λb' _ hb'=>.inl ⟨n,_,hob,hb'⟩)) (λb' _ hb'=>hO' b' hb') (VRels.cmp hcmp hp))
    refine⟨γ,_,_,hrun,hset,?_⟩;simp only[VRel,goInt];have hmb:(m:Int)<=9223372036854775807:=by
     have:maxLen<=9223372036854775807:=by simp[maxLen]
     omega
    refine⟨trivial,by simp[IntKind.min,vak,AT],by simpa[IntKind.max,vak,AT]using hmb⟩
   .simp[T.get]at he
  .simp[T.get]at he
 .simp[T.get]at he
end
open Go Go.RowKit
section
variable {B:BT} {nt:Nat} {w0:World} {X:Zone} {γ:Nat→Value} {st st':St} {a:Act} {w:World} {P:Program} {E:Env}
theorem iW(ρ:Operand->V):∀l:List Operand,KN ρ l=l.map ρ
 |[]=>rfl
 |x::r=>by simp[KN,iW ρ r]
theorem WC(hT:TiOK P B E){t e:Nat}(hd:(E.tyd t).d=.slice e):P.underlying t=AA (.slice e):=by
 obtain⟨d,hd1,_,hd2⟩:=(hT.desc (t:=t) (by rw[hd];simp)).und;rw[hd]at hd2;rw[hd1,hd2]
theorem oQ:FM.strMax<=maxLen:=by unfold FM.strMax maxLen;omega
theorem uw(hT:TiOK P B E)(h:Rel B nt w0 X γ st a w){t ty:Nat}{x:V}{xv:Value}(hx:VRel γ st.o w (DY X γ st.o) x xv)
  {v:V} {us:List Upd} (he:(mU E st.o t x).get=AA (v,us)):
  us=[]/\∃n:Nat,v=.int .i64 (n:Int)/\n<=maxLen/\(vaX #[t] ty #[xv]).run P w=.ok (goInt n) w:=by
 unfold mU at he;split at he
 .rename_i ag ks l;split at he
  .rename_i e hd;simp only[T.get,AK,A1]at he;obtain⟨rfl,rfl⟩:=he;simp only[VRel,Kd.Rel,IV.toList]at hx;obtain⟨p,c,rfl,_,_,hl,_⟩:=hx;exact⟨rfl,_,rfl,DD hl oQ,by simp[vaX,BQ (WC hT hd)]⟩
  .simp[T.get]at he
 .rename_i s;split at he
  .rename_i hd hk;simp only[T.get,AK,A1]at he;obtain⟨rfl,rfl⟩:=he;simp only[VRel]at hx;obtain⟨rfl,hs⟩:=hx;obtain⟨d,hd1,_,hd2⟩:=(hT.kinds (t:=t) (by rw[hk];simp)).und;rw[hd]at hd2
   have:=hd2.2.1 hk
   subst this;exact⟨rfl,_,rfl,DD hs oQ,by simp[vaX,BQ hd1]⟩
  .simp[T.get]at he
 .split at he
  .rename_i e hd;simp only[T.get,AK,A1]at he;obtain⟨rfl,rfl⟩:=he;simp only[VRel]at hx;subst hx;exact⟨rfl,0,rfl,CH _,by simp[vaX,BQ (WC hT hd)]⟩
  .simp[T.get]at he
 .rename_i n lo hi;split at he
  .rename_i e own e' ag ks l hd hob;simp only[T.get,AK,A1]at he;obtain⟨rfl,rfl⟩:=he;simp only[VRel,hob]at hx;obtain⟨hl,p,len,cap,p',hg,rfl,h1,h2,h3,h4,_⟩:=hx;refine⟨rfl,_,rfl,?_,by simp[vaX,BQ (WC hT hd)]⟩;have hor:=h.ob n _ hob
   have:l.length<=strMax:=by
    cases own with
    |true=>simp only[ObRel]at hor;exact hor.2.1
    |false=>simp only[ObRel,Kd.Rel,IV.toList]at hor;obtain⟨_,p,c,_,_,_,h5,_⟩:=hor;exact h5
   have:=oQ
   omega
  .simp[T.get]at he
 .rename_i n c cap sz len;split at he
  .rename_i e cs hd hob;simp only[T.get,AK,A1]at he;obtain⟨rfl,rfl⟩:=he;simp only[VRel,hob]at hx;obtain⟨h1,h2,h3,b,hg,rfl⟩:=hx;refine⟨rfl,_,rfl,?_,by simp[vaX,BQ (WC hT hd)]⟩;omega
  .simp[T.get]at he
 .split at he
  .rename_i n e hd;split at he
   .rename_i hn;simp only[T.get,AK,A1]at he;obtain⟨rfl,rfl⟩:=he;obtain⟨d,hd1,_,hd2⟩:=(hT.desc (t:=t) (by rw[hd];simp)).und;rw[hd]at hd2;subst hd2;refine⟨rfl,n,rfl,?_,by simp[vaX,BQ hd1]⟩
    have:=AX hn
    unfold maxLen;omega
   .simp[T.get]at he
  .simp[T.get]at he
theorem tu{o:Store}{O:Nat->Prop}{n:Nat}(h:n<=maxLen):VRel γ o w O (.int .i64 (n:Int)) (goInt n):=by
 simp only[VRel,goInt];have hmb:(n:Int)<=9223372036854775807:=by
  have:maxLen<=9223372036854775807:=by simp[maxLen]
  omega
 refine⟨trivial,by simp[IntKind.min,vak,AT],by simpa[IntKind.max,vak,AT]using hmb⟩
theorem zbm(hT:TiOK P B E)(h:Rel B nt w0 X γ st a w)(o:Oper)(hd9:∀d,o.dst=AA d->d≠900000){b:Go.Builtin}{args:Array Operand}{ats:Array TypeId}(ho:o.op=.call ⟨.builtin b,args,ats⟩){v:V}{us:List Upd}
  (he:(EJ E st.o (opd st) o.dst o.op).get=AA (v,us)):OpWp P B nt w0 X a w o st v us:=by
 rw[ho]at he;simp only[EJ,TQ]at he;obtain⟨args⟩:=args;obtain⟨ats⟩:=ats;have hex:(execOp a.eval o)=builtin b ats.toArray o.type ((args.map λ|.const _=>AC|_=>AD)).toArray (args.map a.eval).toArray:=by
  obtain⟨dst,op,type,pos,after,guard⟩:=o;simp only at ho;subst ho;rw[BigFrame.execOp_builtin];simp;rfl
 split at he
 .rename_i hb;cases hb;split at he
  .rename_i x t hx ht;simp only at hx ht;subst hx ht;obtain⟨rfl,n,rfl,hn,hr⟩:=uw (ty:=o.type) hT h (FZ h x) he;refine OpWp.pure h (x:=goInt n) ?_ (tu hn);rw[hex,BigFrame.builtin_len];simp only[A8,CN,CL,hr,B9,CM]
  .simp[T.get]at he
 .rename_i d hb hd0;cases hb;split at he
  .rename_i s x t t' hx ht;simp only at hx ht;subst hx ht;split at he
   .rename_i e e' hd hd';split at he
    .rename_i hk;simp only[AQ]at hk;obtain⟨γ',y,w',hr,h1,h2⟩:=Zj (ty:=o.type) hT h (hd9 _ hd0) (WC hT hd) (WC hT hd') (FZ h s) (FZ h x) he (AX hk.1) (AX hk.2);refine OpWp.value (x:=y) (w':=w') ?_ h1 h2;rw[hex,BigFrame.builtin_append];simp only[A8,CN,CL,hr,B9,CM]
    .simp[T.get]at he
   .rename_i e hd hd';obtain⟨γ',y,w',hr,h1,h2⟩:=Zl (ty:=o.type) hT h (hd9 _ hd0) (WC hT hd) (λk hk=>by
     obtain⟨dd,hd1,_,hd2⟩:=(hT.kinds (t:=t') (by rw[hk];simp)).und;rw[hd']at hd2;rw[hd1,hd2.1 k hk]) (FZ h s) (FZ h x) he
    refine OpWp.value (x:=y) (w':=w') ?_ h1 h2;rw[hex,BigFrame.builtin_append];simp only[A8,CN,CL,hr,B9,CM]
   .simp[T.get]at he
  .simp[T.get]at he
 .rename_i hb;cases hb;split at he
  .rename_i x y t t' hx ht;simp only at hx ht;subst hx ht;obtain⟨γ',z,w',hr,h1,h2⟩:=dc (t':=t') (ty:=o.type) hT h (FZ h x) (FZ h y) he;refine OpWp.value (x:=z) (w':=w') ?_ h1 h2;rw[hex,BigFrame.builtin_copy];simp only[A8,CN,CL,hr,B9,CM]
  .simp[T.get]at he
 .rename_i hb;cases hb;simp only[iW]at he;split at he
  .rename_i k x k' y hxy;split at he
   .rename_i hkk;simp only[T.get,AK,A1]at he;obtain⟨rfl,rfl⟩:=he;obtain rfl:k=k':=by simpa using hkk
    obtain⟨p,q,rfl,hp1,hq1⟩:∃p q,args=[p,q]/\opd st p=.int k x/\opd st q=.int k y:=by
     cases args with
     |nil=>simp at hxy
     |cons p r=>cases r with
      |nil=>simp at hxy
      |cons q r=>cases r with
       |nil=>
        simp only[A8,CN,vaD,CI]at hxy;exact⟨p,q,rfl,hxy.1,hxy.2⟩
       |cons _ _=>simp at hxy
    have hp:=FZ h p;have hq:=FZ h q;rw[hp1]at hp;rw[hq1]at hq;simp only[VRel]at hp hq;refine OpWp.pure h (x:=.int k (min x y)) ?_ ?_
    .rw[hex,BigFrame.builtin_min];have e1:(if y<x then y else x)=min x y:=by split<;>omega
     simp[Builtin.min_,Builtin.min2,hp.1,hq.1,e1]
    .simp only[VRel];exact⟨trivial,by omega,by omega⟩
   .simp[T.get]at he
  .simp[T.get]at he
 .rename_i hb;cases hb;simp only[iW]at he;split at he
  .rename_i k x k' y hxy;split at he
   .rename_i hkk;simp only[T.get,AK,A1]at he;obtain⟨rfl,rfl⟩:=he;obtain rfl:k=k':=by simpa using hkk
    obtain⟨p,q,rfl,hp1,hq1⟩:∃p q,args=[p,q]/\opd st p=.int k x/\opd st q=.int k y:=by
     cases args with
     |nil=>simp at hxy
     |cons p r=>cases r with
      |nil=>simp at hxy
      |cons q r=>cases r with
       |nil=>
        simp only[A8,CN,vaD,CI]at hxy;exact⟨p,q,rfl,hxy.1,hxy.2⟩
       |cons _ _=>simp at hxy
    have hp:=FZ h p;have hq:=FZ h q;rw[hp1]at hp;rw[hq1]at hq;simp only[VRel]at hp hq;refine OpWp.pure h (x:=.int k (max x y)) ?_ ?_
    .rw[hex,BigFrame.builtin_max];have e1:(if x<y then y else x)=max x y:=by split<;>omega
     simp[Builtin.max_,Builtin.max2,hp.1,hq.1,e1]
    .simp only[VRel];exact⟨trivial,by omega,by omega⟩
   .simp[T.get]at he
  .simp[T.get]at he
 .rename_i hb;cases hb
 .rename_i hb _;cases hb
 .simp[T.get]at he
end
open Go Go.RowKit
section
variable {B:BT} {nt:Nat} {w0:World} {X:Zone} {γ:Nat→Value} {st st':St} {a:Act} {w:World} {P:Program} {E:Env}
theorem Rel.shrink(h:Rel B nt w0 X γ st a w){F:Nat->Prop}(hF:∀b,F b->X.far b):Rel B nt w0 ⟨X.own,F⟩ γ st a w:=by
 have hO:∀b,b<w.heap.size->DY ⟨X.own,F⟩ γ st.o b->DY X γ st.o b:=λb _ hb=>hb.imp_right (hF b)
 exact⟨h.sz,h.df,λi=>VRel.mono (Keep.refl _ w) hO (h.tm i),λn ob hn=>(h.ob n ob hn).later (λ_ _=>rfl) (Keep.refl _ w) hO (Cmp.refl _ _),h.lt,h.dis,h.keep,λb hb hf=>h.nr b hb (hF b hf),λb hb=>h.fl b (hF b hb),h.pn⟩
def FC(γ:Nat->Value)(o:Store)(n b:Nat):Prop:=∃ob,DV o n=AA ob/\FE (γ n) ob b
theorem Rel.kill(h:Rel B nt w0 X γ st a w)(n:Nat):Rel B nt w0 ⟨X.own,λb=>X.far b\/FC γ st.o n b⟩ γ (st.up (.kill n)) a w:=by
 have hP:∀b,FN γ ((n,AB)::st.o) b->FN γ st.o b/\¬FC γ st.o n b:=by
  rintro b ⟨m,ob,hm,hb⟩;rw[EP]at hm;split at hm
  .cases hm
  .rename_i hne;exact⟨⟨m,ob,hm,hb⟩,λ⟨ob',hn,hb'⟩=>h.dis n m ob' ob b hne hn hm hb' hb⟩
 have hO:∀b,b<w.heap.size->DY ⟨X.own,λb=>X.far b\/FC γ st.o n b⟩ γ ((n,AB)::st.o) b->DY X γ st.o b:=by
  rintro b _ (hb|hb|⟨ob,h1,h2⟩)
  .exact .inl (hP b hb).1
  .exact .inr hb
  .exact .inl ⟨n,ob,h1,h2⟩
 have hc:Cmp γ st.o γ ((n,AB)::st.o):=by
  intro m ob hm;rw[EP]at hm;split at hm
  .cases hm
  .exact⟨rfl,ob,hm,ob.fits_refl⟩
 refine⟨h.sz,h.df,λi=>VRel.mono (Keep.refl _ w) hO (VRel.cmp hc (h.tm i)),λm ob hm=>?_,λb hb=>h.lt b (hP b hb).1,?_,h.keep,?_,?_,λp hp ob hm=>?_⟩
 .simp only[St.up]at hm ⊢;have hm':=hm;rw[EP]at hm;split at hm
  .cases hm
  .exact(h.ob m ob hm).later (λ_ _=>rfl) (Keep.refl _ w) hO hc
 .intro m1 m2 ob1 ob2 b hne h1 h2 hb1 hb2;simp only[St.up]at h1 h2;rw[EP]at h1 h2;split at h1
  .cases h1
  .split at h2
   .cases h2
   .exact h.dis m1 m2 ob1 ob2 b hne h1 h2 hb1 hb2
 .intro b hb hf;rcases hf with hf|hf
  .exact h.nr b (hP b hb).1 hf
  .exact(hP b hb).2 hf
 .intro b hb;rcases hb with hb|⟨ob,h1,h2⟩
  .exact h.fl b hb
  .exact(h.lt b ⟨n,ob,h1,h2⟩).1
 .simp only[St.up]at hm;rw[EP]at hm;split at hm
  .cases hm
  .exact h.pn p hp ob hm
theorem Rel.fresh(h:Rel B nt w0 X γ st a w){w':World}{K:Nat->Prop}(hk:Keep K w w')(hK:∀b,b<w.heap.size->K b->X.far b/\(w0.heap.size<=b\/X.own b)):
  Rel B nt w0 ⟨X.own,λb=>X.far b\/(w.heap.size<=b/\b<w'.heap.size)⟩ γ st a w':=by
 have hkf:Keep (DY X γ st.o) w w':=hk.mono (λb hb h1=>.inr (hK b hb h1).1);have hO:∀b,b<w.heap.size->DY ⟨X.own,λb=>X.far b\/(w.heap.size<=b/\b<w'.heap.size)⟩ γ st.o b->DY X γ st.o b:=by
  rintro b hlt (hb|hb|hb)
  .exact .inl hb
  .exact .inr hb
  .omega
 refine⟨h.sz,h.df,λi=>VRel.mono hkf hO (h.tm i),λn ob hn=>(h.ob n ob hn).later (λb hb=>?_) hkf hO (Cmp.refl _ _),λb hb=>⟨CY (h.lt b hb).1 hk.size,(h.lt b hb).2⟩,h.dis,?_,?_,?_,h.pn⟩
 .exact hk.block b (h.lt b ⟨n,ob,hn,hb⟩).1 (λh1=>h.nr b ⟨n,ob,hn,hb⟩ (hK b (h.lt b ⟨n,ob,hn,hb⟩).1 h1).1)
 .refine h.keep.trans (hk.mono (λb hb h1=>(show w0.heap.size<=b\/X.own b from(hK b hb h1).2))) (λb hb h1=>?_);rcases h1 with h1|h1
  .omega
  .exact h1
 .rintro b hb (hf|hf)
  .exact h.nr b hb hf
  .have:=(h.lt b hb).1
   omega
 .rintro b (hb|hb)
  .exact CY (h.fl b hb) hk.size
  .exact hb.2
theorem VRels.each{γ γ':Nat->Value}{o o':Store}{w:World}{O:Nat->Prop}(hv:∀v x,VRel γ o w O v x->VRel γ' o' w O v x):∀{l:List V} {xs:List Value},VRels γ o w O l xs->VRels γ' o' w O l xs
 |[],[],_=>by simp only[VRels]
 |[],_::_,h=>by simp only[VRels]at h
 |_::_,[],h=>by simp only[VRels]at h
 |v::vs,x::xs,h=>by
  simp only[VRels]at h ⊢;exact⟨hv v x h.1,VRels.each hv h.2⟩
theorem ObRel.after{γ γ':Nat->Value}{o o':Store}{w w':World}{O O':Nat->Prop}{g:Value}{ob:Ob}(h:ObRel B γ o w O g ob)(hb:∀b,FE g ob b->w'.heap[b]?=w.heap[b]?)(hk:Keep O w w')(hO:∀b,b<w.heap.size->O' b->O b)
  (hv:∀v x,VRel γ o w O v x->VRel γ' o' w O v x):ObRel B γ' o' w' O' g ob:=by
 cases ob with
 |box l=>
  simp only[ObRel]at h ⊢;obtain⟨b,c,T,rfl,hh,hr⟩:=h;exact⟨b,c,T,rfl,by rw[hb b ⟨_,rfl,rfl⟩];exact hh,VRels.mono hk hO (hr.each hv)⟩
 |row own e ag ks l=>
  cases own with
  |true=>
   simp only[ObRel]at h ⊢;obtain⟨h1,h2,xs,hx,hr⟩:=h;exact⟨h1,h2,xs,uN hx hb,λi y hy=>Kd.RelAll.mono hk hO (λ_ _ hu=>hu) (hr i y hy)⟩
  |false=>
   simp only[ObRel]at h ⊢;exact⟨h.1,Kd.Rel.mono hk hO h.2⟩
 |bld s=>
  simp only[ObRel]at h ⊢;obtain⟨b,v,p,rfl,hp,h1,h2,h3⟩:=h;exact⟨b,v,p,rfl,hp,by rw[hb b ⟨_,_,rfl,.inl rfl⟩];exact h1,bH h2 (λb' hb'=>hb b' ⟨_,_,rfl,.inr hb'⟩),h3⟩
 |map vk es=>
  simp only[ObRel]at h ⊢;obtain⟨h0,b,ents,rfl,h1,h2⟩:=h;exact⟨h0,b,ents,rfl,by rw[hb b rfl];exact h1,EntRel.mono hk hO h2⟩
 |iter vk last rest=>
  simp only[ObRel]at h ⊢;obtain⟨h0,r,b,since,seen,ents,clock,rfl,h1,h2,h3⟩:=h;exact⟨h0,r,b,since,seen,ents,clock,rfl,by rw[hb r ⟨_,_,rfl,.inl rfl⟩];exact h1,by rw[hb b ⟨_,_,rfl,.inr rfl⟩];exact h2,IterRel.mono hk hO h3⟩
theorem Rel.lend(h:Rel B nt w0 X γ st a w){n:Nat}{ob ob':Ob}{g':Value}(ho:DV st.o n=AA ob)(had:TG g'=TG (γ n)){w':World}{K:Nat->Prop}(hk:Keep K w w')
  (hK:∀b,b<w.heap.size->K b->FC γ st.o n b\/(X.far b/\(w0.heap.size<=b\/X.own b)))
  (hb:∀b,FE g' ob' b->b<w'.heap.size/\(FC γ st.o n b\/w.heap.size<=b))
  (hv:∀O v x,VRel γ st.o w O v x->VRel (λm=>if n=m then g' else γ m) ((n,AA ob')::st.o) w O v x)
  (hr:ObRel B (λm=>if n=m then g' else γ m) ((n,AA ob')::st.o) w' (DY ⟨X.own,λb=>(X.far b\/(w.heap.size<=b/\b<w'.heap.size))/\¬FE g' ob' b⟩ (λm=>if n=m then g' else γ m) ((n,AA ob')::st.o)) g' ob'):
  Rel B nt w0 ⟨X.own,λb=>(X.far b\/(w.heap.size<=b/\b<w'.heap.size))/\¬FE g' ob' b⟩ (λm=>if n=m then g' else γ m) (st.up (.set n ob')) a w':=by
 have hnof:∀m,n≠m->DV ((n,AA ob')::st.o) m=DV st.o m:=λm e=>by rw[EP,BO e]
 have hP:∀b,FN (λm=>if n=m then g' else γ m) ((n,AA ob')::st.o) b->FE g' ob' b\/∃m ob1,n≠m/\DV st.o m=AA ob1/\FE (γ m) ob1 b:=by
  rintro b ⟨m,ob1,hm,hb1⟩;by_cases e:n=m
  .subst e;rw[EP,BX rfl,AK]at hm;subst hm;simp only[CX]at hb1;exact .inl hb1
  .rw[hnof m e]at hm;simp only[BO e]at hb1;exact .inr ⟨m,ob1,e,hm,hb1⟩
 have hkf:Keep (DY X γ st.o) w w':=hk.mono (λb hb h1=>by
  rcases hK b hb h1 with⟨ob1,h2,h3⟩|h2
  .exact .inl ⟨n,ob1,h2,h3⟩
  .exact .inr h2.1)
 have hO:∀b,b<w.heap.size->DY ⟨X.own,λb=>(X.far b\/(w.heap.size<=b/\b<w'.heap.size))/\¬FE g' ob' b⟩ (λm=>if n=m then g' else γ m) ((n,AA ob')::st.o) b->DY X γ st.o b:=by
  rintro b hlt (h1|⟨h1,h2⟩)
  .rcases hP b h1 with h3|⟨m,ob1,_,h3,h4⟩
   .rcases(hb b h3).2 with⟨ob1,h5,h6⟩|h5
    .exact .inl ⟨n,ob1,h5,h6⟩
    .omega
   .exact .inl ⟨m,ob1,h3,h4⟩
  .rcases h1 with h1|h1
   .exact .inr h1
   .omega
 have hother:∀m ob1,n≠m->DV st.o m=AA ob1->∀b,FE (γ m) ob1 b->¬K b:=by
  intro m ob1 e hm b hb1 hKb;have hlt:=(h.lt b ⟨m,ob1,hm,hb1⟩).1;rcases hK b hlt hKb with⟨ob2,h2,h3⟩|h2
  .exact h.dis n m ob2 ob1 b e h2 hm h3 hb1
  .exact h.nr b ⟨m,ob1,hm,hb1⟩ h2.1
 have hnew:∀m ob1,n≠m->DV st.o m=AA ob1->∀b,FE (γ m) ob1 b->¬FE g' ob' b:=by
  intro m ob1 e hm b hb1 hb2;rcases(hb b hb2).2 with⟨ob2,h2,h3⟩|h2
  .exact h.dis n m ob2 ob1 b e h2 hm h3 hb1
  .have:=(h.lt b ⟨m,ob1,hm,hb1⟩).1
   omega
 refine⟨h.sz,h.df,λi=>VRel.mono hkf hO (hv _ _ _ (h.tm i)),λm ob1 hm=>?_,λb hb1=>?_,?_,?_,?_,?_,λp hp ob1 hm=>?_⟩
 case refine_7=>
  simp only[St.up]at hm;by_cases e:n=900000
  .simp only[BX e];rw[had,e];exact h.pn p hp ob (by rw[<-e];exact ho)
  .rw[hnof _ e]at hm;simp only[BO e];exact h.pn p hp ob1 hm
 .by_cases e:n=m
  .subst e;simp only[St.up]at hm ⊢;rw[EP,BX rfl,AK]at hm;subst hm;simp only[CX];exact hr
  .simp only[St.up]at hm ⊢;rw[hnof m e]at hm;simp only[BO e];exact(h.ob m ob1 hm).after (λb hb1=>hk.block b (h.lt b ⟨m,ob1,hm,hb1⟩).1 (hother m ob1 e hm b hb1)) hkf hO (hv _)
 .rcases hP b hb1 with h3|⟨m,ob1,_,h3,h4⟩
  .refine⟨(hb b h3).1,?_⟩;rcases(hb b h3).2 with⟨ob1,h5,h6⟩|h5
   .exact(h.lt b ⟨n,ob1,h5,h6⟩).2
   .exact .inl (DD h.keep.size h5)
  .exact⟨CY (h.lt b ⟨m,ob1,h3,h4⟩).1 hk.size,(h.lt b ⟨m,ob1,h3,h4⟩).2⟩
 .intro m1 m2 ob1 ob2 b hne h1 h2 hb1 hb2;simp only[St.up]at h1 h2;by_cases e1:n=m1
  .subst e1;rw[EP,BX rfl,AK]at h1;subst h1;simp only[CX]at hb1;rw[hnof m2 hne]at h2;simp only[BO hne]at hb2;exact hnew m2 ob2 hne h2 b hb2 hb1
  .rw[hnof m1 e1]at h1;simp only[BO e1]at hb1;by_cases e2:n=m2
   .subst e2;rw[EP,BX rfl,AK]at h2;subst h2;simp only[CX]at hb2;exact hnew m1 ob1 e1 h1 b hb1 hb2
   .rw[hnof m2 e2]at h2;simp only[BO e2]at hb2;exact h.dis m1 m2 ob1 ob2 b hne h1 h2 hb1 hb2
 .have hk2:Keep (λb=>w0.heap.size<=b\/X.own b) w w':=hk.mono (λb hlt h1=>by
   rcases hK b hlt h1 with⟨ob1,h2,h3⟩|h2
   .exact(h.lt b ⟨n,ob1,h2,h3⟩).2
   .exact h2.2)
  refine h.keep.trans hk2 (λb hlt h1=>?_);rcases h1 with h1|h1
  .omega
  .exact h1
 .rintro b h1 ⟨h2,h3⟩;rcases hP b h1 with h4|⟨m,ob1,_,h4,h5⟩
  .exact h3 h4
  .rcases h2 with h2|h2
   .exact h.nr b ⟨m,ob1,h4,h5⟩ h2
   .have:=(h.lt b ⟨m,ob1,h4,h5⟩).1
    omega
 .rintro b ⟨h1|h1,_⟩
  .exact CY (h.fl b h1) hk.size
  .exact h1.2
theorem Rel.add(h:Rel B nt w0 X γ st a w)(d:Nat)(hd9:d≠900000)(ob':Ob)(g:Value)(hb:∀b,FE g ob' b->X.far b/\(w0.heap.size<=b\/X.own b))
  (hr:∀O':Nat->Prop,(∀b,O' b->DY X γ st.o b)->ObRel B (λn=>if d=n then g else γ n) (st.up (.new d ob')).o w O' g ob'):
  Rel B nt w0 ⟨X.own,λb=>X.far b/\¬FE g ob' b⟩ (λn=>if d=n then g else γ n) (st.up (.new d ob')) a w:=by
 have hP:∀b,FN (λn=>if d=n then g else γ n) (st.up (.new d ob')).o b->FN γ st.o b\/FE g ob' b:=by
  rintro b ⟨m,ob1,hm,hb1⟩;rw[GS]at hm;split at hm
  .rename_i e;subst e;simp only[AK]at hm;subst hm;simp only[CX]at hb1;exact .inr hb1
  .rename_i e;obtain⟨ob0,h0,hs⟩:=QL hm;simp only[BO e]at hb1;exact .inl ⟨m,ob0,h0,((WA hs).2 _ _).1 hb1⟩
 have hO:∀b,DY ⟨X.own,λb=>X.far b/\¬FE g ob' b⟩ (λn=>if d=n then g else γ n) (st.up (.new d ob')).o b->DY X γ st.o b:=by
  rintro b (h1|h1)
  .rcases hP b h1 with h2|h2
   .exact .inl h2
   .exact .inr (hb b h2).1
  .exact .inr h1.1
 have hcmp:PV d γ st.o (λn=>if d=n then g else γ n) (st.up (.new d ob')).o:=by
  intro m ob1 hmd hm;rw[GS,BO (λe=>hmd e.symm)]at hm;obtain⟨ob0,h0,hs⟩:=QL hm;exact⟨BO (λe=>hmd e.symm),ob0,h0,(WA hs).1⟩
 refine⟨h.sz,h.df,λi=>?_,λm ob1 hm=>?_,λb hb1=>?_,?_,h.keep,?_,λb hb=>h.fl b hb.1,λp hp ob1 h1=>?_⟩
 case refine_6=>
  rw[GS,BO hd9]at h1;obtain⟨ob0,h0,_⟩:=QL h1;simp only[BO hd9];exact h.pn p hp ob0 h0
 .rw[iF];exact VRel.mono (Keep.refl _ w) (λb _=>hO b) (wA hcmp (h.tm i))
 .by_cases e:d=m
  .subst e;rw[GS,BX rfl,AK]at hm;subst hm;simp only[CX];exact hr _ hO
  .rw[GS,BO e]at hm;obtain⟨ob0,h0,hs⟩:=QL hm;simp only[BO e];have hor:=h.ob m ob0 h0;cases ob0 with
   |box l=>
    simp only[HM,AK]at hs;subst hs;simp only[ObRel]at hor ⊢;obtain⟨b,c,T,hg,hh,hr1⟩:=hor;exact⟨b,c,T,hg,hh,VRels.mono (Keep.refl _ w) (λb _=>hO b) (oC hcmp hr1)⟩
   |row own e' ag ks' l=>
    simp only[HM,AK]at hs;subst hs;cases own with
    |true=>
     simp only[ObRel]at hor ⊢;obtain⟨h1,h2,xs,hx,hr1⟩:=hor;exact⟨h1,h2,xs,hx,λi y hy=>Kd.RelAll.mono (Keep.refl _ w) (λb _=>hO b) (λ_ _ hu=>hu) (hr1 i y hy)⟩
    |false=>
     simp only[ObRel]at hor ⊢;exact⟨hor.1,Kd.Rel.mono (Keep.refl _ w) (λb _=>hO b) hor.2⟩
   |bld s=>
    simp only[HM,AK]at hs;subst hs;simpa only[ObRel]using hor
   |map vk es=>
    simp only[HM,AK]at hs;subst hs;simp only[ObRel]at hor ⊢;obtain⟨h0,b,ents,hg,h1,h2⟩:=hor;exact⟨h0,b,ents,hg,h1,EntRel.mono (Keep.refl _ w) (λb _=>hO b) h2⟩
   |iter vk last rest=>
    simp only[HM,AK]at hs;subst hs;simp only[ObRel]at hor ⊢;obtain⟨h0,r,b,since,seen,ents,clock,hg,h1,h2,h3⟩:=hor;exact⟨h0,r,b,since,seen,ents,clock,hg,h1,h2,IterRel.mono (Keep.refl _ w) (λb _=>hO b) h3⟩
 .rcases hP b hb1 with h2|h2
  .exact h.lt b h2
  .exact⟨h.fl b (hb b h2).1,(hb b h2).2⟩
 .intro m1 m2 ob1 ob2 b hne h1 h2 hb1 hb2;have key:∀m ob,DV (st.up (.new d ob')).o m=AA ob->FE (if d=m then g else γ m) ob b->(d=m/\FE g ob' b)\/(d≠m/\∃ob0,DV st.o m=AA ob0/\FE (γ m) ob0 b):=by
   intro m ob hm hb1;rw[GS]at hm;split at hm
   .rename_i e;subst e;simp only[AK]at hm;subst hm;simp only[CX]at hb1;exact .inl ⟨rfl,hb1⟩
   .rename_i e;obtain⟨ob0,h0,hs⟩:=QL hm;simp only[BO e]at hb1;exact .inr ⟨e,ob0,h0,((WA hs).2 _ _).1 hb1⟩
  rcases key m1 ob1 h1 hb1 with⟨e1,k1⟩|⟨e1,o1,p1,q1⟩<;>rcases key m2 ob2 h2 hb2 with⟨e2,k2⟩|⟨e2,o2,p2,q2⟩
  .exact hne (e1.symm.trans e2)
  .exact h.nr b ⟨m2,o2,p2,q2⟩ (hb b k1).1
  .exact h.nr b ⟨m1,o1,p1,q1⟩ (hb b k2).1
  .exact h.dis m1 m2 o1 o2 b hne p1 p2 q1 q2
 .rintro b h1 ⟨h2,h3⟩;rcases hP b h1 with h4|h4
  .exact h.nr b h4 h2
  .exact h3 h4
end
open Go Go.RowKit
theorem VY(m:Nat):∀a b:List Nat,IE m (a++b)=IE m a+IE m b
 |[],b=>by simp[IE]
 |x::r,b=>by
  simp only[C9,IE,VY m r b];cases B2 x m<;>simp<;>omega
theorem VZ{m:Nat}:∀{l:List Nat},m∈l->1<=IE m l
 |x::r,h=>by
  simp only[IE];cases hb:B2 x m with
  |true=>simp
  |false=>
   rcases AW.1 h with h1|h1
   .subst h1;rw[vbj]at hb;cases hb
   .exact VZ h1
theorem zc0{m lo hi:Nat}:∀{cs:List V} {j:Nat},cs[j]?=AA (.row m lo hi)->m∈FD cs:=λh=>YV (vaa h)
theorem YZ{m lo hi lo' hi':Nat}:∀{cs:List V} {i j:Nat},i<j->cs[i]?=AA (.row m lo hi)->cs[j]?=AA (.row m lo' hi')->2<=IE m (FD cs)
 |[],i,j,_,h,_=>by simp at h
 |v::r,0,0,h,_,_=>by omega
 |v::r,0,j+1,_,h1,h2=>by
  simp only[CA,AK]at h1;subst h1
  have:=VZ (zc0 (cs:=r) (j:=j) (by simpa using h2))
  simp only[FD,IE,vbj];omega
 |v::r,i+1,0,h,_,_=>by omega
 |v::r,i+1,j+1,h,h1,h2=>by
  have:=YZ (cs:=r) (i:=i) (j:=j) AG (by simpa using h1) (by simpa using h2)
  cases v<;>simp only[FD]<;>try exact this
  simp only[IE];split<;>omega
def H5:V->Bool
 |.any|.int _ _|.bool _|.str _|.list _ _ _|.zs|.err _|.nilp=>AC
 |_=>AD
def SI:V->Bool
 |.vec _ _ _ _=>AC
 |v=>H5 v
theorem VP{γ γ':Nat->Value}{o o':Store}{w:World}{O:Nat->Prop}{v:V}(hf:H5 v=AC){x:Value}(h:VRel γ o w O v x):VRel γ' o' w O v x:=by
 cases v<;>simp only[H5]at hf<;>first|(cases hf;done)|(simp only[VRel]at h ⊢;try exact h)
theorem gM(nm:Nat):∀(cs:List V) (j:Nat),(GY nm cs)[j]?=(cs[j]?).map λv=>match v with|.vec _ _ _ l=>.row (nm+j) 0 l.length|v=>v
 |[],j=>by simp[GY]
 |v::r,0=>by cases v<;>simp[GY]
 |v::r,j+1=>by
  have:=gM (nm+1) r j
  rw[show nm+1+j=nm+(j+1) by omega]at this;cases v<;>simpa[GY]using this
theorem Z8(nm:Nat):∀cs:List V,(GY nm cs).length=cs.length
 |[]=>rfl
 |v::r=>by cases v<;>simp[GY,Z8 (nm+1) r]
theorem Ny:∀{cs:List V} {nr m:Nat} {ob:Ob},DV (LR nr cs) m=AA ob->∃j e ag ks l,m=nr+j/\cs[j]?=AA (.vec e ag ks l)/\ob=.row AC e ag ks l
 |[],nr,m,ob,h=>by simp[LR,DV,FA]at h
 |v::r,nr,m,ob,h=>by
  have key:DV (LR (nr+1) r) m=AA ob->∃j e ag ks l,m=nr+j/\(v::r)[j]?=AA (.vec e ag ks l)/\ob=.row AC e ag ks l:=λh'=>by
   obtain⟨j,e,ag,ks,l,h1,h2,h3⟩:=Ny h';exact⟨j+1,e,ag,ks,l,by omega,by simpa using h2,h3⟩
  cases v<;>simp only[LR]at h<;>try exact key h
  rw[EP]at h;split at h
  .rename_i e ag ks l hn;simp only[AK]at h;exact⟨0,e,ag,ks,l,by omega,by simp,h.symm⟩
  .exact key h
theorem jM:∀{cs:List V} {nr j e:Nat} {ag:Bool} {ks:List Kd} {l:LI},cs[j]?=AA (.vec e ag ks l)->DV (LR nr cs) (nr+j)=AA (.row AC e ag ks l)
 |[],nr,j,_,_,_,_,h=>by simp at h
 |v::r,nr,0,e,ag,ks,l,h=>by
  simp only[CA,AK]at h;subst h;simp[LR,EP]
 |v::r,nr,j+1,e,ag,ks,l,h=>by
  have:=jM (cs:=r) (nr:=nr+1) (j:=j) (by simpa using h)
  rw[show nr+1+j=nr+(j+1) by omega]at this;cases v<;>simp only[LR]<;>try exact this
  rw[EP,BO AG];exact this
theorem rE{cs:List V}(h:∀s,cs≠[.bld s]):E7 cs=(900000,AA (.box (GY 900001 cs)))::LR 900001 cs:=by
 unfold E7;split
 .rename_i s;exact absurd rfl (h s)
 .rfl
def J1:Act:=⟨#[],[]⟩
section
variable {B:BT} {nt:Nat} {w0:World} {X:Zone} {γ:Nat→Value} {st st':St} {a:Act} {w:World} {P:Program} {E:Env}
theorem zcZ{B B':BT}{γ γ':Nat->Value}{o o':Store}{O:Nat->Prop}{g:Value}{e:Nat}{ag:Bool}{ks:List Kd}{l:LI}(h:ObRel B γ o w O g (.row AC e ag ks l)):ObRel B' γ' o' w O g (.row AC e ag ks l):=by
 simpa only[ObRel]using h
def RowOf(γ:Nat->Value)(o:Store)(n b:Nat):Prop:=∃e ag ks l,DV o n=AA (.row AC e ag ks l)/\(γ n).ownBlock=AA b
theorem RowOf.block{γ:Nat->Value}{o:Store}{n b:Nat}(h:RowOf γ o n b):FC γ o n b:=by
 obtain⟨e,ag,ks,l,h1,h2⟩:=h;exact⟨_,h1,h2⟩
theorem Li(h:Rel B nt w0 X γ st a w){n lo hi:Nat}{own:Bool}{e:Nat}{ag:Bool}{ks:List Kd}{l:LI}(hob:DV st.o n=AA (.row own e ag ks l)){x:Value}
  (hx:VRel γ st.o w (DY X γ st.o) (.row n lo hi) x) {O':Nat->Prop} (hO:∀b,b<w.heap.size->O' b->DY X γ st.o b) (hn:∀b,RowOf γ st.o n b->¬O' b):
  Kd.Rel w O' (.list ag ks) (.list ((l.take hi).drop lo)) x:=by
 simp only[VRel,hob]at hx;obtain⟨h1,h2⟩:=Nx h hob hO (λho b hb=>hn b ⟨e,ag,ks,l,by subst ho;exact hob,hb⟩);exact Tw h2 hx.2 hx.1
theorem uY(h:Rel B nt w0 X γ st a w){n hi:Nat}{e:Nat}{ag:Bool}{ks:List Kd}{l:LI}(hob:DV st.o n=AA (.row AC e ag ks l)){x:Value}
  (hx:VRel γ st.o w (DY X γ st.o) (.row n 0 hi) x) {γ':Nat->Value} {o':Store}:ObRel B γ' o' w (DY X γ st.o) x (.row AC e ag ks (l.take hi))/\(∀b,FE x (.row AC e ag ks (l.take hi)) b->FC γ st.o n b):=by
 have hx0:=hx;simp only[VRel,hob]at hx;obtain⟨hl,p,len,cap,p',hg,hv,_,h2,h3,hm,_,h5⟩:=hx;rw[h5 rfl,vas,vas]at hv;have hor:=h.ob n _ hob;simp only[ObRel]at hor ⊢;obtain⟨hkp,hstr,xs,hxs,hr⟩:=hor;have htl:(l.take hi).length=hi:=by rw[BL,vaG hl]
 refine⟨⟨hkp,by rw[htl];omega,xs.take (hi*ks.length),?_,λi y hy=>?_⟩,λb hb=>⟨_,hob,?_⟩⟩
 .have hx1:=hxs.1;refine⟨by rw[BL,hx1,htl,vaG (CR _ hl)],?_⟩;rcases hxs.2 with⟨h6,h7⟩|⟨g,cap',cur,T,fr,h6,h7,h8,h9,h10,h11,h12⟩
  .rw[hg]at h6;simp only[CW]at h6;obtain⟨rfl,rfl,rfl⟩:=h6;obtain rfl:hi=0:=by omega
   exact .inl ⟨hv,htl⟩
  .rw[hg]at h6;simp only[CW]at h6;obtain⟨rfl,rfl,rfl⟩:=h6;refine .inr ⟨g,cap,cur,T,fr,by rw[hv,htl],h7,by rw[htl];omega,h9,h10,?_,h12⟩;rw[htl,<-h11,List.take_take,vaG (CR _ hl)]
 .rw[C3]at hy;split at hy
  .rename_i hlt;have h6:=hr i y hy;rw[Kd.RelAll_iff]at h6 ⊢;intro j k hj;obtain⟨u,hu,hk⟩:=h6 j k hj;refine⟨u,?_,hk⟩;have hjl:j<ks.length:=by
    rcases DN j ks.length with h'|h'
    .exact h'
    .rw[B8 h']at hj;cases hj
   rw[C3,BX]
   .exact hu
   .have e1:(i+1)*ks.length<=hi*ks.length:=CR _ hlt;rw[vaW]at e1;omega
  .cases hy
 .simp only[FE]at hb ⊢;rw[hv]at hb;rw[hg];cases p<;>first|(simp[CO]at hb;done)|simpa[CO]using hb
end
open Go Go.RowKit
section
variable {B:BT} {nt:Nat} {w0:World} {X:Zone} {γ:Nat→Value} {st st':St} {a:Act} {w:World} {P:Program} {E:Env}
def kH(γ:Nat->Value)(o:Store)(γb:Nat->Value)(bo:Store)(n:Nat):Prop:=
 γb 900000=γ n/\((∃cs cs',DV o n=AA (.box cs)/\DV bo 900000=AA (.box cs'))\/(∃s s',DV o n=AA (.bld s)/\DV bo 900000=AA (.bld s')))
theorem pO(h:Rel B nt w0 X γ st a w){v:V}{x:Value}(hv:VRel γ st.o w (DY X γ st.o) v x){γb:Nat->Value}{bo:Store}{O':Nat->Prop}(hO:∀b,b<w.heap.size->O' b->DY X γ st.o b)
  (hrow:∀m∈FD [v],∀b,RowOf γ st.o m b->¬O' b) (hl:∀m∈FL.lentC [v],kH γ st.o γb bo m) (bs:List V) (tk:Option Kd):
  VRel γb bo w O' (EV.go (EZ st.o bs tk v)) x:=by
 cases v with
 |any=>simp only[EZ,EV.go,VRel]
 |int k n=>simp only[EZ,EV.go];exact VP rfl (VRel.mono (Keep.refl _ w) hO hv)
 |bool b=>simp only[EZ,EV.go];exact VP rfl (VRel.mono (Keep.refl _ w) hO hv)
 |str s=>simp only[EZ,EV.go];exact VP rfl (VRel.mono (Keep.refl _ w) hO hv)
 |list ag ks l=>simp only[EZ,EV.go];exact VP rfl (VRel.mono (Keep.refl _ w) hO hv)
 |zs=>
  simp only[EZ];split
  .simp only[EV.go,VRel,Kd.Rel,IV.toList];simp only[VRel]at hv;exact⟨AB,0,by rw[hv];rfl,A4 _,by simp[maxLen],by simp[FM.strMax],λi y hy=>by simp at hy⟩
  .simp only[EV.go,VRel]
 |row n lo hi=>
  simp only[EZ];split
  .rename_i own e ag ks l hob;simp only[EV.go,VRel];exact Li h hob hv hO (hrow n (by simp[FD]))
  .simp only[EV.go,VRel]
 |ptr n i c=>
  simp only[EZ];split
  .simp only[EV.go,VRel]
  .rename_i ob hnr hob;split
   .rename_i hic;simp only[AQ]at hic;obtain⟨h1,h2⟩:=hic;obtain rfl:=F1.1 h1;obtain rfl:=F1.1 h2;obtain⟨hg,h3⟩:=hl n (by simp[FL.lentC]);simp only[EV.go,VRel];simp only[VRel]at hv;rcases h3 with⟨cs,cs',h4,h5⟩|⟨s,s',h4,h5⟩
    .rw[h4]at hv;rw[h5,hg];exact hv
    .rw[h4]at hv;rw[h5,hg];exact hv
   .simp only[EV.go,VRel]
  .simp only[EV.go,VRel]
 |iptr ks f c=>
  simp only[EZ,EV.go,VRel]at hv ⊢;obtain⟨b,off,h1,h2,h3,h4⟩:=hv;exact⟨b,off,h1,λhb=>h2 (hO b h3 hb),h3,Kd.RelAll.mono (Keep.refl _ w) hO (λ_ _ hu=>hu) h4⟩
 |bview n c cap sz len=>simp only[EZ,EV.go,VRel]
 |agg l=>simp only[EZ,EV.go,VRel]
 |tup l=>simp only[EZ,EV.go,VRel]
 |err b=>simp only[EZ,EV.go];exact VP rfl (VRel.mono (Keep.refl _ w) hO hv)
 |nilp=>simp only[EZ,EV.go];exact VP rfl (VRel.mono (Keep.refl _ w) hO hv)
 |clo f l=>simp only[EZ,EV.go,VRel]
 |bor l=>simp only[EZ,EV.go,VRel]
 |vec e ag ks l=>simp only[EZ,EV.go,VRel]
 |bld s=>simp only[EZ,EV.go,VRel]
theorem Zs{o:Store}{bs:List V}{tk:Option Kd}{v:V}{γb:Nat->Value}{bo:Store}{w:World}{O':Nat->Prop}{x:Value}(h:VRel γb bo w O' (EV.go (EZ o bs tk v)) x):VRel γb bo w O' (IN (EZ o bs tk v)) x:=by
 cases hv:EZ o bs tk v<;>rw[hv]at h<;>simp only[EV.go,IN]at h ⊢ <;>first|exact h|simp only[VRel]
theorem bU(v:V)(r:List V):∀m,m∈FD [v]\/m∈FD r->m∈FD (v::r):=by
 intro m hm;cases v<;>simp_all[FD]
theorem mV(v:V)(r:List V):∀m,m∈FL.lentC [v]\/m∈FL.lentC r->m∈FL.lentC (v::r):=by
 intro m hm;cases v<;>simp_all[FL.lentC]
theorem pP(h:Rel B nt w0 X γ st a w){v:V}{x:Value}(hv:VRel γ st.o w (DY X γ st.o) v x){γb:Nat->Value}{bo:Store}{O':Nat->Prop}(hO:∀b,b<w.heap.size->O' b->DY X γ st.o b)
  (hrow:∀m∈FD [v],∀b,RowOf γ st.o m b->¬O' b) (bs:List V) (tk:Option Kd):VRel γb bo w O' (IN (EZ st.o bs tk v)) x:=by
 by_cases hp:FL.lentC [v]=[]
 .exact Zs (pO h hv hO hrow (by rw[hp];simp) bs tk)
 .cases v<;>simp only[FL.lentC,vbw]at hp
  simp only[EZ];split
  .simp only[IN,VRel]
  .split<;>simp only[IN,VRel]
  .simp only[IN,VRel]
theorem tH(h:Rel B nt w0 X γ st a w){γb:Nat->Value}{bo:Store}{O':Nat->Prop}(hO:∀b,b<w.heap.size->O' b->DY X γ st.o b)(bs:List V):
  ∀{l:List V} {ks:List Kd} {xs:List Value},VRels γ st.o w (DY X γ st.o) l xs->(∀m∈FD l,∀b,RowOf γ st.o m b->¬O' b)->
   VRels γb bo w O' (MV (λk v=>IN (EZ st.o bs k v)) ks l) xs
 |[],ks,[],_,_=>by cases ks<;>simp only[MV,VRels]
 |[],ks,x::xs,hv,_=>by simp only[VRels]at hv
 |v::l,ks,[],hv,_=>by simp only[VRels]at hv
 |v::l,ks,x::xs,hv,hr=>by
  simp only[VRels]at hv;have h1:∀tk,VRel γb bo w O' (IN (EZ st.o bs tk v)) x:=λtk=>pP h hv.1 hO (λm hm=>hr m (bU v l m (.inl hm))) bs tk
  have h2:∀ks,VRels γb bo w O' (MV (λk v=>IN (EZ st.o bs k v)) ks l) xs:=λks=>tH h hO bs hv.2 (λm hm=>hr m (bU v l m (.inr hm)))
  cases ks with
  |nil=>simp only[MV,VRels];exact⟨h1 _,h2 _⟩
  |cons k ks=>simp only[MV,VRels];exact⟨h1 _,h2 _⟩
theorem Dj(h:Rel B nt w0 X γ st a w){γb:Nat->Value}{bo:Store}{O':Nat->Prop}(hO:∀b,b<w.heap.size->O' b->DY X γ st.o b)(bs:List V):
  ∀{l:List V} {xs:List Value},VRels γ st.o w (DY X γ st.o) l xs->(∀m∈FD l,∀b,RowOf γ st.o m b->¬O' b)->(∀m∈FL.lentC l,kH γ st.o γb bo m)->
   VRels γb bo w O' ((l.map (EZ st.o bs AB)).map EV.go) xs
 |[],[],_,_,_=>by simp only[CN,VRels]
 |[],x::xs,hv,_,_=>by simp only[VRels]at hv
 |v::l,[],hv,_,_=>by simp only[VRels]at hv
 |v::l,x::xs,hv,hr,hl=>by
  simp only[VRels,A8]at hv ⊢;exact⟨pO h hv.1 hO (λm hm=>hr m (bU v l m (.inl hm))) (λm hm=>hl m (mV v l m (.inl hm))) bs AB,
   Dj h hO bs hv.2 (λm hm=>hr m (bU v l m (.inr hm))) (λm hm=>hl m (mV v l m (.inr hm)))⟩
theorem y9(h:Rel B nt w0 X γ st a w){v:V}{x:Value}(hv:VRel γ st.o w (DY X γ st.o) v x){γb:Nat->Value}{bo:Store}{O':Nat->Prop}(hO:∀b,b<w.heap.size->O' b->DY X γ st.o b)
  (hrow:∀m∈LB v,∀b,RowOf γ st.o m b->¬O' b) (hl:∀m∈FL [v],kH γ st.o γb bo m) (bs:List V) (ks:List Kd):
  VRel γb bo w O' (EV (J2 st.o bs ks v)) x:=by
 by_cases hc:(∃l,v=.agg l)\/(∃f l,v=.clo f l)
 .rcases hc with⟨l,rfl⟩|⟨f,l,rfl⟩
  .simp only[J2,EV,VRel]at hv ⊢;obtain⟨cs,hx,hr⟩:=hv;exact⟨cs,hx,tH h hO bs hr hrow⟩
  .simp only[J2,EV,VRel]at hv ⊢;obtain⟨cs,hx,hr⟩:=hv;exact⟨cs,hx,Dj h hO bs hr hrow (λm hm=>hl m (by simpa[FL]using hm))⟩
 .have h1:J2 st.o bs ks v=EZ st.o bs ks.head? v:=by
   cases v<;>first|rfl|exact absurd (.inl ⟨_,rfl⟩) hc|exact absurd (.inr ⟨_,_,rfl⟩) hc
  have h2:EV (EZ st.o bs ks.head? v)=EV.go (EZ st.o bs ks.head? v):=by
   cases v<;>simp only[EZ]<;>repeat' split
   all_goals rfl
  rw[h1,h2];refine pO h hv hO (λm hm=>hrow m ?_) (λm hm=>hl m ?_) bs _
  .cases v<;>simp_all[FD,LB]
  .cases v<;>simp_all[FL,FL.lentC]
theorem kW(h:Rel B nt w0 X γ st a w){γb:Nat->Value}{bo:Store}{O':Nat->Prop}(hO:∀b,b<w.heap.size->O' b->DY X γ st.o b)(bs:List V):
  ∀{l:List V} {tks:List (List Kd)} {xs:List Value},VRels γ st.o w (DY X γ st.o) l xs->(∀m∈E6 l,∀b,RowOf γ st.o m b->¬O' b)->(∀m∈FL l,kH γ st.o γb bo m)->
   VRels γb bo w O' ((GJ st.o bs tks l).map EV) xs
 |[],tks,[],_,_,_=>by cases tks<;>simp only[GJ,CN,VRels]
 |[],tks,x::xs,hv,_,_=>by simp only[VRels]at hv
 |v::l,tks,[],hv,_,_=>by simp only[VRels]at hv
 |v::l,tks,x::xs,hv,hr,hl=>by
  simp only[VRels]at hv;have h1:∀ks,VRel γb bo w O' (EV (J2 st.o bs ks v)) x:=λks=>y9 h hv.1 hO (λm hm=>hr m (by simp only[E6,A5];exact .inl hm)) (λm hm=>hl m (by
   cases v<;>simp_all[FL])) bs ks
  have h2:∀tks,VRels γb bo w O' ((GJ st.o bs tks l).map EV) xs:=λtks=>kW h hO bs hv.2 (λm hm=>hr m (by simp only[E6,A5];exact .inr hm)) (λm hm=>hl m (by
   cases v<;>simp_all[FL]))
  cases tks with
  |nil=>simp only[GJ,A8,VRels];exact⟨h1 _,h2 _⟩
  |cons k ks=>simp only[GJ,A8,VRels];exact⟨h1 _,h2 _⟩
end
open Go Go.RowKit
section
variable {B:BT} {nt:Nat} {w0:World} {X:Zone} {γ:Nat→Value} {st st':St} {a:Act} {w:World} {P:Program} {E:Env}
theorem Np(h:Rel B nt w0 X γ st a w){v:V}{x:Value}(hv:VRel γ st.o w (DY X γ st.o) v x){γb:Nat->Value}{bo:Store}{O':Nat->Prop}(hO:∀b,b<w.heap.size->O' b->DY X γ st.o b)
  (hrow:∀m∈LB v,∀b,RowOf γ st.o m b->¬O' b) (ks:List Kd):VRel γb bo w O' (NW st.o ks v) x:=by
 by_cases hc:∃l,v=.agg l
 .obtain⟨l,rfl⟩:=hc;simp only[NW,VRel]at hv ⊢;obtain⟨cs,hx,hr⟩:=hv;exact⟨cs,hx,tH h hO [] hr hrow⟩
 .have h1:NW st.o ks v=IN (EZ st.o [] ks.head? v):=by
   cases v<;>first|rfl|exact absurd ⟨_,rfl⟩ hc
  rw[h1];refine pP h hv hO (λm hm=>hrow m ?_) [] _;cases v<;>simp_all[FD,LB]
theorem vX(h:Rel B nt w0 X γ st a w){v:V}{x:Value}(hv:VRel γ st.o w (DY X γ st.o) v x){γb:Nat->Value}{bo:Store}{O':Nat->Prop}(hO:∀b,b<w.heap.size->O' b->DY X γ st.o b)
  (hrow:∀m∈LB v,∀b,RowOf γ st.o m b->¬O' b) (ks:List (List Kd)):VRel γb bo w O' (H1 st.o ks v) x:=by
 by_cases hc:∃l,v=.tup l
 .obtain⟨l,rfl⟩:=hc;simp only[H1,VRel]at hv ⊢;obtain⟨cs,hx,hr⟩:=hv;refine⟨cs,hx,?_⟩;have key:∀(l:List V) (ks:List (List Kd)) (xs:List Value),VRels γ st.o w (DY X γ st.o) l xs->(∀m∈LB.go l,∀b,RowOf γ st.o m b->¬O' b)->VRels γb bo w O' (H1.go st.o ks l) xs:=by
   intro l
   induction l with
   |nil=>
    intro ks xs h1 _;cases xs with
    |nil=>cases ks<;>simp only[H1.go,VRels]
    |cons _ _=>simp only[VRels]at h1
   |cons v l ih=>
    intro ks xs h1 h2;cases xs with
    |nil=>simp only[VRels]at h1
    |cons x xs=>
     simp only[VRels]at h1;have h3:∀ks,VRel γb bo w O' (NW st.o ks v) x:=by
      intro ks;by_cases hq:(∃f l',v=.clo f l')\/(∃l',v=.tup l')
      .rcases hq with⟨f,l',rfl⟩|⟨l',rfl⟩<;>simp only[NW,EZ,IN,VRel]
      .refine Np h h1.1 hO (λm hm=>h2 m ?_) ks;cases v<;>simp_all[LB,LB.go]
     have h4:∀ks,VRels γb bo w O' (H1.go st.o ks l) xs:=λks=>ih ks xs h1.2 (λm hm=>h2 m (by
      cases v<;>simp_all[LB.go]))
     cases ks with
     |nil=>simp only[H1.go,VRels];exact⟨h3 _,h4 _⟩
     |cons k ks=>simp only[H1.go,VRels];exact⟨h3 _,h4 _⟩
  exact key l ks _ hr hrow
 .have h1:H1 st.o ks v=NW st.o (ks.headD []) v:=by
   cases v<;>first|rfl|exact absurd ⟨_,rfl⟩ hc
  rw[h1];exact Np h hv hO hrow _
theorem gS(o:Store)(all:List Nat)(v:V):(∃m hi e ag ks l,v=.row m 0 hi/\DV o m=AA (.row AC e ag ks l)/\IE m all=1/\FS o all v=.vec e ag ks (l.take hi))\/
  (H5 (FS o all v)=AC/\∀m lo hi,v=.row m lo hi->∀own e ag ks l,DV o m=AA (.row own e ag ks l)->FS o all v=.list ag ks ((l.take hi).drop lo)/\(own&&(B2 lo 0&&B2 (IE m all) 1))=AD):=by
 cases v
 case row m lo hi=>
  simp only[FS];split
  .rename_i own e ag ks l hob;cases hb:(own&&(B2 lo 0&&B2 (IE m all) 1))with
   |true=>
    simp only[AQ]at hb;obtain⟨rfl,h1,h2⟩:=hb;obtain rfl:=F1.1 h1;exact .inl ⟨m,hi,e,ag,ks,l,rfl,hob,F1.1 h2,by simp only⟩
   |false=>
    refine .inr ⟨rfl,λm' lo' hi' he own' e' ag' ks' l' hob'=>?_⟩;simp only[V.row.injEq]at he;obtain⟨rfl,rfl,rfl⟩:=he;rw[hob]at hob';simp only[AK,Ob.row.injEq]at hob';obtain⟨rfl,rfl,rfl,rfl,rfl⟩:=hob';exact⟨rfl,hb⟩
  .rename_i hno;refine .inr ⟨rfl,λm' lo' hi' he own' e' ag' ks' l' hob'=>?_⟩;simp only[V.row.injEq]at he;obtain⟨rfl,rfl,rfl⟩:=he;exact absurd hob' (hno _ _ _ _ _)
 all_goals exact .inr ⟨rfl,λ_ _ _ he=>by cases he⟩
theorem TV{o:Store}{all:List Nat}{n:Nat}:∀{cs:List V},n∈HJ o all cs↔∃hi e ag ks l,.row n 0 hi∈cs/\DV o n=AA (.row AC e ag ks l)/\IE n all=1
 |[]=>by simp[HJ]
 |v::r=>by
  have ih:=TV (o:=o) (all:=all) (n:=n) (cs:=r);have skip:(∀hi e ag ks l,v=.row n 0 hi->DV o n=AA (.row AC e ag ks l)->IE n all=1->False)->(n∈HJ o all r↔∃hi e ag ks l,V.row n 0 hi∈v::r/\DV o n=AA (.row AC e ag ks l)/\IE n all=1):=by
   intro hs;rw[ih];constructor
   .rintro⟨hi,e,ag,ks,l,h1,h2,h3⟩;exact⟨hi,e,ag,ks,l,A6 _ h1,h2,h3⟩
   .rintro⟨hi,e,ag,ks,l,h1,h2,h3⟩;rcases AW.1 h1 with h4|h4
    .exact(hs hi e ag ks l h4.symm h2 h3).elim
    .exact⟨hi,e,ag,ks,l,h4,h2,h3⟩
  cases v
  case row m lo hi=>
   simp only[HJ];split
   .rename_i own e ag ks l hob;split
    .rename_i hb;simp only[AQ]at hb;obtain⟨rfl,h1,h2⟩:=hb;obtain rfl:=F1.1 h1;by_cases hm:n=m
     .subst hm;exact⟨λ_=>⟨hi,e,ag,ks,l,AY ..,hob,F1.1 h2⟩,λ_=>AY ..⟩
     .have h3:=skip (λhi' e' ag' ks' l' he _ _=>by simp only[V.row.injEq]at he;exact hm he.1.symm);rw[<-h3];simp[hm]
    .rename_i hb;refine skip (λhi' e' ag' ks' l' he ho hc=>?_);simp only[V.row.injEq]at he;obtain⟨rfl,rfl,rfl⟩:=he;rw[hob]at ho;simp only[AK,Ob.row.injEq]at ho;rw[hc,ho.1]at hb;simp at hb
   .rename_i hno;refine skip (λhi' e' ag' ks' l' he ho hc=>?_);simp only[V.row.injEq]at he;obtain⟨rfl,rfl,rfl⟩:=he;exact hno _ _ _ _ _ ho
  all_goals exact skip (λ_ _ _ _ _ he _ _=>by cases he)
theorem Pd{o:Store}{all:List Nat}{n lo hi:Nat}{own:Bool}{e:Nat}{ag:Bool}{ks:List Kd}{l:LI}(ho:DV o n=AA (.row own e ag ks l))(hb:(own&&(B2 lo 0&&B2 (IE n all) 1))=AD):
  ∀{cs:List V},.row n lo hi∈cs->n∈IG o all cs
 |v::r,hm=>by
  rcases AW.1 hm with h1|h1
  .subst h1;simp only[IG,ho,hb];exact AY ..
  .have ih:=Pd ho hb h1;cases v<;>simp only[IG]<;>try exact ih
   split
   .split
    .exact ih
    .exact A6 _ ih
   .exact ih
theorem Rel.bound(h:Rel B nt w0 X γ st a w){n:Nat}{cs:List V}(ho:DV st.o n=AA (.box cs))(extra:List Nat){w1:World}{own1 F:Nat->Prop}(hk:Keep own1 w1 w)
  (hF:∀b,F b->DY X γ st.o b/\¬FC γ st.o n b/\(∀m∈HJ st.o (FD cs++extra) cs,¬FC γ st.o m b)/\(∀m∈IG st.o (FD cs++extra) cs,¬FC γ st.o m b))
  (hown:∀b,FC γ st.o n b\/(∃m∈HJ st.o (FD cs++extra) cs,FC γ st.o m b)->w1.heap.size<=b\/own1 b):
  ∃γb,Rel B.base 0 w1 ⟨own1,F⟩ γb ⟨[],E7 (cs.map (FS st.o (FD cs++extra)))⟩ J1 w/\γb 900000=γ n/\
   ∀b,FN γb (E7 (cs.map (FS st.o (FD cs++extra)))) b->FC γ st.o n b\/∃m∈HJ st.o (FD cs++extra) cs,FC γ st.o m b:=by
 generalize hall:FD cs++extra=all at*;have hor:=h.ob n _ ho;simp only[ObRel]at hor;obtain⟨b0,c,T,hg,hh,hr⟩:=hor;have hbs:∀s,cs.map (FS st.o all)≠[.bld s]:=by
  intro s he;cases cs with
  |nil=>simp at he
  |cons v r=>
   simp only[A8,vaD]at he;rcases gS st.o all v with⟨_,_,_,_,_,_,_,_,_,h1⟩|⟨h1,_⟩
   .rw[h1]at he;cases he.1
   .rw[he.1]at h1;cases h1
 rw[rE hbs]
 let γb:Nat->Value:=λm=>if 900000=m then γ n else c.toList.getD (m-900001) undef
 have hγ0:γb 900000=γ n:=by simp[γb]
 have hγ1:∀j u,c.toList[j]?=AA u->γb (900001+j)=u:=by
  intro j u hu;simp only[γb];rw[BO AG,show 900001+j-900001=j by omega,BY,hu];rfl
 have hob0:DV ((900000,AA (.box (GY 900001 (cs.map (FS st.o all)))))::LR 900001 (cs.map (FS st.o all))) 900000=AA (.box (GY 900001 (cs.map (FS st.o all)))):=by
  rw[EP,BX rfl]
 have hrow:∀m ob,900000≠m->DV ((900000,AA (.box (GY 900001 (cs.map (FS st.o all)))))::LR 900001 (cs.map (FS st.o all))) m=AA ob->
   ∃j m' hi e ag ks l u,m=900001+j/\cs[j]?=AA (.row m' 0 hi)/\DV st.o m'=AA (.row AC e ag ks l)/\IE m' all=1/\ob=.row AC e ag ks (l.take hi)/\c.toList[j]?=AA u/\γb m=u/\
    VRel γ st.o w (DY X γ st.o) (.row m' 0 hi) u/\m'∈HJ st.o all cs:=by
  intro m ob hne hm;rw[EP,BO hne]at hm;obtain⟨j,e,ag,ks,l,rfl,hj,rfl⟩:=Ny hm;rw[CJ]at hj;cases hv:cs[j]? with
  |none=>rw[hv]at hj;cases hj
  |some v=>
   rw[hv]at hj;simp only[vaf,AK]at hj;rcases gS st.o all v with⟨m',hi,e',ag',ks',l',rfl,h1,h2,h3⟩|⟨h1,_⟩
   .rw[h3]at hj;simp only[V.vec.injEq]at hj;obtain⟨rfl,rfl,rfl,rfl⟩:=hj;obtain⟨u,hu,hvr⟩:=hr.get hv;exact⟨j,m',hi,e',ag',ks',l',u,rfl,hv,h1,h2,rfl,hu,hγ1 j u hu,hvr,TV.2 ⟨hi,e',ag',ks',l',vaa hv,h1,h2⟩⟩
   .rw[hj]at h1;cases h1
 have hblk:∀m ob,900000≠m->DV ((900000,AA (.box (GY 900001 (cs.map (FS st.o all)))))::LR 900001 (cs.map (FS st.o all))) m=AA ob->∀b,FE (γb m) ob b->
   ∃j m' hi,m=900001+j/\cs[j]?=AA (.row m' 0 hi)/\IE m' all=1/\m'∈HJ st.o all cs/\FC γ st.o m' b:=by
  intro m ob hne hm b hb;obtain⟨j,m',hi,e,ag,ks,l,u,h1,h2,h3,h4,h5,h6,h7,h8,h9⟩:=hrow m ob hne hm;refine⟨j,m',hi,h1,h2,h4,h9,?_⟩;rw[h7,h5]at hb;exact(uY (γ':=γb) (o':=[]) h h3 h8).2 b hb
 have hP:∀b,FN γb ((900000,AA (.box (GY 900001 (cs.map (FS st.o all)))))::LR 900001 (cs.map (FS st.o all))) b->FC γ st.o n b\/∃m∈HJ st.o all cs,FC γ st.o m b:=by
  rintro b ⟨m,ob,hm,hb⟩;by_cases e:900000=m
  .subst e;rw[hob0,AK]at hm;subst hm;rw[hγ0]at hb;exact .inl ⟨_,ho,hb⟩
  .obtain⟨j,m',hi,_,_,_,h9,h10⟩:=hblk m ob e hm b hb;exact .inr ⟨m',h9,h10⟩
 have hPO:∀b,FC γ st.o n b\/(∃m∈HJ st.o all cs,FC γ st.o m b)->FN γ st.o b:=by
  rintro b (⟨ob,h1,h2⟩|⟨m,_,ob,h1,h2⟩)
  .exact⟨n,ob,h1,h2⟩
  .exact⟨m,ob,h1,h2⟩
 have hO:∀b,b<w.heap.size->DY ⟨own1,F⟩ γb ((900000,AA (.box (GY 900001 (cs.map (FS st.o all)))))::LR 900001 (cs.map (FS st.o all))) b->DY X γ st.o b:=by
  rintro b _ (hb|hb)
  .exact .inl (hPO b (hP b hb))
  .exact(hF b hb).1
 refine⟨γb,⟨rfl,rfl,λi=>by simp only[St.get,FA,VRel],λm ob hm=>?_,λb hb=>⟨(h.lt b (hPO b (hP b hb))).1,hown b (hP b hb)⟩,?_,hk,?_,?_,λp hp=>by cases hp⟩,hγ0,hP⟩
 .by_cases e:900000=m
  .subst e;rw[hob0,AK]at hm;subst hm;simp only[ObRel];refine⟨b0,c,T,by rw[hγ0,hg],hh,?_⟩;refine VRels.of_get (by rw[Z8,BW,hr.length]) (λj v x hv hx=>?_);rw[gM,CJ]at hv;cases hcj:cs[j]? with
   |none=>rw[hcj]at hv;cases hv
   |some u=>
    rw[hcj]at hv;simp only[vaf,AK]at hv;have hux:=hr.get' hcj hx;rcases gS st.o all u with⟨m',hi,e',ag',ks',l',rfl,h1,h2,h3⟩|⟨h1,h2⟩
    .rw[h3]at hv;simp only at hv;subst hv;have hv2:cs.map (FS st.o all)=cs.map (FS st.o all):=rfl;have hat:=jM (cs:=cs.map (FS st.o all)) (nr:=900001) (j:=j) (e:=e') (ag:=ag') (ks:=ks') (l:=l'.take hi) (by rw[CJ,hcj];simp[h3]);simp only[VRel];rw[EP,BO AG,hat];simp only;refine⟨A4 _,?_⟩;rw[hγ1 j x hx];have hux0:=hux;simp only[VRel,h1]at hux;obtain⟨hl,p,len,cap,p',hgm,hxx,_,h22,h33,hm4,_,h5⟩:=hux;have htl:(l'.take hi).length=hi:=by rw[BL,vaG hl]
     rw[htl];rw[vas,vas]at hxx;refine⟨p',hi,cap,p',hxx,by rw[hxx];simp,CH _,A4 _,by omega,hm4,.inl ?_,λ_=>rfl⟩;cases p'<;>simp[Addr.add]
    .have hv':v=FS st.o all u:=by
      rw[<-hv];cases hcc:FS st.o all u<;>first|rfl|(rw[hcc]at h1;cases h1)
     subst hv';by_cases hrw:∃m' lo hi,u=.row m' lo hi
     .obtain⟨m',lo,hi,rfl⟩:=hrw;cases hob':DV st.o m' with
      |none=>simp only[FS,hob',VRel]
      |some ob'=>
       by_cases hrr:∃own e ag ks l,ob'=.row own e ag ks l
       .obtain⟨own,e,ag,ks,l,rfl⟩:=hrr;obtain⟨h3,h4⟩:=h2 m' lo hi rfl own e ag ks l hob';rw[h3];simp only[VRel];refine Li h hob' hux hO (λb hb hb'=>?_);replace hb:=hb.block;have hsh:=Pd (cs:=cs) (all:=all) (hi:=hi) hob' h4 (vaa hcj);rcases hb' with hb'|hb'
        .rcases hP b hb' with⟨ob1,h5,h6⟩|⟨m2,h5,ob1,h6,h7⟩
         .obtain⟨ob2,h8,h9⟩:=hb;have hne:n≠m':=by
           rintro rfl;rw[ho]at hob';cases hob'
          exact h.dis n m' ob1 ob2 b hne h5 h8 h6 h9
         .obtain⟨ob2,h8,h9⟩:=hb;by_cases hne:m2=m'
          .subst hne;obtain⟨hi2,e2,ag2,ks2,l2,k1,k2,k3⟩:=TV.1 h5;obtain⟨j2,hj2⟩:=List.mem_iff_getElem?.1 k1;have hocc:2<=IE m2 all:=by
            rw[<-hall,VY];rcases Nat.lt_trichotomy j j2 with hlt|hlt|hlt
            .have:=YZ hlt hcj hj2
             omega
            .subst hlt;rw[hcj]at hj2;simp only[AK,V.row.injEq,vaS]at hj2;obtain⟨rfl,rfl⟩:=hj2;rw[k2]at hob';simp only[AK,Ob.row.injEq]at hob';rw[<-hob'.1,k3]at h4;simp at h4
            .have:=YZ hlt hj2 hcj
             omega
           omega
          .exact h.dis m2 m' ob1 ob2 b hne h6 h8 h7 h9
        .exact(hF b hb').2.2.2 m' hsh hb
       .have:FS st.o all (.row m' lo hi)=.any:=by
         simp only[FS,hob'];split
         .rename_i own e ag ks l heq;simp only[AK]at heq;exact absurd ⟨_,_,_,_,_,heq⟩ hrr
         .rfl
        rw[this];simp only[VRel]
     .have hfree:FS st.o all u=u\/FS st.o all u=.any:=by
       cases u<;>first|exact .inl rfl|exact .inr rfl|exact absurd ⟨_,_,_,rfl⟩ hrw
      rcases hfree with h3|h3
      .rw[h3]at h1 ⊢;exact VP h1 (VRel.mono (Keep.refl _ w) hO hux)
      .rw[h3];simp only[VRel]
  .obtain⟨j,m',hi,e',ag,ks,l,u,h1,h2,h3,h4,h5,h6,h7,h8,h9⟩:=hrow m ob e hm;rw[h5,h7]
   have:=(uY (γ':=γb) (o':=[]) h h3 h8).1
   simp only[ObRel]at this ⊢;obtain⟨k1,k2,xs,k3,k4⟩:=this;exact⟨k1,k2,xs,k3,λi y hy=>Kd.RelAll.mono (Keep.refl _ w) hO (λ_ _ hu=>hu) (k4 i y hy)⟩
 .intro m1 m2 ob1 ob2 b hne h1 h2 hb1 hb2;by_cases e1:900000=m1
  .subst e1;rw[hob0,AK]at h1;subst h1;rw[hγ0]at hb1;obtain⟨j,m',hi,k1,k2,k3,k4,ob3,k5,k6⟩:=hblk m2 ob2 hne h2 b hb2;have hne':n≠m':=by
    rintro rfl;obtain⟨_,_,_,_,_,_,q,_⟩:=TV.1 k4;rw[ho]at q;cases q
   exact h.dis n m' _ ob3 b hne' ho k5 hb1 k6
  .obtain⟨j1,m1',hi1,k1,k2,k3,k4,ob3,k5,k6⟩:=hblk m1 ob1 e1 h1 b hb1;by_cases e2:900000=m2
   .subst e2;rw[hob0,AK]at h2;subst h2;rw[hγ0]at hb2;have hne':n≠m1':=by
     rintro rfl;obtain⟨_,_,_,_,_,_,q,_⟩:=TV.1 k4;rw[ho]at q;cases q
    exact h.dis n m1' _ ob3 b hne' ho k5 hb2 k6
   .obtain⟨j2,m2',hi2,p1,p2,p3,p4,ob4,p5,p6⟩:=hblk m2 ob2 e2 h2 b hb2;by_cases hmm:m1'=m2'
    .subst hmm;have hocc:2<=IE m1' all:=by
      rw[<-hall,VY];rcases Nat.lt_trichotomy j1 j2 with hlt|hlt|hlt
      .have:=YZ hlt k2 p2
       omega
      .omega
      .have:=YZ hlt p2 k2
       omega
     omega
    .exact h.dis m1' m2' ob3 ob4 b hmm k5 p5 k6 p6
 .rintro b hb hf;obtain⟨_,f1,f2,_⟩:=hF b hf;rcases hP b hb with h1|⟨m,h1,h2⟩
  .exact f1 h1
  .exact f2 m h1 h2
 .intro b hb;rcases(hF b hb).1 with h1|h1
  .exact(h.lt b h1).1
  .exact h.fl b h1
end
open Go Go.RowKit
theorem Z4:∀l:List V,OX l=l.map λ_=>.any
 |[]=>rfl
 |_::r=>by simp[OX,Z4 r]
section
variable {B:BT} {nt:Nat} {w0:World} {X:Zone} {γ:Nat→Value} {st st':St} {a:Act} {w:World} {P:Program} {E:Env}
theorem kS{B':BT}{own:Nat->Prop}{O1:Nat->Prop}{g:Nat->Value}(nm:Nat):∀(r:List V) (j0:Nat) {γ:Nat->Value} {st:St} {F:Nat->Prop},nm+j0+r.length<=900000->Rel B nt w0 ⟨own,F⟩ γ st a w->
  (∀b,DY ⟨own,F⟩ γ st.o b->O1 b)->
  (∀j e ag ks l,r[j]?=AA (.vec e ag ks l)->ObRel B' γ [] w O1 (g (j0+j)) (.row AC e ag ks l)/\∀b,(g (j0+j)).ownBlock=AA b->F b/\(w0.heap.size<=b\/own b))->
  (∀i j e ag ks l e' ag' ks' l' b,i≠j->r[i]?=AA (.vec e ag ks l)->r[j]?=AA (.vec e' ag' ks' l')->(g (j0+i)).ownBlock=AA b->(g (j0+j)).ownBlock=AA b->False)->
  ∃γd F',Rel B nt w0 ⟨own,F'⟩ γd (st.ups (KV (nm+j0) r)) a w/\(∀b,F' b->F b)/\(∀b,F b->(∀j e ag ks l,r[j]?=AA (.vec e ag ks l)->(g (j0+j)).ownBlock≠AA b)->F' b)/\
   (∀b,DY ⟨own,F'⟩ γd (st.ups (KV (nm+j0) r)).o b->DY ⟨own,F⟩ γ st.o b)/\
   (∀j e ag ks l,r[j]?=AA (.vec e ag ks l)->γd (nm+j0+j)=g (j0+j)/\DV (st.ups (KV (nm+j0) r)).o (nm+j0+j)=AA (.row AC e ag ks l))/\
   (∀m,(m<nm+j0\/nm+j0+r.length<=m)->γd m=γ m/\(∀cs:List V,DV st.o m=AA (.box (OX cs))->DV (st.ups (KV (nm+j0) r)).o m=AA (.box (OX cs)))/\
    (∀e ag ks l,DV st.o m=AA (.row AC e ag ks l)->DV (st.ups (KV (nm+j0) r)).o m=AA (.row AC e ag ks l)))
 |[],j0,γ,st,F,_,h,hO,hr,hd=>⟨γ,F,h,λ_ h=>h,λ_ h _=>h,λ_ h=>h,λj e ag ks l hj=>by simp at hj,λm _=>⟨rfl,λ_ h=>h,λ_ _ _ _ h=>h⟩⟩
 |v::r,j0,γ,st,F,h9,h,hO,hr,hd=>by
  rw[AV]at h9;by_cases hv:∃e ag ks l,v=.vec e ag ks l
  .obtain⟨e,ag,ks,l,rfl⟩:=hv;obtain⟨hr0,hb0⟩:=hr 0 e ag ks l (by simp);rw[DJ]at hr0 hb0;have h1:=h.add (nm+j0) AG (.row AC e ag ks l) (g j0) (λb hb=>hb0 b hb) (λO' hO'=>by
    simp only[ObRel]at hr0 ⊢;obtain⟨k1,k2,xs,k3,k4⟩:=hr0;exact⟨k1,k2,xs,k3,λi y hy=>Kd.RelAll.mono (Keep.refl _ w) (λb _ hb=>hO b (hO' b hb)) (λ_ _ hu=>hu) (k4 i y hy)⟩)
   have hO2:∀b,DY ⟨own,λb=>F b/\¬FE (g j0) (.row AC e ag ks l) b⟩ (λm=>if nm+j0=m then g j0 else γ m) (st.up (.new (nm+j0) (.row AC e ag ks l))).o b->DY ⟨own,F⟩ γ st.o b:=by
    rintro b (⟨m,ob1,hm,hb1⟩|hb)
    .rw[GS]at hm;split at hm
     .rename_i e1;subst e1;simp only[AK]at hm;subst hm;simp only[CX]at hb1;exact .inr (hb0 b hb1).1
     .rename_i e1;obtain⟨ob0,h0,hs⟩:=QL hm;simp only[BO e1]at hb1;exact .inl ⟨m,ob0,h0,((WA hs).2 _ _).1 hb1⟩
    .exact .inr hb.1
   obtain⟨γd,F',r1,r2,r3,r4,r5,r6⟩:=kS (B':=B') nm r (j0+1) AG h1 (λb hb=>hO b (hO2 b hb)) (λj e' ag' ks' l' hj=>by
     obtain⟨q1,q2⟩:=hr (j+1) e' ag' ks' l' (by simpa using hj);rw[show j0+(j+1)=j0+1+j by omega]at q1 q2;refine⟨zcZ q1,λb hb=>⟨⟨(q2 b hb).1,λhb'=>?_⟩,(q2 b hb).2⟩⟩;exact hd 0 (j+1) e ag ks l e' ag' ks' l' b AG (by simp) (by simpa using hj) hb' (by rw[show j0+(j+1)=j0+1+j by omega];exact hb))
    (λi j e1 ag1 ks1 l1 e2 ag2 ks2 l2 b hij h1 h2 hb1 hb2=>hd (i+1) (j+1) e1 ag1 ks1 l1 e2 ag2 ks2 l2 b AG (by simpa using h1) (by simpa using h2) (by rw[show j0+(i+1)=j0+1+i by omega];exact hb1) (by rw[show j0+(j+1)=j0+1+j by omega];exact hb2))
   refine⟨γd,F',r1,λb hb=>(r2 b hb).1,λb hb hn=>r3 b ⟨hb,λhb'=>hn 0 e ag ks l (by simp) hb'⟩ (λj e' ag' ks' l' hj=>by
     have:=hn (j+1) e' ag' ks' l' (by simpa using hj)
     rwa [show j0+(j+1)=j0+1+j by omega]at this),λb hb=>hO2 b (r4 b hb),?_,?_⟩
   .intro j e' ag' ks' l' hj;cases j with
    |zero=>
     simp only[CA,AK,V.vec.injEq]at hj;obtain⟨rfl,rfl,rfl,rfl⟩:=hj;obtain⟨p1,_,p3⟩:=r6 (nm+j0) (.inl AG);refine⟨by rw[DJ,DJ,p1];simp,?_⟩;rw[DJ];exact p3 e ag ks l (by rw[GS,BX rfl])
    |succ j=>
     obtain⟨p1,p2⟩:=r5 j e' ag' ks' l' (by simpa using hj);rw[show nm+(j0+1)+j=nm+j0+(j+1) by omega]at p1 p2;exact⟨by rw[p1];congr 1;omega,p2⟩
   .intro m hm;have hne:nm+j0≠m:=by
     simp only[AV]at hm;omega
    obtain⟨p1,p2,p3⟩:=r6 m (by simp only[AV]at hm;omega);refine⟨by rw[p1,BO hne],λcs hc=>p2 cs ?_,λe' ag' ks' l' hc=>p3 e' ag' ks' l' ?_⟩
    .rw[GS,BO hne,hc];simp only[HM,Z4,List.map_map,AK,Ob.box.injEq];rfl
    .rw[GS,BO hne,hc];rfl
  .have hu:KV (nm+j0) (v::r)=KV (nm+(j0+1)) r:=by
    cases v<;>first|rfl|exact absurd ⟨_,_,_,_,rfl⟩ hv
   rw[hu];obtain⟨γd,F',r1,r2,r3,r4,r5,r6⟩:=kS (B':=B') nm r (j0+1) AG h hO (λj e' ag' ks' l' hj=>by
     obtain⟨q1,q2⟩:=hr (j+1) e' ag' ks' l' (by simpa using hj);rw[show j0+(j+1)=j0+1+j by omega]at q1 q2;exact⟨q1,q2⟩)
    (λi j e1 ag1 ks1 l1 e2 ag2 ks2 l2 b hij h1 h2 hb1 hb2=>hd (i+1) (j+1) e1 ag1 ks1 l1 e2 ag2 ks2 l2 b AG (by simpa using h1) (by simpa using h2) (by rw[show j0+(i+1)=j0+1+i by omega];exact hb1) (by rw[show j0+(j+1)=j0+1+j by omega];exact hb2))
   refine⟨γd,F',r1,r2,λb hb hn=>r3 b hb (λj e' ag' ks' l' hj=>by
     have:=hn (j+1) e' ag' ks' l' (by simpa using hj)
     rwa [show j0+(j+1)=j0+1+j by omega]at this),r4,?_,?_⟩
   .intro j e' ag' ks' l' hj;cases j with
    |zero=>
     simp only[CA,AK]at hj;exact absurd ⟨_,_,_,_,hj⟩ hv
    |succ j=>
     obtain⟨p1,p2⟩:=r5 j e' ag' ks' l' (by simpa using hj);rw[show nm+(j0+1)+j=nm+j0+(j+1) by omega]at p1 p2;exact⟨by rw[p1];congr 1;omega,p2⟩
   .intro m hm;exact r6 m (by simp only[AV]at hm;omega)
end
open Go Go.RowKit
def MR:V->Bool
 |.agg l=>l.all H5
 |.tup l=>l.all λv=>match v with|.agg l=>l.all H5|v=>H5 v
 |v=>H5 v
def bG:V->Bool
 |.bor cs=>cs.all SI
 |.vec _ _ _ _=>AC
 |v=>MR v
def v9:List V->List V->Bool
 |[.bld _],[.bld _]=>AC
 |[.bld _],_=>AD
 |_,cs=>cs.all SI
def LF(vs:List V)(r:V)(out:List (List V))(g g':Value):Prop:=
 match FX vs,out with
 |none,[]=>bG r=AC
 |some cs,[cs']=>MR r=AC/\v9 cs cs'=AC/\TG g'=TG g
 |_,_=>False
def Does(P:Program)(f:FuncId)(xs:List Value)(w:World)(R:Ending->World->Prop):Prop:=
 match(callFunc f xs.toArray).run P w with
 |.ok (.enter g args) w'=>Calls P g args w' R
 |.ok (.value x) w'=>R (.returned x) w'
 |.ok (.row row args) w'=>Rows P row args w' λx w''=>R (.returned x) w''
 |_=>False
theorem Does.mono{P:Program}{f:FuncId}{xs:List Value}{w:World}{R R':Ending->World->Prop}(h:Does P f xs w R)(hr:∀e w',R e w'->R' e w'):Does P f xs w R':=by
 unfold Does at h ⊢;split at h
 .exact Calls.mono h hr
 .exact hr _ _ h
 .exact Rows.mono h (λv w'=>hr _ _)
 .exact h.elim
theorem Does.enter{P:Program}{f:FuncId}{fn:Func}(hf:P.funcs[f]?=AA fn)(hn:(fn.name== "runtime.NumGoroutine")=AD)(hb:fn.body.isNone=AD){xs:List Value}{w:World}{R:Ending->World->Prop}(h:Calls P f xs.toArray w R):Does P f xs w R:=by
 have:(callFunc f xs.toArray).run P w=.ok (.enter f xs.toArray) w:=by
  unfold callFunc;have hn':¬fn.name= "runtime.NumGoroutine":=by simpa using hn
  have hb':¬fn.body=AB:=λh=>by rw[h]at hb;cases hb
  simp[hf,hn',hb']
 unfold Does;rw[this];exact h
def Snd(P:Program)(B:BT)(f:FuncId)(sp:TF):Prop:=
 ∀(w:World) (X:Zone) (γ:Nat->Value) (vs:List V) (xs:List Value) (r:V) (out:List (List V)),sp vs=AA (r,out)->Glob B w->(∀b,X.own b->B.ng<=b)->
  Rel B.base 0 w X γ ⟨[],I0 vs⟩ J1 w->VRels γ (I0 vs) w (DY X γ (I0 vs)) (vs.map EV) xs->
  Does P f xs w λe w'=>∃x,e=.returned x/\∃γ',Rel B.base 0 w X γ' ⟨[],GZ r out⟩ J1 w'/\VRel γ' (GZ r out) w' (DY X γ' (GZ r out)) (MZ r) x/\LF vs r out (γ 900000) (γ' 900000)
theorem lX{γ γ':Nat->Value}{o o':Store}{w:World}{O O':Nat->Prop}{v:V}(hf:H5 v=AC)(hO:YM v=AC->∀b,b<w.heap.size->O' b->O b){x:Value}(h:VRel γ o w O v x):VRel γ' o' w O' v x:=by
 cases v<;>simp only[H5]at hf<;>first|(cases hf;done)|(exact VP rfl (VRel.mono (Keep.refl _ w) (hO rfl) h))|(simp only[VRel]at h ⊢;try exact h)
theorem kU:∀{l:List V} {v:V},v∈l->YM v=AC->IU l=AC
 |u::r,v,hm,hv=>by
  simp only[IU];cases hu:YM u with
  |true=>rfl
  |false=>
   rcases AW.1 hm with h1|h1
   .subst h1;rw[hv]at hu;cases hu
   .exact kU h1 hv
theorem rT{γ γ':Nat->Value}{o o':Store}{w:World}{O O':Nat->Prop}:∀{l:List V} {xs:List Value},l.all H5=AC->(IU l=AC->∀b,b<w.heap.size->O' b->O b)->VRels γ o w O l xs->VRels γ' o' w O' l xs
 |[],[],_,_,_=>by simp only[VRels]
 |[],_::_,_,_,h=>by simp only[VRels]at h
 |_::_,[],_,_,h=>by simp only[VRels]at h
 |v::l,x::xs,hf,hO,h=>by
  simp only[VRels]at h ⊢;simp only[van,AQ]at hf;exact⟨lX hf.1 (λhv=>hO (kU (AY ..) hv)) h.1,rT hf.2 (λhl=>hO (by simp only[IU];split<;>first|rfl|exact hl)) h.2⟩
theorem rU{γ γ':Nat->Value}{o o':Store}{w:World}{O O':Nat->Prop}{v:V}(hf:MR v=AC)(hO:IY v=AC->∀b,b<w.heap.size->O' b->O b){x:Value}(h:VRel γ o w O v x):VRel γ' o' w O' v x:=by
 by_cases ha:∃l,v=.agg l
 .obtain⟨l,rfl⟩:=ha;simp only[VRel]at h ⊢;obtain⟨cs,hx,hr⟩:=h;exact⟨cs,hx,rT hf hO hr⟩
 by_cases ht:∃l,v=.tup l
 .obtain⟨l,rfl⟩:=ht;simp only[VRel]at h ⊢;obtain⟨cs,hx,hr⟩:=h;refine⟨cs,hx,?_⟩;simp only[MR]at hf;have key:∀(l:List V) (xs:List Value),(l.all λv=>match v with|.agg l=>l.all H5|v=>H5 v)=AC->(IY.go l=AC->∀b,b<w.heap.size->O' b->O b)->VRels γ o w O l xs->VRels γ' o' w O' l xs:=by
   intro l
   induction l with
   |nil=>
    intro xs _ _ h;cases xs with
    |nil=>simp only[VRels]
    |cons _ _=>simp only[VRels]at h
   |cons v l ih=>
    intro xs hf hO h;cases xs with
    |nil=>simp only[VRels]at h
    |cons x xs=>
     simp only[VRels]at h ⊢;simp only[van,AQ]at hf;have h2:IY.go l=AC->IY.go (v::l)=AC:=λhl=>by cases v<;>simp only[IY.go]<;>first|exact hl|(split<;>first|rfl|exact hl)
     refine⟨?_,ih xs hf.2 (λhl=>hO (h2 hl)) h.2⟩;by_cases hv:∃l',v=.agg l'
     .obtain⟨l',rfl⟩:=hv;have h1:=h.1;simp only[VRel]at h1 ⊢;obtain⟨cs,hx,hr⟩:=h1;exact⟨cs,hx,rT hf.1 (λhl=>hO (by simp only[IY.go,hl])) hr⟩
     .have hf1:H5 v=AC:=by
       have:=hf.1
       split at this
       .exact absurd ⟨_,rfl⟩ hv
       .exact this
      exact lX hf1 (λhl=>hO (by cases v<;>simp_all[IY.go])) h.1
  exact key l _ hf hO hr
 have h1:H5 v=AC:=by cases v<;>first|exact hf|exact absurd ⟨_,rfl⟩ ha|exact absurd ⟨_,rfl⟩ ht
 exact lX h1 (λhl=>hO (by cases v<;>first|exact hl|(simp only[YM]at hl;cases hl))) h
theorem V7{v:V}(h:MR v=AC):MZ v=v:=by
 cases v<;>first|rfl|(simp only[MR,H5]at h;cases h)
theorem y7{o:Store}{bs:List V}{tk:Option Kd}{v:V}(h:FL.lentC [v]=[]):∀cs,EZ o bs tk v≠.bor cs:=by
 intro cs hc;cases v
 case ptr n i c=>simp[FL.lentC]at h
 all_goals simp only[EZ]at hc
 all_goals (repeat' split at hc)
 all_goals (cases hc)
theorem y8{o:Store}{bs:List V}{tk:Option Kd}{v:V}{cs:List V}(h:EZ o bs tk v=.bor cs):cs=bs:=by
 cases v<;>simp only[EZ]at h<;>try (cases h;done)
 all_goals (repeat' split at h)
 all_goals first|(cases h;done)|(cases h;rfl)
theorem zZ{o:Store}{bs:List V}:∀{l:List V},(FX.borC (l.map (EZ o bs AB))=AB\/FX.borC (l.map (EZ o bs AB))=AA bs)/\(FL.lentC l=[]->FX.borC (l.map (EZ o bs AB))=AB)
 |[]=>by simp[FX.borC]
 |v::r=>by
  have ih:=zZ (o:=o) (bs:=bs) (l:=r);have hl:FL.lentC (v::r)=[]->FL.lentC [v]=[]/\FL.lentC r=[]:=by cases v<;>simp[FL.lentC]
  simp only[A8];cases hv:EZ o bs AB v
  case bor cs=>
   simp only[FX.borC];refine⟨.inr (by rw[y8 hv]),λh=>absurd hv (y7 (hl h).1 cs)⟩
  all_goals (simp only[FX.borC];exact⟨ih.1,λh=>ih.2 (hl h).2⟩)
theorem gP{o:Store}{bs:List V}:∀{l:List V} {tks:List (List Kd)},(FX (GJ o bs tks l)=AB\/FX (GJ o bs tks l)=AA bs)/\(FL l=[]->FX (GJ o bs tks l)=AB)
 |[],tks=>by cases tks<;>simp[GJ,FX]
 |v::r,tks=>by
  obtain⟨ks,tks',he⟩:∃ks tks',GJ o bs tks (v::r)=J2 o bs ks v::GJ o bs tks' r:=by
   cases tks with
   |nil=>exact⟨[],[],rfl⟩
   |cons k ks=>exact⟨k,ks,rfl⟩
  have ih:=gP (o:=o) (bs:=bs) (l:=r) (tks:=tks');rw[he];have hl:FL (v::r)=[]->FL [v]=[]/\FL r=[]:=by cases v<;>simp[FL]
  by_cases hc:∃f l,v=.clo f l
  .obtain⟨f,l,rfl⟩:=hc;have hb:=zZ (o:=o) (bs:=bs) (l:=l);simp only[J2,FX];cases hx:FX.borC (l.map (EZ o bs AB))with
   |none=>exact⟨ih.1,λh=>ih.2 (hl h).2⟩
   |some cs=>
    simp only;refine⟨.inr ?_,λh=>?_⟩
    .rcases hb.1 with h1|h1<;>rw[hx]at h1
     .cases h1
     .exact h1
    .have:=hb.2 (by have:=(hl h).1;simpa[FL]using this)
     rw[hx]at this;cases this
  .by_cases ha:∃l,v=.agg l
   .obtain⟨l,rfl⟩:=ha;simp only[J2,FX];exact⟨ih.1,λh=>ih.2 (hl h).2⟩
   .have h1:J2 o bs ks v=EZ o bs ks.head? v:=by
     cases v<;>first|rfl|exact absurd ⟨_,rfl⟩ ha|exact absurd ⟨_,_,rfl⟩ hc
    rw[h1];cases hv:EZ o bs ks.head? v
    case bor cs=>
     simp only[FX];refine⟨.inr (by rw[y8 hv]),λh=>absurd hv (y7 (v:=v) ?_ cs)⟩
     have:=(hl h).1
     cases v<;>simp_all[FL,FL.lentC]
    case clo f l=>
     exfalso;cases v<;>simp only[EZ]at hv<;>try (cases hv;done)
     all_goals (repeat' split at hv)
     all_goals (cases hv)
    all_goals (simp only[FX];exact⟨ih.1,λh=>ih.2 (hl h).2⟩)
end Go.FM
