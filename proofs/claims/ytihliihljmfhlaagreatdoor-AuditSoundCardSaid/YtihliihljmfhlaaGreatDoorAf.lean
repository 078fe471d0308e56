/-
  A small machine that reckons what a call comes to; the functions of the program, one by one. (FROM A ROW's PREMISES TO WHAT THE SMALL MACHINE ASKS OF THE , WHAT A ROW's READING OF AN ARGUMENT SAYS OF ITS CELLS, as th, A LAW's ROW: out of what the small machine says of the law's, and so on.)
-/
import Derived.Test.YtihliihljmfhlaaGreatDoorAc
import Derived.Lib.LaidU8
import Derived.OpenShut
import Derived.ProofKit
import Derived.LaidMore
import Derived.Test.YtihliihljmfhlaaGreatDoorTie
import Derived.Test.YtihliihljmfhlaaGreatDoorCards
import Derived.Deep.DeepWitnessRowRef
set_option linter.all false
set_option maxRecDepth 100000
open Array renaming length_toList→C1,getElem?_eq_some_iff→DK
open Bool renaming and_eq_true→AQ,or_eq_true→vap,true→AC,false→AD
open Go.DataW renaming weights→vbt,weightsEach→vbG
open Go.Lib.laidMet renaming reads→vbr
open Go.World renaming cell?→vaI
open List renaming mem_cons→AW,length_append→A2,mem_append→A5,getElem?_eq_getElem→BD,length_nil→BN,length_map→BW,getElem?_eq_some_iff→B4,getElem?_eq_none→B8,getElem?_cons_zero→CA,drop_zero→CD,getElem?_map→CJ,all_eq_true→CZ,getElem_mem→C0,take_of_length_le→C2,cons_append→C9,mem_of_getElem?→vaa,getElem?_append→vah,range→vaQ,mem_map_of_mem→vaZ,mem_range→vbk
open Nat renaming le_of_ble_eq_true→AX,le_refl→A4,zero_add→BU,beq→B2,ble→CG,zero_le→CH,eq_of_beq_eq_true→vae
open Option renaming map_eq_some_iff→DP,some→AA,none→AB
open Option.some renaming injEq→AK,inj→CB
open Prod.mk renaming injEq→A1
namespace Go.FM
open Go Go.Proofs Go.RowKit
theorem Gu{P:Program}{w:World}{name:String}{g:Nat}{cs:Array Value}(hn:P.globalNamed name=AA g)(hv:w.var? P name=AA cs):∃T fr,w.heap[g]?=AA (.cells cs T fr):=by
 unfold World.var? at hv;rw[hn]at hv;simp only[Option.bind_some]at hv;split at hv
 .rename_i c T fr hh;simp only[AK]at hv;subst hv;exact⟨T,fr,hh⟩
 .cases hv
theorem Fj{w:World}{name:String}{g t:Nat}{ms:Array (String×TypeId)}{tn:String}{d:DataW Unit}(h:Lib.VarReads Tryz.prog w name (.iface tn d))(hn:Tryz.prog.globalNamed name=AA g)
  (ht:(Tryz.prog.globals[g]?).map (·.type)=AA t) (hu:Tryz.prog.underlying t=AA (.interface ms)):∃c T fr te pe,w.heap[g]?=AA (.cells c T fr)/\c[0]?=AA (.iface te pe):=by
 obtain⟨g',t',cs,fuel,p,h1,h2,h3,h4⟩:=h;obtain rfl:=CB (hn.symm.trans h1);obtain rfl:=CB (ht.symm.trans h2);obtain⟨f',u,v,hcs,_,_⟩:=iface_of_trod hu h4;obtain⟨T,fr,hh⟩:=Gu hn h3;refine⟨cs,T,fr,u,v,hh,?_⟩
 have:cs= #[.iface u v]:=by
  apply Array.ext';rw[hcs]
 rw[this];rfl
theorem mf{W:World}{l:List (String×DataW Unit)}(hL:laidMet Tryz.prog l W)(hsh:W.ShapedOpen Tryz.prog)
  (hp:("internal/strconv.uint64pow10",Lib.tabData .u64 Lib.pow10Tab)∈l)
  {n1:String} {d1:DataW Unit} (h1:("strconv.ErrRange",.iface n1 d1)∈l)
  {n2:String} {d2:DataW Unit} (h2:("strconv.ErrSyntax",.iface n2 d2)∈l)
  :Glob B0 W:=by
 have hz:∀g,g<4->g<Tryz.prog.globals.size->g<W.heap.size:=λg _ hg=>by
  have hb:((vaQ Tryz.prog.globals.size).all λg=>(((begin Tryz.prog (λ_ _=>0) default).world.heap[g]?).bind Obj.row?).isSome)=AC:=by kernel_rfl
  have:=CZ.1 hb g (vbk.2 hg)
  obtain⟨⟨z,t⟩,hz⟩:=Option.isSome_iff_exists.1 this;obtain⟨cs,hh,_⟩:=hsh.1 g z t hg hz;exact(DK.1 hh).1
 have hsize:4<=W.heap.size:=by
  first
  |exact CH _
  |(
    have:=hz (4-1) (by decide) (BB AF)
    omega)
 have low:∀{g:Nat},g<4->(λb=>if b<B0.ng then W.heap[b]? else AB) g=W.heap[g]?:=λh=>BX (show _<B0.ng from h)
 refine⟨hsize,?_⟩;show GF _;constructor
 first|exact trivial|skip
 case gm=>
  obtain⟨m,hm⟩:=cell_of_shapedOpen_int (P:=Tryz.prog) (g:=0) (t:=3) (zero:=#[.int .i64 0]) hsh (BB AF) AF rfl AF AF Tryz.underlying3;simp only[vaI]at hm;split at hm
  .rename_i c T fr' hh;exact⟨c,T,fr',m,(low (by decide)).trans hh,hm⟩
  .cases hm
 case gp=>
  have gp:Tryz.prog.globalNamed "internal/strconv.uint64pow10" =AA 1:=by kernel_rfl
  obtain⟨g',t',cp,fuel,p,e1,e2,e3,e4⟩:=vbr hL hp;obtain rfl:=CB (gp.symm.trans e1);obtain⟨T,fr',hh⟩:=Gu gp e3;refine⟨T,fr',(low (by decide)).trans ?_⟩;rw[hh];have et:(Tryz.prog.globals[1]?).map (·.type)=AA 268:=by kernel_rfl
  obtain rfl:=CB (et.symm.trans e2)
  have:=Lib.cells_of_tab (e:=106) (n:=20) AF AF AF AF e4
  congr 1;congr 1;apply Array.ext';exact this
 case gs=>
  obtain⟨cs,Ts,fs,tes,pes,hs1,hs2⟩:=Fj (g:=2) (vbr hL h2) AF (show _=AA 149 by kernel_rfl) Tryz.underlying149;exact⟨cs,Ts,fs,tes,pes,(low (by decide)).trans hs1,hs2⟩
 case gr=>
  obtain⟨cr,Tr,fr,ter,per,hr1,hr2⟩:=Fj (g:=3) (vbr hL h1) AF (show _=AA 149 by kernel_rfl) Tryz.underlying149;exact⟨cr,Tr,fr,ter,per,(low (by decide)).trans hr1,hr2⟩
def X0:Zone:=⟨λ_=>False,λ_=>False⟩
def γ0:Nat->Value:=λ_=>.nilIface
abbrev O0:Nat->Prop:=DY X0 γ0 []
theorem yV(b:Nat):¬O0 b:=by
 rintro(⟨n,ob,h,_⟩|h)
 .simp[DV,FA]at h
 .exact h
theorem Nk(W:World):Rel B0.base 0 W X0 γ0 ⟨[],[]⟩ J1 W:=by
 have no:∀n ob,DV ([]:Store) n≠AA ob:=λn ob h=>by simp[DV,FA]at h
 refine⟨rfl,rfl,λi=>by simp only[St.get,FA,VRel],λn ob h=>absurd h (no n ob),λb h=>?_,λn m ob ob' b _ h=>absurd h (no n ob),Keep.refl _ _,λb h=>?_,λb h=>h.elim,λp _ ob h=>absurd h (no _ ob)⟩
 .obtain⟨n,ob,h,_⟩:=h;exact absurd h (no n ob)
 .obtain⟨n,ob,h,_⟩:=h;exact absurd h (no n ob)
theorem bt{f:Nat}{fn:Func}(hf:PR.funcs[f]?=AA fn)(hn:(fn.name== "runtime.NumGoroutine")=AD)(hb:fn.body.isNone=AD){xs:List Value}{w:World}{R:Ending->World->Prop}(h:Does PR f xs w R):Calls PR f xs.toArray w R:=by
 have:(callFunc f xs.toArray).run PR w=.ok (.enter f xs.toArray) w:=by
  unfold callFunc;have hn':¬fn.name= "runtime.NumGoroutine":=by simpa using hn
  have hb':¬fn.body=AB:=λh=>by rw[h]at hb;cases hb
  simp[hf,hn',hb']
 unfold Does at h;rw[this]at h;exact h
theorem bv{f:Nat}{fn:Func}{sp:D4}(hS:D6 PR B0 f sp)(hf:PR.funcs[f]?=AA fn)(hn:(fn.name== "runtime.NumGoroutine")=AD)(hb:fn.body.isNone=AD){vs:List V}{xs:List Value}{W:World}
  (hsp:(sp vs).get=AA (.bool AC,[])) (hbor:FX vs=AB) (hG:Glob B0 W) (hV:VRels γ0 [] W O0 (vs.map EV) xs):
  Calls PR f xs.toArray W λe w'=>e=.returned (.bool AC)/\Below W.heap.size W w':=by
 refine bt hf hn hb ?_;have em:I0 vs=[]:=by unfold I0;rw[hbor]
 refine Does.mono (hS W X0 γ0 vs xs (.bool AC) [] hsp hG (λb h=>h.elim) (by rw[em];exact Nk W) (by rw[em];exact hV)) ?_;rintro e w' ⟨x,rfl,γ',hR,hx,_⟩;simp only[MZ,EV,VRel]at hx;subst hx;exact⟨rfl,hR.keep.os,hR.keep.tape,hR.keep.output,hR.keep.size,λb hb=>hR.keep.block b hb (λh=>h)⟩
open Go
def U5(P:Program)(e:TypeId):Bool:=match P.underlying e with|some (.struct _)=>AC|some (.array _ _)=>AC|_=>AD
def aV(f:TypeId->Option (List Kd))(cell:TypeId->Nat):Nat->List (TypeId×Nat)->Option (List Kd)
 |_,[]=>AA []
 |off,(t,o)::r=>match B2 o off with
  |true=>match f t with
   |some ks=>match B2 (cell t) ks.length with
    |true=>match aV f cell (off+ks.length) r with
     |some ks'=>AA (ks++ks')
     |none=>AB
    |false=>AB
   |none=>AB
  |false=>AB
def R8(P:Program):Nat->TypeId->Option (List Kd)
 |0,_=>AB
 |n+1,t=>match P.underlying t with
  |some .bool=>AA [.bool]
  |some (.int k)=>AA [.int k]
  |some .string=>AA [.str]
  |some (.slice e)=>match R8 P n e with
   |some ks=>match CG 1 (P.bytesOf e)&&(B2 (P.cellsOf e) ks.length&&(CG 1 ks.length&&(U5 P e||B2 ks.length 1)))with
    |true=>AA [.list (U5 P e) ks]
    |false=>AB
   |none=>AB
  |some (.struct fs)=>match aV (R8 P n) P.cellsOf 0 (fs.toList.map λf=>(f.type,f.offset))with
   |some ks=>match B2 (P.cellsOf t) ks.length with|true=>AA ks|false=>AB
   |none=>AB
  |some (.array m e)=>match aV (R8 P n) P.cellsOf 0 ((vaQ m).map λi=>(e,i*P.cellsOf e))with
   |some ks=>match B2 (P.cellsOf t) ks.length with|true=>AA ks|false=>AB
   |none=>AB
  |_=>AB
def CellsK(w:World)(O:Nat->Prop):List Kd->LI->List Value->Prop
 |[],[],[]=>True
 |k::ks,x::f,v::cs=>Kd.Rel w O k x v/\CellsK w O ks f cs
 |_,_,_=>False
section
variable {w:World} {O:Nat→Prop}
theorem CellsK.append:∀{ks:List Kd} {f:LI} {cs:List Value} {ks':List Kd} {f':LI} {cs':List Value},CellsK w O ks f cs->CellsK w O ks' f' cs'->CellsK w O (ks++ks') (f++f') (cs++cs')
 |[],[],[],_,_,_,_,h'=>h'
 |_::ks,_::f,_::cs,_,_,_,h,h'=>by
  simp only[CellsK]at h;simp only[C9,CellsK];exact⟨h.1,h.2.append h'⟩
 |[],_::_,_,_,_,_,h,_=>by simp[CellsK]at h
 |[],[],_::_,_,_,_,h,_=>by simp[CellsK]at h
 |_::_,[],_,_,_,_,h,_=>by simp[CellsK]at h
 |_::_,_::_,[],_,_,_,h,_=>by simp[CellsK]at h
theorem CellsK.get:∀{ks:List Kd} {f:LI} {cs:List Value},CellsK w O ks f cs->∀(j:Nat) (k:Kd),ks[j]?=AA k->∃v,cs[j]?=AA v/\Kd.Rel w O k (LO f j) v
 |[],_,_,_,j,k,h=>by simp at h
 |k::ks,x::f,v::cs,h,j,k',hj=>by
  simp only[CellsK]at h;cases j with
  |zero=>
   simp only[CA,AK]at hj;subst hj;exact⟨v,rfl,by simpa only[LO]using h.1⟩
  |succ j=>
   obtain⟨u,h1,h2⟩:=h.2.get j k' (by simpa using hj);exact⟨u,by simpa using h1,by simpa only[LO]using h2⟩
 |_::_,[],_,h,_,_,_=>by simp[CellsK]at h
 |_::_,_::_,[],h,_,_,_=>by simp[CellsK]at h
theorem Dr{α:Type}{Q:Nat->α->Prop}:∀n,(∀i,i<n->∃x,Q i x)->∃L:List α,L.length=n/\∀i x,L[i]?=AA x->Q i x
 |0,_=>⟨[],rfl,λi x h=>by simp at h⟩
 |n+1,h=>by
  obtain⟨L,hl,hL⟩:=Dr n (λi hi=>h i AG);obtain⟨x,hx⟩:=h n AG;refine⟨L++[x],by simp[hl],λi y hy=>?_⟩;rw[vah]at hy;split at hy
  .exact hL i y hy
  .rename_i hi
   have:i-L.length=0:=by
    rcases Nat.eq_zero_or_pos (i-L.length)with e|e
    .exact e
    .rw[B8 (by simp;omega)]at hy;cases hy
   rw[this]at hy;simp only[CA,AK]at hy;subst hy
   have:i=n:=by omega
   subst this;exact hx
end
theorem tM{H:Type}{P:Program}:∀{ts:List TypeId} {ds:List (DataW H)} {i:Nat} {t:TypeId} {d:DataW H},ts[i]?=AA t->ds[i]?=AA d->∀y∈d.weights P t,y∈vbG P ts ds
 |[],_,i,_,_,h,_,_,_=>by simp at h
 |_::_,[],i,_,_,_,h,_,_=>by simp at h
 |t0::ts,d0::ds,0,t,d,h,h',y,hy=>by
  simp only[CA,AK]at h h';subst h;subst h';simp only[vbG,A5];exact .inl hy
 |t0::ts,d0::ds,i+1,t,d,h,h',y,hy=>by
  simp only[vbG,A5];exact .inr (tM (by simpa using h) (by simpa using h') y hy)
theorem tL{H:Type}{P:Program}{e:TypeId}:∀{ds:List (DataW H)} {d:DataW H},d∈ds->∀y∈d.weights P e,y∈DataW.weightsAll P e ds
 |[],_,h,_,_=>by cases h
 |d0::ds,d,h,y,hy=>by
  simp only[DataW.weightsAll,A5];rcases AW.1 h with rfl|h
  .exact .inl hy
  .exact .inr (tL h y hy)
section
variable {H:Type} {enc:TypeId × Value→H} {P:Program} {w:World} {base:Nat} {sp:Nat→Bool} {held:Bool} {O:Nat→Prop}
theorem uZ{f:TypeId->Option (List Kd)}{n:Nat}{cs:List Value}
  (ih:∀(t:TypeId) (ks:List Kd) (cs:List Value) (d:DataW H) (p:List MemPlace),f t=AA ks->DataW.trod enc P w base sp held n t cs=AA (d,p)->(∀y∈d.weights P t,y<=reachBytes)->∃g,CellsK w O ks g cs):
  ∀(parts:List (TypeId×Nat)) (off:Nat) (ks:List Kd) (xs:List (DataW H×List MemPlace)),aV f P.cellsOf off parts=AA ks->xs.length=parts.length->
   (∀(i:Nat) (t:TypeId) (o:Nat),parts[i]?=AA (t,o)->DataW.trod enc P w base sp held n t ((cs.drop o).take (P.cellsOf t))=xs[i]?)->
   (∀(i:Nat) (t:TypeId) (o:Nat) (x:DataW H×List MemPlace),parts[i]?=AA (t,o)->xs[i]?=AA x->∀y∈x.1.weights P t,y<=reachBytes)->∃g,CellsK w O ks g ((cs.drop off).take ks.length)
 |[],off,ks,xs,h,_,_,_=>by
  simp only[aV,AK]at h;subst h;exact⟨[],by simp only[BN,List.take_zero,CellsK]⟩
 |(t,o)::r,off,ks,[],h,hl,_,_=>by simp at hl
 |(t,o)::r,off,ks,x::xs,h,hl,ht,hw=>by
  simp only[aV]at h;split at h
  case h_2=>cases h
  rename_i ho;obtain rfl:=vae ho;split at h
  case h_2=>cases h
  rename_i k1 hk1;split at h
  case h_2=>cases h
  rename_i hc;have hc:=vae hc;split at h
  case h_2=>cases h
  rename_i k2 hk2;simp only[AK]at h;subst h;have h0:=ht 0 t o rfl;simp only[CA]at h0;obtain⟨d,p⟩:=x;obtain⟨g1,hg1⟩:=ih t k1 _ d p hk1 h0 (hw 0 t o (d,p) rfl rfl);obtain⟨g2,hg2⟩:=uZ ih r (o+k1.length) k2 xs hk2 (by simpa using hl) (λi t' o' hi=>by simpa using ht (i+1) t' o' (by simpa using hi)) (λi t' o' x hi hx=>hw (i+1) t' o' x (by simpa using hi) (by simpa using hx));refine⟨g1++g2,?_⟩;rw[A2,List.take_add,List.drop_drop];rw[hc]at hg1;exact hg1.append hg2
theorem ze0{a:Addr}{v:Value}(h:w.cell? a=AA v):a.spot=AB/\a.block<w.heap.size:=by
 unfold vaI at h;split at h
 .rename_i c _ _ hc;split at h
  .cases h
  .rename_i hs;exact⟨by simpa using hs,(DK.1 hc).1⟩
 .cases h
theorem j8(hO:∀b,¬O b):∀(n:Nat) (t:TypeId) (ks:List Kd) (fuel:Nat) (cs:List Value) (d:DataW H) (p:List MemPlace),R8 P n t=AA ks->
  DataW.trod enc P w base sp held fuel t cs=AA (d,p)->(∀y∈d.weights P t,y<=reachBytes)->∃g,CellsK w O ks g cs
 |0,_,_,_,_,_,_,h,_,_=>by simp[R8]at h
 |n+1,t,ks,fuel,cs,d,p,h,ht,hw=>by
  simp only[R8]at h;split at h
  .rename_i hu;simp only[AK]at h;subst h;obtain⟨b,rfl,_⟩:=DataW.trod_bool hu ht;exact⟨[.bool b],by simp only[CellsK,Kd.Rel,IV.toBool,and_self]⟩
  .rename_i k hu;simp only[AK]at h;subst h;obtain⟨m,rfl,_,hm⟩:=DataW.trod_int hu ht;simp only[Lit.wf,AQ,AZ]at hm;exact⟨[.int m],by simp only[CellsK,Kd.Rel,IV.toInt,CI,vaS];exact hm⟩
  .rename_i hu;simp only[AK]at h;subst h;obtain⟨s,rfl,hd,hs⟩:=DataW.trod_string hu ht;simp only[A1]at hd;refine⟨[.str s],?_⟩;simp only[CellsK,Kd.Rel,IV.toStr,CI,vaS];rw[hd.1]at hw
   have:=hw s.data.toList.length (by simp[vbt])
   have e:s.data.toList.length=s.size:=by rw[C1];rfl
   rw[e]at this;unfold reachBytes at this;unfold strMax;omega
  .rename_i e hu;split at h
   case h_2=>cases h
   rename_i k1 hk1;split at h
   case h_2=>cases h
   rename_i hc;simp only[AK]at h;subst h;simp only[AQ,vap]at hc;obtain⟨hb,hce,hk0,hag⟩:=hc;have hb:=AX hb;have hce:=vae hce;have hk0:=AX hk0;rcases DataW.trod_slice hu ht with⟨rfl,_⟩|⟨a,len,cap,elems,rest,m,_,rfl,hx,_,hlc,hcap,hlen,hel,_⟩
   .refine⟨[.list []],?_⟩;simp only[CellsK,Kd.Rel,IV.toList,CI];exact⟨AB,0,rfl,A4 _,CH _,CH _,λi y hi=>by simp at hi⟩
   .simp only[A1]at hx;obtain⟨rfl,_⟩:=hx;simp only[vbt,hu,AW,A5]at hw;have hsz:len<=strMax:=by
     have:=hw _ (.inl rfl)
     rw[BW,hlen]at this;have h1:len*1<=(len+(rest.map (·.1)).length)*P.bytesOf e:=Nat.mul_le_mul AG hb;unfold reachBytes at this;unfold strMax;omega
    have hex:∀i,i<len->∃g:LI,∃ci,w.cells? base (a.add (i*k1.length)) k1.length=AA ci/\CellsK w O k1 g ci:=by
     intro i hi;have h1:=hel i hi;have hi':i<elems.length:=by omega
     rw[BD hi',hce]at h1;simp only[Option.bind_eq_some_iff]at h1;obtain⟨ci,h2,h3⟩:=h1;obtain⟨g,hg⟩:=j8 hO n e k1 m ci elems[i].1 elems[i].2 hk1 h3 (λy hy=>hw y (.inr (.inl (tL (vaZ (C0 hi')) y hy))));exact⟨g,ci,h2,hg⟩
    obtain⟨L,hL,hLi⟩:=Dr len hex;refine⟨[.list (L.map λg=>match U5 P e with|true=>IV.agg g|false=>LO g 0)],?_⟩;simp only[CellsK,Kd.Rel,IV.toList,CI,BW,hL];refine⟨AA a,cap,rfl,hlc,hcap,hsz,λi y hi=>?_⟩;rw[CJ,DP]at hi;obtain⟨g,hg,rfl⟩:=hi;obtain⟨ci,hci,hgc⟩:=hLi i g hg;have hil:i<len:=by rw[<-hL];exact(B4.1 hg).1
    have cellAt:∀j k,k1[j]?=AA k->∃u,w.cell? ((a.add (i*k1.length)).add j)=AA u/\Kd.Rel w O k (LO g j) u:=by
     intro j k hk;obtain⟨u,h1,h2⟩:=hgc.get j k hk;refine⟨u,?_,h2⟩;have hj:j<k1.length:=(B4.1 hk).1;unfold World.cells? at hci;split at hci
     .obtain⟨b,hb1,hb2⟩:=Lib.mapM_at hci j j (by simp[hj]);rw[h1]at hb1;simp only[AK]at hb1;rw[hb2,hb1]
     .cases hci
    have hspot:a.spot=AB/\a.block<w.heap.size:=by
     obtain⟨g0,hg0⟩:∃g0,L[0]?=AA g0:=⟨L[0]'AG,BD AG⟩;obtain⟨c0,hc0,hgc0⟩:=hLi 0 g0 hg0;obtain⟨u,h1,_⟩:=hgc0.get 0 k1[0] (BD AG);unfold World.cells? at hc0;split at hc0
     .obtain⟨b,_,hb2⟩:=Lib.mapM_at hc0 0 0 (List.getElem?_range (show 0<k1.length by omega))
      have:=ze0 hb2
      rw[Nat.zero_mul]at this;simpa[Addr.add]using this
     .cases hc0
    obtain⟨ab,ao,asp⟩:=a;obtain⟨hs1,hs2⟩:=hspot;simp only at hs1 hs2;subst hs1;refine⟨ab,ao,rfl,hO ab,hs2,?_⟩;rw[Kd.RelAll_iff];intro j k hk;obtain⟨u,h1,h2⟩:=cellAt j k hk;rw[Lib.add_plain,Lib.add_plain]at h1;rw[BU];refine⟨u,h1,?_⟩;cases hat:U5 P e with
    |true=>
     show Kd.Rel w O k (LO g j) u;exact h2
    |false=>
     rw[hat]at hag;have h1l:k1.length=1:=vae (by simpa using hag);have hj:j<k1.length:=(B4.1 hk).1
     have:j=0:=by omega
     subst this;exact h2
  .rename_i fs hu;split at h
   case h_2=>cases h
   rename_i k1 hk1;split at h
   case h_2=>cases h
   rename_i hc;have hc:=vae hc;simp only[AK]at h;subst h;obtain⟨xs,m,_,hx,hcl,hxl,hall⟩:=DataW.trod_struct hu ht;simp only[A1]at hx;obtain⟨rfl,_⟩:=hx;simp only[vbt,hu]at hw;have key:=uZ (enc:=enc) (P:=P) (w:=w) (base:=base) (sp:=sp) (held:=held) (O:=O) (f:=R8 P n) (n:=m) (cs:=cs) (λt ks cs d p h1 h2 h3=>j8 hO n t ks m cs d p h1 h2 h3) (fs.toList.map λf=>(f.type,f.offset)) 0 k1 xs hk1 (by simp[hxl]) (λi t o hi=>by
     rw[CJ,DP]at hi;obtain⟨f,hf,he⟩:=hi;simp only[A1]at he;obtain⟨rfl,rfl⟩:=he;exact hall i f (by simpa using hf)) (λi t o x hi hx y hy=>by
     rw[CJ,DP]at hi;obtain⟨f,hf,he⟩:=hi;simp only[A1]at he;obtain⟨rfl,rfl⟩:=he;exact hw y (tM (i:=i) (by rw[CJ,hf];rfl) (by rw[CJ,hx];rfl) y hy))
   obtain⟨g,hg⟩:=key;rw[CD,C2 AG]at hg;exact⟨g,hg⟩
  .rename_i m0 e hu;split at h
   case h_2=>cases h
   rename_i k1 hk1;split at h
   case h_2=>cases h
   rename_i hc;have hc:=vae hc;simp only[AK]at h;subst h;obtain⟨xs,m,_,hx,hcl,hxl,hall⟩:=DataW.trod_array hu ht;simp only[A1]at hx;obtain⟨rfl,_⟩:=hx;simp only[vbt,hu]at hw;have key:=uZ (enc:=enc) (P:=P) (w:=w) (base:=base) (sp:=sp) (held:=held) (O:=O) (f:=R8 P n) (n:=m) (cs:=cs) (λt ks cs d p h1 h2 h3=>j8 hO n t ks m cs d p h1 h2 h3) ((vaQ m0).map λi=>(e,i*P.cellsOf e)) 0 k1 xs hk1 (by simp[hxl]) (λi t o hi=>by
     rw[CJ,DP]at hi;obtain⟨f,hf,he⟩:=hi;simp only[A1]at he;obtain⟨rfl,rfl⟩:=he;have hfi:=B4.1 hf;obtain⟨hl,he⟩:=hfi;rw[List.getElem_range]at he;subst he;exact hall i (by simpa using hl)) (λi t o x hi hx y hy=>by
     rw[CJ,DP]at hi;obtain⟨f,hf,he⟩:=hi;simp only[A1]at he;obtain⟨rfl,rfl⟩:=he;exact hw y (tL (vaZ (vaa hx)) y hy))
   obtain⟨g,hg⟩:=key;rw[CD,C2 AG]at hg;exact⟨g,hg⟩
  .cases h
end
open Go Go.Proofs Go.RowKit Go.ChangeShapes Go.WideShapes
def ZI:Kd->IV->V
 |.int k,x=>.int k x.toInt
 |.bool,x=>.bool x.toBool
 |.str,x=>.str x.toStr
 |.list ag ks,x=>.list ag ks x.toList
theorem Ux{γ:Nat->Value}{o:Store}{w:World}{O:Nat->Prop}{k:Kd}{x:IV}{v:Value}(h:Kd.Rel w O k x v):VRel γ o w O (ZI k x) v:=by
 cases k with
 |int k=>simpa only[ZI,VRel,Kd.Rel]using h
 |bool=>simpa only[ZI,VRel,Kd.Rel]using h
 |str=>simpa only[ZI,VRel,Kd.Rel]using h
 |list ag ks=>
  simp only[ZI,VRel];simpa only[Kd.Rel,IV.toList]using h
def kB:List Kd->LI->List V
 |k::ks,x::f=>ZI k x::kB ks f
 |_,_=>[]
theorem Vf{γ:Nat->Value}{o:Store}{w:World}{O:Nat->Prop}:∀{ks:List Kd} {f:LI} {cs:List Value},CellsK w O ks f cs->VRels γ o w O (kB ks f) cs
 |[],[],[],_=>by simp only[kB,VRels]
 |_::_,_::_,_::_,h=>by
  simp only[CellsK]at h;simp only[kB,VRels];exact⟨Ux h.1,Vf h.2⟩
 |[],_::_,_,h=>by simp[CellsK]at h
 |[],[],_::_,h=>by simp[CellsK]at h
 |_::_,[],_,h=>by simp[CellsK]at h
 |_::_,_::_,[],h=>by simp[CellsK]at h
theorem CellsK.len{w:World}{O:Nat->Prop}:∀{ks:List Kd} {f:LI} {cs:List Value},CellsK w O ks f cs->f.length=ks.length
 |[],[],[],_=>rfl
 |_::_,_::_,_::_,h=>by
  simp only[CellsK]at h;simp only[List.length_cons,h.2.len]
 |[],_::_,_,h=>by simp[CellsK]at h
 |[],[],_::_,h=>by simp[CellsK]at h
 |_::_,[],_,h=>by simp[CellsK]at h
 |_::_,_::_,[],h=>by simp[CellsK]at h
section
variable {H:Type} {enc:TypeId × Value→H} {P:Program} {W:World} {base b0:Nat} {sp:Nat→Bool} {held:Bool}
theorem zC{n:Nat}{t:TypeId}{ks:List Kd}{v:Value}{d:DataW H}{p:List MemPlace}(hk:R8 P n t=some ks)(hu:U5 P t=true)(hval:Value.okWide P W .any base t v)
  (h:DataW.Trod enc P W b0 sp held t v d p) (hw:∀y∈d.weights P t,y<=reachBytes):∃g:LI,g.length=ks.length/\VRel γ0 [] W O0 (.agg (kB ks g)) v:=by
 obtain⟨cs,rfl⟩:∃cs,v=.agg cs:=by
  unfold U5 at hu;unfold Value.okWide at hval;split at hu
  .rename_i hh;rw[hh]at hval;exact hval.imp (λ_ h=>h.1)
  .rename_i hh;rw[hh]at hval;exact hval.imp (λ_ h=>h.1)
  .cases hu
 obtain⟨fuel,hf⟩:=h;obtain⟨g,hg⟩:=j8 (O:=O0) yV n t ks fuel _ d p hk hf hw;refine⟨g,hg.len,?_⟩;simp only[VRel];exact⟨cs,rfl,Vf hg⟩
theorem gL{n:Nat}{t:TypeId}{k:Kd}{v:Value}{d:DataW H}{p:List MemPlace}(hk:R8 P n t=some [k])(hu:U5 P t=false)(hval:Value.okWide P W .any base t v)
  (h:DataW.Trod enc P W b0 sp held t v d p) (hw:∀y∈d.weights P t,y<=reachBytes):∃x:IV,VRel γ0 [] W O0 (ZI k x) v:=by
 obtain⟨fuel,hf⟩:=h;obtain⟨g,hg⟩:=j8 (O:=O0) yV n t [k] fuel _ d p hk hf hw;have hc:v.cells.toList=[v]:=by
  cases v with
  |agg cs=>
   exfalso;unfold U5 at hu;unfold Value.okWide at hval;split at hu
   .cases hu
   .cases hu
   .rename_i h1 h2;split at hval
    .rename_i hh;exact h1 _ hh
    .rename_i hh;exact h2 _ _ hh
    .unfold Cell.okWide Cell.ok at hval;split at hval<;>first|(split at hval<;>simp_all)|simp_all
  |_=>rfl
 rw[hc]at hg
 match g,hg with
 |[x],hg=>
  simp only[CellsK,and_true]at hg;exact⟨x,Ux hg⟩
theorem Ur(hl:laidOutB P=true){W':World}(hb:Below W.heap.size W W'):∀{ts:List TypeId} {vs:List Value} {ds:List (DataW H)} {ps:List MemPlace},DataW.TrodAll enc P W 0 (λ_=>true) true ts vs ds ps->
  (∀t∈ts,P.readableRec t=true/\t<P.types.size)->(∀x∈ps,x.block<W.heap.size)->DataW.TrodAll enc P W' 0 (λb=>decide (b<W.heap.size)) true ts vs ds ps
 |[],vs,ds,ps,h,_,_=>by
  obtain⟨rfl,rfl,rfl⟩:=trodAll_nil h;rfl
 |t::ts,vs,ds,ps,h,ht,hp=>by
  obtain⟨v,vs1,d,ds1,a,b,rfl,rfl,rfl,h1,h2⟩:=trodAll_cons h;have hh:=ht t (List.mem_cons_self ..);exact⟨a,b,Below.trod hl hh.1 hh.2 h1 hb (λx hx=>hp x (List.mem_append.2 (.inl hx))),Ur hl hb h2 (λt' h'=>ht t' (List.mem_cons_of_mem _ h')) (λx hx=>hp x (List.mem_append.2 (.inr hx))),rfl⟩
end
theorem Ov:ownKnob Tryz.prog.godebug=none:=by kernel_rfl
theorem Ou:laidOutB Tryz.prog=true:=by kernel_rfl
theorem un{os:Os}(started:os.Started){H:Type}{enc:TypeId×Value->H}{spec:ChangeSpec}{f:Nat}{fn:Func}{sp:D4}{laid:List (String×DataW Unit)}(hS:D6 PR B0 f sp)(hf:Tryz.prog.funcs[f]?=some fn)
  (hn:(fn.name== "runtime.NumGoroutine")=false) (hb:fn.body.isNone=false) (hini:Tryz.prog.inits.idxOf? f=none) (hres:fn.resultTypes= #[4]) (hvars:spec.vars=[])
  (hspec:∀(ds:List (DataW H)),ds.length=fn.params.toList.length->spec.fn H ds={results:=[.lit (.bool true)],args:=ds})
  (hpar:fn.params.toList.all (λt=>Tryz.prog.readableRec t&&decide (t<Tryz.prog.types.size))=true)
  (hglob:∀W:World,laidMetH Tryz.prog laid W->W.ShapedOpen Tryz.prog->Glob B0 W)
  (witness:∃(w:World) (tape:Tape) (i:Input),w.os=os/\(w.forCall tape i).Shaped Tryz.prog/\i.vars=[]/\Input.okWide Tryz.prog (w.forCall tape i) .any w.heap.size f i/\
   (OpenSpec.ofChange spec).preRow enc Tryz.prog fn [] false laid (w.forCall tape i).memory i.args/\({}:Assume).holds Tryz.prog (lone (Frame.enter Tryz.prog f i.args .normal) [] (w.forCall tape i)))
  (harg:∀(W:World) (base:Nat) (vs:List Value) (ds:List (DataW H)) (p:List MemPlace),DataW.TrodAll enc Tryz.prog W 0 (λ_=>true) true fn.params.toList vs ds p->
   (∀(j:Nat) t v,fn.params.toList[j]?=some t->vs[j]?=some v->Value.okWide Tryz.prog W .any base t v)->
   (∀(j:Nat) t d,fn.params.toList[j]?=some t->ds[j]?=some d->∀y∈d.weights Tryz.prog t,y<=reachBytes)->
   ∃l:List V,(sp l).get=some (.bool true,[])/\FX l=none/\VRels γ0 [] W O0 (l.map EV) vs):
  ReturnsInHanded {} Tryz.checked os f .any ((OpenSpec.ofChange spec).preRow enc Tryz.prog fn [] false laid) (spec.post enc Tryz.prog fn false true false false):=by
 refine returnsInHanded_of_row (C:=Tryz.checked) (s:=OpenSpec.ofChange spec) (F:=λ_ _ _=>0) Ov started hini hf witness ?_;intro W base args ds gs before hval hW _ _ hwt hL hsh _;have hW':=hW;obtain⟨p,q,hA,hV,rfl,_,_⟩:=hW;have hvars':(OpenSpec.ofChange spec).vars=[]:=hvars;rw[hvars']at hV;obtain⟨rfl,rfl⟩:=trodVars_none hV;have hlen:ds.length=fn.params.toList.length:=by
  have:∀{ts:List TypeId} {vs:List Value} {ds:List (DataW H)} {ps:List MemPlace},DataW.TrodAll enc Tryz.prog W 0 (λ_=>true) true ts vs ds ps->ds.length=ts.length:=by
   intro ts
   induction ts with
   |nil=>intro vs ds ps h;obtain⟨_,rfl,_⟩:=trodAll_nil h;rfl
   |cons t ts ih=>
    intro vs ds ps h;obtain⟨v,vs1,d,ds1,a,b,rfl,rfl,rfl,h1,h2⟩:=trodAll_cons h;simp only[List.length_cons,ih h2]
  exact this hA
 simp only[List.append_nil]at hW' hwt;obtain⟨l,hl,hbor,hrel⟩:=harg W base args.toList ds p hA (λj t v h1 h2=>hval j t v (by simpa using h1) (by simpa using h2)) (λj t d h1 h2 y hy=>by
  have hm:=tM (P:=Tryz.prog) (ts:=fn.params.toList++(OpenSpec.ofChange spec).bare.plain.varTypes Tryz.prog) (ds:=ds) (i:=j) (t:=t) (d:=d) (by
   rw[List.getElem?_append_left (by rw[<-hlen];exact(List.getElem?_eq_some_iff.1 h2).1)];exact h1) h2 y hy
  have:=List.all_eq_true.1 hwt y hm
  simpa using this)
 have hc:=bv hS hf hn hb hl hbor (hglob W hL hsh) hrel;have ea:args.toList.toArray=args:=by simp
 rw[ea]at hc;refine hc.mono ?_;rintro e W' ⟨rfl,bel⟩;have hfn:spec.fn H (ds++[])={results:=[.lit (.bool true)],args:=ds}:=by rw[List.append_nil];exact hspec ds hlen
 have hlt:∀x∈p,x.block<W.heap.size:=λx hx=>hW'.lt x hx
 have post:spec.post enc Tryz.prog fn false true false false W args (.bool true) W':=by
  refine⟨ds,[],p,[],p,[],hW',?_,?_,?_,bel.frame _,λh=>by cases h⟩
  .rw[hfn,hres];exact trodAll_mk1 (shut_bool Tryz.underlying4 _)
  .rw[hfn];exact Ur Ou bel hA (λt ht=>by
    have:=List.all_eq_true.1 hpar t ht
    simpa using this) hlt
  .rw[hvars,hfn];rfl
 exact⟨_,rfl,post⟩
end Go.FM
namespace Go.Proofs.YtihliihljmfhlaaGreatDoor
open Go Go.ChangeShapes Go.WideShapes Go.ChangeAt Go.RowKit Go.FM
theorem Ov:ownKnob Tryz.prog.godebug=none:=by kernel_rfl
theorem Ou:laidOutB Tryz.prog=true:=by kernel_rfl
abbrev jR:List (String × DataW Unit):=Rows.textTellsRow.laid
noncomputable def Ow (os:Os):World:=
 let w0:=World.doorLaid Tryz.prog 72 os
 { w0 with heap:=w0.heap.modify 4 fun
  | .cells _ t frozen=>.cells (Lib.firstTab.map fun z=>Value.int .u8 z).toArray t frozen
  | o=>o }
theorem zdl (os:Os) (args:Array Value):laidMetH Tryz.prog jR ((Ow os).forCall (fun _ _=>0) ⟨#[],args,[]⟩).memory:=
 laidMetH_of_parts3 (fuel:=8) (laidMet_of_run' 8 (by kernel_rfl) (by kernel_rfl)) (by kernel_rfl) (by kernel_rfl)
theorem zdk {W:World} (hL:laidMetH Tryz.prog jR W) (hsh:W.ShapedOpen Tryz.prog):Glob B0 W:=by
 have hL':laidMet Tryz.prog jR W:=by
  rw [MakeChecks.laidMetH_plain _ _ _ (by kernel_rfl)] at hL;exact hL
 exact mf hL' hsh (n1 := "*errors.errorString") (n2 := "*errors.errorString") (.tail _ (.tail _ (.head _))) (.tail _ (.tail _ (.tail _ (.tail _ (.head _))))) (.tail _ (.tail _ (.tail _ (.tail _ (.tail _ (.head _))))))
end Go.Proofs.YtihliihljmfhlaaGreatDoor
