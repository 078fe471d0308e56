/-
  A small machine that reckons what a call comes to; the functions of the program, one by one. (WHAT A ROW's READING OF AN ARGUMENT SAYS OF ITS CELLS, as th, A LAW's ROW: out of what the small machine says of the law's, THE SEAT's OWN WORLD: the door's heap, the pinned table laid, and so on.)
-/
import Derived.OpenShut
import Derived.Test.YtihliihljmfhlaaGreatDoorRe
import Derived.ProofKit
import Derived.LaidMore
import Derived.Test.YtihliihljmfhlaaGreatDoorTie
import Derived.Test.YtihliihljmfhlaaGreatDoorCards
import Derived.Deep.DeepWitnessRowRef
set_option linter.all false
set_option maxRecDepth 100000
open Array renaming length_toList→C8,getElem?_eq_some_iff→DI
open Bool renaming and_eq_true→AP,or_eq_true→vap,true→AC,false→AD
open Go.DataW renaming weights→vbt,weightsEach→vbH
open Go.World renaming cell?→vaH
open List renaming mem_cons→AY,length_append→A2,mem_append→A4,getElem?_eq_getElem→BF,length_nil→BL,getElem?_eq_some_iff→B2,getElem?_eq_none→B4,length_map→B8,drop_zero→CA,getElem?_cons_zero→CB,getElem?_map→CK,cons_append→C0,take_of_length_le→C9,getElem_mem→DC,mem_of_getElem?→vab,getElem?_append→vai,range→vaA,mem_map_of_mem→vaV
open Nat renaming le_of_ble_eq_true→AX,le_refl→A5,zero_add→BS,beq→BZ,ble→CF,zero_le→CG,eq_of_beq_eq_true→vag
open Option renaming map_eq_some_iff→DR,some→AA,none→AB
open Option.some renaming injEq→AK
open Prod.mk renaming injEq→A1
namespace Go.FM
open Go
def UO(P:Program)(e:TypeId):Bool:=match P.underlying e with|some (.struct _)=>AC|some (.array _ _)=>AC|_=>AD
def aL(f:TypeId->Option (List Kd))(cell:TypeId->Nat):Nat->List (TypeId×Nat)->Option (List Kd)
 |_,[]=>AA []
 |off,(t,o)::r=>match BZ o off with
  |true=>match f t with
   |some ks=>match BZ (cell t) ks.length with
    |true=>match aL f cell (off+ks.length) r with
     |some ks'=>AA (ks++ks')
     |none=>AB
    |false=>AB
   |none=>AB
  |false=>AB
def RT(P:Program):Nat->TypeId->Option (List Kd)
 |0,_=>AB
 |n+1,t=>match P.underlying t with
  |some .bool=>AA [.bool]
  |some (.int k)=>AA [.int k]
  |some .string=>AA [.str]
  |some (.slice e)=>match RT P n e with
   |some ks=>match CF 1 (P.bytesOf e)&&(BZ (P.cellsOf e) ks.length&&(CF 1 ks.length&&(UO P e||BZ ks.length 1)))with
    |true=>AA [.list (UO P e) ks]
    |false=>AB
   |none=>AB
  |some (.struct fs)=>match aL (RT P n) P.cellsOf 0 (fs.toList.map λf=>(f.type,f.offset))with
   |some ks=>match BZ (P.cellsOf t) ks.length with|true=>AA ks|false=>AB
   |none=>AB
  |some (.array m e)=>match aL (RT P n) P.cellsOf 0 ((vaA m).map λi=>(e,i*P.cellsOf e))with
   |some ks=>match BZ (P.cellsOf t) ks.length with|true=>AA ks|false=>AB
   |none=>AB
  |_=>AB
def CellsK(w:World)(O:Nat->Prop):List Kd->LI->List Value->Prop
 |[],[],[]=>True
 |k::ks,x::f,v::cs=>Kd.Rel w O k x v/\CellsK w O ks f cs
 |_,_,_=>False
section
variable {w:World} {O:Nat→Prop}
theorem CellsK.append:∀{ks:List Kd} {f:LI} {cs:List Value} {ks':List Kd} {f':LI} {cs':List Value},CellsK w O ks f cs->CellsK w O ks' f' cs'->CellsK w O (ks++ks') (f++f') (cs++cs')
 |[],[],[],_,_,_,_,h'=>h'
 |_::ks,_::f,_::cs,_,_,_,h,h'=>by
  simp only[CellsK]at h;simp only[C0,CellsK];exact⟨h.1,h.2.append h'⟩
 |[],_::_,_,_,_,_,h,_=>by simp[CellsK]at h
 |[],[],_::_,_,_,_,h,_=>by simp[CellsK]at h
 |_::_,[],_,_,_,_,h,_=>by simp[CellsK]at h
 |_::_,_::_,[],_,_,_,h,_=>by simp[CellsK]at h
theorem CellsK.get:∀{ks:List Kd} {f:LI} {cs:List Value},CellsK w O ks f cs->∀(j:Nat) (k:Kd),ks[j]?=AA k->∃v,cs[j]?=AA v/\Kd.Rel w O k (LL f j) v
 |[],_,_,_,j,k,h=>by simp at h
 |k::ks,x::f,v::cs,h,j,k',hj=>by
  simp only[CellsK]at h;cases j with
  |zero=>
   simp only[CB,AK]at hj;subst hj;exact⟨v,rfl,by simpa only[LL]using h.1⟩
  |succ j=>
   obtain⟨u,h1,h2⟩:=h.2.get j k' (by simpa using hj);exact⟨u,by simpa using h1,by simpa only[LL]using h2⟩
 |_::_,[],_,h,_,_,_=>by simp[CellsK]at h
 |_::_,_::_,[],h,_,_,_=>by simp[CellsK]at h
theorem Db{α:Type}{Q:Nat->α->Prop}:∀n,(∀i,i<n->∃x,Q i x)->∃L:List α,L.length=n/\∀i x,L[i]?=AA x->Q i x
 |0,_=>⟨[],rfl,λi x h=>by simp at h⟩
 |n+1,h=>by
  obtain⟨L,hl,hL⟩:=Db n (λi hi=>h i AG);obtain⟨x,hx⟩:=h n AG;refine⟨L++[x],by simp[hl],λi y hy=>?_⟩;rw[vai]at hy;split at hy
  .exact hL i y hy
  .rename_i hi
   have:i-L.length=0:=by
    rcases Nat.eq_zero_or_pos (i-L.length)with e|e
    .exact e
    .rw[B4 (by simp;omega)]at hy;cases hy
   rw[this]at hy;simp only[CB,AK]at hy;subst hy
   have:i=n:=by omega
   subst this;exact hx
end
theorem tC{H:Type}{P:Program}:∀{ts:List TypeId} {ds:List (DataW H)} {i:Nat} {t:TypeId} {d:DataW H},ts[i]?=AA t->ds[i]?=AA d->∀y∈d.weights P t,y∈vbH P ts ds
 |[],_,i,_,_,h,_,_,_=>by simp at h
 |_::_,[],i,_,_,_,h,_,_=>by simp at h
 |t0::ts,d0::ds,0,t,d,h,h',y,hy=>by
  simp only[CB,AK]at h h';subst h;subst h';simp only[vbH,A4];exact .inl hy
 |t0::ts,d0::ds,i+1,t,d,h,h',y,hy=>by
  simp only[vbH,A4];exact .inr (tC (by simpa using h) (by simpa using h') y hy)
theorem tB{H:Type}{P:Program}{e:TypeId}:∀{ds:List (DataW H)} {d:DataW H},d∈ds->∀y∈d.weights P e,y∈DataW.weightsAll P e ds
 |[],_,h,_,_=>by cases h
 |d0::ds,d,h,y,hy=>by
  simp only[DataW.weightsAll,A4];rcases AY.1 h with rfl|h
  .exact .inl hy
  .exact .inr (tB h y hy)
section
variable {H:Type} {enc:TypeId × Value→H} {P:Program} {w:World} {base:Nat} {sp:Nat→Bool} {held:Bool} {O:Nat→Prop}
theorem uK{f:TypeId->Option (List Kd)}{n:Nat}{cs:List Value}
  (ih:∀(t:TypeId) (ks:List Kd) (cs:List Value) (d:DataW H) (p:List MemPlace),f t=AA ks->DataW.trod enc P w base sp held n t cs=AA (d,p)->(∀y∈d.weights P t,y<=reachBytes)->∃g,CellsK w O ks g cs):
  ∀(parts:List (TypeId×Nat)) (off:Nat) (ks:List Kd) (xs:List (DataW H×List MemPlace)),aL f P.cellsOf off parts=AA ks->xs.length=parts.length->
   (∀(i:Nat) (t:TypeId) (o:Nat),parts[i]?=AA (t,o)->DataW.trod enc P w base sp held n t ((cs.drop o).take (P.cellsOf t))=xs[i]?)->
   (∀(i:Nat) (t:TypeId) (o:Nat) (x:DataW H×List MemPlace),parts[i]?=AA (t,o)->xs[i]?=AA x->∀y∈x.1.weights P t,y<=reachBytes)->∃g,CellsK w O ks g ((cs.drop off).take ks.length)
 |[],off,ks,xs,h,_,_,_=>by
  simp only[aL,AK]at h;subst h;exact⟨[],by simp only[BL,List.take_zero,CellsK]⟩
 |(t,o)::r,off,ks,[],h,hl,_,_=>by simp at hl
 |(t,o)::r,off,ks,x::xs,h,hl,ht,hw=>by
  simp only[aL]at h;split at h
  case h_2=>cases h
  rename_i ho;obtain rfl:=vag ho;split at h
  case h_2=>cases h
  rename_i k1 hk1;split at h
  case h_2=>cases h
  rename_i hc;have hc:=vag hc;split at h
  case h_2=>cases h
  rename_i k2 hk2;simp only[AK]at h;subst h;have h0:=ht 0 t o rfl;simp only[CB]at h0;obtain⟨d,p⟩:=x;obtain⟨g1,hg1⟩:=ih t k1 _ d p hk1 h0 (hw 0 t o (d,p) rfl rfl);obtain⟨g2,hg2⟩:=uK ih r (o+k1.length) k2 xs hk2 (by simpa using hl) (λi t' o' hi=>by simpa using ht (i+1) t' o' (by simpa using hi)) (λi t' o' x hi hx=>hw (i+1) t' o' x (by simpa using hi) (by simpa using hx));refine⟨g1++g2,?_⟩;rw[A2,List.take_add,List.drop_drop];rw[hc]at hg1;exact hg1.append hg2
theorem zeY{a:Addr}{v:Value}(h:w.cell? a=AA v):a.spot=AB/\a.block<w.heap.size:=by
 unfold vaH at h;split at h
 .rename_i c _ _ hc;split at h
  .cases h
  .rename_i hs;exact⟨by simpa using hs,(DI.1 hc).1⟩
 .cases h
theorem jQ(hO:∀b,¬O b):∀(n:Nat) (t:TypeId) (ks:List Kd) (fuel:Nat) (cs:List Value) (d:DataW H) (p:List MemPlace),RT P n t=AA ks->
  DataW.trod enc P w base sp held fuel t cs=AA (d,p)->(∀y∈d.weights P t,y<=reachBytes)->∃g,CellsK w O ks g cs
 |0,_,_,_,_,_,_,h,_,_=>by simp[RT]at h
 |n+1,t,ks,fuel,cs,d,p,h,ht,hw=>by
  simp only[RT]at h;split at h
  .rename_i hu;simp only[AK]at h;subst h;obtain⟨b,rfl,_⟩:=DataW.trod_bool hu ht;exact⟨[.bool b],by simp only[CellsK,Kd.Rel,IV.toBool,and_self]⟩
  .rename_i k hu;simp only[AK]at h;subst h;obtain⟨m,rfl,_,hm⟩:=DataW.trod_int hu ht;simp only[Lit.wf,AP,AW]at hm;exact⟨[.int m],by simp only[CellsK,Kd.Rel,IV.toInt,CH,vaP];exact hm⟩
  .rename_i hu;simp only[AK]at h;subst h;obtain⟨s,rfl,hd,hs⟩:=DataW.trod_string hu ht;simp only[A1]at hd;refine⟨[.str s],?_⟩;simp only[CellsK,Kd.Rel,IV.toStr,CH,vaP];rw[hd.1]at hw
   have:=hw s.data.toList.length (by simp[vbt])
   have e:s.data.toList.length=s.size:=by rw[C8];rfl
   rw[e]at this;unfold reachBytes at this;unfold strMax;omega
  .rename_i e hu;split at h
   case h_2=>cases h
   rename_i k1 hk1;split at h
   case h_2=>cases h
   rename_i hc;simp only[AK]at h;subst h;simp only[AP,vap]at hc;obtain⟨hb,hce,hk0,hag⟩:=hc;have hb:=AX hb;have hce:=vag hce;have hk0:=AX hk0;rcases DataW.trod_slice hu ht with⟨rfl,_⟩|⟨a,len,cap,elems,rest,m,_,rfl,hx,_,hlc,hcap,hlen,hel,_⟩
   .refine⟨[.list []],?_⟩;simp only[CellsK,Kd.Rel,IV.toList,CH];exact⟨AB,0,rfl,A5 _,CG _,CG _,λi y hi=>by simp at hi⟩
   .simp only[A1]at hx;obtain⟨rfl,_⟩:=hx;simp only[vbt,hu,AY,A4]at hw;have hsz:len<=strMax:=by
     have:=hw _ (.inl rfl)
     rw[B8,hlen]at this;have h1:len*1<=(len+(rest.map (·.1)).length)*P.bytesOf e:=Nat.mul_le_mul AG hb;unfold reachBytes at this;unfold strMax;omega
    have hex:∀i,i<len->∃g:LI,∃ci,w.cells? base (a.add (i*k1.length)) k1.length=AA ci/\CellsK w O k1 g ci:=by
     intro i hi;have h1:=hel i hi;have hi':i<elems.length:=by omega
     rw[BF hi',hce]at h1;simp only[Option.bind_eq_some_iff]at h1;obtain⟨ci,h2,h3⟩:=h1;obtain⟨g,hg⟩:=jQ hO n e k1 m ci elems[i].1 elems[i].2 hk1 h3 (λy hy=>hw y (.inr (.inl (tB (vaV (DC hi')) y hy))));exact⟨g,ci,h2,hg⟩
    obtain⟨L,hL,hLi⟩:=Db len hex;refine⟨[.list (L.map λg=>match UO P e with|true=>IV.agg g|false=>LL g 0)],?_⟩;simp only[CellsK,Kd.Rel,IV.toList,CH,B8,hL];refine⟨AA a,cap,rfl,hlc,hcap,hsz,λi y hi=>?_⟩;rw[CK,DR]at hi;obtain⟨g,hg,rfl⟩:=hi;obtain⟨ci,hci,hgc⟩:=hLi i g hg;have hil:i<len:=by rw[<-hL];exact(B2.1 hg).1
    have cellAt:∀j k,k1[j]?=AA k->∃u,w.cell? ((a.add (i*k1.length)).add j)=AA u/\Kd.Rel w O k (LL g j) u:=by
     intro j k hk;obtain⟨u,h1,h2⟩:=hgc.get j k hk;refine⟨u,?_,h2⟩;have hj:j<k1.length:=(B2.1 hk).1;unfold World.cells? at hci;split at hci
     .obtain⟨b,hb1,hb2⟩:=Lib.mapM_at hci j j (by simp[hj]);rw[h1]at hb1;simp only[AK]at hb1;rw[hb2,hb1]
     .cases hci
    have hspot:a.spot=AB/\a.block<w.heap.size:=by
     obtain⟨g0,hg0⟩:∃g0,L[0]?=AA g0:=⟨L[0]'AG,BF AG⟩;obtain⟨c0,hc0,hgc0⟩:=hLi 0 g0 hg0;obtain⟨u,h1,_⟩:=hgc0.get 0 k1[0] (BF AG);unfold World.cells? at hc0;split at hc0
     .obtain⟨b,_,hb2⟩:=Lib.mapM_at hc0 0 0 (List.getElem?_range (show 0<k1.length by omega))
      have:=zeY hb2
      rw[Nat.zero_mul]at this;simpa[Addr.add]using this
     .cases hc0
    obtain⟨ab,ao,asp⟩:=a;obtain⟨hs1,hs2⟩:=hspot;simp only at hs1 hs2;subst hs1;refine⟨ab,ao,rfl,hO ab,hs2,?_⟩;rw[Kd.RelAll_iff];intro j k hk;obtain⟨u,h1,h2⟩:=cellAt j k hk;rw[Lib.add_plain,Lib.add_plain]at h1;rw[BS];refine⟨u,h1,?_⟩;cases hat:UO P e with
    |true=>
     show Kd.Rel w O k (LL g j) u;exact h2
    |false=>
     rw[hat]at hag;have h1l:k1.length=1:=vag (by simpa using hag);have hj:j<k1.length:=(B2.1 hk).1
     have:j=0:=by omega
     subst this;exact h2
  .rename_i fs hu;split at h
   case h_2=>cases h
   rename_i k1 hk1;split at h
   case h_2=>cases h
   rename_i hc;have hc:=vag hc;simp only[AK]at h;subst h;obtain⟨xs,m,_,hx,hcl,hxl,hall⟩:=DataW.trod_struct hu ht;simp only[A1]at hx;obtain⟨rfl,_⟩:=hx;simp only[vbt,hu]at hw;have key:=uK (enc:=enc) (P:=P) (w:=w) (base:=base) (sp:=sp) (held:=held) (O:=O) (f:=RT P n) (n:=m) (cs:=cs) (λt ks cs d p h1 h2 h3=>jQ hO n t ks m cs d p h1 h2 h3) (fs.toList.map λf=>(f.type,f.offset)) 0 k1 xs hk1 (by simp[hxl]) (λi t o hi=>by
     rw[CK,DR]at hi;obtain⟨f,hf,he⟩:=hi;simp only[A1]at he;obtain⟨rfl,rfl⟩:=he;exact hall i f (by simpa using hf)) (λi t o x hi hx y hy=>by
     rw[CK,DR]at hi;obtain⟨f,hf,he⟩:=hi;simp only[A1]at he;obtain⟨rfl,rfl⟩:=he;exact hw y (tC (i:=i) (by rw[CK,hf];rfl) (by rw[CK,hx];rfl) y hy))
   obtain⟨g,hg⟩:=key;rw[CA,C9 AG]at hg;exact⟨g,hg⟩
  .rename_i m0 e hu;split at h
   case h_2=>cases h
   rename_i k1 hk1;split at h
   case h_2=>cases h
   rename_i hc;have hc:=vag hc;simp only[AK]at h;subst h;obtain⟨xs,m,_,hx,hcl,hxl,hall⟩:=DataW.trod_array hu ht;simp only[A1]at hx;obtain⟨rfl,_⟩:=hx;simp only[vbt,hu]at hw;have key:=uK (enc:=enc) (P:=P) (w:=w) (base:=base) (sp:=sp) (held:=held) (O:=O) (f:=RT P n) (n:=m) (cs:=cs) (λt ks cs d p h1 h2 h3=>jQ hO n t ks m cs d p h1 h2 h3) ((vaA m0).map λi=>(e,i*P.cellsOf e)) 0 k1 xs hk1 (by simp[hxl]) (λi t o hi=>by
     rw[CK,DR]at hi;obtain⟨f,hf,he⟩:=hi;simp only[A1]at he;obtain⟨rfl,rfl⟩:=he;have hfi:=B2.1 hf;obtain⟨hl,he⟩:=hfi;rw[List.getElem_range]at he;subst he;exact hall i (by simpa using hl)) (λi t o x hi hx y hy=>by
     rw[CK,DR]at hi;obtain⟨f,hf,he⟩:=hi;simp only[A1]at he;obtain⟨rfl,rfl⟩:=he;exact hw y (tB (vaV (vab hx)) y hy))
   obtain⟨g,hg⟩:=key;rw[CA,C9 AG]at hg;exact⟨g,hg⟩
  .cases h
end
open Go Go.Proofs Go.RowKit Go.ChangeShapes Go.WideShapes
def YU:Kd->IV->V
 |.int k,x=>.int k x.toInt
 |.bool,x=>.bool x.toBool
 |.str,x=>.str x.toStr
 |.list ag ks,x=>.list ag ks x.toList
theorem Vc{γ:Nat->Value}{o:Store}{w:World}{O:Nat->Prop}{k:Kd}{x:IV}{v:Value}(h:Kd.Rel w O k x v):VRel γ o w O (YU k x) v:=by
 cases k with
 |int k=>simpa only[YU,VRel,Kd.Rel]using h
 |bool=>simpa only[YU,VRel,Kd.Rel]using h
 |str=>simpa only[YU,VRel,Kd.Rel]using h
 |list ag ks=>
  simp only[YU,VRel];simpa only[Kd.Rel,IV.toList]using h
def jV:List Kd->LI->List V
 |k::ks,x::f=>YU k x::jV ks f
 |_,_=>[]
theorem Vl{γ:Nat->Value}{o:Store}{w:World}{O:Nat->Prop}:∀{ks:List Kd} {f:LI} {cs:List Value},CellsK w O ks f cs->VRels γ o w O (jV ks f) cs
 |[],[],[],_=>by simp only[jV,VRels]
 |_::_,_::_,_::_,h=>by
  simp only[CellsK]at h;simp only[jV,VRels];exact⟨Vc h.1,Vl h.2⟩
 |[],_::_,_,h=>by simp[CellsK]at h
 |[],[],_::_,h=>by simp[CellsK]at h
 |_::_,[],_,h=>by simp[CellsK]at h
 |_::_,_::_,[],h=>by simp[CellsK]at h
theorem CellsK.len{w:World}{O:Nat->Prop}:∀{ks:List Kd} {f:LI} {cs:List Value},CellsK w O ks f cs->f.length=ks.length
 |[],[],[],_=>rfl
 |_::_,_::_,_::_,h=>by
  simp only[CellsK]at h;simp only[List.length_cons,h.2.len]
 |[],_::_,_,h=>by simp[CellsK]at h
 |[],[],_::_,h=>by simp[CellsK]at h
 |_::_,[],_,h=>by simp[CellsK]at h
 |_::_,_::_,[],h=>by simp[CellsK]at h
section
variable {H:Type} {enc:TypeId × Value→H} {P:Program} {W:World} {base b0:Nat} {sp:Nat→Bool} {held:Bool}
theorem Zz{n:Nat}{t:TypeId}{ks:List Kd}{v:Value}{d:DataW H}{p:List MemPlace}(hk:RT P n t=some ks)(hu:UO P t=true)(hval:Value.okWide P W .any base t v)
  (h:DataW.Trod enc P W b0 sp held t v d p) (hw:∀y∈d.weights P t,y<=reachBytes):∃g:LI,g.length=ks.length/\VRel γ0 [] W O0 (.agg (jV ks g)) v:=by
 obtain⟨cs,rfl⟩:∃cs,v=.agg cs:=by
  unfold UO at hu;unfold Value.okWide at hval;split at hu
  .rename_i hh;rw[hh]at hval;exact hval.imp (λ_ h=>h.1)
  .rename_i hh;rw[hh]at hval;exact hval.imp (λ_ h=>h.1)
  .cases hu
 obtain⟨fuel,hf⟩:=h;obtain⟨g,hg⟩:=jQ (O:=O0) yN n t ks fuel _ d p hk hf hw;refine⟨g,hg.len,?_⟩;simp only[VRel];exact⟨cs,rfl,Vl hg⟩
theorem fX{n:Nat}{t:TypeId}{k:Kd}{v:Value}{d:DataW H}{p:List MemPlace}(hk:RT P n t=some [k])(hu:UO P t=false)(hval:Value.okWide P W .any base t v)
  (h:DataW.Trod enc P W b0 sp held t v d p) (hw:∀y∈d.weights P t,y<=reachBytes):∃x:IV,VRel γ0 [] W O0 (YU k x) v:=by
 obtain⟨fuel,hf⟩:=h;obtain⟨g,hg⟩:=jQ (O:=O0) yN n t [k] fuel _ d p hk hf hw;have hc:v.cells.toList=[v]:=by
  cases v with
  |agg cs=>
   exfalso;unfold UO at hu;unfold Value.okWide at hval;split at hu
   .cases hu
   .cases hu
   .rename_i h1 h2;split at hval
    .rename_i hh;exact h1 _ hh
    .rename_i hh;exact h2 _ _ hh
    .unfold Cell.okWide Cell.ok at hval;split at hval<;>first|(split at hval<;>simp_all)|simp_all
  |_=>rfl
 rw[hc]at hg
 match g,hg with
 |[x],hg=>
  simp only[CellsK,and_true]at hg;exact⟨x,Vc hg⟩
theorem Uw(hl:laidOutB P=true){W':World}(hb:Below W.heap.size W W'):∀{ts:List TypeId} {vs:List Value} {ds:List (DataW H)} {ps:List MemPlace},DataW.TrodAll enc P W 0 (λ_=>true) true ts vs ds ps->
  (∀t∈ts,P.readableRec t=true/\t<P.types.size)->(∀x∈ps,x.block<W.heap.size)->DataW.TrodAll enc P W' 0 (λb=>decide (b<W.heap.size)) true ts vs ds ps
 |[],vs,ds,ps,h,_,_=>by
  obtain⟨rfl,rfl,rfl⟩:=trodAll_nil h;rfl
 |t::ts,vs,ds,ps,h,ht,hp=>by
  obtain⟨v,vs1,d,ds1,a,b,rfl,rfl,rfl,h1,h2⟩:=trodAll_cons h;have hh:=ht t (List.mem_cons_self ..);exact⟨a,b,Below.trod hl hh.1 hh.2 h1 hb (λx hx=>hp x (List.mem_append.2 (.inl hx))),Uw hl hb h2 (λt' h'=>ht t' (List.mem_cons_of_mem _ h')) (λx hx=>hp x (List.mem_append.2 (.inr hx))),rfl⟩
end
theorem Ow:ownKnob Tryz.prog.godebug=none:=by kernel_rfl
theorem Ov:laidOutB Tryz.prog=true:=by kernel_rfl
theorem ul{os:Os}(started:os.Started){H:Type}{enc:TypeId×Value->H}{spec:ChangeSpec}{f:Nat}{fn:Func}{sp:D5}{laid:List (String×DataW Unit)}(hS:D9 PR B0 f sp)(hf:Tryz.prog.funcs[f]?=some fn)
  (hn:(fn.name== "runtime.NumGoroutine")=false) (hb:fn.body.isNone=false) (hini:Tryz.prog.inits.idxOf? f=none) (hres:fn.resultTypes= #[4]) (hvars:spec.vars=[])
  (hspec:∀(ds:List (DataW H)),ds.length=fn.params.toList.length->spec.fn H ds={results:=[.lit (.bool true)],args:=ds})
  (hpar:fn.params.toList.all (λt=>Tryz.prog.readableRec t&&decide (t<Tryz.prog.types.size))=true)
  (hglob:∀W:World,laidMetH Tryz.prog laid W->W.ShapedOpen Tryz.prog->Glob B0 W)
  (witness:∃(w:World) (tape:Tape) (i:Input),w.os=os/\(w.forCall tape i).Shaped Tryz.prog/\i.vars=[]/\Input.okWide Tryz.prog (w.forCall tape i) .any w.heap.size f i/\
   (OpenSpec.ofChange spec).preRow enc Tryz.prog fn [] false laid (w.forCall tape i).memory i.args/\({}:Assume).holds Tryz.prog (lone (Frame.enter Tryz.prog f i.args .normal) [] (w.forCall tape i)))
  (harg:∀(W:World) (base:Nat) (vs:List Value) (ds:List (DataW H)) (p:List MemPlace),DataW.TrodAll enc Tryz.prog W 0 (λ_=>true) true fn.params.toList vs ds p->
   (∀(j:Nat) t v,fn.params.toList[j]?=some t->vs[j]?=some v->Value.okWide Tryz.prog W .any base t v)->
   (∀(j:Nat) t d,fn.params.toList[j]?=some t->ds[j]?=some d->∀y∈d.weights Tryz.prog t,y<=reachBytes)->
   ∃l:List V,(sp l).get=some (.bool true,[])/\FX l=none/\VRels γ0 [] W O0 (l.map EW) vs):
  ReturnsInHanded {} Tryz.checked os f .any ((OpenSpec.ofChange spec).preRow enc Tryz.prog fn [] false laid) (spec.post enc Tryz.prog fn false true false false):=by
 refine returnsInHanded_of_row (C:=Tryz.checked) (s:=OpenSpec.ofChange spec) (F:=λ_ _ _=>0) Ow started hini hf witness ?_;intro W base args ds gs before hval hW _ _ hwt hL hsh _;have hW':=hW;obtain⟨p,q,hA,hV,rfl,_,_⟩:=hW;have hvars':(OpenSpec.ofChange spec).vars=[]:=hvars;rw[hvars']at hV;obtain⟨rfl,rfl⟩:=trodVars_none hV;have hlen:ds.length=fn.params.toList.length:=by
  have:∀{ts:List TypeId} {vs:List Value} {ds:List (DataW H)} {ps:List MemPlace},DataW.TrodAll enc Tryz.prog W 0 (λ_=>true) true ts vs ds ps->ds.length=ts.length:=by
   intro ts
   induction ts with
   |nil=>intro vs ds ps h;obtain⟨_,rfl,_⟩:=trodAll_nil h;rfl
   |cons t ts ih=>
    intro vs ds ps h;obtain⟨v,vs1,d,ds1,a,b,rfl,rfl,rfl,h1,h2⟩:=trodAll_cons h;simp only[List.length_cons,ih h2]
  exact this hA
 simp only[List.append_nil]at hW' hwt;obtain⟨l,hl,hbor,hrel⟩:=harg W base args.toList ds p hA (λj t v h1 h2=>hval j t v (by simpa using h1) (by simpa using h2)) (λj t d h1 h2 y hy=>by
  have hm:=tC (P:=Tryz.prog) (ts:=fn.params.toList++(OpenSpec.ofChange spec).bare.plain.varTypes Tryz.prog) (ds:=ds) (i:=j) (t:=t) (d:=d) (by
   rw[List.getElem?_append_left (by rw[<-hlen];exact(List.getElem?_eq_some_iff.1 h2).1)];exact h1) h2 y hy
  have:=List.all_eq_true.1 hwt y hm
  simpa using this)
 have hc:=bw hS hf hn hb hl hbor (hglob W hL hsh) hrel;have ea:args.toList.toArray=args:=by simp
 rw[ea]at hc;refine hc.mono ?_;rintro e W' ⟨rfl,bel⟩;have hfn:spec.fn H (ds++[])={results:=[.lit (.bool true)],args:=ds}:=by rw[List.append_nil];exact hspec ds hlen
 have hlt:∀x∈p,x.block<W.heap.size:=λx hx=>hW'.lt x hx
 have post:spec.post enc Tryz.prog fn false true false false W args (.bool true) W':=by
  refine⟨ds,[],p,[],p,[],hW',?_,?_,?_,bel.frame _,λh=>by cases h⟩
  .rw[hfn,hres];exact trodAll_mk1 (shut_bool Tryz.underlying4 _)
  .rw[hfn];exact Uw Ov bel hA (λt ht=>by
    have:=List.all_eq_true.1 hpar t ht
    simpa using this) hlt
  .rw[hvars,hfn];rfl
 exact⟨_,rfl,post⟩
end Go.FM
namespace Go.Proofs.YtihliihljmfhlaaGreatDoor
open Go Go.ChangeShapes Go.WideShapes Go.ChangeAt Go.RowKit Go.FM
theorem Ow:ownKnob Tryz.prog.godebug=none:=by kernel_rfl
theorem Ov:laidOutB Tryz.prog=true:=by kernel_rfl
abbrev jC:List (String × DataW Unit):=Rows.textTellsRow.laid
noncomputable def Ox (os:Os):World:=
 let w0:=World.doorLaid Tryz.prog 72 os
 { w0 with heap:=w0.heap.modify 4 fun
  | .cells _ t frozen=>.cells (Lib.firstTab.map fun z=>Value.int .u8 z).toArray t frozen
  | o=>o }
theorem zde (os:Os) (args:Array Value):laidMetH Tryz.prog jC ((Ox os).forCall (fun _ _=>0) ⟨#[],args,[]⟩).memory:=
 laidMetH_of_parts3 (fuel:=8) (laidMet_of_run' 8 (by kernel_rfl) (by kernel_rfl)) (by kernel_rfl) (by kernel_rfl)
theorem zdd {W:World} (hL:laidMetH Tryz.prog jC W) (hsh:W.ShapedOpen Tryz.prog):Glob B0 W:=by
 have hL':laidMet Tryz.prog jC W:=by
  rw [MakeChecks.laidMetH_plain _ _ _ (by kernel_rfl)] at hL;exact hL
 exact mh hL' hsh (n1 := "*errors.errorString") (n2 := "*errors.errorString") (.tail _ (.tail _ (.head _))) (.tail _ (.tail _ (.tail _ (.tail _ (.head _))))) (.tail _ (.tail _ (.tail _ (.tail _ (.tail _ (.head _))))))
end Go.Proofs.YtihliihljmfhlaaGreatDoor
