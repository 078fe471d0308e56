/-
  A small machine that reckons what a call comes to; the functions of the program, one by one. (THE SMALL MACHINE (24): a call., THE SMALL MACHINE (25): a call that lends a variable., THE SMALL MACHINE (25, behind): maps of ints., and so on.)
-/
import Derived.Test.YtihliihljmfhlaaGreatDoorAa
import Derived.Lib.ConvBytes
import Derived.Lib.AtoiAll
import Derived.Lib.ItoaLen
import Derived.Lib.SplitLaws
import Derived.Lib.TrimByte
import Derived.Lib.Repeat
import Derived.Lib.Join
import Derived.Test.YtihliihljmfhlaaGreatDoorProg
import Derived.Shelf.Strings.BuilderK
set_option linter.all false
set_option maxRecDepth 100000
open Array renaming length_toList→C1,getElem?_eq_some_iff→DK,toList_append→vaj,getElem?_toList→vaE,getElem?_modify→vaP,getD_eq_getD_getElem?→vbm,all_eq_true_iff_forall_mem→vbF
open Bool renaming and_eq_true→AQ,not_true→A9,not_false→BF,not_eq_true'→CE,and_true→CK,or_eq_true→vap,true→AC,false→AD
open ByteArray renaming size→AP,empty→CQ,size_extract→vay
open Decidable renaming byContradiction→vbK,decide→AE
open Go.Addr.mk renaming injEq→DI
open Go.Builtin renaming append_→DB
open Go.IntKind renaming i64→AJ,u64→AO,bits→AT,signed→vak
open Go.Lib renaming decDigits→CS,strCells→DO,bytesWorld→vaU,byteCells→vbz
open Go.Op renaming operands→CP,equalIn→vbo
open Go.Region renaming wanted→DL,binds→va4,ready→vbD
open Go.Result renaming andThen_ok→B9,andThen→vaK
open Go.Result.ok renaming injEq→vbg
open Go.Sem renaming run_bind→CL,run_pure→CM
open Go.TypeDesc renaming isRow→vbl
open Go.Value renaming ownBlock→CO
open Go.Value.pointer renaming injEq→C6
open Go.Value.slice renaming injEq→CW
open Go.World renaming cell?→vaI,setCell→vbv
open List renaming length_cons→AV,mem_cons→AW,mem_cons_self→AY,length_append→A2,drop→A3,mem_append→A5,mem_cons_of_mem→A6,map_cons→A8,getElem?_eq_getElem→BD,length_take→BL,length_nil→BN,length_map→BW,mem_singleton→BZ,getElem?_eq_some_iff→B4,getElem?_eq_none→B8,getElem?_cons_zero→CA,not_mem_nil→CC,getElem?_map→CJ,map_nil→CN,mem_map→CU,all_eq_true→CZ,take_of_length_le→C2,getElem?_cons_succ→C5,cons_append→C9,length_drop→DA,drop_of_length_le→DC,length_singleton→DG,size_toArray→DM,mem_of_getElem?→vaa,append_nil→vab,all_cons→van,getElem?_drop→vat,eq_nil_of_length_eq_zero→vav,mem_append_right→vaM,mem_of_mem_take→vaO,range→vaQ,mem_append_left→vaR,countP_cons_of_pos→vaY,mem_map_of_mem→vaZ,mem_of_mem_drop→va7,filter_cons→va9,range'→vbh,countP_cons_of_neg→vbi,mem_range→vbk
open List.cons renaming injEq→vaD
open Nat renaming le_of_ble_eq_true→AX,le_refl→A4,zero_add→BU,blt→BV,beq→B2,ble→CG,zero_le→CH,ble_eq_true_of_le→CV,lt_of_lt_of_le→CY,le_trans→DD,add_zero→DJ,lt_or_ge→DN,add_mul→vao,sub_zero→vas,min_eq_left→vaG,beq_refl→vbj,one_mul→vbs,strongRecOn→vbC
open Option renaming map_eq_some_iff→DP,map_some→vaf,getD_some→vam,some→AA,none→AB
open Option.some renaming injEq→AK,inj→CB
open Prod.mk renaming injEq→A1
namespace Go.FM
open Go Go.RowKit
section
variable {B:BT} {nt:Nat} {w0:World} {X:Zone} {γ:Nat→Value} {st st':St} {a:Act} {w:World} {P:Program} {E:Env}
theorem iD(h:Rel B nt w0 X γ st a w)(ns:List Nat){b:Nat}(hb:DY X γ (st.ups (E2 st.o ns)).o b):DY X γ st.o b/\∀m∈ns,¬RowOf γ st.o m b:=by
 obtain⟨h1,h2,h3,h4,h5⟩:=OE st.o ns (FrzLe.refl _) h;refine⟨h2.owned hb,?_⟩;rintro m hm ⟨e,ag,ks,l,ho,hob⟩;rcases hb with⟨m',ob',hm',hb'⟩|hb
 .by_cases e1:m=m'
  .subst e1;rcases h2 m with h6|⟨e',ag',ks',l',h6,h7⟩
   .rw[h6,ho]at hm'
    have:=h4 m hm AC e ag ks l (by rw[h6,ho])
    cases this
   .rw[h7,AK]at hm';subst hm';exact hb'.elim
  .rcases h2 m' with h6|⟨e',ag',ks',l',h6,h7⟩
   .rw[h6]at hm';exact h.dis m m' _ ob' b e1 ho hm' hob hb'
   .rw[h7,AK]at hm';subst hm';exact hb'.elim
 .exact h.near ⟨m,_,ho,hob⟩ hb
theorem qC(h:Rel B nt w0 X γ st a w)(hg:GX B w0 X){f:FuncId}{sp:TF}(hS:Snd P B f sp){vs:List V}{xs:List Value}(hv:VRels γ st.o w (DY X γ st.o) vs xs)(hl:FL vs=[]){tks:List (List Kd)}{v:V}{out:List (List V)}
  (hsp:sp (GJ st.o [] tks vs)=AA (v,out)):
  Does P f xs w λe w'=>∃x,e=.returned x/\∃γ',Rel B.base 0 w ⟨λ_=>False,λb=>DY X γ st.o b/\∀m∈E6 vs,¬RowOf γ st.o m b⟩ γ' ⟨[],GZ v out⟩ J1 w'/\
   VRel γ' (GZ v out) w' (DY ⟨λ_=>False,λb=>DY X γ st.o b/\∀m∈E6 vs,¬RowOf γ st.o m b⟩ γ' (GZ v out)) (MZ v) x/\bG v=AC/\out=[]:=by
 have hb:FX (GJ st.o [] tks vs)=AB:=gP.2 hl;have hm:I0 (GJ st.o [] tks vs)=[]:=by simp only[I0,hb]
 have hR:Rel B.base 0 w ⟨λ_=>False,λb=>DY X γ st.o b/\∀m∈E6 vs,¬RowOf γ st.o m b⟩ γ ⟨[],[]⟩ J1 w:=by
  refine⟨rfl,rfl,λi=>by simp only[St.get,FA,VRel],λn ob hn=>?_,?_,?_,Keep.refl _ w,?_,?_,λp hp=>by cases hp⟩
  .simp only[DV,FA]at hn;cases hn
  .rintro b ⟨n,ob,hn,_⟩;simp only[DV,FA]at hn;cases hn
  .intro n m ob ob' b _ hn;simp only[DV,FA]at hn;cases hn
  .rintro b ⟨n,ob,hn,_⟩;simp only[DV,FA]at hn;cases hn
  .rintro b ⟨hb|hb,_⟩
   .exact(h.lt b hb).1
   .exact h.fl b hb
 have:=hS w ⟨λ_=>False,λb=>DY X γ st.o b/\∀m∈E6 vs,¬RowOf γ st.o m b⟩ γ (GJ st.o [] tks vs) xs v out hsp (h.glob hg) (λ_ hf=>hf.elim) (by rw[hm];exact hR) (by
  rw[hm];refine kW h (λb _ hb=>?_) [] hv (λm hm b hr hb=>?_) (λm hm=>by rw[hl]at hm;cases hm)
  .rcases hb with⟨n,ob,hn,_⟩|hb
   .simp only[DV,FA]at hn;cases hn
   .exact hb.1
  .rcases hb with⟨n,ob,hn,_⟩|hb
   .simp only[DV,FA]at hn;cases hn
   .exact hb.2 m hm hr)
 refine this.mono ?_;rintro e w' ⟨x,he,γ',h1,h2,h3⟩;refine⟨x,he,γ',h1,h2,?_⟩;simp only[LF,hb]at h3;cases out with
 |nil=>exact⟨h3,rfl⟩
 |cons _ _=>exact h3.elim
theorem nU(h:Rel B nt w0 X γ st a w){w':World}{X':Zone}(hX:∀b,¬X'.own b){γ':Nat->Value}{st':St}{a':Act}(hc:Rel B.base 0 w X' γ' st' a' w')(F:Nat->Prop)(hF:∀b,F b->X.far b\/(w.heap.size<=b/\b<w'.heap.size)):Rel B nt w0 ⟨X.own,F⟩ γ st a w':=
 (h.fresh (hc.keep) (λb _ hb=>(hX b hb).elim)).shrink hF
theorem aN{cs:List V}(h:cs.all SI=AC):E7 cs=(900000,AA (.box (GY 900001 cs)))::LR 900001 cs:=by
 refine rE (λs he=>?_);subst he;simp[SI,H5]at h
theorem Dm{w':World}{X':Zone}{γ':Nat->Value}{cs:List V}(hok:cs.all SI=AC)(_:Rel B.base 0 w X' γ' ⟨[],E7 cs⟩ J1 w'){c:Array Value}
  (hr:VRels γ' (E7 cs) w' (DY X' γ' (E7 cs)) (GY 900001 cs) c.toList) {γf:Nat->Value} {of:Store} {nm:Nat}
  (hrow:∀j e ag ks l,cs[j]?=AA (.vec e ag ks l)->γf (nm+j)=γ' (900001+j)/\DV of (nm+j)=AA (.row AC e ag ks l)) {O':Nat->Prop} (hO:IU cs=AC->∀b,b<w'.heap.size->O' b->DY X' γ' (E7 cs) b):
  VRels γf of w' O' (GY nm cs) c.toList:=by
 have hl:=hr.length;rw[Z8]at hl;refine VRels.of_get (by rw[Z8,hl]) (λj v x hv hx=>?_);rw[gM]at hv;cases hcj:cs[j]? with
 |none=>rw[hcj]at hv;cases hv
 |some u=>
  rw[hcj]at hv;simp only[vaf,AK]at hv;have hb:(GY 900001 cs)[j]?=AA (match(generalizing:=false) u with|.vec _ _ _ l=>.row (900001+j) 0 l.length|v=>v):=by rw[gM,hcj];rfl
  have hux:=hr.get' hb hx;have huok:SI u=AC:=CZ.1 hok u (vaa hcj);by_cases hvec:∃e ag ks l,u=.vec e ag ks l
  .obtain⟨e,ag,ks,l,rfl⟩:=hvec;simp only at hv hux;subst hv;obtain⟨h1,h2⟩:=hrow j e ag ks l hcj;have hat:=jM (nr:=900001) hcj;have hat':DV (E7 cs) (900001+j)=AA (.row AC e ag ks l):=by
    rw[aN hok,EP,BO AG];exact hat
   simp only[VRel,hat']at hux;simp only[VRel,h2,h1];exact hux
  .have hf:H5 u=AC:=by cases u<;>first|exact huok|exact absurd ⟨_,_,_,_,rfl⟩ hvec
   have hvu:v=u:=by cases u<;>first|exact hv.symm|exact absurd ⟨_,_,_,_,rfl⟩ hvec
   have hux':VRel γ' (E7 cs) w' (DY X' γ' (E7 cs)) u x:=by cases u<;>first|exact hux|exact absurd ⟨_,_,_,_,rfl⟩ hvec
   subst hvu;exact lX hf (λhv=>hO (kU (vaa hcj) hv)) hux'
theorem zN{w':World}{X':Zone}{γ':Nat->Value}{cs:List V}(hok:cs.all SI=AC)(hc:Rel B.base 0 w X' γ' ⟨[],E7 cs⟩ J1 w'):
  (∀(γ:Nat->Value) j e ag ks l,cs[j]?=AA (.vec e ag ks l)->ObRel B.base γ [] w' (λb=>IU cs=AC->DY X' γ' (E7 cs) b) (γ' (900001+j)) (.row AC e ag ks l)/\∀b,(γ' (900001+j)).ownBlock=AA b->FN γ' (E7 cs) b)/\
  (∀i j e ag ks l e' ag' ks' l' b,i≠j->cs[i]?=AA (.vec e ag ks l)->cs[j]?=AA (.vec e' ag' ks' l')->(γ' (900001+i)).ownBlock=AA b->(γ' (900001+j)).ownBlock=AA b->False)/\
  (∀j e ag ks l b,cs[j]?=AA (.vec e ag ks l)->(γ' (900001+j)).ownBlock=AA b->FC γ' (E7 cs) 900000 b->False):=by
 have hat:∀{j e ag ks l},cs[j]?=AA (V.vec e ag ks l)->DV (E7 cs) (900001+j)=AA (.row AC e ag ks l):=by
  intro j e ag ks l hj;rw[aN hok,EP,BO AG];exact jM hj
 refine⟨λγ j e ag ks l hj=>⟨?_,λb hb=>⟨_,_,hat hj,hb⟩⟩,?_,?_⟩
 .have hr:=hc.ob _ _ (hat hj);simp only[ObRel]at hr ⊢;obtain⟨k1,k2,xs,k3,k4⟩:=hr;refine⟨k1,k2,xs,k3,λi y hy=>Kd.RelAll.mono (Keep.refl _ w') (λb _ hb=>?_) (λ_ _ hu=>hu) (k4 i y hy)⟩;exact hb (kU (vaa hj) rfl)
 .intro i j e ag ks l e' ag' ks' l' b hij h1 h2 hb1 hb2;exact hc.dis _ _ _ _ b AG (hat h1) (hat h2) hb1 hb2
 .rintro j e ag ks l b hj hb ⟨ob,h1,h2⟩;exact hc.dis _ _ _ _ b AG (hat hj) h1 hb h2
theorem bn(h:Rel B nt w0 X γ st a w)(hg:GX B w0 X){f:FuncId}{sp:TF}(hS:Snd P B f sp){vs:List V}{xs:List Value}(hv:VRels γ st.o w (DY X γ st.o) vs xs)(hl:FL vs=[]){tks:List (List Kd)}{v:V}{out:List (List V)}
  (hsp:sp (GJ st.o [] tks vs)=AA (v,out)) (hnb:∀cs,v≠.bor cs) (hnv:∀e ag ks l,v≠.vec e ag ks l):
  Does P f xs w λe w'=>∃x,e=.returned x/\∃γ',Rel B nt w0 X γ' (st.ups (E2 st.o (match IY v with|true=>E6 vs|false=>[]))) a w'/\
   VRel γ' (st.ups (E2 st.o (match IY v with|true=>E6 vs|false=>[]))).o w' (DY X γ' (st.ups (E2 st.o (match IY v with|true=>E6 vs|false=>[]))).o) v x:=by
 refine(qC h hg hS hv hl hsp).mono ?_;rintro e w' ⟨x,he,γ',h1,h2,h3,rfl⟩;have hf:MR v=AC:=by cases v<;>first|exact h3|exact absurd rfl (hnb _)|exact absurd rfl (hnv _ _ _ _)
 have hmo:GZ v []=[]:=by cases v<;>first|rfl|exact absurd rfl (hnb _)|exact absurd rfl (hnv _ _ _ _)
 rw[hmo]at h1 h2;rw[V7 hf]at h2;have hz:=(OE st.o (match IY v with|true=>E6 vs|false=>[]) (FrzLe.refl _) h).1;have hp:=nU hz (λb hb=>hb) h1 X.far (λb hb=>.inl hb);refine⟨x,he,γ,hp,rU hf (λhhl b _ hb=>?_) h2⟩
 have:=iD h _ hb
 rw[hhl]at this;exact .inr this
theorem bm(h:Rel B nt w0 X γ st a w)(hg:GX B w0 X){f:FuncId}{sp:TF}(hS:Snd P B f sp){vs:List V}{xs:List Value}(hv:VRels γ st.o w (DY X γ st.o) vs xs)(hl:FL vs=[]){tks:List (List Kd)}{cs:List V}{out:List (List V)}
  (hsp:sp (GJ st.o [] tks vs)=AA (.bor cs,out)) (d:Nat) (hd9:d≠900000) (hn9:1000*(d+1)+cs.length<=900000):
  Does P f xs w λe w'=>∃x,e=.returned x/\∃γ',Rel B nt w0 X γ' (st.ups (E2 st.o (match IU cs with|true=>E6 vs|false=>[])++(KV (1000*(d+1)) cs++[.new d (.box (GY (1000*(d+1)) cs))]))) a w'/\
   VRel γ' (st.ups (E2 st.o (match IU cs with|true=>E6 vs|false=>[])++(KV (1000*(d+1)) cs++[.new d (.box (GY (1000*(d+1)) cs))]))).o w'
    (DY X γ' (st.ups (E2 st.o (match IU cs with|true=>E6 vs|false=>[])++(KV (1000*(d+1)) cs++[.new d (.box (GY (1000*(d+1)) cs))]))).o) (.ptr d 0 0) x:=by
 refine(qC h hg hS hv hl hsp).mono ?_;rintro e w' ⟨x,he,γ',h1,h2,h3,rfl⟩;simp only[bG]at h3;have hmo:GZ (.bor cs) []=E7 cs:=rfl;rw[hmo]at h1 h2;generalize hX':(⟨λ_=>False,λb=>DY X γ st.o b/\∀m∈E6 vs,¬RowOf γ st.o m b⟩:Zone)=X' at h1 h2;have hXo:∀b,¬X'.own b:=λb hb=>by rw[<-hX']at hb;exact hb
 have hz:=(OE st.o (match IU cs with|true=>E6 vs|false=>[]) (FrzLe.refl _) h).1;have hPf:∀b,FN γ' (E7 cs) b->w.heap.size<=b/\b<w'.heap.size:=λb hb=>by
  obtain⟨q1,q2⟩:=h1.lt b hb;exact⟨q2.resolve_right (hXo b),q1⟩
 have hp:=nU hz hXo h1 (λb=>X.far b\/FN γ' (E7 cs) b) (λb hb=>hb.imp_right (hPf b));obtain⟨br1,br2,br3⟩:=zN h3 h1;have hO1:∀b,DY ⟨X.own,λb=>X.far b\/FN γ' (E7 cs) b⟩ γ (st.ups (E2 st.o (match IU cs with|true=>E6 vs|false=>[]))).o b->(IU cs=AC->DY X' γ' (E7 cs) b):=by
  intro b hb hal;rw[hal]at hb;have key:DY X γ (st.ups (E2 st.o (E6 vs))).o b\/FN γ' (E7 cs) b:=by
   rcases hb with hb|hb|hb
   .exact .inl (.inl hb)
   .exact .inl (.inr hb)
   .exact .inr hb
  rcases key with hb|hb
  .have:=iD h _ hb
   exact .inr (by rw[<-hX'];exact this)
  .exact .inl hb
 obtain⟨γd,F',r1,r2,r3,r4,r5,r6⟩:=kS (B':=B.base) (g:=λj=>γ' (900001+j)) (1000*(d+1)) cs 0 AG hp hO1 (λj e ag ks l hj=>by
   rw[BU];obtain⟨q1,q2⟩:=br1 γ j e ag ks l hj;exact⟨q1,λb hb=>⟨.inr (q2 b hb),.inl (DD h.keep.size (hPf b (q2 b hb)).1)⟩⟩)
  (λi j e ag ks l e' ag' ks' l' b hij q1 q2 q3 q4=>by
   rw[BU]at q3 q4;exact br2 i j e ag ks l e' ag' ks' l' b hij q1 q2 q3 q4)
 simp only[DJ,BU]at r1 r3 r4 r5 r6;have hob0:DV (E7 cs) 900000=AA (.box (GY 900001 cs)):=by rw[aN h3,EP,BX rfl]
 have hor:=h1.ob _ _ hob0;simp only[ObRel]at hor;obtain⟨b0,c,T,hg,hh,hr⟩:=hor;have hb0P:FN γ' (E7 cs) b0:=⟨900000,_,hob0,⟨_,hg,rfl⟩⟩;have hadd:=r1.add d hd9 (.box (GY (1000*(d+1)) cs)) (γ' 900000) (λb hb=>by
   obtain⟨ad,q1,q2⟩:=hb;rw[hg]at q1;simp only[C6,AK]at q1;subst q1;simp only at q2;subst q2;exact⟨r3 b0 (.inr hb0P) (λj e ag ks l hj hb=>br3 j e ag ks l b0 hj hb ⟨_,hob0,_,hg,rfl⟩),.inl (DD h.keep.size (hPf b0 hb0P).1)⟩)
  (λO' hO'=>by
   simp only[ObRel];refine⟨b0,c,T,hg,hh,Dm h3 h1 hr (λj e ag ks l hj=>?_) (λhal b _ hb=>hO1 b (r4 b (hO' b hb)) hal)⟩;obtain⟨q1,q2⟩:=r5 j e ag ks l hj;refine⟨by rw[BO AG];exact q1,?_⟩;rw[GS,BO AG,q2];rfl)
 have hfin:=hadd.shrink (F:=X.far) (λb hb=>by
   have hlt:=h.fl b hb;refine⟨r3 b (.inl hb) (λj e ag ks l hj hbj=>?_),λhbb=>?_⟩
   .have:=hPf b ((br1 γ j e ag ks l hj).2 b hbj)
    omega
   .obtain⟨ad,q1,q2⟩:=hbb;rw[hg]at q1;simp only[C6,AK]at q1;subst q1;simp only at q2;subst q2
    have:=hPf b0 hb0P
    omega)
 refine⟨x,he,_,by rw[MD,MD];exact hfin,?_⟩;rw[MD,MD];simp only[St.ups,VRel,GS,CX];simp only[MZ,EV,VRel,hob0]at h2;exact h2
theorem bp(h:Rel B nt w0 X γ st a w)(hg:GX B w0 X){f:FuncId}{sp:TF}(hS:Snd P B f sp){vs:List V}{xs:List Value}(hv:VRels γ st.o w (DY X γ st.o) vs xs)(hl:FL vs=[]){tks:List (List Kd)}{e:Nat}{ag:Bool}{ks:List Kd}{l:LI}{out:List (List V)}
  (hsp:sp (GJ st.o [] tks vs)=AA (.vec e ag ks l,out)) (d:Nat) (hd9:d≠900000):
  Does P f xs w λe' w'=>∃x,e'=.returned x/\∃γ',Rel B nt w0 X γ' (st.ups (E2 st.o (E6 vs)++[.new d (.row AC e ag ks l)])) a w'/\
   VRel γ' (st.ups (E2 st.o (E6 vs)++[.new d (.row AC e ag ks l)])).o w' (DY X γ' (st.ups (E2 st.o (E6 vs)++[.new d (.row AC e ag ks l)])).o) (.row d 0 l.length) x:=by
 refine(qC h hg hS hv hl hsp).mono ?_;rintro e' w' ⟨x,he,γ',h1,h2,h3,rfl⟩;have hmo:GZ (.vec e ag ks l) []=[(900000,AA (.row AC e ag ks l))]:=rfl;rw[hmo]at h1 h2;generalize hX':(⟨λ_=>False,λb=>DY X γ st.o b/\∀m∈E6 vs,¬RowOf γ st.o m b⟩:Zone)=X' at h1 h2;have hXo:∀b,¬X'.own b:=λb hb=>by rw[<-hX']at hb;exact hb
 have hz:=(OE st.o (E6 vs) (FrzLe.refl _) h).1;have hPf:∀b,FN γ' [(900000,AA (.row AC e ag ks l))] b->w.heap.size<=b/\b<w'.heap.size:=λb hb=>by
  obtain⟨q1,q2⟩:=h1.lt b hb;exact⟨q2.resolve_right (hXo b),q1⟩
 have hp:=nU hz hXo h1 (λb=>X.far b\/FN γ' [(900000,AA (.row AC e ag ks l))] b) (λb hb=>hb.imp_right (hPf b));have hO1:∀b,DY ⟨X.own,λb=>X.far b\/FN γ' [(900000,AA (.row AC e ag ks l))] b⟩ γ (st.ups (E2 st.o (E6 vs))).o b->DY X' γ' [(900000,AA (.row AC e ag ks l))] b:=by
  intro b hb;have key:DY X γ (st.ups (E2 st.o (E6 vs))).o b\/FN γ' [(900000,AA (.row AC e ag ks l))] b:=by
   rcases hb with hb|hb|hb
   .exact .inl (.inl hb)
   .exact .inl (.inr hb)
   .exact .inr hb
  rcases key with hb|hb
  .have:=iD h _ hb
   exact .inr (by rw[<-hX'];exact this)
  .exact .inl hb
 have hob0:DV [(900000,AA (.row AC e ag ks l))] 900000=AA (.row AC e ag ks l):=by rw[EP,BX rfl]
 have hor:=h1.ob _ _ hob0;simp only[ObRel]at hor;obtain⟨k1,k2,ys,k3,k4⟩:=hor;have hg0:∀b,FE (γ' 900000) (.row AC e ag ks l) b->FN γ' [(900000,AA (.row AC e ag ks l))] b:=λb hb=>⟨900000,_,hob0,hb⟩
 have hadd:=hp.add d hd9 (.row AC e ag ks l) (γ' 900000) (λb hb=>⟨.inr (hg0 b hb),.inl (DD h.keep.size (hPf b (hg0 b hb)).1)⟩)
  (λO' hO'=>by
   simp only[ObRel];exact⟨k1,k2,ys,k3,λi y hy=>Kd.RelAll.mono (Keep.refl _ w') (λb _ hb=>hO1 b (hO' b hb)) (λ_ _ hu=>hu) (k4 i y hy)⟩)
 have hfin:=hadd.shrink (F:=X.far) (λb hb=>by
   have hlt:=h.fl b hb;refine⟨.inl hb,λhbb=>?_⟩
   have:=hPf b (hg0 b hbb)
   omega)
 refine⟨x,he,_,by rw[MD];exact hfin,?_⟩;rw[MD];simp only[St.ups,VRel,GS,CX];simp only[MZ,VRel,hob0]at h2;exact h2
theorem zfO{γ:Nat->Value}{o:Store}{w:World}{O O':Nat->Prop}(hO:∀b,b<w.heap.size->O' b->O b){v:V}{y:Kd×IV}{x:Value}(he:xZ v=AA y)(hv:VRel γ o w O v x):Kd.Rel w O' y.1 y.2 x:=by
 cases v<;>simp only[xZ]at he<;>first|(cases he;done)|skip
 all_goals
  simp only[AK]at he;subst he;simp only[VRel]at hv
 case list ag ks l=>exact Kd.Rel.mono (Keep.refl _ w) hO hv
 all_goals
  simp only[Kd.Rel,IV.toInt,IV.toBool,IV.toStr];exact hv
theorem Vb{γ:Nat->Value}{o:Store}{w:World}{O O':Nat->Prop}(hO:∀b,b<w.heap.size->O' b->O b):
  ∀{cs:List V} {y:List Kd×LI} {xs:List Value} {j:Nat} {f:Nat->IV} {R:Nat->Value->Prop},kA cs=AA y->VRels γ o w O cs xs->(∀i,f (j+i)=LO y.2 i)->(∀i u,xs[i]?=AA u->R (j+i) u)->Kd.RelAll w O' y.1 f j R
 |[],y,xs,j,f,R,he,hv,hf,hR=>by
  simp only[kA,AK]at he;subst he;simp only[Kd.RelAll]
 |v::cs,y,[],j,f,R,he,hv,hf,hR=>by simp only[VRels]at hv
 |v::cs,y,x::xs,j,f,R,he,hv,hf,hR=>by
  simp only[kA]at he;split at he
  .rename_i a b ha hb;simp only[AK]at he;subst he;simp only[VRels]at hv;simp only[Kd.RelAll];refine⟨⟨x,by have:=hR 0 x rfl;simpa using this,?_⟩,Vb hO hb hv.2 (λi=>?_) (λi u hu=>?_)⟩
   .have h0:=hf 0;simp only[DJ,LO]at h0;rw[h0];exact zfO hO ha hv.1
   .rw[show j+1+i=j+(i+1) by omega,hf];rfl
   .rw[show j+1+i=j+(i+1) by omega];exact hR (i+1) u (by simpa using hu)
  .cases he
theorem ca(h:Rel B nt w0 X γ st a w){v:V}{x:Value}(hv:VRel γ st.o w (DY X γ st.o) v x){γb:Nat->Value}{bo:Store}{O':Nat->Prop}(hO:∀b,b<w.heap.size->O' b->DY X γ st.o b)
  (hrow:∀m∈FD [v],∀b,RowOf γ st.o m b->¬O' b) (hl:∀m∈FL.lentC [v],∀b,FC γ st.o m b->¬O' b):VRel γb bo w O' (EV.go (MO st.o v)) x:=by
 by_cases hp:∃n i c,v=.ptr n i c
 .obtain⟨n,i,c,rfl⟩:=hp;simp only[MO];split
  .rename_i cs hic ho;split
   .rename_i y hy;simp only[AQ]at hic;obtain rfl:=F1.1 hic.1;obtain rfl:=F1.1 hic.2;simp only[VRel,ho]at hv;obtain⟨_,b,hg,rfl⟩:=hv;obtain⟨b',c,T,hg',hh,hc⟩:=h.ob n _ ho;rw[hg]at hg';simp only[C6,AK,DI,CI]at hg';subst hg';simp only[EV.go,VRel];refine⟨b,0,rfl,hl n (by simp[FL.lentC]) b ⟨_,ho,⟨_,hg,rfl⟩⟩,?_,Vb hO hy hc (λi=>by rw[BU]) (λi u hu=>?_)⟩
    .rcases DN b w.heap.size with h1|h1
     .exact h1
     .rw[Array.getElem?_eq_none h1]at hh;cases hh
    .simp only[vaI,hh,BU];simpa using hu
   .simp only[EV.go,VRel]
  .simp only[EV.go,VRel]
 .have h1:MO st.o v=IN (EZ st.o [] AB v):=by cases v<;>first|rfl|exact absurd ⟨_,_,_,rfl⟩ hp
  have h2:EV.go (IN (EZ st.o [] AB v))=IN (EZ st.o [] AB v):=by cases EZ st.o [] AB v<;>rfl
  rw[h1,h2];exact pP h hv hO hrow [] AB
theorem Dh(h:Rel B nt w0 X γ st a w){γb:Nat->Value}{bo:Store}{O':Nat->Prop}(hO:∀b,b<w.heap.size->O' b->DY X γ st.o b):
  ∀{l:List V} {xs:List Value},VRels γ st.o w (DY X γ st.o) l xs->(∀m∈FD l,∀b,RowOf γ st.o m b->¬O' b)->(∀m∈FL.lentC l,∀b,FC γ st.o m b->¬O' b)->
   VRels γb bo w O' ((l.map (MO st.o)).map EV.go) xs
 |[],[],_,_,_=>by simp only[CN,VRels]
 |[],x::xs,hv,_,_=>by simp only[VRels]at hv
 |v::l,[],hv,_,_=>by simp only[VRels]at hv
 |v::l,x::xs,hv,hr,hl=>by
  simp only[VRels,A8]at hv ⊢;exact⟨ca h hv.1 hO (λm hm=>hr m (bU v l m (.inl hm))) (λm hm=>hl m (mV v l m (.inl hm))),
   Dh h hO hv.2 (λm hm=>hr m (bU v l m (.inr hm))) (λm hm=>hl m (mV v l m (.inr hm)))⟩
theorem Zr(h:Rel B nt w0 X γ st a w){v:V}{x:Value}(hv:VRel γ st.o w (DY X γ st.o) v x){γb:Nat->Value}{bo:Store}{O':Nat->Prop}(hO:∀b,b<w.heap.size->O' b->DY X γ st.o b)
  (hrow:∀m∈LB v,∀b,RowOf γ st.o m b->¬O' b) (hl:∀m∈FL [v],∀b,FC γ st.o m b->¬O' b) (ks:List Kd):VRel γb bo w O' (EV (NC st.o ks v)) x:=by
 by_cases hc:(∃f l,v=.clo f l)\/(∃n i c,v=.ptr n i c)
 .rcases hc with⟨f,l,rfl⟩|⟨n,i,c,rfl⟩
  .simp only[NC,EV,VRel]at hv ⊢;obtain⟨cs,hx,hr⟩:=hv;exact⟨cs,hx,Dh h hO hr hrow (λm hm=>hl m (by simpa[FL]using hm))⟩
  .simp only[NC,EV,VRel]
 .have h1:NC st.o ks v=J2 st.o [] ks v:=by cases v<;>first|rfl|exact absurd (.inl ⟨_,_,rfl⟩) hc|exact absurd (.inr ⟨_,_,_,rfl⟩) hc
  have h2:FL [v]=[]:=by cases v<;>first|rfl|exact absurd (.inl ⟨_,_,rfl⟩) hc|exact absurd (.inr ⟨_,_,_,rfl⟩) hc
  rw[h1];exact y9 h hv hO hrow (λm hm=>by rw[h2]at hm;cases hm) [] ks
theorem y6(h:Rel B nt w0 X γ st a w){γb:Nat->Value}{bo:Store}{O':Nat->Prop}(hO:∀b,b<w.heap.size->O' b->DY X γ st.o b):
  ∀{l:List V} {tks:List (List Kd)} {xs:List Value},VRels γ st.o w (DY X γ st.o) l xs->(∀m∈E6 l,∀b,RowOf γ st.o m b->¬O' b)->(∀m∈FL l,∀b,FC γ st.o m b->¬O' b)->
   VRels γb bo w O' ((KU st.o tks l).map EV) xs
 |[],tks,[],_,_,_=>by cases tks<;>simp only[KU,CN,VRels]
 |[],tks,x::xs,hv,_,_=>by simp only[VRels]at hv
 |v::l,tks,[],hv,_,_=>by simp only[VRels]at hv
 |v::l,tks,x::xs,hv,hr,hl=>by
  simp only[VRels]at hv;have h1:∀ks,VRel γb bo w O' (EV (NC st.o ks v)) x:=λks=>Zr h hv.1 hO (λm hm=>hr m (by simp only[E6,A5];exact .inl hm)) (λm hm=>hl m (by
   cases v<;>simp_all[FL])) ks
  have h2:∀tks,VRels γb bo w O' ((KU st.o tks l).map EV) xs:=λtks=>y6 h hO hv.2 (λm hm=>hr m (by simp only[E6,A5];exact .inr hm)) (λm hm=>hl m (by
   cases v<;>simp_all[FL]))
  cases tks with
  |nil=>simp only[KU,A8,VRels];exact⟨h1 _,h2 _⟩
  |cons k ks=>simp only[KU,A8,VRels];exact⟨h1 _,h2 _⟩
theorem bz(o:Store)(v:V):∀cs,MO o v≠.bor cs:=by
 intro cs he;by_cases hp:∃n i c,v=.ptr n i c
 .obtain⟨n,i,c,rfl⟩:=hp;simp only[MO]at he;split at he
  .split at he<;>cases he
  .cases he
 .have h1:MO o v=IN (EZ o [] AB v):=by cases v<;>first|rfl|exact absurd ⟨_,_,_,rfl⟩ hp
  rw[h1]at he;cases hx:EZ o [] AB v<;>rw[hx]at he<;>simp only[IN]at he<;>cases he
theorem z6(o:Store):∀l:List V,FX.borC (l.map (MO o))=AB
 |[]=>rfl
 |v::r=>by
  have:=bz o v
  simp only[A8];cases hx:MO o v<;>simp only[FX.borC,z6 o r]
  exact absurd hx (this _)
theorem z7(o:Store):∀(l:List V) (tks:List (List Kd)),FX (KU o tks l)=AB
 |[],tks=>by cases tks<;>rfl
 |v::r,tks=>by
  obtain⟨ks,tks',he⟩:∃ks tks',KU o tks (v::r)=NC o ks v::KU o tks' r:=by
   cases tks with
   |nil=>exact⟨[],[],rfl⟩
   |cons k ks=>exact⟨k,ks,rfl⟩
  have ih:=z7 o r tks';rw[he];by_cases hc:(∃f l,v=.clo f l)\/(∃n i c,v=.ptr n i c)
  .rcases hc with⟨f,l,rfl⟩|⟨n,i,c,rfl⟩
   .simp only[NC,FX,z6,ih]
   .simp only[NC,FX,ih]
  .have h1:NC o ks v=J2 o [] ks v:=by cases v<;>first|rfl|exact absurd (.inl ⟨_,_,rfl⟩) hc|exact absurd (.inr ⟨_,_,_,rfl⟩) hc
   have h2:FL [v]=[]:=by cases v<;>first|rfl|exact absurd (.inl ⟨_,_,rfl⟩) hc|exact absurd (.inr ⟨_,_,_,rfl⟩) hc
   have h3:=(gP (o:=o) (bs:=[]) (l:=[v]) (tks:=[ks])).2 h2;simp only[GJ]at h3;rw[h1];cases hx:J2 o [] ks v<;>rw[hx]at h3<;>simp only[FX]at h3 ⊢ <;>first|exact ih|(cases h3;done)|skip
   cases hy:FX.borC _ with
   |none=>simpa only using ih
   |some cs=>rw[hy]at h3;cases h3
theorem bq(h:Rel B nt w0 X γ st a w)(hg:GX B w0 X){f:FuncId}{sp:TF}(hS:Snd P B f sp){vs:List V}{xs:List Value}(hv:VRels γ st.o w (DY X γ st.o) vs xs){tks:List (List Kd)}{b:Bool}
  (hsp:sp (KU st.o tks vs)=AA (.bool b,[])):
  Does P f xs w λe w'=>∃x,e=.returned x/\∃γ',Rel B nt w0 X γ' st a w'/\VRel γ' st.o w' (DY X γ' st.o) (.bool b) x:=by
 have hb:FX (KU st.o tks vs)=AB:=z7 _ _ _;have hm:I0 (KU st.o tks vs)=[]:=by simp only[I0,hb]
 generalize hX':(⟨λ_=>False,λb=>DY X γ st.o b/\(∀m∈E6 vs,¬RowOf γ st.o m b)/\∀m∈FL vs,¬FC γ st.o m b⟩:Zone)=X';have hXo:∀b,¬X'.own b:=λb hb=>by rw[<-hX']at hb;exact hb
 have hXf:∀b,X'.far b->DY X γ st.o b/\(∀m∈E6 vs,¬RowOf γ st.o m b)/\∀m∈FL vs,¬FC γ st.o m b:=λb hb=>by rw[<-hX']at hb;exact hb
 have hO:∀b,DY X' γ [] b->X'.far b:=λb hb=>by
  rcases hb with⟨n,ob,hn,_⟩|hb
  .simp only[DV,FA]at hn;cases hn
  .exact hb
 have hR:Rel B.base 0 w X' γ ⟨[],[]⟩ J1 w:=by
  refine⟨rfl,rfl,λi=>by simp only[St.get,FA,VRel],λn ob hn=>?_,?_,?_,Keep.refl _ w,?_,?_,λp hp=>by cases hp⟩
  .simp only[DV,FA]at hn;cases hn
  .rintro b ⟨n,ob,hn,_⟩;simp only[DV,FA]at hn;cases hn
  .intro n m ob ob' b _ hn;simp only[DV,FA]at hn;cases hn
  .rintro b ⟨n,ob,hn,_⟩;simp only[DV,FA]at hn;cases hn
  .intro b hb;rcases(hXf b hb).1 with hb|hb
   .exact(h.lt b hb).1
   .exact h.fl b hb
 have:=hS w X' γ (KU st.o tks vs) xs (.bool b) [] hsp (h.glob hg) (λb hb=>(hXo b hb).elim) (by rw[hm];exact hR) (by
  rw[hm];exact y6 h (λb _ hb=>(hXf b (hO b hb)).1) hv (λm hm b hr hb=>(hXf b (hO b hb)).2.1 m hm hr) (λm hm b hr hb=>(hXf b (hO b hb)).2.2 m hm hr))
 refine this.mono ?_;rintro e w' ⟨x,he,γ',h1,h2,_⟩;have hp:=nU h hXo h1 X.far (λb hb=>.inl hb);exact⟨x,he,γ,hp,by simpa only[MZ,EV,VRel]using h2⟩
end
open Go Go.RowKit
mutual
theorem VRel.leaves{γ γ':Nat->Value}{o o':Store}{w:World}{O:Nat->Prop}(h1:∀n lo hi x,VRel γ o w O (.row n lo hi) x->VRel γ' o' w O (.row n lo hi) x)(h2:∀n i c x,VRel γ o w O (.ptr n i c) x->VRel γ' o' w O (.ptr n i c) x)
  (h3:∀n c cap sz len x,VRel γ o w O (.bview n c cap sz len) x->VRel γ' o' w O (.bview n c cap sz len) x):∀{v:V} {x:Value},VRel γ o w O v x->VRel γ' o' w O v x
 |.any,_,_=>by simp only[VRel]
 |.int _ _,_,h=>by simpa only[VRel]using h
 |.bool _,_,h=>by simpa only[VRel]using h
 |.str _,_,h=>by simpa only[VRel]using h
 |.list _ _ _,_,h=>by simpa only[VRel]using h
 |.zs,_,h=>by simpa only[VRel]using h
 |.row _ _ _,_,h=>h1 _ _ _ _ h
 |.ptr _ _ _,_,h=>h2 _ _ _ _ h
 |.iptr _ _ _,_,h=>by simpa only[VRel]using h
 |.bview _ _ _ _ _,_,h=>h3 _ _ _ _ _ _ h
 |.agg l,x,h=>by
  simp only[VRel]at h ⊢;obtain⟨cs,hx,hr⟩:=h;exact⟨cs,hx,VRels.leaves h1 h2 h3 hr⟩
 |.tup l,x,h=>by
  simp only[VRel]at h ⊢;obtain⟨cs,hx,hr⟩:=h;exact⟨cs,hx,VRels.leaves h1 h2 h3 hr⟩
 |.err _,_,h=>by simpa only[VRel]using h
 |.nilp,_,h=>by simpa only[VRel]using h
 |.clo _ l,x,h=>by
  simp only[VRel]at h ⊢;obtain⟨cs,hx,hr⟩:=h;exact⟨cs,hx,VRels.leaves h1 h2 h3 hr⟩
 |.bor _,_,h=>by simp only[VRel]at h
 |.vec _ _ _ _,_,h=>by simp only[VRel]at h
 |.bld _,_,h=>by simp only[VRel]at h
theorem VRels.leaves{γ γ':Nat->Value}{o o':Store}{w:World}{O:Nat->Prop}(h1:∀n lo hi x,VRel γ o w O (.row n lo hi) x->VRel γ' o' w O (.row n lo hi) x)(h2:∀n i c x,VRel γ o w O (.ptr n i c) x->VRel γ' o' w O (.ptr n i c) x)
  (h3:∀n c cap sz len x,VRel γ o w O (.bview n c cap sz len) x->VRel γ' o' w O (.bview n c cap sz len) x):∀{l:List V} {xs:List Value},VRels γ o w O l xs->VRels γ' o' w O l xs
 |[],[],_=>by simp only[VRels]
 |[],_::_,h=>by simp only[VRels]at h
 |_::_,[],h=>by simp only[VRels]at h
 |v::vs,x::xs,h=>by
  simp only[VRels]at h ⊢;exact⟨VRel.leaves h1 h2 h3 h.1,VRels.leaves h1 h2 h3 h.2⟩
end
section
variable {B:BT} {nt:Nat} {w0:World} {X:Zone} {γ:Nat→Value} {st st':St} {a:Act} {w:World} {P:Program} {E:Env}
theorem Hr:∀(hs:List Nat) {st:St} {X:Zone},Rel B nt w0 X γ st a w->
  Rel B nt w0 ⟨X.own,λb=>X.far b\/∃m∈hs,FC γ st.o m b⟩ γ (st.ups (MS hs)) a w/\(st.ups (MS hs)).t=st.t/\∀m,DV (st.ups (MS hs)).o m=if m∈hs then AB else DV st.o m
 |[],st,X,h=>⟨h.shrink (λb hb=>by simpa using hb),rfl,λm=>by simp[MS,St.ups]⟩
 |n::r,st,X,h=>by
  obtain⟨h1,h2,h3⟩:=Hr r (h.kill n);have hob:∀m,DV (st.up (.kill n)).o m=if n=m then AB else DV st.o m:=λm=>by simp only[St.up,EP]
  refine⟨?_,h2,λm=>?_⟩
  .simp only[MS,St.ups];refine h1.shrink (λb hb=>?_);rcases hb with hb|⟨m,hm,hb⟩
   .exact .inl (.inl hb)
   .by_cases e:n=m
    .subst e;exact .inl (.inr hb)
    .rcases AW.1 hm with h4|h4
     .exact absurd h4.symm e
     .obtain⟨ob,p1,p2⟩:=hb;exact .inr ⟨m,h4,ob,by rw[hob,BO e];exact p1,p2⟩
  .simp only[MS,St.ups];rw[h3,hob];by_cases h4:m∈r
   .simp[h4]
   .by_cases h5:n=m
    .subst h5;simp
    .have:¬m=n:=λe=>h5 e.symm
     simp[h4,h5,this]
theorem Gi(h:Rel B nt w0 X γ st a w)(ns:List Nat){n:Nat}{ob:Ob}(ho:DV st.o n=AA ob)(hb:∀e ag ks l,ob≠.row AC e ag ks l):DV (st.ups (E2 st.o ns)).o n=AA ob:=by
 obtain⟨_,h2,_⟩:=OE st.o ns (FrzLe.refl _) h;rcases h2 n with h3|⟨e,ag,ks,l,h3,_⟩
 .rw[h3,ho]
 .rw[ho,AK]at h3;exact absurd h3 (hb _ _ _ _)
theorem Rel.boundB(h:Rel B nt w0 X γ st a w){n:Nat}{s:BA}(ho:DV st.o n=AA (.bld s)){w1:World}{own1 F:Nat->Prop}(hk:Keep own1 w1 w)
  (hF:∀b,F b->DY X γ st.o b/\¬FC γ st.o n b) (hown:∀b,FC γ st.o n b->w1.heap.size<=b\/own1 b):
  Rel B.base 0 w1 ⟨own1,F⟩ (λ_=>γ n) ⟨[],E7 [.bld s]⟩ J1 w/\∀b,FN (λ_=>γ n) (E7 [.bld s]) b->FC γ st.o n b:=by
 have hP:∀b,FN (λ_=>γ n) (E7 [.bld s]) b->FC γ st.o n b:=by
  rintro b ⟨m,ob,hm,hb⟩;simp only[E7]at hm;rw[EP]at hm;split at hm
  .simp only[AK]at hm;subst hm;exact⟨_,ho,hb⟩
  .simp only[DV,FA]at hm;cases hm
 refine⟨⟨rfl,rfl,λi=>by simp only[St.get,FA,VRel],λm ob hm=>?_,λb hb=>?_,?_,hk,?_,?_,λp hp=>by cases hp⟩,hP⟩
 .simp only[E7]at hm;rw[EP]at hm;split at hm
  .simp only[AK]at hm;subst hm
   have:=h.ob n _ ho
   simpa only[ObRel,BT.base]using this
  .simp only[DV,FA]at hm;cases hm
 .obtain⟨ob,h1,h2⟩:=hP b hb;exact⟨(h.lt b ⟨n,ob,h1,h2⟩).1,hown b (hP b hb)⟩
 .intro m1 m2 ob1 ob2 b hne h1 h2 _ _;simp only[E7]at h1 h2;rw[EP]at h1 h2;split at h1
  .split at h2
   .omega
   .simp only[DV,FA]at h2;cases h2
  .simp only[DV,FA]at h1;cases h1
 .intro b hb hf;exact(hF b hf).2 (hP b hb)
 .intro b hb;rcases(hF b hb).1 with h1|h1
  .exact(h.lt b h1).1
  .exact h.fl b h1
theorem bi(h:Rel B nt w0 X γ st a w)(hg:GX B w0 X){f:FuncId}{sp:TF}(hS:Snd P B f sp){vs:List V}{xs:List Value}(hv:VRels γ st.o w (DY X γ st.o) vs xs){n:Nat}(hl:FL vs=[n]){s s':BA}(ho:DV st.o n=AA (.bld s))
  {tks:List (List Kd)} {v:V} (hsp:sp (GJ st.o [.bld s] tks vs)=AA (v,[[.bld s']])) (hib:mD (FX (GJ st.o [.bld s] tks vs))=AC):
  Does P f xs w λe w'=>∃x,e=.returned x/\∃γ',Rel B nt w0 X γ' (st.ups (E2 st.o (match IY v with|true=>E6 vs|false=>[])++[.set n (.bld s')])) a w'/\
   VRel γ' (st.ups (E2 st.o (match IY v with|true=>E6 vs|false=>[])++[.set n (.bld s')])).o w' (DY X γ' (st.ups (E2 st.o (match IY v with|true=>E6 vs|false=>[])++[.set n (.bld s')])).o) v x:=by
 have hL:∀b,FC γ st.o n b->w.heap.size<=b\/FC γ st.o n b:=λb hb=>.inr hb
 obtain⟨hR,hP⟩:=h.boundB ho (w1:=w) (own1:=FC γ st.o n) (F:=λb=>DY X γ st.o b/\¬FC γ st.o n b/\∀m∈E6 vs,¬RowOf γ st.o m b) (Keep.refl _ w) (λb hb=>⟨hb.1,hb.2.1⟩) hL;generalize hX':(⟨FC γ st.o n,λb=>DY X γ st.o b/\¬FC γ st.o n b/\∀m∈E6 vs,¬RowOf γ st.o m b⟩:Zone)=X' at hR;have hXf:∀b,X'.far b↔(DY X γ st.o b/\¬FC γ st.o n b/\∀m∈E6 vs,¬RowOf γ st.o m b):=λb=>by rw[<-hX']
 have hXo:∀b,X'.own b↔FC γ st.o n b:=λb=>by rw[<-hX']
 have hnP:∀b,FC γ st.o n b->FN γ st.o b:=λb ⟨ob,h1,h2⟩=>⟨n,ob,h1,h2⟩
 rcases(gP (o:=st.o) (bs:=[.bld s]) (l:=vs) (tks:=tks)).1 with hb|hb
 .rw[hb]at hib;cases hib
 .have hm:I0 (GJ st.o [.bld s] tks vs)=E7 [.bld s]:=by simp only[I0,hb]
  have hcall:=hS w X' (λ_=>γ n) (GJ st.o [.bld s] tks vs) xs v [[.bld s']] hsp (h.glob hg) (λb hb=>h.high hg (hnP b ((hXo b).1 hb))) (by rw[hm];exact hR) (by
   rw[hm];refine kW h (λb _ hb=>?_) [.bld s] hv (λm hm b hr hb=>?_) (λm hm=>?_)
   .rcases hb with hb|hb
    .exact .inl (hnP b (hP b hb))
    .exact((hXf b).1 hb).1
   .rcases hb with hb|hb
    .obtain⟨e,ag,ks,l,h5,h6⟩:=hr;obtain⟨ob,h7,h8⟩:=hP b hb;have hne:n≠m:=by
      rintro rfl;rw[ho]at h5;cases h5
     exact h.dis n m ob _ b hne h7 h5 h8 h6
    .exact((hXf b).1 hb).2.2 m hm hr
   .rw[hl]at hm;simp only[BZ]at hm;subst hm;exact⟨rfl,.inr ⟨s,s,ho,by simp[E7,EP]⟩⟩)
  refine hcall.mono ?_;rintro e w' ⟨x,he,γ',h1,h2,h3⟩;simp only[LF,hb]at h3;obtain⟨hf,_,had⟩:=h3;have hmo:GZ v [[.bld s']]=E7 [.bld s']:=by cases v<;>rfl
  rw[hmo]at h1 h2;rw[V7 hf]at h2;refine⟨x,he,?_⟩;generalize hF0:(match IY v with|true=>E6 vs|false=>[])=F0;have hz:=(OE st.o F0 (FrzLe.refl _) h).1;have hon:=Gi h F0 ho (λ_ _ _ _=>by simp);have hob0:DV (E7 [.bld s']) 900000=AA (.bld s'):=by simp[E7,EP]
  have hor:=h1.ob _ _ hob0;have hor0:=h.ob _ _ ho;simp only[ObRel]at hor hor0;obtain⟨b1,v1,p1,hg1,_⟩:=hor;obtain⟨b0,v0,p0,hg0,_⟩:=hor0;have hbb:b1=b0:=by
   rw[hg1,hg0]at had;simpa[TG]using had
  subst hbb;have hbl:∀b,FC γ (st.ups (E2 st.o F0)).o n b↔FC γ st.o n b:=λb=>by simp only[FC,hon,ho]
  have hOP:∀b,FE (γ' 900000) (.bld s') b->FN γ' (E7 [.bld s']) b:=λb hb=>⟨_,_,hob0,hb⟩
  have hsz:=h1.keep.size;have hlend:=hz.lend (n:=n) (ob':=.bld s') (g':=γ' 900000) hon had h1.keep (K:=X'.own) (λb _ hb=>.inl ((hbl b).2 ((hXo b).1 hb)))
   (λb hb=>by
    obtain⟨q1,q2⟩:=h1.lt b (hOP b hb);exact⟨q1,q2.elim .inr (λhb=>.inl ((hbl b).2 ((hXo b).1 hb)))⟩)
   (λO v x hvx=>VRel.leaves (λm lo hi x hx=>by
     simp only[VRel]at hx ⊢;rw[EP];by_cases e:n=m
     .subst e;simp only[CX]
     .simp only[BO e];exact hx) (λm i c x hx=>by
     simp only[VRel]at hx ⊢;rw[EP];by_cases e:n=m
     .subst e;simp only[CX];rw[hon]at hx;obtain⟨rfl,b,v',hg,hxx⟩:=hx;rw[hg0]at hg;simp only[Value.tuple.injEq,Array.mk.injEq,vaD,C6,AK,DI,CI]at hg;refine⟨rfl,b1,v1,hg1,?_⟩;rw[hxx,hg.1]
     .simp only[BO e];exact hx) (λm c cap sz len x hx=>by
     simp only[VRel]at hx ⊢;rw[EP];by_cases e:n=m
     .subst e;simp only[CX]
     .simp only[BO e];exact hx) hvx)
   (by
    have hor:=h1.ob _ _ hob0;simpa only[ObRel,BT.base]using hor)
  have hfin:=hlend.shrink (F:=X.far) (λb hb=>⟨.inl hb,λhbb=>by
   obtain⟨q1,q2⟩:=h1.lt b (hOP b hbb)
   have:=h.fl b hb
   rcases q2 with q2|q2
   .omega
   .exact h.nr b (hnP b ((hXo b).1 q2)) hb⟩)
  refine⟨_,by rw[MD];exact hfin,?_⟩;rw[MD];refine rU hf (λhhl b hlt hb=>?_) h2;rw[hhl]at hF0;simp only at hF0;rcases hb with⟨m,ob,hm,hbm⟩|hb
  .simp only[St.ups,St.up]at hm;rw[EP]at hm;by_cases e:n=m
   .subst e;simp only[CX,AK]at hm hbm;subst hm;exact .inl (hOP b hbm)
   .simp only[BO e]at hm hbm;obtain⟨q1,q2⟩:=iD h F0 (b:=b) (.inl ⟨m,ob,hm,hbm⟩);refine .inr ((hXf b).2 ⟨q1,λhbn=>?_,by rw[hF0];exact q2⟩);obtain⟨ob2,q3,q4⟩:=(hbl b).2 hbn;exact hz.dis n m ob2 ob b e q3 hm q4 hbm
  .refine .inr ((hXf b).2 ⟨.inr hb,λhbn=>h.nr b (hnP b hbn) hb,λm _ ⟨e,ag,ks,l,q1,q2⟩=>h.nr b ⟨m,_,q1,q2⟩ hb⟩)
theorem oD{o:Store}{all:List Nat}{n:Nat}:∀{cs:List V},n∈IG o all cs->∃lo hi own e ag ks l,.row n lo hi∈cs/\DV o n=AA (.row own e ag ks l)/\(own&&(B2 lo 0&&B2 (IE n all) 1))=AD
 |[],h=>by simp[IG]at h
 |v::r,h=>by
  have up:n∈IG o all r->∃lo hi own e ag ks l,.row n lo hi∈v::r/\DV o n=AA (.row own e ag ks l)/\(own&&(B2 lo 0&&B2 (IE n all) 1))=AD:=λh'=>by
   obtain⟨lo,hi,own,e,ag,ks,l,h1,h2,h3⟩:=oD h';exact⟨lo,hi,own,e,ag,ks,l,A6 _ h1,h2,h3⟩
  cases v
  case row m lo hi=>
   simp only[IG]at h;split at h
   .rename_i own e ag ks l hob;split at h
    .exact up h
    .rename_i hb;rcases AW.1 h with h1|h1
     .subst h1;exact⟨lo,hi,own,e,ag,ks,l,AY ..,hob,hb⟩
     .exact up h1
   .exact up h
  all_goals exact up h
theorem bj(h:Rel B nt w0 X γ st a w)(hg:GX B w0 X){f:FuncId}{sp:TF}(hS:Snd P B f sp){vs:List V}{xs:List Value}(hv:VRels γ st.o w (DY X γ st.o) vs xs){n:Nat}(hl:FL vs=[n]){cs:List V}(ho:DV st.o n=AA (.box cs)){all:List Nat}(hall:FD cs++E6 vs=all)
  {tks:List (List Kd)} {v:V} {out:List V} (hsp:sp (GJ st.o (cs.map (FS st.o all)) tks vs)=AA (v,[out])) (hib:mD (FX (GJ st.o (cs.map (FS st.o all)) tks vs))=AC) {nm:Nat} (hlen:out.length=cs.length) (hnm:n<nm\/nm+out.length<=n) (hn9:nm+out.length<=900000):
  Does P f xs w λe w'=>∃x,e=.returned x/\∃γ',Rel B nt w0 X γ' (st.ups (E2 st.o (IG st.o all cs++(match IY v||IU out with|true=>E6 vs|false=>[]))++
     (MS (HJ st.o all cs)++(.set n (.box (OX cs))::(KV nm out++[.set n (.box (GY nm out))]))))) a w'/\
   VRel γ' (st.ups (E2 st.o (IG st.o all cs++(match IY v||IU out with|true=>E6 vs|false=>[]))++
     (MS (HJ st.o all cs)++(.set n (.box (OX cs))::(KV nm out++[.set n (.box (GY nm out))]))))).o w' (DY X γ' (st.ups (E2 st.o (IG st.o all cs++(match IY v||IU out with|true=>E6 vs|false=>[]))++
     (MS (HJ st.o all cs)++(.set n (.box (OX cs))::(KV nm out++[.set n (.box (GY nm out))]))))).o) v x:=by
 let L:Nat->Prop:=λb=>FC γ st.o n b\/∃m∈HJ st.o all cs,FC γ st.o m b
 have hLP:∀b,L b->FN γ st.o b:=by
  rintro b (⟨ob,h1,h2⟩|⟨m,_,ob,h1,h2⟩)
  .exact⟨n,ob,h1,h2⟩
  .exact⟨m,ob,h1,h2⟩
 have hbound:=h.bound ho (E6 vs) (w1:=w) (own1:=L) (F:=λb=>DY X γ st.o b/\¬L b/\(∀m∈IG st.o all cs,¬FC γ st.o m b)/\∀m∈E6 vs,¬RowOf γ st.o m b) (Keep.refl _ w)
  (λb hb=>⟨hb.1,λh1=>hb.2.1 (.inl h1),λm hm h1=>hb.2.1 (.inr ⟨m,by rw[<-hall];exact hm,h1⟩),by rw[hall];exact hb.2.2.1⟩) (λb hb=>.inr (by rw[hall]at hb;exact hb))
 rw[hall]at hbound;obtain⟨γb,hR,hg0,hP⟩:=hbound;generalize hX':(⟨L,λb=>DY X γ st.o b/\¬L b/\(∀m∈IG st.o all cs,¬FC γ st.o m b)/\∀m∈E6 vs,¬RowOf γ st.o m b⟩:Zone)=X' at hR;have hXf:∀b,X'.far b↔(DY X γ st.o b/\¬L b/\(∀m∈IG st.o all cs,¬FC γ st.o m b)/\∀m∈E6 vs,¬RowOf γ st.o m b):=λb=>by rw[<-hX']
 have hXo:∀b,X'.own b↔L b:=λb=>by rw[<-hX']
 have hb:FX (GJ st.o (cs.map (FS st.o all)) tks vs)=AA (cs.map (FS st.o all)):=by
  rcases(gP (o:=st.o) (bs:=cs.map (FS st.o all)) (l:=vs) (tks:=tks)).1 with hb|hb
  .rw[hb]at hib;cases hib
  .exact hb
 have hm:I0 (GJ st.o (cs.map (FS st.o all)) tks vs)=E7 (cs.map (FS st.o all)):=by simp only[I0,hb]
 have hargs:∀m∈E6 vs,∀b,RowOf γ st.o m b->¬L b:=by
  intro m hm b hr hLb;obtain⟨e,ag,ks,l,h5,h6⟩:=hr;rcases hLb with⟨ob,h7,h8⟩|⟨m2,h9,ob,h7,h8⟩
  .have hne:n≠m:=by
    rintro rfl;rw[ho]at h5;cases h5
   exact h.dis n m ob _ b hne h7 h5 h8 h6
  .by_cases hne:m2=m
   .subst hne;obtain⟨hi2,e2,ag2,ks2,l2,k1,k2,k3⟩:=TV.1 h9;rw[<-hall,VY]at k3;have q1:=VZ (YV k1);have q2:=VZ hm;omega
   .exact h.dis m2 m ob _ b hne h7 h5 h8 h6
 have hok0:∀v,SI (FS st.o all v)=AC:=by
  intro v;rcases gS st.o all v with⟨_,_,_,_,_,_,_,_,_,h1⟩|⟨h1,_⟩
  .rw[h1];rfl
  .cases hcc:FS st.o all v<;>first|rfl|(rw[hcc]at h1;cases h1)
 have hcall:=hS w X' γb (GJ st.o (cs.map (FS st.o all)) tks vs) xs v [out] hsp (h.glob hg) (λb hb=>h.high hg (hLP b ((hXo b).1 hb))) (by rw[hm];exact hR) (by
  rw[hm];refine kW h (λb _ hb=>?_) _ hv (λm hm b hr hb=>?_) (λm hm=>?_)
  .rcases hb with hb|hb
   .exact .inl (hLP b (hP b hb))
   .exact((hXf b).1 hb).1
  .rcases hb with hb|hb
   .exact hargs m hm b hr (hP b hb)
   .exact((hXf b).1 hb).2.2.2 m hm hr
  .rw[hl]at hm;simp only[BZ]at hm;subst hm;exact⟨hg0,.inl ⟨cs,_,ho,by rw[aN (CZ.2 (λv hv=>by obtain⟨u,_,rfl⟩:=CU.1 hv;exact hok0 u)),EP,BX rfl]⟩⟩)
 refine hcall.mono ?_;rintro e w' ⟨x,he,γ',h1,h2,h3⟩;simp only[LF,hb]at h3;obtain⟨hf,hsk,had⟩:=h3;have hok:out.all SI=AC:=by
  unfold v9 at hsk;split at hsk
  .rename_i s s' hcs;cases cs with
   |nil=>simp at hcs
   |cons u r=>
    simp only[A8,vaD]at hcs
    have:=hok0 u
    rw[hcs.1]at this;cases this
  .cases hsk
  .exact hsk
 have hmo:GZ v [out]=E7 out:=by cases v<;>rfl
 rw[hmo]at h1 h2;rw[V7 hf]at h2;refine⟨x,he,?_⟩;generalize hF0:IG st.o all cs++(match IY v||IU out with|true=>E6 vs|false=>[])=F0;have hz:=(OE st.o F0 (FrzLe.refl _) h).1;have hzf:=(OE st.o F0 (FrzLe.refl _) h).2.1;have hon:=Gi h F0 ho (λ_ _ _ _=>by simp);obtain⟨hk,hkt,hko⟩:=Hr (HJ st.o all cs) hz;have hnh:n∉HJ st.o all cs:=by
  intro hn;obtain⟨_,_,_,_,_,_,q,_⟩:=TV.1 hn;rw[ho]at q;cases q
 have hon2:DV ((st.ups (E2 st.o F0)).ups (MS (HJ st.o all cs))).o n=AA (.box cs):=by rw[hko,BO hnh];exact hon
 have hor0:=h.ob _ _ ho;simp only[ObRel]at hor0;obtain⟨b0,c0,T0,hgn,hh0,hr0⟩:=hor0;have hob0:DV (E7 out) 900000=AA (.box (GY 900001 out)):=by rw[aN hok,EP,BX rfl]
 have hor:=h1.ob _ _ hob0;simp only[ObRel]at hor;obtain⟨b1,c,T,hg,hh,hr⟩:=hor;have hbb:b1=b0:=by
  rw[hg,hg0,hgn]at had;simpa[TG]using had
 subst hbb;have hg':γ' 900000=γ n:=by rw[hg,hgn]
 have hsz:=h1.keep.size;have hbn:∀b,FC γ st.o n b↔b=b1:=by
  intro b;constructor
  .rintro⟨ob,h5,h6⟩;rw[ho]at h5;cases h5;obtain⟨ad,h7,h8⟩:=h6;rw[hgn]at h7;cases h7;exact h8.symm
  .rintro rfl;exact⟨_,ho,_,hgn,rfl⟩
 have hbn2:∀b,FC γ ((st.ups (E2 st.o F0)).ups (MS (HJ st.o all cs))).o n b↔b=b1:=by
  intro b;rw[<-hbn b];simp only[FC,hon2,ho]
 have hbx:∀l b,FE (γ n) (.box l) b↔b=b1:=by
  intro l b;rw[<-hbn b];simp only[FC,ho,AK,exists_eq_left',FE]
 have hhb:∀m∈HJ st.o all cs,∀b,FC γ st.o m b->FC γ (st.ups (E2 st.o F0)).o m b:=by
  rintro m hm b ⟨ob,h5,h6⟩;obtain⟨hi2,e2,ag2,ks2,l2,k1,k2,k3⟩:=TV.1 hm;refine⟨ob,?_,h6⟩;rw[(OE st.o F0 (FrzLe.refl _) h).2.2.2.2 m ?_]
  .exact h5
  .intro hmF;rw[<-hF0]at hmF;rcases A5.1 hmF with h7|h7
   .obtain⟨lo3,hi3,own3,e3,ag3,ks3,l3,q1,q2,q3⟩:=oD h7;obtain⟨i1,hi1⟩:=List.mem_iff_getElem?.1 k1;obtain⟨i2,hi2⟩:=List.mem_iff_getElem?.1 q1;rw[<-hall,VY]at k3;rcases Nat.lt_trichotomy i1 i2 with hlt|hlt|hlt
    .have:=YZ hlt hi1 hi2
     omega
    .subst hlt;rw[hi1]at hi2;simp only[AK,V.row.injEq,vaS]at hi2;obtain⟨rfl,rfl⟩:=hi2;rw[k2]at q2;simp only[AK,Ob.row.injEq]at q2;obtain⟨rfl,_⟩:=q2;rw[<-hall,VY,k3]at q3;simp at q3
    .have:=YZ hlt hi2 hi1
     omega
   .have q1:m∈E6 vs:=by
     split at h7
     .exact h7
     .cases h7
    rw[<-hall,VY]at k3
    have:=VZ (YV k1)
    have:=VZ q1
    omega
 have hlend:=hk.lend (n:=n) (ob':=.box (OX cs)) (g':=γ n) hon2 rfl h1.keep (K:=X'.own)
  (λb hlt hb=>by
   have hLb:=(hXo b).1 hb;rcases hLb with h5|⟨m,h6,h7⟩
   .exact .inl ((hbn2 b).2 ((hbn b).1 h5))
   .refine .inr ⟨.inr ⟨m,h6,hhb m h6 b h7⟩,?_⟩;exact(h.lt b (hLP b (.inr ⟨m,h6,h7⟩))).2)
  (λb hb=>by
   have:=(hbx _ b).1 hb
   subst this;exact⟨CY (h.lt _ ⟨n,_,ho,(hbx _ _).2 rfl⟩).1 hsz,.inl ((hbn2 _).2 rfl)⟩)
  (λO v x hvx=>by
   refine VRel.cmp ?_ hvx;intro m ob1 hm;refine⟨by by_cases e:n=m<;>simp[e],?_⟩;rw[EP]at hm;by_cases e:n=m
   .subst e;simp only[CX,AK]at hm;subst hm;exact⟨_,hon2,by simp[Ob.fits,Z4]⟩
   .rw[BO e]at hm;exact⟨ob1,hm,ob1.fits_refl⟩)
  (by
   simp only[ObRel];refine⟨b1,c,T,hgn,hh,?_⟩;have hcl:=hr.length;rw[Z8,hlen]at hcl;refine VRels.of_get (by rw[Z4,BW,hcl]) (λj v x hv hx=>?_);rw[Z4,CJ]at hv;cases hcj:cs[j]? with
   |none=>rw[hcj]at hv;cases hv
   |some u=>
    rw[hcj]at hv;simp only[vaf,AK]at hv;subst hv;simp only[VRel])
 obtain⟨br1,br2,br3⟩:=zN hok h1;have hPf:∀b,FN γ' (E7 out) b->(w.heap.size<=b/\b<w'.heap.size)\/L b:=λb hb=>by
  obtain⟨q1,q2⟩:=h1.lt b hb;rcases q2 with q2|q2
  .exact .inl ⟨q2,q1⟩
  .exact .inr ((hXo b).1 q2)
 have hb1P:FN γ' (E7 out) b1:=⟨900000,_,hob0,⟨_,hg,rfl⟩⟩;have hLb1:L b1:=.inl ((hbn b1).2 rfl);have hsh:=hlend.shrink (F:=λb=>(X.far b\/FN γ' (E7 out) b)/\b≠b1) (λb hb=>by
  refine⟨?_,λhbb=>hb.2 ((hbx _ b).1 hbb)⟩;rcases hb.1 with h5|h5
  .exact .inl (.inl h5)
  .rcases hPf b h5 with h6|h6|⟨m,h6,h7⟩
   .exact .inr h6
   .exact absurd ((hbn b).1 h6) hb.2
   .exact .inl (.inr ⟨m,h6,hhb m h6 b h7⟩))
 have hfarX:∀b,X.far b->X'.far b:=λb hb=>(hXf b).2 ⟨.inr hb,λhL=>h.nr b (hLP b hL) hb,λm _ ⟨ob,q1,q2⟩=>h.nr b ⟨m,ob,q1,q2⟩ hb,λm _ ⟨e,ag,ks,l,q1,q2⟩=>h.nr b ⟨m,_,q1,q2⟩ hb⟩
 have hO1:∀b,DY ⟨X.own,λb=>(X.far b\/FN γ' (E7 out) b)/\b≠b1⟩ (λm=>if n=m then γ n else γ m) (((st.ups (E2 st.o F0)).ups (MS (HJ st.o all cs))).up (.set n (.box (OX cs)))).o b->
   ((IY v||IU out)=AC->DY X' γ' (E7 out) b):=by
  intro b hb hflag;rcases hb with⟨m,ob,hm,hbm⟩|⟨hb|hb,_⟩
  .simp only[St.up]at hm;rw[EP]at hm;by_cases e:n=m
   .subst e;simp only[CX,AK]at hm hbm;subst hm
    have:=(hbx _ b).1 hbm
    subst this;exact .inl hb1P
   .simp only[BO e]at hm hbm;rw[hko]at hm;split at hm
    .cases hm
    rename_i hmh;obtain⟨q1,q2⟩:=iD h F0 (b:=b) (.inl ⟨m,ob,hm,hbm⟩);refine .inr ((hXf b).2 ⟨q1,λhL=>?_,λm' hm' hbl=>?_,λm' hm'=>?_⟩)
    .rcases hL with h5|⟨m2,h5,h6⟩
     .obtain⟨ob2,q3,q4⟩:FC γ (st.ups (E2 st.o F0)).o n b:=⟨_,hon,(hbx _ b).2 ((hbn b).1 h5)⟩;exact hz.dis n m ob2 ob b e q3 hm q4 hbm
     .obtain⟨ob2,q3,q4⟩:=hhb m2 h5 b h6;exact hz.dis m2 m ob2 ob b (λe=>hmh (e▸h5)) q3 hm q4 hbm
    .obtain⟨lo3,hi3,own3,e3,ag3,ks3,l3,p1,p2,p3⟩:=oD hm';obtain⟨ob2,q3,q4⟩:=hbl;rw[p2,AK]at q3;subst q3;cases own3 with
     |false=>exact q4.elim
     |true=>exact q2 m' (by rw[<-hF0];exact vaR _ hm') ⟨e3,ag3,ks3,l3,p2,q4⟩
    .refine q2 m' ?_;rw[<-hF0,hflag];exact vaM _ hm'
  .exact .inr (hfarX b hb)
  .exact .inl hb
 have hrows:=kS (B':=B.base) (O1:=λb=>IU out=AC->DY X' γ' (E7 out) b) (g:=λj=>γ' (900001+j)) nm out 0 AG hsh (λb hb hal=>hO1 b hb (by simp[hal])) (λj e ag ks l hj=>by
   rw[BU];obtain⟨q1,q2⟩:=br1 (λm=>if n=m then γ n else γ m) j e ag ks l hj;refine⟨q1,λb hb=>⟨⟨.inr (q2 b hb),?_⟩,?_⟩⟩
   .rintro rfl;exact br3 j e ag ks l _ hj hb ⟨_,hob0,_,hg,rfl⟩
   .rcases hPf b (q2 b hb)with h5|h5
    .exact .inl (DD h.keep.size h5.1)
    .exact(h.lt b (hLP b h5)).2)
  (λi j e ag ks l e' ag' ks' l' b hij q1 q2 q3 q4=>by
   rw[BU]at q3 q4;exact br2 i j e ag ks l e' ag' ks' l' b hij q1 q2 q3 q4)
 obtain⟨γ4,F4,r1,r2,r3,r4,r5,r6⟩:=hrows;simp only[DJ,BU]at r1 r3 r4 r5 r6;obtain⟨hγn,hobn,_⟩:=r6 n hnm;have hon4:=hobn cs (by simp only[St.up,EP,CX]);simp only[CX]at hγn;have hset:=r1.set (n:=n) (ob':=.box (GY nm out)) hon4 (by simp only[Ob.fits,Z4,BW,Z8,hlen]) (Keep.refl _ w') (λb hb=>hb) (λhown hcmp=>by
  simp only[ObRel];refine⟨b1,c,T,by rw[hγn,hgn],hh,Dm hok h1 hr (λj e ag ks l hj=>?_) (λhal b _ hb=>hO1 b (r4 b (hown b hb)) (by simp[hal]))⟩;obtain⟨q1,q2⟩:=r5 j e ag ks l hj;refine⟨q1,?_⟩;have hjl:j<out.length:=by
   rcases DN j out.length with h'|h'
   .exact h'
   .rw[B8 h']at hj;cases hj
  rw[EP,BO AG];exact q2)
 have hfin:=hset.shrink (F:=X.far) (λb hb=>by
  refine r3 b ⟨.inl hb,λe=>h.nr b (hLP b (e▸hLb1)) hb⟩ (λj e ag ks l hj hbj=>?_);rcases hPf b ((br1 γ j e ag ks l hj).2 b hbj)with h5|h5
  .have:=h.fl b hb
   omega
  .exact h.nr b (hLP b h5) hb)
 have hst:(st.ups (E2 st.o F0++(MS (HJ st.o all cs)++(.set n (.box (OX cs))::(KV nm out++[.set n (.box (GY nm out))])))))=
   (((((st.ups (E2 st.o F0)).ups (MS (HJ st.o all cs))).up (.set n (.box (OX cs)))).ups (KV nm out)).up (.set n (.box (GY nm out)))):=by
  rw[MD,MD];simp only[St.ups];rw[MD];rfl
 rw[hst];refine⟨_,hfin,rU hf (λhhl b _ hb=>?_) h2⟩;rcases hb with⟨m,ob,hm,hbm⟩|hb
 .simp only[St.up]at hm;rw[EP]at hm;refine hO1 b (r4 b (.inl ?_)) (by simp[hhl]);by_cases e:n=m
  .subst e;simp only[CX,AK]at hm;subst hm;exact⟨n,_,hon4,hbm⟩
  .rw[BO e]at hm;exact⟨m,ob,hm,hbm⟩
 .exact .inr (hfarX b hb)
end
open Go Go.RowKit
theorem tD(k:Int):∀es:List (Int×IV),GC es k<=es.length
 |[]=>A4 _
 |(j,x)::r=>by
  rw[GC,AV]
  have:=tD k r
  cases j==k<;>simp only[B5,BK]<;>omega
theorem m3(x:IV):∀(es:List (Int×IV)) (i:Nat),(PE es i x).length=es.length
 |[],_=>rfl
 |(j,y)::r,0=>rfl
 |(j,y)::r,i+1=>by rw[PE,AV,m3 x r i,AV]
theorem Iz(x:IV):∀(es:List (Int×IV)) (i j:Nat),(PE es i x)[j]?=(es[j]?).map λe=>if j=i then(e.1,x)else e
 |[],i,j=>by simp[PE]
 |(k,y)::r,0,0=>by simp[PE]
 |(k,y)::r,0,j+1=>by
  rw[PE,C5,C5];cases r[j]?<;>simp
 |e::r,i+1,0=>by simp[PE]
 |e::r,i+1,j+1=>by
  rw[PE,C5,C5,Iz x r i j];congr 1
  funext e
  by_cases h:j=i
  .rw[BX h,BX AG]
  .rw[BO h,BO AG]
theorem Ga(k:Int):∀(es:List (Int×IV)) (l:List MapEntry) (i:Nat),l.length=es.length->(∀(j:Nat) (e:Int×IV),es[j]?=AA e->∃m,l[j]?=AA m/\m.key=.int .i64 e.1)->
  (GC es k<es.length->∃m,l[GC es k]?=AA m/\m.key=.int .i64 k/\Instr.findNow (.int .i64) (.int .i64 k) l i=AA (AA (i+GC es k,m.val)))/\
  (¬GC es k<es.length->Instr.findNow (.int .i64) (.int .i64 k) l i=AA AB)
 |[],[],i,_,_=>⟨λh=>by simp at h,λ_=>rfl⟩
 |[],_::_,i,h,_=>by simp at h
 |_::_,[],i,h,_=>by simp at h
 |(j,x)::r,m::l,i,hl,h=>by
  obtain⟨m',hm,hkey⟩:=h 0 (j,x) rfl;obtain rfl:m=m':=by simpa using hm
  have hs:Instr.sameNow (.int .i64) (.int .i64 k) m.key=AA (k==j):=by rw[hkey];simp[Instr.sameNow]
  rw[GC];by_cases e:j=k
  .subst e;rw[DF,B5];refine⟨λ_=>⟨m,rfl,hkey,?_⟩,λh=>absurd (Nat.zero_lt_succ _) h⟩;rw[Instr.findNow,hs,DF];simp
  .have e1:(j==k)=AD:=by simpa using e
   have e2:(k==j)=AD:=by simpa using λh:k=j=>e h.symm
   rw[e1,BK,AV];obtain⟨h1,h2⟩:=Ga k r l (i+1) (by simpa using hl) (λj' e' he'=>h (j'+1) e' (by simpa using he'));refine⟨λhlt=>?_,λhlt=>?_⟩
   .obtain⟨m',g1,g2,g3⟩:=h1 AG;refine⟨m',by simpa using g1,g2,?_⟩;rw[Instr.findNow,hs,e2];simp only[g3];congr 3;omega
   .rw[Instr.findNow,hs,e2];exact h2 AG
theorem Ic{γ:Nat->Value}{o:Store}{w:World}{O:Nat->Prop}{k:Kd}(hk:YR k=AC){v:V}{y:IV}(hy:NO o k v=AA y){x:Value}(hv:VRel γ o w O v x)(w':World)(O':Nat->Prop):Kd.Rel w' O' k y x:=by
 cases k<;>simp only[YR]at hk<;>try (cases hk;done)
 all_goals
  cases v<;>simp only[NO]at hy<;>try (cases hy;done)
 .rename_i k k' n;cases hkk:k==k' with
  |false=>rw[hkk]at hy;cases hy
  |true=>
   rw[hkk]at hy;obtain rfl:=CB hy;obtain rfl:k=k':=by simpa using hkk
   simp only[VRel]at hv;simp only[Kd.Rel,IV.toInt];exact hv
 .obtain rfl:=CB hy;simp only[VRel]at hv;simp only[Kd.Rel,IV.toBool];exact hv
 .obtain rfl:=CB hy;simp only[VRel]at hv;simp only[Kd.Rel,IV.toStr];exact hv
section
variable {w w':World} {O O':Nat→Prop} {vk:Kd} {es:List (Int × IV)} {ents:Array MapEntry}
theorem EntRel.find(h:EntRel w O vk es ents)(k:Int):
  (GC es k<es.length->∃m,ents[GC es k]?=AA m/\m.key=.int .i64 k/\m.born=GC es k/\Kd.Rel w O vk (KB vk es k) m.val/\Instr.findNow (.int .i64) (.int .i64 k) ents.toList 0=AA (AA (GC es k,m.val)))/\
  (¬GC es k<es.length->KB vk es k=M6 vk/\Instr.findNow (.int .i64) (.int .i64 k) ents.toList 0=AA AB):=by
 obtain⟨h1,h2⟩:=Ga k es ents.toList 0 (by simpa using h.1) (λj e he=>by
  obtain⟨v,g1,_⟩:=h.2 j e he;exact⟨_,by simpa using g1,rfl⟩)
 refine⟨λhlt=>?_,λhlt=>⟨?_,h2 hlt⟩⟩
 .obtain⟨m,g1,g2,g3⟩:=h1 hlt;obtain⟨v,q1,q2⟩:=h.2 (GC es k) es[GC es k] (BD hlt);have g1':ents[GC es k]?=AA m:=by simpa using g1
  rw[g1']at q1;obtain rfl:=CB q1;refine⟨_,g1',g2,rfl,?_,by simpa using g3⟩;unfold KB T1;rw[BD hlt];exact q2.1
 .unfold KB T1;rw[B8 AG];rfl
theorem EntRel.set(h:EntRel w O vk es ents)(hk:Keep O w w')(hO:∀b,b<w.heap.size->O' b->O b){i:Nat}{x:IV}{u:Value}(hu:Kd.Rel w' O' vk x u)(f:MapEntry->MapEntry)(hf:∀m,ents[i]?=AA m->(f m).key=m.key/\(f m).val=u/\(f m).born=m.born):
  EntRel w' O' vk (PE es i x) (ents.modify i f):=by
 refine⟨by rw[m3,Array.size_modify];exact h.1,λj e he=>?_⟩;rw[Iz]at he;cases hj:es[j]? with
 |none=>rw[hj]at he;cases he
 |some e0=>
  rw[hj]at he;obtain⟨v,g1,g2⟩:=h.2 j e0 hj;simp only[vaf,AK]at he;rw[vaP,g1];by_cases e:j=i
  .subst e;rw[BX rfl]at he;subst he;obtain⟨f1,f2,f3⟩:=hf _ g1;refine⟨u,?_,hu,g2.2⟩;rw[BX rfl,vaf];congr 1;generalize f {key:=Value.int AJ e0.fst,val:=v,born:=j}=m at f1 f2 f3;obtain⟨a,b,c⟩:=m;simp only at f1 f2 f3;rw[f1,f2,f3]
  .rw[BO e]at he;subst he;exact⟨v,by rw[BO (λh=>e h.symm)],KRel.mono hk hO g2⟩
theorem EntRel.same(h:EntRel w O vk es ents)(hk:Keep O w w')(hO:∀b,b<w.heap.size->O' b->O b){i:Nat}(f:MapEntry->MapEntry)(hf:∀m,ents[i]?=AA m->f m=m):EntRel w' O' vk es (ents.modify i f):=by
 refine⟨by rw[Array.size_modify];exact h.1,λj e he=>?_⟩;obtain⟨v,g1,g2⟩:=h.2 j e he;refine⟨v,?_,KRel.mono hk hO g2⟩;rw[vaP,g1];by_cases e:i=j
 .subst e;rw[BX rfl,vaf,hf _ g1]
 .rw[BO e]
theorem EntRel.push(h:EntRel w O vk es ents)(hk:Keep O w w')(hO:∀b,b<w.heap.size->O' b->O b){k:Int}{x:IV}{u:Value}(hu:Kd.Rel w' O' vk x u)(hkb:AJ.min<=k/\k<=AJ.max):EntRel w' O' vk (es++[(k,x)]) (ents.push ⟨.int .i64 k,u,es.length⟩):=by
 refine⟨by rw[Array.size_push,A2,h.1];rfl,λj e he=>?_⟩;by_cases hj:j<es.length
 .rw[List.getElem?_append_left hj]at he;obtain⟨v,g1,g2⟩:=h.2 j e he;refine⟨v,?_,KRel.mono hk hO g2⟩;rw[Array.getElem?_push,BO (by rw[h.1];omega)];exact g1
 .rw[List.getElem?_append_right AG]at he;have hj0:j-es.length=0:=by
   rcases Nat.eq_zero_or_pos (j-es.length)with e|e
   .exact e
   .rw[B8 (by simp only[DG];omega)]at he;cases he
  rw[hj0]at he;obtain rfl:(k,x)=e:=by simpa using he
  have e1:j=es.length:=by omega
  subst e1;refine⟨u,?_,hu,hkb⟩;rw[Array.getElem?_push,BX h.1.symm]
end
section
variable {B:BT} {nt:Nat} {w0:World} {X:Zone} {γ:Nat→Value} {st st':St} {a:Act} {w:World} {P:Program} {E:Env}
theorem m7(hT:TiOK P B E){t e:Nat}{k:Kd}(hd:(E.tyd t).d=.map e k):∃kt i z,P.underlying t=AA (.map kt e)/\P.underlying kt=AA (.int .i64)/\P.info? e=AA i/\i.zero=AA z/\WP k z:=by
 obtain⟨d,h1,_,h2⟩:=(hT.desc (t:=t) (by rw[hd];simp)).und;rw[hd]at h2;obtain⟨kt,i,z,rfl,h3⟩:=h2;exact⟨kt,i,z,h1,h3⟩
theorem sN{b:Nat}(o:Obj):Keep (λx=>x=b) w {w with heap:=w.heap.setIfInBounds b o}:=
 ⟨rfl,rfl,rfl,by simp,λj _ hj=>Array.getElem?_setIfInBounds_ne (λh:b=j=>hj h.symm)⟩
theorem zbA(h:Rel B nt w0 X γ st a w)(o:Oper)(hd9:∀d,o.dst=AA d->d≠900000){t:Nat}{r:Option Operand}(ho:o.op=.makeMap t r){v:V}{us:List Upd}
  (he:(EJ E st.o (opd st) o.dst o.op).get=AA (v,us)):OpWp P B nt w0 X a w o st v us:=by
 rw[ho]at he;simp only[EJ]at he;split at he
 .rename_i d e k hdst hd;split at he
  .rename_i hk;simp only[T.get,AK,A1]at he;obtain⟨rfl,rfl⟩:=he;have hn:=Rel.new h [] d (hd9 d hdst) (.map k []) (.map (AA w.heap.size)) (w':=w.alloc (.map #[] 0)) (Keep.alloc _ w _)
    (by
     intro b hb;simp only[FE,Value.map.injEq,AK]at hb;subst hb;exact⟨by simp,.inl (A4 _)⟩)
    (by
     intro O' hO hcmp;simp only[ObRel];exact⟨hk,w.heap.size,#[],rfl,vaq w _,rfl,λi e he=>by simp at he⟩)
   refine OpWp.value (x:=.map (AA w.heap.size)) (w':=w.alloc (.map #[] 0)) ?_ hn ?_
   .unfold execOp;simp only[ho];rfl
   .simp only[St.ups,VRel,GS,CX]
  .simp[T.get]at he
 .simp[T.get]at he
theorem l8(h:Rel B nt w0 X γ st a w){x:Operand}{z:Int}(hx:opd st x=.int .i64 z):a.eval x=.int .i64 z:=by
 have:=FZ h x
 rw[hx]at this;simp only[VRel]at this;exact this.1
theorem Hh(h:Rel B nt w0 X γ st a w){x:Operand}{z:Int}(hx:opd st x=.int .i64 z):AJ.min<=z/\z<=AJ.max:=by
 have:=FZ h x
 rw[hx]at this;simp only[VRel]at this;exact this.2
theorem iX(h:Rel B nt w0 X γ st a w){x:Operand}{n i c:Nat}(hx:opd st x=.ptr n i c){vk:Kd}{es:List (Int×IV)}(ho:DV st.o n=AA (.map vk es)):
  YR vk=AC/\∃b ents,a.eval x=.map (AA b)/\γ n=.map (AA b)/\w.heap[b]?=AA (.map ents es.length)/\EntRel w (DY X γ st.o) vk es ents:=by
 have hv:=FZ h x;rw[hx]at hv;simp only[VRel,ho]at hv;obtain⟨h0,b,ents,hg,h1,h2⟩:=h.ob n _ ho;exact⟨h0,b,ents,by rw[hv,hg],hg,h1,h2⟩
theorem Kq(hT:TiOK P B E)(h:Rel B nt w0 X γ st a w)(o:Oper){t:Nat}{m k x:Operand}(ho:o.op=.insert t m k x\/o.op=.mapUpdate t m k x){v:V}{us:List Upd}
  (he:(EJ E st.o (opd st) o.dst o.op).get=AA (v,us)):OpWp P B nt w0 X a w o st v us:=by
 have hev:(match opd st m,opd st k,(E.tyd t).d with
  |.ptr n _ _,.int .i64 z,.map _ _=>match DV st.o n with
   |some (.map vk es)=>match NO st.o vk (opd st x)with
    |some x=>T.ok .any [.set n (.map vk (HZ es z x))]
    |none=>.no
   |_=>.no
  |_,_,_=>.no).get=AA (v,us):=by
  rcases ho with ho|ho<;>(rw[ho]at he;exact he)
 clear he;split at hev
 .rename_i n i c z e k' hm hz hd;split at hev
  .rename_i vk es hob;split at hev
   .rename_i y hy;simp only[T.get,AK,A1]at hev;obtain⟨rfl,rfl⟩:=hev;obtain⟨kt,_,_,hu,hku,_⟩:=m7 hT hd;obtain⟨hk,b,ents,hmv,hg,hb,hE⟩:=iX h hm hob;have hzv:=l8 h hz;have hkey:MapKept.IsKey (.int .i64) (.int .i64 z):=rfl;have hxr:∀w' O',Kd.Rel w' O' vk y (a.eval x):=λw' O'=>Ic hk hy (FZ h x) w' O'
    obtain⟨f1,f2⟩:=hE.find z;have hex:∃ents',(Instr.mapUpdate t (.map (AA b)) (.int .i64 z) (a.eval x)).run P w=.ok () {w with heap:=w.heap.setIfInBounds b (.map ents' (HZ es z y).length)}/\
      ∀O':Nat->Prop,(∀b,b<w.heap.size->O' b->DY X γ st.o b)->Keep (DY X γ st.o) w {w with heap:=w.heap.setIfInBounds b (.map ents' (HZ es z y).length)}->EntRel {w with heap:=w.heap.setIfInBounds b (.map ents' (HZ es z y).length)} O' vk (HZ es z y) ents':=by
     unfold HZ;cases hlt:BV (GC es z) es.length with
     |true=>
      obtain⟨m0,g1,g2,g3,g4,g5⟩:=f1 (AX hlt);refine⟨ents.modify (GC es z) λe=>{e with key:=.int .i64 z,val:=a.eval x},?_,λO' hO hkp=>?_⟩
      .simp[Instr.mapUpdate,BQ hu,MapKept.run_getObj_map hb,MapKept.run_checkKey hku hkey,MapKept.run_findKey hku g5,g1,g2,MapKept.run_keyThatStays hkey,MapKept.run_setObj_map _ hb,vaK,m3]
      .exact hE.set hkp hO (hxr _ _) _ λm1 hm1=>by
        rw[g1]at hm1;obtain rfl:=CB hm1;exact⟨g2.symm,rfl,rfl⟩
     |false=>
      obtain⟨g1,g2⟩:=f2 (λhh=>by
       have:BV (GC es z) es.length=AC:=CV hh
       rw[hlt]at this;cases this)
      refine⟨ents.push ⟨.int .i64 z,a.eval x,es.length⟩,?_,λO' hO hkp=>?_⟩
      .simp[Instr.mapUpdate,BQ hu,MapKept.run_getObj_map hb,MapKept.run_checkKey hku hkey,MapKept.run_findKey hku g2,MapKept.run_setObj_map _ hb,vaK]
      .exact hE.push hkp hO (hxr _ _) (Hh h hz)
    obtain⟨ents',hrun,hent⟩:=hex;have hkp:Keep (FE (γ n) (.map vk es)) w {w with heap:=w.heap.setIfInBounds b (.map ents' (HZ es z y).length)}:=(sN _).mono λj _ hj=>by rw[hj];exact hg
    refine OpWp.skip (w':={w with heap:=w.heap.setIfInBounds b (.map ents' (HZ es z y).length)}) ?_ (Rel.set h (ob':=.map vk (HZ es z y)) hob rfl hkp (λb hb=>hb) (λhO hcmp=>?_))
    .rcases ho with ho|ho<;>(unfold execOp;simp only[ho,hmv,hzv,CL,hrun,B9,CM])
    .simp only[ObRel];refine⟨hk,b,ents',hg,(MapKept.heap_set hb).1,hent _ (λb _ hb=>hO b hb) (hkp.mono λj _ hj=>.inl ⟨n,_,hob,hj⟩)⟩
   .simp[T.get]at hev
  .simp[T.get]at hev
 .simp[T.get]at hev
theorem yQ{w:World}{O:Nat->Prop}:∀{k:Kd} {z:Value},WP k z->Kd.Rel w O k (M6 k) z
 |.int k,z,h=>by
  simp only[WP]at h;subst h;simp only[Kd.Rel,M6,IV.toInt];cases k<;>decide
 |.bool,z,h=>by
  simp only[WP]at h;subst h;simp only[Kd.Rel,M6,IV.toBool]
 |.str,z,h=>by
  simp only[WP]at h;subst h;simp only[Kd.Rel,M6,IV.toStr];exact⟨trivial,CH _⟩
 |.list _ _,z,h=>by simp only[WP]at h
theorem zby(hT:TiOK P B E)(h:Rel B nt w0 X γ st a w)(o:Oper){t:Nat}{m k:Operand}{ok:Bool}(ho:o.op=.lookup t m k ok){v:V}{us:List Upd}
  (he:(EJ E st.o (opd st) o.dst o.op).get=AA (v,us)):OpWp P B nt w0 X a w o st v us:=by
 rw[ho]at he;simp only[EJ]at he;split at he
 .rename_i n i c z e vk' hm hz hd;split at he
  .rename_i vk es hob;obtain⟨kt,zi,zv,hu,hku,hi,hzi,hzk⟩:=m7 hT hd;obtain⟨hk,b,ents,hmv,hg,hb,hE⟩:=iX h hm hob;have hzv:=l8 h hz;have hkey:MapKept.IsKey (.int .i64) (.int .i64 z):=rfl;obtain⟨f1,f2⟩:=hE.find z;have key:I5 vk vk'=AC->∃u,(∀ok,(Instr.lookup t (.map (AA b)) (.int .i64 z) ok).run P w=.ok (if ok then .tuple #[u,.bool (BV (GC es z) es.length)]else u) w)/\Kd.Rel w (DY X γ st.o) vk (KB vk es z) u:=by
    intro hkk;obtain rfl:=YQ hkk;cases hlt:BV (GC es z) es.length with
    |true=>
     obtain⟨m0,g1,g2,g3,g4,g5⟩:=f1 (AX hlt);refine⟨m0.val,λok=>?_,g4⟩;cases ok<;>simp[Instr.lookup,BQ hu,MapKept.run_getObj_map hb,MapKept.run_checkKey hku hkey,MapKept.run_findKey hku g5,vaK]
    |false=>
     obtain⟨g1,g2⟩:=f2 (λhh=>by
      have:BV (GC es z) es.length=AC:=CV hh
      rw[hlt]at this;cases this)
     refine⟨zv,λok=>?_,by rw[g1];exact yQ hzk⟩;cases ok<;>simp[Instr.lookup,BQ hu,MapKept.run_getObj_map hb,MapKept.run_checkKey hku hkey,MapKept.run_findKey hku g2,zeroValue,typeInfo,hi,hzi,vaK]
   split at he
   .rename_i hkk;simp only[T.get,AK,A1]at he;obtain⟨rfl,rfl⟩:=he;obtain⟨u,hrun,hur⟩:=key hkk;refine OpWp.pure (x:=.tuple #[u,.bool (BV (GC es z) es.length)]) h ?_ ?_
    .unfold execOp;simp only[ho,hmv,hzv,CL,hrun,B9,CM,CX]
    .simp only[VRel];exact⟨_,rfl,by simp only[VRels,VRel];exact⟨bD hur,trivial,trivial⟩⟩
   .rename_i hkk;simp only[T.get,AK,A1]at he;obtain⟨rfl,rfl⟩:=he;obtain⟨u,hrun,hur⟩:=key hkk;refine OpWp.pure (x:=u) h ?_ (bD hur);unfold execOp;simp only[ho,hmv,hzv,CL,hrun,B9,CM,Bool.false_eq_true,if_false]
   .simp[T.get]at he
  .simp[T.get]at he
 .simp[T.get]at he
theorem zbC(hT:TiOK P B E)(h:Rel B nt w0 X γ st a w)(o:Oper){t:Nat}{m k:Operand}(ho:o.op=.mapEntry t m k){v:V}{us:List Upd}
  (he:(EJ E st.o (opd st) o.dst o.op).get=AA (v,us)):OpWp P B nt w0 X a w o st v us:=by
 rw[ho]at he;simp only[EJ]at he;split at he
 .rename_i n i c z e vk' hm hz hd;split at he
  .rename_i vk es hob;split at he
   .rename_i hkk;obtain⟨hsz,he⟩:=T.get_when he;simp only[T.get,AK,A1]at he;obtain⟨rfl,rfl⟩:=he;have hlen:es.length<=strMax:=BB hsz;obtain rfl:=YQ hkk;obtain⟨kt,zi,zv,hu,hku,hi,hzi,hzk⟩:=m7 hT hd;obtain⟨hk,b,ents,hmv,hg,hb,hE⟩:=iX h hm hob;have hzv:=l8 h hz;have hkey:MapKept.IsKey (.int .i64) (.int .i64 z):=rfl;obtain⟨f1,f2⟩:=hE.find z;have hex:∃ents' u,(Instr.mapEntry t (.map (AA b)) (.int .i64 z)).run P w=.ok (.tuple #[u,.int .i64 ((GC es z:Nat):Int)]) {w with heap:=w.heap.setIfInBounds b (.map ents' (SC es z (M6 vk)).length)}/\Kd.Rel w (DY X γ st.o) vk (KB vk es z) u/\
      (∀O':Nat->Prop,(∀b,b<w.heap.size->O' b->DY X γ st.o b)->Keep (DY X γ st.o) w {w with heap:=w.heap.setIfInBounds b (.map ents' (SC es z (M6 vk)).length)}->EntRel {w with heap:=w.heap.setIfInBounds b (.map ents' (SC es z (M6 vk)).length)} O' vk (SC es z (M6 vk)) ents'):=by
     unfold SC;cases hlt:BV (GC es z) es.length with
     |true=>
      obtain⟨m0,g1,g2,g3,g4,g5⟩:=f1 (AX hlt);refine⟨ents.modify (GC es z) λe=>{e with key:=.int .i64 z},m0.val,?_,g4,λO' hO hkp=>?_⟩
      .simp[Instr.mapEntry,BQ hu,MapKept.run_getObj_map hb,MapKept.run_checkKey hku hkey,MapKept.run_findKey hku g5,g1,g2,g3,MapKept.run_keyThatStays hkey,MapKept.run_setObj_map _ hb,vaK,goInt]
      .exact hE.same hkp hO _ λm1 hm1=>by
        rw[g1]at hm1;obtain rfl:=CB hm1;rw[<-g2]
     |false=>
      obtain⟨g1,g2⟩:=f2 (λhh=>by
       have:BV (GC es z) es.length=AC:=CV hh
       rw[hlt]at this;cases this)
      have hix:GC es z=es.length:=by
       have h1:=tD z es;have h2:¬GC es z<es.length:=λhh=>by
        have:BV (GC es z) es.length=AC:=CV hh
        rw[hlt]at this;cases this
       omega
      refine⟨ents.push ⟨.int .i64 z,zv,es.length⟩,zv,?_,by rw[g1];exact yQ hzk,λO' hO hkp=>?_⟩
      .simp[Instr.mapEntry,BQ hu,MapKept.run_getObj_map hb,MapKept.run_checkKey hku hkey,MapKept.run_findKey hku g2,MapKept.run_setObj_map _ hb,zeroValue,typeInfo,hi,hzi,vaK,goInt,hix]
      .exact hE.push hkp hO (yQ hzk) (Hh h hz)
    obtain⟨ents',u,hrun,hur,hent⟩:=hex;have hkp:Keep (FE (γ n) (.map vk es)) w {w with heap:=w.heap.setIfInBounds b (.map ents' (SC es z (M6 vk)).length)}:=(sN _).mono λj _ hj=>by rw[hj];exact hg
    have hkO:Keep (DY X γ st.o) w {w with heap:=w.heap.setIfInBounds b (.map ents' (SC es z (M6 vk)).length)}:=hkp.mono λj _ hj=>.inl ⟨n,_,hob,hj⟩
    have hR:=Rel.set h (ob':=.map vk (SC es z (M6 vk))) hob rfl hkp (λb hb=>hb) (λhO hcmp=>by
     simp only[ObRel];exact⟨hk,b,ents',hg,(MapKept.heap_set hb).1,hent _ (λb _ hb=>hO b hb) hkO⟩)
    refine OpWp.value (x:=.tuple #[u,.int .i64 ((GC es z:Nat):Int)]) (w':={w with heap:=w.heap.setIfInBounds b (.map ents' (SC es z (M6 vk)).length)}) ?_ hR ?_
    .unfold execOp;simp only[ho,hmv,hzv,CL,hrun,B9,CM]
    .simp only[St.ups,VRel];refine⟨_,rfl,?_⟩;simp only[VRels,VRel];have h1:=tD z es;have h2:strMax<=9223372036854775807:=by decide
     refine⟨bD (Kd.Rel.mono hkO (λb' hb' hO'=>?_) hur),⟨trivial,?_,?_⟩,trivial⟩
     .rcases hO' with⟨n',ob1,q1,q2⟩|hO'
      .simp only[St.up,EP]at q1;split at q1
       .rename_i e1;subst e1;obtain rfl:=CB q1;exact .inl ⟨n,_,hob,q2⟩
       .exact .inl ⟨n',ob1,q1,q2⟩
      .exact .inr hO'
     .show(-9223372036854775808:Int)<=_;omega
     .show _<=(9223372036854775807:Int);omega
   .simp[T.get]at he
  .simp[T.get]at he
 .simp[T.get]at he
theorem Fz:∀(l:List MapEntry) (z:Nat) (j:Nat),(∀(i:Nat) (m:MapEntry),l[i]?=AA m->m.born=j+i)->z<l.length->l.findIdx? (λe=>(e.born:Int)==((j+z:Nat):Int))=AA z
 |m::l,z,j,h,hz=>by
  have h0:=h 0 m rfl;rw[List.findIdx?_cons];cases z with
  |zero=>simp[h0]
  |succ z=>
   have hne:((m.born:Int)==((j+(z+1):Nat):Int))=AD:=by
    simp only[BH,ne_eq];omega
   rw[hne];have ih:=Fz l z (j+1) (λi m' hm'=>by rw[h (i+1) m' (by simpa using hm')];omega) (by simpa using hz);rw[show j+(z+1)=j+1+z by omega,ih];rfl
theorem zbr(h:Rel B nt w0 X γ st a w)(o:Oper){t:Nat}{m s x:Operand}(ho:o.op=.entryStore t m s x){v:V}{us:List Upd}
  (he:(EJ E st.o (opd st) o.dst o.op).get=AA (v,us)):OpWp P B nt w0 X a w o st v us:=by
 rw[ho]at he;simp only[EJ]at he;split at he
 .rename_i n i c z hm hz;split at he
  .rename_i vk es hob;split at he
   .rename_i y hy;obtain⟨hc,he⟩:=T.get_when he;simp only[T.get,AK,A1]at he;obtain⟨rfl,rfl⟩:=he;simp only[AQ,AZ]at hc;obtain⟨hk,b,ents,hmv,hg,hb,hE⟩:=iX h hm hob;have hzv:=l8 h hz;have hzn:z=((0+z.toNat:Nat):Int):=by omega
    have hlt:z.toNat<es.length:=by omega
    have hfi:ents.findIdx? (λe=>(e.born:Int)==z)=AA z.toNat:=by
     rw[show∀(es:Array MapEntry) p,es.findIdx? p=es.toList.findIdx? p from λes p=>by cases es;simp]
     have:=Fz ents.toList z.toNat 0 (λi m hm=>by
      have hi:i<es.length:=by
       have:=(B4.1 hm).1
       simpa[hE.1]using this
      obtain⟨v,q1,_⟩:=hE.2 i es[i] (BD hi);have hm':ents[i]?=AA m:=by simpa using hm
      rw[hm']at q1;obtain rfl:=CB q1;simp) (by simpa[hE.1]using hlt)
     rw[<-hzn]at this;exact this
    have hrun:(Instr.entryStore t (.map (AA b)) (.int .i64 z) (a.eval x)).run P w=.ok () {w with heap:=w.heap.setIfInBounds b (.map (ents.modify z.toNat λe=>{e with val:=a.eval x}) es.length)}:=by
     simp[Instr.entryStore,MapKept.run_getObj_map hb,asInt,asIntOf,hfi,MapKept.run_setObj_map _ hb,vaK]
    have hkp:Keep (FE (γ n) (.map vk es)) w {w with heap:=w.heap.setIfInBounds b (.map (ents.modify z.toNat λe=>{e with val:=a.eval x}) es.length)}:=(sN _).mono λj _ hj=>by rw[hj];exact hg
    refine OpWp.skip (w':={w with heap:=w.heap.setIfInBounds b (.map (ents.modify z.toNat λe=>{e with val:=a.eval x}) es.length)}) ?_ (Rel.set h (ob':=.map vk (PE es z.toNat y)) hob rfl hkp (λb hb=>hb) (λhO hcmp=>?_))
    .unfold execOp;simp only[ho,hmv,hzv,CL,hrun,B9,CM]
    .simp only[ObRel];refine⟨hk,b,ents.modify z.toNat λe=>{e with val:=a.eval x},hg,by rw[m3];exact(MapKept.heap_set hb).1,hE.set (hkp.mono λj _ hj=>.inl ⟨n,_,hob,hj⟩) (λb _ hb=>hO b hb) (Ic hk hy (FZ h x) _ _) _ λm1 hm1=>⟨rfl,rfl,rfl⟩⟩
   .simp[T.get]at he
  .simp[T.get]at he
 .simp[T.get]at he
theorem zbG(hT:TiOK P B E)(h:Rel B nt w0 X γ st a w)(o:Oper)(hd9:∀d,o.dst=AA d->d≠900000){t:Nat}{x:Operand}(ho:o.op=.range t x){v:V}{us:List Upd}
  (he:(EJ E st.o (opd st) o.dst o.op).get=AA (v,us)):OpWp P B nt w0 X a w o st v us:=by
 rw[ho]at he;simp only[EJ]at he;split at he
 .rename_i n i c d e k' hm hdst hd;split at he
  .rename_i vk es hob;simp only[T.get,AK,A1]at he;obtain⟨rfl,rfl⟩:=he;obtain⟨kt,_,_,hu,hku,_⟩:=m7 hT hd;obtain⟨hk,b,ents,hmv,hg,hb,hE⟩:=iX h hm hob;have hbl:b<w.heap.size:=(DK.1 hb).1;have hent:∀(j:Nat) (m:MapEntry),ents.toList[j]?=AA m->j<es.length/\m.born=j:=λj m hj=>by
    have hi:j<es.length:=by
     have:=(B4.1 hj).1
     simpa[hE.1]using this
    obtain⟨v,q1,_⟩:=hE.2 j es[j] (BD hi);have hj':ents[j]?=AA m:=by simpa using hj
    rw[hj']at q1;obtain rfl:=CB q1;exact⟨hi,rfl⟩
   have hleft:leftOf ents #[]=ents:=by
    unfold leftOf;simp
   have hn:=Rel.new h [n] d (hd9 d hdst) (.iter vk AB es) (.tuple #[.pointer (AA ⟨w.heap.size,0,AB⟩),.map (AA b)]) (w':=w.alloc (.mapIter (AA b) es.length #[] es.length)) (Keep.alloc _ w _)
    (by
     rintro b' ⟨r,m',hb',hb''⟩;have h2:=congrArg Array.toList (Value.tuple.inj hb');simp only[vaD,C6,AK,DI,CI,Value.map.injEq]at h2;obtain⟨rfl,rfl⟩:=h2;rcases hb'' with rfl|rfl
     .exact⟨by simp,.inl (A4 _)⟩
     .exact⟨by simp;omega,.inr ⟨n,List.mem_singleton_self n,_,hob,hg⟩⟩)
    (by
     intro O' hO hcmp;simp only[ObRel];refine⟨hk,w.heap.size,b,es.length,#[],ents,es.length,rfl,vaq w _,by rw[@heap_alloc_old w _ b hbl];exact hb,A4 _,λx hx=>?_,?_,⟨by rw[hleft];simpa using hE.1,λj e he=>?_⟩,λe he=>by cases he⟩
     .obtain⟨j,hj⟩:=List.getElem?_of_mem hx;obtain⟨h1,h2⟩:=hent j x hj;omega
     .rw[List.nodup_iff_pairwise_ne,List.pairwise_iff_getElem];intro j j' hj hj' hlt;rw[List.getElem_map,List.getElem_map,(hent j _ (BD (by simpa using hj))).2,(hent j' _ (BD (by simpa using hj'))).2];omega
     .obtain⟨v,q1,q2⟩:=hE.2 j e he;rw[hleft];exact⟨_,by simpa using q1,rfl,KRel.mono (Keep.alloc _ w _) hO q2⟩)
   refine OpWp.value (x:=.pointer (AA ⟨w.heap.size,0,AB⟩)) (w':=w.alloc (.mapIter (AA b) es.length #[] es.length)) ?_ hn ?_
   .unfold execOp;simp only[ho,hmv,CL,run_range_map w t kt e b ents es.length hu hb,B9,CM]
   .simp only[St.ups,VRel,GS,CX];exact⟨w.heap.size,_,rfl,rfl⟩
  .simp[T.get]at he
 .simp[T.get]at he
theorem Hk(h:Rel B nt w0 X γ st a w){x:Operand}{n i c:Nat}(hx:opd st x=.ptr n i c){vk:Kd}{last:Option (Int×IV)}{rest:List (Int×IV)}(ho:DV st.o n=AA (.iter vk last rest)):
  YR vk=AC/\∃r b since seen ents clock,a.eval x=.pointer (AA ⟨r,0,AB⟩)/\γ n=.tuple #[.pointer (AA ⟨r,0,AB⟩),.map (AA b)]/\w.heap[r]?=AA (.mapIter (AA b) since seen clock)/\w.heap[b]?=AA (.map ents clock)/\IterRel w (DY X γ st.o) vk last rest since seen ents clock:=by
 have hv:=FZ h x;rw[hx]at hv;simp only[VRel,ho]at hv;obtain⟨h0,r,b,since,seen,ents,clock,hg,h1,h2,h3⟩:=h.ob n _ ho;obtain⟨r',y,hy,hv⟩:=hv;rw[hg]at hy;have h4:=congrArg Array.toList (Value.tuple.inj hy);simp only[vaD,C6,AK,DI,CI]at h4;obtain⟨rfl,_⟩:=h4;exact⟨h0,r,b,since,seen,ents,clock,hv,hg,h1,h2,h3⟩
theorem zbq(h:Rel B nt w0 X γ st a w)(o:Oper){x:Operand}(ho:o.op=.entry x){v:V}{us:List Upd}
  (he:(EJ E st.o (opd st) o.dst o.op).get=AA (v,us)):OpWp P B nt w0 X a w o st v us:=by
 rw[ho]at he;simp only[EJ]at he;split at he
 .rename_i n i c hm;split at he
  .rename_i vk e rest hob;simp only[T.get,AK,A1]at he;obtain⟨rfl,rfl⟩:=he;obtain⟨hk,r,b,since,seen,ents,clock,hx,hg,hr,hb,h1,h2,h3,h4,h5⟩:=Hk h hm hob;obtain⟨m,s0,q1,rfl,q3,q4⟩:=h5 e rfl;refine OpWp.pure (x:=.tuple #[m.key,m.val]) h ?_ ?_
   .unfold execOp;simp only[ho,hx,CL,run_entry_at w r b since s0 ents clock m hr hb q1 h3,B9,CM]
   .simp only[VRel];refine⟨_,rfl,?_⟩;simp only[VRels,VRel,q3];exact⟨⟨trivial,q4.2⟩,bD q4.1,trivial⟩
  .simp[T.get]at he
 .simp[T.get]at he
end
open Go Go.RowKit
theorem zbd{j:Nat}:∀{l:List (Int×IV)},j<l.length->l[j]?=AA (H0 l j):=by
 induction j with
 |zero=>intro l h;cases l with
  |nil=>simp at h
  |cons x l=>rfl
 |succ j ih=>intro l h;cases l with
  |nil=>simp at h
  |cons x l=>rw[C5,H0];exact ih (by simpa using h)
theorem q9:∀(l:List (Int×IV)) (j:Nat),J7 l j=l.eraseIdx j
 |[],j=>by simp[J7]
 |x::l,0=>by simp[J7]
 |x::l,j+1=>by rw[J7,q9 l j,List.eraseIdx_cons_succ]
theorem Fw:∀(l:List MapEntry) (j:Nat) (e:MapEntry),(l.map (·.born)).Nodup->l[j]?=AA e->l.filter (λx=>!(x.born==e.born))=l.eraseIdx j
 |[],j,e,_,h=>by simp at h
 |x::l,0,e,hn,h=>by
  obtain rfl:x=e:=by simpa using h
  have hn':x.born∉l.map (·.born)/\(l.map (·.born)).Nodup:=List.nodup_cons.1 hn;rw[va9,DF];simp only[A9,Bool.false_eq_true,if_false,List.eraseIdx_cons_zero];rw[List.filter_eq_self];intro y hy
  have:y.born≠x.born:=λe=>hn'.1 (CU.2 ⟨y,hy,e⟩)
  simpa using this
 |x::l,j+1,e,hn,h=>by
  have hn':x.born∉l.map (·.born)/\(l.map (·.born)).Nodup:=List.nodup_cons.1 hn;have he:l[j]?=AA e:=by simpa using h
  have hne:(x.born==e.born)=AD:=by
   have:x.born≠e.born:=λe'=>hn'.1 (CU.2 ⟨e,vaa he,e'.symm⟩)
   simpa using this
  rw[va9,hne];simp only[BF,CX,List.eraseIdx_cons_succ];rw[Fw l j e hn'.2 he]
theorem Ig{ents:Array MapEntry}{seen:Array Nat}{j:Nat}{e:MapEntry}(hn:(ents.toList.map (·.born)).Nodup)(he:(leftOf ents seen).toList[j]?=AA e):
  (leftOf ents (seen.push e.born)).toList=(leftOf ents seen).toList.eraseIdx j:=by
 have hsub:((leftOf ents seen).toList.map (·.born)).Nodup:=by
  unfold leftOf;rw[Array.toList_filter];exact hn.sublist ((List.filter_sublist).map _)
 rw[<-Fw _ j e hsub he];unfold leftOf;rw[Array.toList_filter,Array.toList_filter,List.filter_filter];congr 1
 funext x
 rw[contains_push];cases seen.contains x.born<;>cases x.born==e.born<;>rfl
section
variable {B:BT} {nt:Nat} {w0:World} {X:Zone} {γ:Nat→Value} {st st':St} {a:Act} {w:World} {P:Program} {E:Env}
theorem zbM{n:Nat}{ob ob':Ob}(ho:DV st.o n=AA ob)(hb:∀b,FE (γ n) ob' b->FE (γ n) ob b)(b:Nat)(h:DY X γ ((n,AA ob')::st.o) b):DY X γ st.o b:=by
 rcases h with⟨m,ob1,q1,q2⟩|h
 .rw[EP]at q1;split at q1
  .rename_i e;subst e;obtain rfl:=CB q1;exact .inl ⟨n,ob,ho,hb b q2⟩
  .exact .inl ⟨m,ob1,q1,q2⟩
 .exact .inr h
theorem zbD(h:Rel B nt w0 X γ st a w)(o:Oper){x:Operand}(ho:o.op=.next x AD){n i c:Nat}(hm:opd st x=.ptr n i c){vk:Kd}{last:Option (Int×IV)}{rest:List (Int×IV)}(hob:DV st.o n=AA (.iter vk last rest)):
  (rest.length=0->OpWp P B nt w0 X a w o st (.tup [.bool AD]) [])/\
  (rest.length≠0->∃j,j<rest.length/\OpWp P B nt w0 X a w o st (.tup [.bool AC,.int .i64 (H0 rest j).1,OJ vk (H0 rest j).2]) [.set n (.iter vk (AA (H0 rest j)) (J7 rest j))]):=by
 obtain⟨hk,r,b,since,seen,ents,clock,hx,hg,hr,hb,h1,h2,h3,h4,h5⟩:=Hk h hm hob;have hls:(leftOf ents seen).toList.length=(leftOf ents seen).size:=by simp
 rcases run_next_at (P:=P) w o.type r b since clock seen ents clock hr hb h2 h1 with⟨q1,q2⟩|⟨e,q1,w1,q2,q3⟩
 .have h0:rest.length=0:=by rw[<-h4.1,hls,q1]
  refine⟨λ_=>?_,λhne=>absurd h0 hne⟩;refine OpWp.pure (x:=.tuple #[.bool AD]) h ?_ ?_
  .unfold execOp;simp only[ho,hx,CL,q2,B9,CM]
  .simp only[VRel];exact⟨_,rfl,by simp only[VRels,VRel];exact⟨trivial,trivial⟩⟩
 .obtain⟨j,hj⟩:=List.getElem?_of_mem q1;have hjl:j<rest.length:=by
   rw[<-h4.1];exact(B4.1 hj).1
  refine⟨λh0=>by omega,λ_=>⟨j,hjl,?_⟩⟩;obtain⟨m,p1,p2,p3⟩:=h4.2 j (H0 rest j) (zbd hjl);rw[hj]at p1;obtain rfl:=CB p1;have hw1:w1.heap=w.heap:=by rcases q2 with rfl|rfl<;>rfl
  have hk1:Keep (λk=>k=r) w (ChangeMaps.setBlock w1 r (.mapIter (AA b) since (seen.push e.born) clock)):=by
   have h6:Keep (λk=>k=r) w w1:=by
    rcases q2 with rfl|rfl
    .exact Keep.refl _ _
    .exact Keep.drew _ _
   refine⟨h6.os,h6.tape,h6.output,?_,λk _ hne=>?_⟩
   .simp[ChangeMaps.setBlock,hw1]
   .simp only[ChangeMaps.setBlock,hw1];exact Array.getElem?_setIfInBounds_ne (λh:r=k=>hne h.symm)
  have hkp:Keep (FE (γ n) (.iter vk last rest)) w (ChangeMaps.setBlock w1 r (.mapIter (AA b) since (seen.push e.born) clock)):=hk1.mono λk _ hk=>⟨r,b,hg,.inl hk⟩
  have hkO:Keep (DY X γ st.o) w (ChangeMaps.setBlock w1 r (.mapIter (AA b) since (seen.push e.born) clock)):=hkp.mono λk _ hk=>.inl ⟨n,_,hob,hk⟩
  have hrb:b≠r:=λe'=>by
   rw[e',hr]at hb;cases hb
  have hOw:=zbM (X:=X) (γ:=γ) (st:=st) (n:=n) (ob':=.iter vk (AA (H0 rest j)) (J7 rest j)) hob (λb h=>h);have hR:=Rel.set h (ob':=.iter vk (AA (H0 rest j)) (J7 rest j)) hob rfl hkp (λb hb=>hb) (λhO hcmp=>by
   simp only[ObRel];refine⟨hk,r,b,since,seen.push e.born,ents,clock,hg,?_,?_,h1,h2,h3,⟨?_,λi e' he'=>?_⟩,λe' he'=>?_⟩
   .simp only[ChangeMaps.setBlock,hw1];exact(MapKept.heap_set hr).1
   .simp only[ChangeMaps.setBlock,hw1];rw[(MapKept.heap_set hr).2 b hrb];exact hb
   .rw[Ig h3 hj,q9,List.length_eraseIdx,List.length_eraseIdx,h4.1]
   .rw[Ig h3 hj,List.getElem?_eraseIdx];rw[q9,List.getElem?_eraseIdx]at he';split at he'
    .rename_i hlt;obtain⟨m,s1,s2,s3⟩:=h4.2 i e' he';exact⟨m,by rw[BX hlt];exact s1,s2,KRel.mono hkO (λb _ hb=>hOw b hb) s3⟩
    .rename_i hlt;obtain⟨m,s1,s2,s3⟩:=h4.2 (i+1) e' he';exact⟨m,by rw[BO hlt];exact s1,s2,KRel.mono hkO (λb _ hb=>hOw b hb) s3⟩
   .obtain rfl:=CB he';exact⟨e,seen,(mem_left q1).1,rfl,p2,KRel.mono hkO (λb _ hb=>hOw b hb) p3⟩)
  refine OpWp.value (x:=.tuple #[.bool AC,e.key,e.val]) ?_ hR ?_
  .unfold execOp;simp only[ho,hx,CL,q3,B9,CM]
  .simp only[St.ups,VRel];refine⟨_,rfl,?_⟩;simp only[VRels,VRel,p2];exact⟨trivial,⟨trivial,p3.2⟩,bD (KRel.mono hkO (λb _ hb=>hOw b hb) p3).1,trivial⟩
end
open Go Go.RowKit
section
variable {B:BT} {nt:Nat} {w0:World} {X:Zone} {γ:Nat→Value} {st st':St} {a:Act} {w:World} {P:Program} {E:Env}
theorem Dg(h:Rel B nt w0 X γ st a w)(hg:GX B w0 X){f:FuncId}{sp:D4}(hS:Snd P B f (λvs=>(sp vs).get)){vs:List V}{xs:List Value}(hv:VRels γ st.o w (DY X γ st.o) vs xs){d:Nat}(hd9:d≠900000){tks:List (List Kd)}{v:V}{us:List Upd}(he:(VM st.o d tks sp vs).get=AA (v,us)):
  Does P f xs w λe w'=>∃x,e=.returned x/\∃γ',Rel B nt w0 X γ' (st.ups us) a w'/\VRel γ' (st.ups us).o w' (DY X γ' (st.ups us).o) v x:=by
 unfold VM at he;split at he
 .rename_i hl;obtain⟨r,out,hsp,he⟩:=R.toT_get he;unfold gH at he;split at he
  .split at he
   .rename_i cs;split at he
    .rename_i hc;simp only[T.get,AK,A1]at he;obtain⟨rfl,rfl⟩:=he;exact bm h hg hS hv hl hsp d hd9 (AX hc)
    .simp[T.get]at he
   .simp only[T.get,AK,A1]at he;obtain⟨rfl,rfl⟩:=he;exact bp h hg hS hv hl hsp d hd9
   .rename_i hnb hnv;simp only[T.get,AK,A1]at he;obtain⟨rfl,rfl⟩:=he;exact bn h hg hS hv hl hsp hnb hnv
  .simp[T.get]at he
 .rename_i n hl;split at he
  .rename_i cs ho;split at he
   .rename_i hib;obtain⟨r,outs,hsp,he⟩:=R.toT_get he;unfold gG at he;split at he
    .split at he
     .rename_i hc;simp only[T.get,AK,A1]at he;obtain⟨rfl,rfl⟩:=he;simp only[AQ,vap]at hc;refine bj h hg hS hv hl ho rfl hsp hib (F1.1 hc.1) (hc.2.1.imp (λh=>AX h) (λh=>AX h)) (AX hc.2.2)
     .simp[T.get]at he
    .simp[T.get]at he
   .simp[T.get]at he
  .rename_i s ho;split at he
   .rename_i hib;obtain⟨r,outs,hsp,he⟩:=R.toT_get he;unfold gF at he;split at he
    .simp only[T.get,AK,A1]at he;obtain⟨rfl,rfl⟩:=he;exact bi h hg hS hv hl ho hsp hib
    .simp[T.get]at he
   .simp[T.get]at he
  .simp[T.get]at he
 .obtain⟨r,outs,hsp,he⟩:=R.toT_get he;unfold yX at he;split at he
  .simp only[T.get,AK,A1]at he;obtain⟨rfl,rfl⟩:=he;simp only[St.ups];exact bq h hg hS hv hsp
  .simp[T.get]at he
def NH(l:LI):List Value:=l.map λx=>Value.int .i64 x.toInt
def Dk:V->Value
 |.int k n=>.int k n
 |_=>undef
def V6(w:World)(v:Value):List V->List Value->Prop
 |[],[]=>True
 |[.clo f [.bor cs]],[y]=>∃b c T,y=.func (.func f) #[] #[.pointer (AA ⟨b,0,AB⟩)]/\w.heap[b]?=AA (.cells c T (0,0))/\c.toList=cs.map Dk/\v.ownBlock≠AA b
 |_,_=>False
def S1(P:Program)(f:FuncId)(p:Ip):Prop:=
 ∀(w:World) (v:Value) (l l':LI) (rs:List V) (ys:List Value),w.ownsRow 0 p.e 1 v l.length (NH l)->(∀x∈l,AJ.min<=x.toInt/\x.toInt<=AJ.max)->l.length<=strMax->
  V6 w v rs ys->p.g rs l=AA l'->
  Does P f (v::ys) w λe w'=>∃x,e=.returned x/\w.grownBy w' v.ownBlock/\(∀x∈l',AJ.min<=x.toInt/\x.toInt<=AJ.max)/\
   (p.ret=AC->w'.ownsRow 0 p.e 1 x l'.length (NH l')/\∀b,x.ownBlock=AA b->v.ownBlock=AA b\/w.heap.size<=b)/\
   (p.ret=AD->w'.ownsRow 0 p.e 1 v l'.length (NH l'))
theorem cj{w:World}{O:Nat->Prop}{l:LI}{xs:List Value}(hl:xs.length=l.length*1)
  (h:∀i y,l[i]?=AA y->Kd.RelAll w O [.z] (GK AD y) 0 (λj u=>xs[i*1+j]?=AA u)):xs=NH l/\∀x∈l,AJ.min<=x.toInt/\x.toInt<=AJ.max:=by
 have one:∀(i:Nat) (y:IV),l[i]?=AA y->xs[i]?=AA (.int .i64 y.toInt)/\AJ.min<=y.toInt/\y.toInt<=AJ.max:=λi y hy=>by
  have:=h i y hy
  simp only[Kd.RelAll,GK,CI,Nat.mul_one,DJ]at this;obtain⟨u,hu,hk⟩:=this;simp only[Kd.Rel]at hk;rw[hu,hk.1];exact⟨rfl,hk.2⟩
 constructor
 .apply List.ext_getElem?;intro i;unfold NH;rw[CJ];cases hy:l[i]? with
  |none=>
   rw[List.getElem?_eq_none_iff]at hy;rw[B8 AG];rfl
  |some y=>rw[(one i y hy).1];rfl
 .intro x hx;obtain⟨i,hi⟩:=List.getElem?_of_mem hx;exact(one i x hi).2
theorem sC{w:World}{O:Nat->Prop}{l:LI}(h:∀x∈l,AJ.min<=x.toInt/\x.toInt<=AJ.max)(i:Nat)(y:IV)(hy:l[i]?=AA y):
  Kd.RelAll w O [.z] (GK AD y) 0 (λj u=>(NH l)[i*1+j]?=AA u):=by
 simp only[Kd.RelAll,GK,CI,Nat.mul_one,DJ];refine⟨.int .i64 y.toInt,?_,?_⟩
 .unfold NH;rw[CJ,hy];rfl
 .simp only[Kd.Rel];exact⟨trivial,h y (vaa hy)⟩
theorem Hi{γ:Nat->Value}{o:Store}{w:World}{O:Nat->Prop}:∀{cs:List V} {xs:List Value},l9 cs=AC->VRels γ o w O cs xs->xs=cs.map Dk
 |[],[],_,_=>rfl
 |[],_::_,_,h=>by simp only[VRels]at h
 |v::cs,[],h,h'=>by simp only[VRels]at h'
 |v::cs,x::xs,h,h'=>by
  simp only[VRels]at h';unfold l9 at h;split at h
  .rename_i h0;cases h0
  .rename_i n r h0;injection h0 with h1 h2
   subst h1 h2;have h3:=h'.1;simp only[VRel]at h3;rw[A8,<-Hi h h'.2,h3.1];rfl
  .cases h
theorem Nq(h:Rel B nt w0 X γ st a w){v:Value}(hv:∀m cs b,DV st.o m=AA (.box cs)->FE (γ m) (.box cs) b->v.ownBlock≠AA b){rest rs:List V}{ys:List Value}(hr:VRels γ st.o w (DY X γ st.o) rest ys)(he:YL st.o rest=AA rs):V6 w v rs ys:=by
 unfold YL at he;split at he
 .simp only[AK]at he;subst he;cases ys with
  |nil=>trivial
  |cons y ys=>simp only[VRels]at hr
 .rename_i f m i c;split at he
  .rename_i cs hic ho;split at he
   .rename_i hi;simp only[AK]at he;subst he;simp only[AQ]at hic;obtain rfl:=F1.1 hic.1;obtain rfl:=F1.1 hic.2
    match ys,hr with
    |[y],hr=>
     simp only[VRels,CI]at hr;simp only[VRel]at hr;obtain⟨cs',rfl,hc⟩:=hr;obtain⟨b,c,T,hg,hh,hcs⟩:=h.ob m _ ho;have hc1:∃x0,cs'= #[x0]/\x0=.pointer (AA ⟨b,0,AB⟩):=by
      obtain⟨l⟩:=cs'
      match l,hc with
      |[x0],hc=>
       simp only[VRels,CI,VRel,ho]at hc;obtain⟨_,b',hb',rfl⟩:=hc;rw[hg]at hb';simp only[C6,AK,DI,CI]at hb';subst hb';exact⟨_,rfl,rfl⟩
      |[],hc=>simp only[VRels]at hc
      |_::_::_,hc=>simp only[VRels,and_false]at hc
     obtain⟨x0,rfl,rfl⟩:=hc1;exact⟨b,c,T,rfl,hh,Hi hi hcs,hv m cs b ho ⟨_,hg,rfl⟩⟩
    |[],hr=>simp only[VRels]at hr
    |_::_::_,hr=>simp only[VRels,and_false]at hr
   .cases he
  .cases he
 .cases he
theorem tx(h:Rel B nt w0 X γ st a w){f:FuncId}{p:Ip}(hI:S1 P f p){vs:List V}{xs:List Value}(hv:VRels γ st.o w (DY X γ st.o) vs xs){d:Option Nat}(hd9:∀d',d=AA d'->d'≠900000){v:V}{us:List Upd}(he:(aS st.o d p vs).get=AA (v,us)):
  Does P f xs w λe w'=>∃x,e=.returned x/\∃γ',Rel B nt w0 X γ' (st.ups us) a w'/\VRel γ' (st.ups us).o w' (DY X γ' (st.ups us).o) v x:=by
 unfold aS at he;split at he
 .rename_i n lo hi rest;cases xs with
  |nil=>simp only[VRels]at hv
  |cons sv ys=>
  simp only[VRels]at hv;obtain⟨hs,hrest⟩:=hv;split at he
  .rename_i e l rs hob hra;split at he
   .rename_i hc;simp only[AQ]at hc;obtain⟨hc1,hc3,hc4⟩:=hc;have he2:=T.get_when he;clear he;obtain⟨hc2,he⟩:=he2;obtain rfl:=F1.1 hc1;obtain rfl:=F1.1 hc2;obtain rfl:=F1.1 hc3;have he6:p.e<1000000:=AX hc4;simp only[VRel,hob]at hs;obtain⟨hlen,q,len,cap,q',hg,hvv,_,h2,h3,hm,_,h5⟩:=hs;rw[h5 rfl,vas,vas]at hvv;have hor:=h.ob n _ hob;simp only[ObRel]at hor;obtain⟨hkp,hstr,xs,hx,hrx⟩:=hor;have hx':=hx.plain he6;have hlen':len=l.length:=by
     rcases hx'.2 with⟨h6,h7⟩|⟨g,cap',cur,h6,_⟩
     .rw[hg]at h6;simp only[CW]at h6;omega
     .rw[hg]at h6;simp only[CW]at h6;exact h6.2.1
    subst hlen';have hsv:sv=γ n:=by rw[hvv,hg]
    subst hsv;obtain⟨rfl,hrng⟩:=cj hx.1 hrx;split at he
    .rename_i l' hgl;have hrok:=Nq h (v:=γ n) (λm cs b hm hb hne=>by
      have hnm:n≠m:=λe=>by subst e;rw[hob]at hm;cases hm
      exact h.dis n m _ _ b hnm hob hm (by simp only[FE];exact hne) hb) hrest hra
     have hdoes:=hI w (γ n) l l' rs ys hx' hrng hstr hrok hgl;split at he
     .rename_i d' hret;obtain⟨hk,he⟩:=T.get_when he;simp only[T.get,AK,A1]at he;obtain⟨rfl,rfl⟩:=he;have hk:=AX hk;refine hdoes.mono ?_;rintro e w' ⟨x,rfl,hgrow,hrng',hr1,_⟩;obtain⟨hown,hblk⟩:=hr1 hret;refine⟨x,rfl,λm=>if d'=m then x else γ m,?_,?_⟩
      .refine Rel.new h [n] d' (hd9 d' rfl) (.row AC p.e AD [.z] l') x (Keep.grown hgrow (λg hg'=>⟨n,by simp,_,hob,hg'⟩)) (λb hb=>⟨(hown.lt b hb).2,?_⟩) (λO' hO hcmp=>?_)
       .rcases hblk b hb with h1|h1
        .exact .inr ⟨n,by simp,_,hob,h1⟩
        .exact .inl h1
       .simp only[ObRel];exact⟨by simp,by omega,NH l',OwnRow.of hown he6,λi y hy=>sC hrng' i y hy⟩
      .simp only[St.ups,St.up,VRel,EP,CX];refine⟨A4 _,?_⟩;rcases hown.2 with⟨h6,h7⟩|⟨g,cap',cur,h6,_,_,h8,h9,_⟩
       .refine⟨AB,0,0,AB,h6,?_,CH _,by omega,A4 _,by simp[maxLen],.inr rfl,λ_=>rfl⟩;rw[h6,h7]
       .refine⟨AA ⟨g,0,AB⟩,l'.length,cap',AA ⟨g,0,AB⟩,h6,by rw[h6];simp,CH _,A4 _,h8,h9,.inl ?_,λ_=>rfl⟩;simp[Addr.add]
     .rename_i hret;obtain⟨hk,he⟩:=T.get_when he;simp only[T.get,AK,A1]at he;obtain⟨rfl,rfl⟩:=he;have hk:=F1.1 hk;refine hdoes.mono ?_;rintro e w' ⟨x,rfl,hgrow,hrng',_,hr2⟩;have hown:=hr2 hret;refine⟨x,rfl,γ,?_,by simp only[VRel]⟩;refine Rel.set h (ob':=.row AC p.e AD [.z] l') hob ⟨rfl,hk.symm⟩ (Keep.grown hgrow (λg hg'=>hg')) (λb hb=>hb) (λhO hcmp=>?_);simp only[ObRel];exact⟨by simp,by omega,NH l',OwnRow.of hown he6,λi y hy=>sC hrng' i y hy⟩
     .simp[T.get]at he
    .simp[T.get]at he
   .simp[T.get]at he
  .simp[T.get]at he
 .rename_i rest;cases xs with
  |nil=>simp only[VRels]at hv
  |cons sv ys=>
  simp only[VRels]at hv;obtain⟨hs,hrest⟩:=hv;simp only[VRel]at hs;subst hs;split at he
  .rename_i rs hra;split at he
   .rename_i hgl;have hrok:=Nq h (v:=.slice AB 0 0) (λm cs b _ _ hne=>by simp[CO]at hne) hrest hra;have hdoes:=hI w (.slice AB 0 0) [] [] rs ys (World.ownsRow_nil w 0 p.e _) (λx hx=>by cases hx) (by simp) hrok hgl;split at he
    .rename_i d' hret;obtain⟨hk,he⟩:=T.get_when he;simp only[T.get,AK,A1]at he;obtain⟨rfl,rfl⟩:=he;have he6:p.e<1000000:=AX hk;refine hdoes.mono ?_;rintro e w' ⟨x,rfl,hgrow,hrng',hr1,_⟩;obtain⟨hown,hblk⟩:=hr1 hret;refine⟨x,rfl,λm=>if d'=m then x else γ m,?_,?_⟩
     .refine Rel.new h [] d' (hd9 d' rfl) (.row AC p.e AD [.z] []) x (Keep.grown hgrow (λg hg'=>by simp[CO]at hg')) (λb hb=>⟨(hown.lt b hb).2,?_⟩) (λO' hO hcmp=>?_)
      .rcases hblk b hb with h1|h1
       .simp[CO]at h1
       .exact .inl h1
      .simp only[ObRel];exact⟨by simp,by simp,NH [],OwnRow.of hown he6,λi y hy=>sC hrng' i y hy⟩
     .simp only[St.ups,St.up,VRel,EP,CX];refine⟨A4 _,?_⟩;rcases hown.2 with⟨h6,h7⟩|⟨g,cap',cur,h6,_,_,h8,h9,_⟩
      .refine⟨AB,0,0,AB,h6,?_,CH _,by omega,A4 _,by simp[maxLen],.inr rfl,λ_=>rfl⟩;rw[h6]
      .refine⟨AA ⟨g,0,AB⟩,0,cap',AA ⟨g,0,AB⟩,h6,by rw[h6];simp,CH _,A4 _,CH _,h9,.inl ?_,λ_=>rfl⟩;simp[Addr.add]
    .rename_i hret;simp only[T.get,AK,A1]at he;obtain⟨rfl,rfl⟩:=he;refine hdoes.mono ?_;rintro e w' ⟨x,rfl,hgrow,_,_,_⟩;refine⟨x,rfl,γ,Rel.world h (Keep.grown hgrow (λg hg'=>by simp[CO]at hg')),by simp only[VRel]⟩
    .simp[T.get]at he
   .simp[T.get]at he
  .simp[T.get]at he
 .simp[T.get]at he
def SpOK(P:Program)(B:BT)(E:Env)(w0:World)(X:Zone):Prop:=GX B w0 X/\(∀f sp,lk E.sp f=AA sp->Snd P B f (λvs=>(sp vs).get))/\∀f p,lk E.ip f=AA p->S1 P f p
theorem SpOK.get(h:SpOK P B E w0 X)(f:FuncId):Snd P B f (λvs=>(FA (λ_=>R.no) E.sp f vs).get):=by
 rw[a9];cases hf:lk E.sp f with
 |none=>
  intro w X γ vs xs r out hsp;simp[R.get]at hsp
 |some sp=>exact h.2.1 f sp hf
theorem nM(h:Rel B nt w0 X γ st a w):∀l:List Operand,VRels γ st.o w (DY X γ st.o) (KN (opd st) l) (l.map a.eval)
 |[]=>by simp only[KN,CN,VRels]
 |x::r=>by
  simp only[KN,A8,VRels];exact⟨FZ h x,nM h r⟩
theorem uI(o:Oper){f:FuncId}{xs:List Value}{v:V}{us:List Upd}(hr:(execOp a.eval o).run P w=(callFunc f xs.toArray).run P w)
  (hd:Does P f xs w λe w'=>∃x,e=.returned x/\∃γ',Rel B nt w0 X γ' (st.ups us) a w'/\VRel γ' (st.ups us).o w' (DY X γ' (st.ups us).o) v x):OpWp P B nt w0 X a w o st v us:=by
 intro K Q hK;unfold Oper.wp;rw[hr];unfold Does at hd;split at hd
 .rename_i g args w' hc;rw[hc,Oper.upon_enter];refine hd.mono ?_;rintro e w'' ⟨x,rfl,γ',h1,h2⟩;exact hK γ' x w'' h1 h2
 .rename_i x w' hc;rw[hc,Oper.upon_value];obtain⟨x',he,γ',h1,h2⟩:=hd;cases he;exact hK γ' x w' h1 h2
 .rename_i row args w' hc;rw[hc,Oper.upon_row];refine Rows.mono hd ?_;rintro x w'' ⟨x',he,γ',h1,h2⟩;cases he;exact hK γ' x w'' h1 h2
 .exact hd.elim
theorem zbn(hT:TiOK P B E)(hSp:SpOK P B E w0 X)(h:Rel B nt w0 X γ st a w)(o:Oper)(hd9:∀d,o.dst=AA d->d≠900000){c:Call}(ho:o.op=.call c){v:V}{us:List Upd}
  (he:(EJ E st.o (opd st) o.dst o.op).get=AA (v,us)):OpWp P B nt w0 X a w o st v us:=by
 obtain⟨callee,args,ats⟩:=c;cases callee with
 |builtin b=>exact zbm hT h o hd9 ho he
 |invoke recv name=>
  rw[ho]at he;simp only[EJ,TQ]at he;simp[T.get]at he
 |value x=>
  rw[ho]at he;obtain⟨args⟩:=args;have clo:∀(x:Operand),o.op=.call ⟨.value x,⟨args⟩,ats⟩->∀d,o.dst=AA d->(match opd st x with
    |.clo f caps=>match X8 caps with
     |true=>VM st.o d (oX E ats.toList) (FA (λ_=>R.no) E.sp f) (KN (opd st) args++caps)
     |false=>.no
    |_=>.no).get=AA (v,us)->OpWp P B nt w0 X a w o st v us:=by
   intro x ho d hd he;split at he
   .rename_i f caps hclo;split at he
    case h_2=>simp[T.get]at he
    have hx:=FZ h x;rw[hclo]at hx;simp only[VRel]at hx;obtain⟨cs,hx1,hx2⟩:=hx;have hrel:=Dg h hSp.1 (hSp.get f) ((nM h args).append hx2) (hd9 d hd) he;refine uI o (xs:=args.map a.eval++cs.toList) ?_ hrel;obtain⟨dst,op,type,pos,after,guard⟩:=o;simp only at ho;subst ho
    have:execOp a.eval {dst,op:=.call {callee:=.value x,args:=⟨args⟩,argTypes:=ats},type,pos,after,guard}=(do let d<-Deferred.ofValue (a.eval x) ((⟨args⟩:Array Operand).map a.eval);invoke d.target d.args):=rfl
    rw[this,hx1];have hla:(args.map a.eval).toArray++cs=(args.map a.eval++cs.toList).toArray:=by
     apply Array.ext';simp
    simp[Deferred.ofValue,invoke,hla]
   .simp[T.get]at he
  cases x with
  |func f=>
   simp only[EJ,TQ,qB]at he;have hrun:∀{f:Nat},o.op=.call ⟨.value (.func f),⟨args⟩,ats⟩->(execOp a.eval o).run P w=(callFunc f (args.map a.eval).toArray).run P w:=λ{f} ho=>by
    obtain⟨dst,op,type,pos,after,guard⟩:=o;simp only at ho;subst ho
    have:execOp a.eval {dst,op:=.call {callee:=.value (.func f),args:=⟨args⟩,argTypes:=ats},type,pos,after,guard}=callFunc f (#[]++(⟨args⟩:Array Operand).map a.eval++#[]):=rfl
    rw[this];simp
   split at he
   .rename_i p hp;exact uI o (xs:=args.map a.eval) (hrun ho) (tx h (hSp.2.2 f p hp) (nM h args) hd9 he)
   .split at he
    .rename_i d hd;exact uI o (xs:=args.map a.eval) (hrun ho) (Dg h hSp.1 (hSp.get f) (nM h args) (hd9 d hd) he)
    .simp[T.get]at he
  |tmp t=>
   simp only[EJ,TQ]at he;cases hd:o.dst with
   |none=>rw[hd]at he;simp[T.get]at he
   |some d=>rw[hd]at he;exact clo _ ho d hd he
  |const t=>
   simp only[EJ,TQ]at he;cases hd:o.dst with
   |none=>rw[hd]at he;simp[T.get]at he
   |some d=>rw[hd]at he;exact clo _ ho d hd he
  |global t=>
   simp only[EJ,TQ]at he;cases hd:o.dst with
   |none=>rw[hd]at he;simp[T.get]at he
   |some d=>rw[hd]at he;exact clo _ ho d hd he
theorem zbp(hT:TiOK P B E)(h:Rel B nt w0 X γ st a w)(o:Oper)(hd9:∀d,o.dst=AA d->d≠900000){s t:Nat}{x:Operand}(ho:o.op=.convert s t x){v:V}{u:Upd}{us:List Upd}
  (he:(EJ E st.o (opd st) o.dst o.op).get=AA (v,u::us)):OpWp P B nt w0 X a w o st v (u::us):=by
 have hx:=FZ h x;rw[ho]at he;simp only[EJ]at he;split at he
 .split at he
  .simp[T.get]at he
  .simp[T.get]at he
 .rename_i b hop;rw[hop]at hx;simp only[VRel]at hx;split at he
  .simp[T.get]at he
  .rename_i e k1 kss hd hks hkss;split at he
   .rename_i d hdst hde hkse;simp only[T.get,AK,A1,vaD]at he;obtain⟨rfl,rfl,rfl⟩:=he;have hu1:=WC hT hd;obtain⟨d',hd1',_,_⟩:=(hT.kinds (t:=s) (by rw[hkss];simp)).und;obtain⟨d'',hd1'',_,hd2''⟩:=(hT.kinds (t:=e) (by rw[hkse];simp)).und;rw[hde]at hd2'';obtain rfl:=hd2''.1 _ hkse;have hrun:(execOp a.eval o).run P w=.ok (.value (.slice (AA ⟨w.heap.size,0,AB⟩) b.size (grownCap w b.size 0 e))) (vaU w e b):=by
     unfold execOp;simp only[ho,hx.1,CL,Lib.run_convert_string_bytes w s t e b hd1' hu1 hd1'',B9,CM]
    have hsm:=oQ;have hcg:=grownCap_ge w b.size 0 e;have hcm:grownCap w b.size 0 e<=maxLen:=grownCap_le_maxLen w b.size 0 e (DD hx.2 hsm);have hcs:(Lib.bytesCells w e b).size=grownCap w b.size 0 e:=by
     have:b.data.size=b.size:=rfl
     simp only[Lib.bytesCells,Array.size_append,Array.size_map,Array.size_replicate,this];omega
    have hkp:Keep (λ_=>False) w (vaU w e b):=by
     refine⟨?_,?_,?_,by rw[Lib.bytesWorld_size];omega,λj hj _=>Lib.bytesWorld_at_old w e b j hj⟩
     .simp[vaU,World.freeze];rfl
     .simp[vaU,World.freeze]
     .simp[vaU,World.freeze];rfl
    have hn:=Rel.new h [] d (hd9 d hdst) (.row AC (e+1000000) AD [.int .u8] (b.data.toList.map λb=>.int (b.toNat:Int))) (.slice (AA ⟨w.heap.size,0,AB⟩) b.size (grownCap w b.size 0 e)) (w':=vaU w e b) (hkp.mono (λ_ _ h=>h.elim))
     (by
      intro b1 hb;simp only[FE,CO,AK]at hb;subst hb;rw[Lib.bytesWorld_size];exact⟨by omega,.inl (A4 _)⟩)
     (by
      intro O' hO hcmp;simp only[ObRel];have hln:(b.data.toList.map λb=>IV.int (b.toNat:Int)).length=b.size:=by simp
      refine⟨by simp,by rw[hln];exact hx.2,b.data.toList.map λb=>.int .u8 b.toNat,?_,λi y hy=>?_⟩
      .rw[hln];refine⟨by simp,.inr ⟨w.heap.size,grownCap w b.size 0 e,_,_,_,rfl,Lib.bytesWorld_at_new w e b,hcg,hcm,by rw[hcs];simp,?_,.inr ⟨by omega,A4 _⟩⟩⟩;simp only[Lib.bytesCells,vaj,AV,BN];rw[List.take_append_of_le_length (by simp)];rw[C2 (by simp)];simp
      .rw[CJ]at hy;cases hbi:b.data.toList[i]? with
       |none=>rw[hbi]at hy;cases hy
       |some c=>
        rw[hbi]at hy;simp only[vaf,AK]at hy;subst hy;simp only[Kd.RelAll,GK,Kd.Rel,IV.toInt,AV,BN];refine⟨⟨.int .u8 c.toNat,by simp[hbi],rfl,?_,?_⟩,trivial⟩
        .simp[IntKind.min,vak]
        .have:=c.toNat_lt
         simp[IntKind.max,vak,AT];omega)
    refine OpWp.value hrun hn ?_;simp only[St.ups,VRel,GS,CX];refine⟨by simp,AA ⟨w.heap.size,0,AB⟩,b.size,grownCap w b.size 0 e,AA ⟨w.heap.size,0,AB⟩,rfl,by simp,CH _,A4 _,hcg,hcm,.inl ?_,λ_=>rfl⟩;simp[Addr.add]
   .simp[T.get]at he
  .simp[T.get]at he
 .split at he
  .split at he
   .simp[T.get]at he
   .simp[T.get]at he
  .simp[T.get]at he
def BldOK(P:Program)(B:BT)(E:Env):Prop:=(E.tyd B.T).d=.bld->∃i,P.info? B.T=AA i/\i.zero=AA (.agg #[.pointer AB,.slice AB 0 0])
theorem Ks(hT:TiOK P B E)(hE:∀t,t∈E.eqs->EqSnd P t (E.tyd t).ks)(hSp:SpOK P B E w0 X)(hB:BldOK P B E)(h:Rel B nt w0 X γ st a w)(o:Oper)(hd9:∀d,o.dst=AA d->d≠900000){v:V}{us:List Upd}
  (he:(EJ E st.o (opd st) o.dst o.op).get=AA (v,us)):OpWp P B nt w0 X a w o st v us:=by
 cases ho:o.op with
 |move x=>exact Kr h o (.inl ho) he
 |assign x=>exact Kr h o (.inr ho) he
 |pick c x y=>exact zbF h o ho he
 |alloc t=>exact zbh hT h o hd9 ho hB he
 |box t x=>exact zbj h o hd9 ho he
 |build t parts=>exact zbk hT h o ho he
 |buildSlice t len parts=>exact zbl hT h o hd9 ho he
 |load t x=>exact zbx hT h o ho he
 |store t p x=>exact zbI hT h o ho he
 |nilCheck x=>exact zbE h o ho he
 |binOp op t x y t'=>exact zbi hT hE h o ho he
 |unOp op t x=>exact zbJ h o ho he
 |convert s t x=>
  cases us with
  |nil=>exact zbo hT h o ho he
  |cons u us=>exact zbp hT h o hd9 ho he
 |makeFunc f first caps=>exact zbz h o ho he
 |makeSlice t n m=>exact zbB hT h o hd9 ho he
 |slice t x lo hi mx=>exact zbH hT h o ho he
 |fieldAddr s x f=>exact zbu hT h o ho he
 |field t x f=>exact zbt hT h o ho he
 |indexAddr t x ix=>exact zbw hT h o ho he
 |index t x ix=>exact zbv hT h o ho he
 |extract x i=>exact zbs h o ho he
 |call c=>exact zbn hT hSp h o hd9 ho he
 |makeMap t r=>exact zbA h o hd9 ho he
 |insert t m k x=>exact Kq hT h o (.inl ho) he
 |mapUpdate t m k x=>exact Kq hT h o (.inr ho) he
 |lookup t m k ok=>exact zby hT h o ho he
 |mapEntry t m k=>exact zbC hT h o ho he
 |entryStore t m s x=>exact zbr h o ho he
 |range t x=>exact zbG hT h o hd9 ho he
 |entry x=>exact zbq h o ho he
 |_=>rw[ho]at he;simp[EJ,T.get]at he
theorem zc6(hT:TiOK P B E)(hE:∀t,t∈E.eqs->EqSnd P t (E.tyd t).ks)(hSp:SpOK P B E w0 X)(hB:BldOK P B E)(h:Rel B nt w0 X γ st a w)(o:Oper)(hd9:∀d,o.dst=AA d->d≠900000){k:V->List Upd->DU}{r:V×List (List V)}
  (he:bV E st.o (opd st) o.dst o.op k=AA r):∃v us,k v us=AA r/\OpWp P B nt w0 X a w o st v us:=by
 unfold bV at he;split at he
 .rename_i x hop;split at he
  .rename_i n i c hm;split at he
   .rename_i vk last rest hob;obtain⟨h0,h1⟩:=zbD (P:=P) h o hop hm hob;split at he
    .rename_i hl;exact⟨_,_,he,h0 (F1.1 hl)⟩
    .rename_i hl;obtain⟨j,hj,hw⟩:=h1 (I4.1 hl);exact⟨_,_,Zc he j hj,hw⟩
   .cases he
  .cases he
 .obtain⟨v,us,h1,h2⟩:=T.run_some he;exact⟨v,us,h2,Ks hT hE hSp hB h o hd9 h1⟩
end
open Go Go.RowKit
theorem bP:∀{l:List V} {n:Nat},n∈FR l->n∈FB.go l
 |v::r,n,h=>by
  simp only[FR,A5]at h;rcases h with h|h
  .cases v<;>simp only[EX]at h<;>first|(cases h;done)|(simp only[FB.go,A5];exact .inl h)
  .cases v<;>simp only[FB.go,A5]<;>exact .inr (bP h)
def Agree(o o':Store)(l:List Nat):Prop:=∀n∈l,DV o' n=DV o n
theorem Agree.left{o o':Store}{l l':List Nat}(h:Agree o o' (l++l')):Agree o o' l:=λn hn=>h n (vaR _ hn)
theorem Agree.right{o o':Store}{l l':List Nat}(h:Agree o o' (l++l')):Agree o o' l':=λn hn=>h n (vaM _ hn)
theorem Kl{o o':Store}{v:V}(h:Agree o o' (EX v)):L5 o' v=L5 o v:=by
 cases v<;>simp only[L5]
 all_goals rw[h _ (by simp[EX])]
theorem uC{o o':Store}{v:V}(h:Agree o o' (EX v)):SJ o' v=SJ o v:=by
 cases v<;>simp only[SJ]<;>exact Kl h
theorem uA{o o':Store}:∀{l:List V},Agree o o' (FR l)->T7 o' l=T7 o l
 |[],_=>rfl
 |v::r,h=>by simp only[T7,Kl h.left,uA (l:=r) h.right]
theorem Fb{o o':Store}{v:V}(h:Agree o o' (EX v)):TT o' v=TT o v:=by
 cases v<;>simp only[TT]
 rw[h _ (by simp[EX])]
theorem Pb{o o':Store}{v:V}(h:Agree o o' (EX v)):RE o' v=RE o v:=by
 cases v<;>simp only[RE]
 rw[h _ (by simp[EX])]
theorem mQ{o o':Store}{k:Kd}{v:V}(h:Agree o o' (EX v)):NO o' k v=NO o k v:=by
 cases k<;>cases v<;>simp only[NO]
 rw[h _ (by simp[EX])]
theorem iN{o o':Store}:∀{ks:List Kd} {l:List V},Agree o o' (FR l)->K1 o' ks l=K1 o ks l
 |[],[],_=>rfl
 |[],_::_,_=>rfl
 |_::_,[],_=>rfl
 |k::ks,v::r,h=>by simp only[K1,mQ h.left,iN (l:=r) h.right]
theorem PI{v:V}{n:Nat}(h:n∈EX v):n∈FB v:=by
 cases v<;>simp only[EX]at h<;>first|exact h|cases h
theorem fc{o o':Store}{ag:Bool}{ks:List Kd}{v:V}(h:Agree o o' (FB v)):Q4 o' ag ks v=Q4 o ag ks v:=by
 cases ag with
 |false=>
  simp only[Q4];rw[iN (o:=o) (o':=o') (λn hn=>h n (PI (by simpa[FR]using hn)))]
 |true=>
  cases v<;>simp only[Q4]
  rw[iN h]
theorem Ng:∀(a b:List V),FR (a++b)=FR a++FR b
 |[],b=>rfl
 |v::r,b=>by simp[FR,Ng r b]
theorem Nh{l:List V}{v:V}{n:Nat}(hv:v∈l)(hn:n∈EX v):n∈FR l:=by
 induction l with
 |nil=>cases hv
 |cons u r ih=>
  simp only[FR,A5];rcases AW.1 hv with h|h
  .subst h;exact .inl hn
  .exact .inr (ih h)
theorem vP{l l':List V}(h:∀v∈l,v∈l'){n:Nat}(hn:n∈FR l):n∈FR l':=by
 induction l with
 |nil=>simp[FR]at hn
 |cons u r ih=>
  simp only[FR,A5]at hn;rcases hn with hn|hn
  .exact Nh (h u (AY ..)) hn
  .exact ih (λv hv=>h v (A6 _ hv)) hn
theorem lA{o o':Store}{ag:Bool}{ks:List Kd}{sz:Nat}:∀{n:Nat} {cs:List V},Agree o o' (FR cs)->N9 ag ks o' cs sz n=N9 ag ks o cs sz n
 |0,cs,_=>rfl
 |n+1,cs,h=>by
  simp only[N9];rw[lA (n:=n) (cs:=NK cs sz) (λm hm=>h m (by rw[R5]at hm;exact vP (λv hv=>va7 hv) hm))];cases ag with
  |true=>
   rw[fc];intro m hm;simp only[FB,ZF]at hm;exact h m (vP (λv hv=>vaO hv) hm)
  |false=>
   simp only[Q4];rw[iN (o:=o) (o':=o')];intro m hm;rw[i5]at hm;cases hc:cs[0]? with
   |none=>rw[hc]at hm;simp[FR,EX]at hm
   |some u=>
    rw[hc]at hm;simp only[vam,FR,vab]at hm;exact h m (Nh (vaa hc) hm)
theorem ZA{l:List V}{n:Nat}(h:n∈FD l):n∈FR l:=by
 induction l with
 |nil=>simp[FD]at h
 |cons v r ih=>
  simp only[FR,A5];cases v<;>simp only[FD,AW]at h<;>first|exact .inr (ih h)|skip
  rcases h with h|h
  .exact .inl (by simp[EX,h])
  .exact .inr (ih h)
theorem iC{o o':Store}:∀{l:List Nat},Agree o o' l->E2 o' l=E2 o l
 |[],_=>rfl
 |n::r,h=>by
  simp only[E2];rw[h n (AY ..),iC (l:=r) (λm hm=>h m (A6 _ hm))]
theorem rO{o o':Store}{place:Nat->Option (Nat×Nat)}:∀{cs:List V} {l:List (Nat×V)},(∀i v,(i,v)∈l->Agree o o' (FB v))->MQ o' place cs l=MQ o place cs l
 |cs,[],_=>rfl
 |cs,(i,v)::r,h=>by
  simp only[MQ];have h1:SJ o' v=SJ o v:=uC (λn hn=>h i v (AY ..) n (PI hn));rw[h1];split
  .split
   .exact rO (λi v hv=>h i v (A6 _ hv))
   .rfl
  .rfl
theorem kV{o o':Store}{d e:Nat}{ag:Bool}{ks:List Kd}{bytes:Nat}{s:V}{l:LI}(h:Agree o o' (EX s)):P1 o' d e ag ks bytes s l=P1 o d e ag ks bytes s l:=by
 cases s<;>simp only[P1]
 rw[h _ (by simp[EX])]
theorem YE{o:Store}{n m:Nat}{cs:List V}:∀{l:List Nat},n∈l->DV o n=AA (.box cs)->m∈FR cs->m∈LK o l
 |x::r,hn,ho,hm=>by
  simp only[LK];rcases AW.1 hn with h|h
  .subst h;rw[ho];exact vaR _ hm
  .have:=YE h ho hm
   split
   .exact vaM _ this
   .exact this
theorem Zk{o o':Store}{d et:Nat}{e:TI}{tk:List Kd}{s x:V}(h:Agree o o' (EX s)):Z5 o' d et e tk s x=Z5 o d et e tk s x:=by
 unfold Z5;simp only[kV h]
theorem Zi{o o':Store}{d et:Nat}{e:TI}{s x:V}(h:Agree o o' (EX s))(h':Agree o o' (EX x++LK o (EX x))):XY o' d et e s x=XY o d et e s x:=by
 have gen:(match TT o' x,RE o' x with
   |some l,AA (ag,ks)=>match I5 (.list e.agg e.ks) (.list ag ks)with
    |true=>P1 o' d et e.agg e.ks e.bytes s l
    |false=>.no
   |_,_=>.no)=(match TT o x,RE o x with
   |some l,AA (ag,ks)=>match I5 (.list e.agg e.ks) (.list ag ks)with
    |true=>P1 o d et e.agg e.ks e.bytes s l
    |false=>.no
   |_,_=>.no):=by
  simp only[Fb h'.left,Pb h'.left,kV h]
 cases x
 case bview n c cap sz len=>
  simp only[XY];rw[h' n (by simp[EX])];split
  .rename_i cs ho;simp only[kV h];split
   .congr 1
    funext m
    rw[lA (o:=o) (o':=o')];intro k hk;rw[R5]at hk;exact h' k (vaM _ (YE (by simp[EX]) ho (vP (λv hv=>va7 hv) hk)))
   .rfl
  .rfl
 case zs=>simp only[XY,kV h]
 all_goals exact gen
theorem gK{o o':Store}{bs:List V}{tk:Option Kd}{v:V}(h:Agree o o' (EX v)):EZ o' bs tk v=EZ o bs tk v:=by
 cases v<;>simp only[EZ]
 all_goals rw[h _ (by simp[EX])]
theorem tF{o o':Store}{bs:List V}:∀{l:List V} {ks:List Kd},Agree o o' (FR l)->MV (λk v=>IN (EZ o' bs k v)) ks l=MV (λk v=>IN (EZ o bs k v)) ks l
 |[],ks,_=>by cases ks<;>rfl
 |v::l,[],h=>by simp only[MV,gK h.left,tF (l:=l) h.right]
 |v::l,k::ks,h=>by simp only[MV,gK h.left,tF (l:=l) h.right]
theorem Ja{o o':Store}{bs:List V}{tk:Option Kd}:∀{l:List V},Agree o o' (FR l)->l.map (EZ o' bs tk)=l.map (EZ o bs tk)
 |[],_=>rfl
 |v::l,h=>by simp only[A8,gK h.left,Ja (l:=l) h.right]
theorem pQ{o o':Store}{bs:List V}{ks:List Kd}{v:V}(h:Agree o o' (FB v)):J2 o' bs ks v=J2 o bs ks v:=by
 by_cases ha:∃l,v=.agg l
 .obtain⟨l,rfl⟩:=ha;simp only[J2,tF (o:=o) (o':=o') h]
 by_cases hc:∃f l,v=.clo f l
 .obtain⟨f,l,rfl⟩:=hc;simp only[J2,Ja (o:=o) (o':=o') (l:=l) (λn hn=>h n (bP hn))]
 have h1:∀o,J2 o bs ks v=EZ o bs ks.head? v:=by
  intro o;cases v<;>first|rfl|exact absurd ⟨_,rfl⟩ ha|exact absurd ⟨_,_,rfl⟩ hc
 rw[h1,h1];exact gK (λn hn=>h n (PI hn))
theorem pR{o o':Store}{bs:List V}:∀{l:List V} {tks:List (List Kd)},Agree o o' (HL l)->GJ o' bs tks l=GJ o bs tks l
 |[],tks,_=>by cases tks<;>rfl
 |v::l,[],h=>by simp only[GJ,pQ h.left,pR (l:=l) h.right]
 |v::l,t::ts,h=>by simp only[GJ,pQ h.left,pR (l:=l) h.right]
theorem cd{o o':Store}{all:List Nat}{v:V}(h:Agree o o' (EX v)):FS o' all v=FS o all v:=by
 cases v<;>simp only[FS]
 rw[h _ (by simp[EX])]
theorem Jc{o o':Store}{all:List Nat}:∀{l:List V},Agree o o' (FR l)->l.map (FS o' all)=l.map (FS o all)
 |[],_=>rfl
 |v::l,h=>by simp only[A8,cd h.left,Jc (l:=l) h.right]
theorem Gr{o o':Store}{all:List Nat}:∀{l:List V},Agree o o' (FR l)->HJ o' all l=HJ o all l
 |[],_=>rfl
 |v::l,h=>by
  have ih:=Gr (all:=all) (l:=l) h.right;cases v<;>simp only[HJ,ih]
  rw[h.left _ (by simp[EX])]
theorem Pc{o o':Store}{all:List Nat}:∀{l:List V},Agree o o' (FR l)->IG o' all l=IG o all l
 |[],_=>rfl
 |v::l,h=>by
  have ih:=Pc (all:=all) (l:=l) h.right;cases v<;>simp only[IG,ih]
  rw[h.left _ (by simp[EX])]
theorem zfM{v:V}{n:Nat}(h:n∈LB v):n∈FB v:=by
 cases v<;>simp only[LB]at h<;>try (cases h;done)
 case row=>simpa[FB,EX]using h
 case agg=>exact ZA h
 case clo=>exact bP (ZA h)
 case tup l=>
  simp only[FB]
  induction l with
  |nil=>simp[LB.go]at h
  |cons v r ih=>
   cases v<;>simp only[LB.go,FB.go,AW,A5]at h ⊢ <;>first|exact .inr (ih h)|skip
   .rcases h with h|h
    .exact .inl (by simp[EX,h])
    .exact .inr (ih h)
   .rcases h with h|h
    .exact .inl (ZA h)
    .exact .inr (ih h)
theorem yA:∀{l:List V} {n:Nat},n∈E6 l->n∈HL l
 |v::l,n,h=>by
  simp only[E6,HL,A5]at h ⊢;exact h.imp zfM yA
theorem iO:∀{l:List V} {n:Nat},n∈FL l->n∈HL l
 |v::l,n,h=>by
  simp only[HL,A5];cases v<;>simp only[FL,AW,A5]at h<;>first|exact .inr (iO h)|skip
  .rcases h with h|h
   .exact .inl (by simp[FB,EX,h])
   .exact .inr (iO h)
  .rename_i f caps;rcases h with h|h
   .refine .inl ?_;simp only[FB];refine bP ?_;clear iO
    induction caps with
    |nil=>simp[FL.lentC]at h
    |cons v r ih=>
     simp only[FR,A5];cases v<;>simp only[FL.lentC,AW]at h<;>first|exact .inr (ih h)|skip
     rcases h with h|h
     .exact .inl (by simp[EX,h])
     .exact .inr (ih h)
   .exact .inr (iO h)
theorem bw{o o':Store}{v:V}(h:Agree o o' (EX v)):MO o' v=MO o v:=by
 by_cases hp:∃n i c,v=.ptr n i c
 .obtain⟨n,i,c,rfl⟩:=hp;simp only[MO];rw[h _ (by simp[EX])]
 .have h1:∀o,MO o v=IN (EZ o [] AB v):=by
   intro o;cases v<;>first|rfl|exact absurd ⟨_,_,_,rfl⟩ hp
  rw[h1,h1,gK h]
theorem Jb{o o':Store}:∀{l:List V},Agree o o' (FR l)->l.map (MO o')=l.map (MO o)
 |[],_=>rfl
 |v::l,h=>by simp only[A8,bw h.left,Jb (l:=l) h.right]
theorem y5{o o':Store}{ks:List Kd}{v:V}(h:Agree o o' (FB v)):NC o' ks v=NC o ks v:=by
 by_cases hc:(∃f l,v=.clo f l)\/(∃n i c,v=.ptr n i c)
 .rcases hc with⟨f,l,rfl⟩|⟨n,i,c,rfl⟩
  .simp only[NC,Jb (o:=o) (o':=o') (l:=l) (λn hn=>h n (bP hn))]
  .rfl
 .have h1:∀o,NC o ks v=J2 o [] ks v:=by
   intro o;cases v<;>first|rfl|exact absurd (.inl ⟨_,_,rfl⟩) hc|exact absurd (.inr ⟨_,_,_,rfl⟩) hc
  rw[h1,h1,pQ h]
theorem pN{o o':Store}:∀{l:List V} {tks:List (List Kd)},Agree o o' (HL l)->KU o' tks l=KU o tks l
 |[],tks,_=>by cases tks<;>rfl
 |v::l,[],h=>by simp only[KU,y5 h.left,pN (l:=l) h.right]
 |v::l,t::ts,h=>by simp only[KU,y5 h.left,pN (l:=l) h.right]
theorem Df{o o':Store}{d:Nat}{tks:List (List Kd)}{sp:D4}{vs:List V}(h:Agree o o' (HL vs++LK o (HL vs))):VM o' d tks sp vs=VM o d tks sp vs:=by
 have hA:∀bs,GJ o' bs tks vs=GJ o bs tks vs:=λbs=>pR h.left
 have hF:∀l,(∀n∈l,n∈HL vs++LK o (HL vs))->E2 o' l=E2 o l:=λl hl=>iC (λn hn=>h n (hl n hn))
 have hFv:E2 o' (E6 vs)=E2 o (E6 vs):=hF _ (λn hn=>vaR _ (yA hn));have hF0:E2 o' []=E2 o []:=rfl;have hPl:gH o' d vs=gH o d vs:=by
  funext v out
  unfold gH;split
  .split
   .rename_i cs;cases IU cs<;>simp only[hFv,hF0]
   .simp only[hFv]
   .cases IY v<;>simp only[hFv,hF0]
  .rfl
 unfold VM;simp only[hA,hPl];split
 .rfl
 .rename_i n hl;have hn:n∈HL vs:=iO (by rw[hl];exact AY ..);rw[h n (vaR _ hn)];split
  .rename_i cs ho;have hcs:Agree o o' (FR cs):=λm hm=>h m (vaM _ (YE hn ho hm))
   have hsh:∀m∈IG o (FD cs++E6 vs) cs,m∈HL vs++LK o (HL vs):=by
    intro m hm;obtain⟨lo,hi,_,_,_,_,_,h1,_⟩:=oD hm;exact vaM _ (YE hn ho (ZA (YV h1)))
   have hBx:gG o' d n cs vs=gG o d n cs vs:=by
    funext v outs
    unfold gG;rw[Gr hcs,Pc hcs];split
    .rename_i out;have h1:E2 o' (IG o (FD cs++E6 vs) cs++E6 vs)=E2 o (IG o (FD cs++E6 vs) cs++E6 vs):=hF _ (λm hm=>(A5.1 hm).elim (hsh m) (λhm=>vaR _ (yA hm)));have h2:E2 o' (IG o (FD cs++E6 vs) cs++[])=E2 o (IG o (FD cs++E6 vs) cs++[]):=hF _ (λm hm=>hsh m (by simpa using hm));cases(IY v||IU out)<;>simp only[h1,h2]
    .rfl
   rw[Jc hcs,hBx]
  .have hBd:gF o' n vs=gF o n vs:=by
    funext v outs
    unfold gF;split
    .cases IY v<;>simp only[hFv,hF0]
    .rfl
   rw[hBd]
  .rfl
 .rw[pN h.left]
theorem Hj{o o':Store}{l:List V}(h:Agree o o' (HL l)):YL o' l=YL o l:=by
 unfold YL;split
 .rfl
 .rename_i f m i c;rw[h m (by simp[HL,FB,FB.go,EX])]
 .rfl
theorem tv{o o':Store}{d:Option Nat}{p:Ip}{vs:List V}(h:Agree o o' (HL vs)):aS o' d p vs=aS o d p vs:=by
 unfold aS;split
 .rename_i n lo hi rest;rw[h n (by simp[HL,FB,EX]),Hj (λk hk=>h k (by simp only[HL,A5];exact .inr hk))]
 .rename_i rest;rw[Hj (λk hk=>h k (by simp only[HL,A5];exact .inr hk))]
 .rfl
theorem vJ:∀(cs:List V) (n:Nat) (vs:List V) {m:Nat},m∈FR (HE cs n vs)->m∈FR cs\/m∈FR vs
 |cs,n,[],m,h=>by cases cs<;>cases n<;>exact .inl h
 |[],n,v::vs,m,h=>by cases n<;>simp[HE,FR]at h
 |c::r,0,v::vs,m,h=>by
  simp only[HE,FR,A5]at h ⊢;rcases h with h|h
  .exact .inr (.inl h)
  .rcases vJ r 0 vs h with h|h
   .exact .inl (.inr h)
   .exact .inr (.inr h)
 |c::r,n+1,v::vs,m,h=>by
  simp only[HE,FR,A5]at h ⊢;rcases h with h|h
  .exact .inl (.inl h)
  .rcases vJ r n (v::vs) h with h|h
   .exact .inl (.inr h)
   .exact .inr (by simpa[FR]using h)
theorem Dq{v:V}{m:Nat}(h:m∈FR (cells v)):m∈FB v:=by
 by_cases ha:∃l,v=.agg l
 .obtain⟨l,rfl⟩:=ha;exact h
 .have:cells v=[v]:=by cases v<;>first|rfl|exact absurd ⟨_,rfl⟩ ha
  rw[this]at h;exact PI (by simpa[FR]using h)
theorem bQ{l:List V}{v:V}{n:Nat}(hv:v∈l)(hn:n∈FB v):n∈HL l:=by
 induction l with
 |nil=>cases hv
 |cons u r ih=>
  simp only[HL,A5];rcases AW.1 hv with h|h
  .subst h;exact .inl hn
  .exact .inr (ih h)
theorem Fv{o:Store}{place:Nat->Option (Nat×Nat)}:∀{l:List (Nat×V)} {cs cs':List V},MQ o place cs l=AA cs'->∀m∈FR cs',m∈FR cs\/∃i v,(i,v)∈l/\m∈FB v
 |[],cs,cs',h,m,hm=>by
  simp only[MQ,AK]at h;subst h;exact .inl hm
 |(i,v)::r,cs,cs',h,m,hm=>by
  simp only[MQ]at h;split at h
  .split at h
   .rcases Fv h m hm with h1|⟨j,u,h1,h2⟩
    .rcases vJ _ _ _ h1 with h2|h2
     .exact .inl h2
     .exact .inr ⟨i,v,AY ..,Dq h2⟩
    .exact .inr ⟨j,u,A6 _ h1,h2⟩
   .cases h
  .cases h
theorem No{z:List V}:∀{n m:Nat},m∈FR (RA z n)->m∈FR z
 |0,m,h=>by simp[RA,FR]at h
 |n+1,m,h=>by
  simp only[RA,Ng,A5]at h;exact h.elim id (No (n:=n))
theorem uH(ρ:Operand->V):∀{l:List (Nat×Operand)} {i:Nat} {v:V},(i,v)∈L6 ρ l->v∈(l.map (·.2)).map ρ
 |(j,x)::r,i,v,h=>by
  simp only[L6,AW,A1]at h;simp only[A8,AW];rcases h with⟨_,rfl⟩|h
  .exact .inl rfl
  .exact .inr (uH ρ h)
theorem Ni:∀{l:List V} {n:Nat},n∈HL l->∃v∈l,n∈FB v
 |v::r,n,h=>by
  simp only[HL,A5]at h;rcases h with h|h
  .exact⟨v,AY ..,h⟩
  .obtain⟨u,h1,h2⟩:=Ni h;exact⟨u,A6 _ h1,h2⟩
theorem qW{o:Store}{m:Nat}:∀{l:List Nat},m∈LK o l->∃n∈l,∃cs,DV o n=AA (.box cs)/\m∈FR cs
 |n::r,h=>by
  simp only[LK]at h;split at h
  .rename_i cs ho;rcases A5.1 h with h|h
   .exact⟨n,AY ..,cs,ho,h⟩
   .obtain⟨k,h1,h2⟩:=qW h;exact⟨k,A6 _ h1,h2⟩
  .obtain⟨k,h1,h2⟩:=qW h;exact⟨k,A6 _ h1,h2⟩
theorem Ex{o:Store}{l l':List Nat}(hs:∀k∈l,k∈l'){n:Nat}(h:n∈LK o l):n∈LK o l':=by
 obtain⟨k,h1,cs,h2,h3⟩:=qW h;exact YE (hs k h1) h2 h3
theorem Di{v:V}{n:Nat}:∀{l:List V},X8 l=AC->v∈l->n∈FB v->n∈FB.go l
 |u::r,hok,hv,hn=>by
  rcases AW.1 hv with h|h
  .subst h;cases v<;>simp only[X8]at hok<;>first|(cases hok;done)|(simp only[FB,EX]at hn;simp only[FB.go,EX,A5];first|exact .inl hn|(cases hn;done))
  .have hr:X8 r=AC:=by cases u<;>simp only[X8]at hok<;>first|exact hok|(cases hok;done)
   have:=Di hr h hn
   cases u<;>simp only[FB.go,A5]<;>exact .inr this
theorem Fl{E:Env}{o o':Store}{ρ:Operand->V}{d:Option Nat}{op:Op}(h:Agree o o' (OM E o ρ op)):EJ E o' ρ d op=EJ E o ρ d op:=by
 cases hq:Ms op with
 |true=>cases op<;>first|rfl|cases hq
 |false=>
 unfold OM at h;rw[hq]at h;replace h:Agree o o' (nW E o ρ op):=h;unfold nW at h;have hz:=h.left.right;have hd:=h.right;have hv:=h.left.left;clear h;have one:∀{x:Operand} {n:Nat},x∈op.operands.toList->n∈FB (ρ x)->DV o' n=DV o n:=λhx hn=>hv _ (bQ (vaZ hx) hn)
 have two:∀{x:Operand} {n:Nat} {cs:List V},x∈op.operands.toList->n∈FB (ρ x)->DV o n=AA (.box cs)->Agree o o' (FR cs):=λhx hn ho m hm=>hd _ (YE (bQ (vaZ hx) hn) ho hm)
 cases op
 case box t x=>
  simp only[EJ];rw[uC (λn hn=>one (x:=x) (by simp[CP]) (PI hn))]
 case build t parts=>
  have hp:∀i v,(i,v)∈L6 ρ parts.toList->Agree o o' (FB v):=λi v hm n hn=>hv _ (bQ (by have:=uH ρ hm;simpa[CP]using this) hn)
  simp only[EJ,rO hp]
 case buildSlice t len parts=>
  have hp:∀i v,(i,v)∈L6 ρ parts.toList->Agree o o' (FB v):=λi v hm n hn=>hv _ (bQ (by have:=uH ρ hm;simpa[CP]using this) hn)
  simp only[EJ];split
  .rename_i d e hd1;simp only[yR,hd1]at hz;rw[rO hp];split
   .rename_i cs hf;have hcs:Agree o o' (FR cs):=by
     intro m hm;rcases Fv hf m hm with h1|⟨i,v,h1,h2⟩
     .exact hz m (No h1)
     .exact hp i v h1 m h2
    rw[lA hcs,iC (λm hm=>hcs m (ZA hm))]
   .rfl
  .rfl
 case load t x=>
  simp only[EJ];split
  .rename_i n i c hx;rw[one (x:=x) (by simp[CP]) (by rw[hx];simp[FB,EX])]
  .rfl
  .rfl
 case nilCheck x=>
  simp only[EJ];split
  .rename_i n i c hx;rw[one (x:=x) (by simp[CP]) (by rw[hx];simp[FB,EX])]
  .rfl
 case fieldAddr s x f=>
  simp only[EJ];split
  .split
   .split
    .rename_i n i c hx;rw[one (x:=x) (by simp[CP]) (by rw[hx];simp[FB,EX])]
    .rfl
    .rfl
   .rfl
  .rfl
 case binOp op t x y t'=>
  simp only[EJ];unfold kY;split<;>try rfl
  rename_i n i c hx hy;rw[one (x:=x) (by simp[CP]) (by rw[hx];simp[FB,EX])]
 case convert s t x=>
  simp only[EJ];split<;>try rfl
  rw[Fb (λn hn=>one (x:=x) (by simp[CP]) (PI hn)),Pb (λn hn=>one (x:=x) (by simp[CP]) (PI hn))]
 case slice t x lo hi mx=>
  simp only[EJ];split<;>try rfl
  .rename_i n a b hx;rw[one (x:=x) (by simp[CP]) (by rw[hx];simp[FB,EX])]
  .rename_i n a c hx;rw[one (x:=x) (by simp[CP]) (by rw[hx];simp[FB,EX])]
 case indexAddr t x ix=>
  simp only[EJ];split
  .split
   .rfl
   .rename_i n lo hi hx;rw[one (x:=x) (by simp[CP]) (by rw[hx];simp[FB,EX])]
   .rename_i n c cap sz len hx;rw[one (x:=x) (by simp[CP]) (by rw[hx];simp[FB,EX])]
   .rfl
  .split
   .rename_i n i0 c hx;rw[one (x:=x) (by simp[CP]) (by rw[hx];simp[FB,EX])]
   .rfl
   .rfl
  .rfl
 case store t p x=>
  simp only[EJ];have hx:Agree o o' (FB (ρ x)):=λn hn=>one (x:=x) (by simp[CP]) hn
  have hc:Agree o o' (FR (cells (ρ x))):=λn hn=>hx n (Dq hn)
  unfold RI;split
  .rename_i n i c hp;rw[one (x:=p) (by simp[CP]) (by rw[hp];simp[FB,EX]),uC (λn hn=>hx n (PI hn)),uA hc,iC (λm hm=>hc m (ZA hm))];simp only[iN hc]
  .rfl
 case makeSlice t n m=>
  simp only[EJ];split
  .rename_i d e k1 n1 k2 m1 hd1 _ _;simp only[yR,hd1]at hz;rw[lA hz];split
   .rw[iC (λm hm=>hz m (ZA hm))]
   .rfl
  .rfl
 case makeMap t r=>rfl
 case insert t m k x=>
  simp only[EJ];split<;>try rfl
  rename_i n i c z e k' hm _ _;rw[one (x:=m) (by simp[CP]) (by rw[hm];simp[FB,EX])];simp only[mQ (λn hn=>one (x:=x) (by simp[CP]) (PI hn))]
 case mapUpdate t m k x=>
  simp only[EJ];split<;>try rfl
  rename_i n i c z e k' hm _ _;rw[one (x:=m) (by simp[CP]) (by rw[hm];simp[FB,EX])];simp only[mQ (λn hn=>one (x:=x) (by simp[CP]) (PI hn))]
 case lookup t m k ok=>
  simp only[EJ];split<;>try rfl
  rename_i n i c z e k' hm _ _;rw[one (x:=m) (by simp[CP]) (by rw[hm];simp[FB,EX])]
 case mapEntry t m k=>
  simp only[EJ];split<;>try rfl
  rename_i n i c z e k' hm _ _;rw[one (x:=m) (by simp[CP]) (by rw[hm];simp[FB,EX])]
 case entryStore t m k x=>
  simp only[EJ];split<;>try rfl
  rename_i n i c z hm _;rw[one (x:=m) (by simp[CP]) (by rw[hm];simp[FB,EX])];simp only[mQ (λn hn=>one (x:=x) (by simp[CP]) (PI hn))]
 case range t x=>
  simp only[EJ];split<;>try rfl
  rename_i n i c d e k' hm _;rw[one (x:=x) (by simp[CP]) (by rw[hm];simp[FB,EX])]
 case entry x=>
  simp only[EJ];split<;>try rfl
  rename_i n i c hm;rw[one (x:=x) (by simp[CP]) (by rw[hm];simp[FB,EX])]
 case call c=>
  obtain⟨callee,args,ats⟩:=c;simp only[EJ,TQ];have hmem:∀{x:Operand},x∈args.toList->x∈(Op.call ⟨callee,args,ats⟩).operands.toList:=λ{x} hx=>by
   simp only[CP,Call.operands,vaj,A5];exact .inr hx
  have harg:∀{x:Operand},x∈args.toList->Agree o o' (FB (ρ x)):=λ{x} hx n hn=>one (x:=x) (hmem hx) hn
  have hdp:∀{x:Operand},x∈args.toList->Agree o o' (EX (ρ x)++LK o (EX (ρ x))):=λ{x} hx n hn=>by
   rcases A5.1 hn with hn|hn
   .exact harg hx n (PI hn)
   .refine hd n (Ex (λk hk=>bQ (vaZ (hmem hx)) (PI hk)) hn)
  have hsub:∀(l:List V),(∀v∈l,∃y∈(Op.call ⟨callee,args,ats⟩).operands.toList,∀n∈FB v,n∈FB (ρ y))->Agree o o' (HL l++LK o (HL l)):=by
   intro l hl n hn;have h1:∀k∈HL l,k∈HL ((Op.call ⟨callee,args,ats⟩).operands.toList.map ρ):=by
    intro k hk;obtain⟨v,hv1,hv2⟩:=Ni hk;obtain⟨y,hy1,hy2⟩:=hl v hv1;exact bQ (vaZ hy1) (hy2 k hv2)
   rcases A5.1 hn with hn|hn
   .exact hv n (h1 n hn)
   .exact hd n (Ex h1 hn)
  split
  .split
   .rename_i x t hx _;have hxm:x∈args.toList:=by rw[hx];simp
    have:=hdp hxm
    unfold mU;split<;>try rfl
    .rename_i n lo hi hr;rw[this.left n (by rw[hr];simp[EX])]
    .rename_i n c cap sz len hr;rw[this.left n (by rw[hr];simp[EX])]
   .rfl
  .split
   .rename_i s x t t' hx _;have hsm:s∈args.toList:=by rw[hx];simp
    have hxm:x∈args.toList:=by rw[hx];simp
    simp only[Zi (hdp hsm).left (hdp hxm),Zk (hdp hsm).left]
   .rfl
  .split
   .rename_i x y t t' hx _;have hxm:x∈args.toList:=by rw[hx];simp
    have hym:y∈args.toList:=by rw[hx];simp
    unfold lF;split
    .rename_i n c cap sz len n' c' cap' sz' len' h1 h2;rw[(hdp hxm).left n (by rw[h1];simp[EX]),(hdp hym).left n' (by rw[h2];simp[EX])];split
     .rename_i cs cs' e ho ho' hde;rw[uA (o:=o) (o':=o') (l:=cs') (λm hm=>(hdp hym).right m (YE (by rw[h2];simp[EX]) ho' hm))]
     .rfl
    .rfl
   .rfl
  .rfl
  .rfl
  .rename_i f d hcal;have hs:=hsub (args.toList.map ρ) (λv hv=>by
    obtain⟨y,hy,rfl⟩:=CU.1 hv;exact⟨y,hmem hy,λn hn=>hn⟩)
   unfold qB;rw[iW];split
   .rw[tv hs.left]
   .split
    .rw[Df hs]
    .rfl
  .split
   .rename_i f caps hx;split
    .rename_i hok;rw[iW,Df (hsub _ (λv hv=>by
      rcases A5.1 hv with hv|hv
      .obtain⟨y,hy,rfl⟩:=CU.1 hv;exact⟨y,hmem hy,λn hn=>hn⟩
      .refine⟨_,by simp only[CP,Call.operands,vaj,A5];exact .inl (AY ..),λn hn=>?_⟩;rw[hx];simp only[FB];exact Di hok hv hn))]
    .rfl
   .rfl
  .rfl
 case makeFunc f a b=>cases f<;>rfl
 all_goals rfl
open Go Go.RowKit
theorem uF{ρ ρ':Operand->V}:∀{l:List (Nat×Operand)},(∀x∈l.map (·.2),ρ x=ρ' x)->L6 ρ l=L6 ρ' l
 |[],_=>rfl
 |(i,x)::r,h=>by
  simp only[L6,h x (by simp),uF (l:=r) (λy hy=>h y (A6 _ hy))]
theorem tI{ρ ρ':Operand->V}:∀{l:List Operand},(∀x∈l,ρ x=ρ' x)->KN ρ l=KN ρ' l
 |[],_=>rfl
 |x::r,h=>by simp only[KN,h x (AY ..),tI (l:=r) (λy hy=>h y (A6 _ hy))]
theorem Ku{ρ ρ':Operand->V}{x:Option Operand}(h:∀y∈x.toArray.toList,ρ y=ρ' y):x.map ρ=x.map ρ':=by
 cases x with
 |none=>rfl
 |some x=>simp only[vaf,h x (by simp)]
theorem fp{E:Env}{o:Store}{ρ ρ':Operand->V}{d:Option Nat}{op:Op}(h:∀x∈op.operands.toList,ρ x=ρ' x):EJ E o ρ d op=EJ E o ρ' d op:=by
 cases op
 case build t ps=>simp only[EJ,uF (l:=ps.toList) (λx hx=>h x (by simpa[CP]using hx))]
 case buildSlice t n ps=>simp only[EJ,uF (l:=ps.toList) (λx hx=>h x (by simpa[CP]using hx))]
 case makeFunc f first caps=>
  cases f<;>simp only[EJ]
  rw[tI (l:=caps.toList) (λx hx=>h x (by simp only[CP,vaj,A5];exact .inr hx))]
 case slice t x lo hi mx=>
  have h1:ρ x=ρ' x:=h x (by simp[CP]);have h2:lo.map ρ=lo.map ρ':=Ku (λy hy=>h y (by simp only[CP,vaj,A5];exact .inl (.inl (.inr hy))));have h3:hi.map ρ=hi.map ρ':=Ku (λy hy=>h y (by simp only[CP,vaj,A5];exact .inl (.inr hy)));simp only[EJ,h1,h2,h3]
 case call c=>
  obtain⟨callee,args,ats⟩:=c;have ha:∀x∈args.toList,ρ x=ρ' x:=λx hx=>h x (by simp only[CP,Call.operands,vaj,A5];exact .inr hx)
  have hm:KN ρ args.toList=KN ρ' args.toList:=tI ha;simp only[EJ,TQ];split
  .split
   .rename_i x t hx _;rw[ha x (by rw[hx];simp)]
   .rfl
  .split
   .rename_i s x t t' hx _;rw[ha s (by rw[hx];simp),ha x (by rw[hx];simp)]
   .rfl
  .split
   .rename_i x y t t' hx _;rw[ha x (by rw[hx];simp),ha y (by rw[hx];simp)]
   .rfl
  .simp only[hm]
  .simp only[hm]
  .simp only[hm]
  .rename_i x _ _;have hxx:ρ x=ρ' x:=h x (by simp[CP,Call.operands]);simp only[hm,hxx]
  .rfl
 all_goals first
  |rfl
  |(simp only[CP]at h;simp only[EJ];simp(config:={decide:=AD}) only[AW,CC,C7,forall_eq_or_imp,forall_eq]at h;simp only[h])
structure SEq (s s':St):Prop where
 t:∀i,s.get i=s'.get i
 o:∀n,DV s.o n=DV s'.o n
theorem SEq.refl(s:St):SEq s s:=⟨λ_=>rfl,λ_=>rfl⟩
theorem SEq.symm{s s':St}(h:SEq s s'):SEq s' s:=⟨λi=>(h.t i).symm,λn=>(h.o n).symm⟩
theorem SEq.trans{a b c:St}(h:SEq a b)(k:SEq b c):SEq a c:=⟨λi=>(h.t i).trans (k.t i),λn=>(h.o n).trans (k.o n)⟩
theorem SEq.opd{s s':St}(h:SEq s s'):opd s=opd s':=by
 funext x
 cases x<;>simp only[FM.opd,h.t]
theorem SEq.put{s s':St}(h:SEq s s')(d:Option Nat)(v:V):SEq (s.put d v) (s'.put d v):=by
 cases d with
 |none=>exact h
 |some d=>exact⟨λi=>by simp only[St.put,St.get,SA];split<;>first|rfl|exact h.t i,h.o⟩
theorem me(s:St)(d:Nat)(v:V)(i:Nat):(s.put (AA d) v).get i=if d=i then v else s.get i:=by simp only[St.put,St.get,SA]
theorem SEq.up{s s':St}(h:SEq s s')(u:Upd):SEq (s.up u) (s'.up u):=by
 cases u with
 |new n ob=>exact⟨λi=>by rw[iF,iF,h.t],λm=>by rw[GS,GS,h.o]⟩
 |set n ob=>exact⟨h.t,λm=>by simp only[St.up,EP,h.o]⟩
 |kill n=>exact⟨h.t,λm=>by simp only[St.up,EP,h.o]⟩
theorem SEq.ups:∀{us:List Upd} {s s':St},SEq s s'->SEq (s.ups us) (s'.ups us)
 |[],_,_,h=>h
 |u::r,_,_,h=>SEq.ups (us:=r) (h.up u)
theorem SEq.lit{s:St}{j:Nat}{b:Bool}(h:s.get j=.bool b):SEq s (OH s j b):=
 ⟨λi=>by
  simp only[OH,St.get,SA];split
  .rename_i e;subst e;exact h
  .rfl,λ_=>rfl⟩
theorem oZ:∀{us:List Upd} {o o':Store},(∀n,DV o n=DV o' n)->∀n,DV (KF us o) n=DV (KF us o') n
 |[],_,_,h=>h
 |.set m ob::r,o,o',h=>oZ (us:=r) (λn=>by rw[EP,EP,h])
 |.new m ob::r,o,o',h=>oZ (us:=r) (λn=>by rw[EP,EP,h])
 |.kill m::r,o,o',h=>oZ (us:=r) (λn=>by rw[EP,EP,h])
theorem WF:∀{us:List Upd} {o:Store} {n:Nat},n∉JG us->DV (KF us o) n=DV o n
 |[],_,_,_=>rfl
 |.set m ob::r,o,n,h=>by
  simp only[JG,AW,not_or]at h;rw[KF,WF h.2,EP,BO (λe=>h.1 e.symm)]
 |.new m ob::r,o,n,h=>by
  simp only[JG,AW,not_or]at h;rw[KF,WF h.2,EP,BO (λe=>h.1 e.symm)]
 |.kill m::r,o,n,h=>by
  simp only[JG,AW,not_or]at h;rw[KF,WF h.2,EP,BO (λe=>h.1 e.symm)]
theorem xX:∀{us:List Upd} {o o':Store} {n:Nat},n∈JG us->DV (KF us o) n=DV (KF us o') n
 |[],_,_,_,h=>by simp[JG]at h
 |u::r,o,o',n,h=>by
  by_cases hr:n∈JG r
  .cases u<;>simp only[KF]<;>exact xX hr
  .cases u<;>simp only[JG,AW,hr,C7]at h<;>subst h<;>simp only[KF]<;>rw[WF hr,WF hr,EP,EP,BX rfl,BX rfl]
theorem SEq.apD{s s':St}(h:SEq s s')(x:Dn):SEq (apD s x) (apD s' x):=⟨(h.put x.dst x.v).t,oZ h.o⟩
theorem SEq.apDs:∀{l:List Dn} {s s':St},SEq s s'->SEq (apDs s l) (apDs s' l)
 |[],_,_,h=>h
 |x::r,_,_,h=>SEq.apDs (l:=r) (h.apD x)
theorem pL:∀(l l':List Dn) (s:St),apDs s (l++l')=apDs (apDs s l) l'
 |[],_,_=>rfl
 |x::r,l',s=>pL r l' (apD s x)
theorem Id{n:Nat}{v:V}(hc:aG v=AC)(hn:n∉EX v):F9.leaf n v=v:=by
 cases v<;>simp only[aG]at hc<;>first|(cases hc;done)|rfl|skip
 .simp only[EX,BZ]at hn;simp only[F9.leaf,I4.2 (λe=>hn e.symm)]
 .simp only[EX,BZ]at hn;simp only[F9.leaf,I4.2 (λe=>hn e.symm)]
theorem mS{n:Nat}:∀{l:List V},aH l=AC->n∉FR l->l.map (F9.leaf n)=l
 |[],_,_=>rfl
 |v::r,hc,hn=>by
  simp only[aH]at hc;split at hc
  .rename_i h1;simp only[FR,A5,not_or]at hn;simp only[A8,Id h1 hn.1,mS hc hn.2]
  .cases hc
theorem s8{n:Nat}:∀{l:List V},Q1.go l=AC->n∉FB.go l->l.map (F9.leaf2 n)=l
 |[],_,_=>rfl
 |v::r,hc,hn=>by
  by_cases ha:∃l,v=.agg l
  .obtain⟨l,rfl⟩:=ha;simp only[Q1.go]at hc;split at hc
   .rename_i h1;simp only[FB.go,A5,not_or]at hn;simp only[A8,F9.leaf2,mS h1 hn.1,s8 hc hn.2]
   .cases hc
  .have h0:F9.leaf2 n v=F9.leaf n v:=by cases v<;>first|rfl|exact absurd ⟨_,rfl⟩ ha
   have h1:aG v=AC/\Q1.go r=AC:=by
    cases v<;>simp only[Q1.go,aG]at hc ⊢ <;>first|(simp at hc;done)|(simpa using hc)|(cases hc;done)|exact absurd ⟨_,rfl⟩ ha
   have h2:n∉EX v/\n∉FB.go r:=by
    cases v<;>simp only[FB.go,A5,not_or]at hn<;>first|exact hn|exact absurd ⟨_,rfl⟩ ha
   simp only[A8,h0,Id h1.1 h2.1,s8 h1.2 h2.2]
theorem Oq{n:Nat}{v:V}(hc:Q1 v=AC)(hn:n∉FB v):F9 n v=v:=by
 cases v<;>simp only[Q1]at hc<;>first|rfl|skip
 case row a b c=>simp only[FB,EX,BZ]at hn;simp only[F9,I4.2 (λe=>hn e.symm)]
 case ptr a b c=>simp only[FB,EX,BZ]at hn;simp only[F9,I4.2 (λe=>hn e.symm)]
 case bview a b c d e=>simp only[FB,EX,BZ]at hn;simp only[F9,I4.2 (λe=>hn e.symm)]
 case agg l=>simp only[F9,mS hc hn]
 case tup l=>simp only[F9,s8 hc hn]
 case clo f l=>
  have:n∉FR l:=λh=>hn (bP h)
  simp only[F9,mS hc this]
theorem Ot{n:Nat}:∀{l:List V},lB l=AC->n∉HL l->l.map (F9 n)=l
 |[],_,_=>rfl
 |v::r,hc,hn=>by
  simp only[lB]at hc;split at hc
  .rename_i h1;simp only[HL,A5,not_or]at hn;simp only[A8,Oq h1 hn.1,Ot hc hn.2]
  .cases hc
theorem oB{n:Nat}{ob:Ob}(hc:qI ob=AC)(hn:n∉jK ob):HM n (AA ob)=AA ob:=by
 cases ob with
 |box cs=>simp only[HM,Ot hc hn]
 |row _ _ _ _ _=>rfl
 |bld _=>rfl
 |map _ _=>rfl
 |iter _ _ _=>rfl
theorem Ky{p:Nat->Bool}{n:Nat}(hp:p n=AC)(v:V):F9.leaf n (G8.leaf p v)=G8.leaf p v:=by
 cases v<;>simp only[G8.leaf]<;>first|rfl|skip
 all_goals
  rename_i m _ _;cases hm:p m with
  |true=>rfl
  |false=>
   simp only[F9.leaf];rw[I4.2 (λe=>by subst e;rw[hp]at hm;cases hm)]
theorem nQ{p:Nat->Bool}{n:Nat}(hp:p n=AC):∀(l:List V),(G8.go p l).map (F9.leaf n)=G8.go p l
 |[]=>rfl
 |v::r=>by simp only[G8.go,A8,Ky hp,nQ hp r]
theorem zbO{p:Nat->Bool}{n:Nat}(hp:p n=AC)(v:V):F9.leaf2 n (G8.leaf2 p v)=G8.leaf2 p v:=by
 by_cases ha:∃l,v=.agg l
 .obtain⟨l,rfl⟩:=ha;simp only[G8.leaf2,F9.leaf2,nQ hp]
 .have h0:G8.leaf2 p v=G8.leaf p v:=by cases v<;>first|rfl|exact absurd ⟨_,rfl⟩ ha
  rw[h0]
  have:=Ky hp v
  cases hx:G8.leaf p v<;>rw[hx]at this<;>first|exact this|skip
  exfalso;cases v<;>simp only[G8.leaf]at hx<;>try (cases hx;done)
  all_goals (split at hx<;>cases hx)
theorem La{p:Nat->Bool}{n:Nat}(hp:p n=AC):∀(l:List V),(G8.go2 p l).map (F9.leaf2 n)=G8.go2 p l
 |[]=>rfl
 |v::r=>by simp only[G8.go2,A8,zbO hp,La hp r]
theorem Lc{p:Nat->Bool}{n:Nat}(hp:p n=AC)(v:V):F9 n (G8 p v)=G8 p v:=by
 have key:∀m,p m=AD->B2 m n=AD:=λm hm=>I4.2 (λe=>by subst e;rw[hp]at hm;cases hm)
 cases v<;>simp only[G8]<;>try rfl
 case row m _ _=>cases hm:p m<;>simp only[F9,key m,hm]
 case ptr m _ _=>cases hm:p m<;>simp only[F9,key m,hm]
 case bview m _ _ _ _=>cases hm:p m<;>simp only[F9,key m,hm]
 case agg l=>simp only[F9,nQ hp]
 case tup l=>simp only[F9,La hp]
 case clo f l=>simp only[F9,nQ hp]
theorem m5(f:V->V):∀l,LT.mapV f l=l.map f
 |[]=>rfl
 |v::r=>by simp only[LT.mapV,A8,m5 f r]
theorem zbQ{p:Nat->Bool}{n:Nat}(hp:p n=AC)(x:Option Ob):HM n (LT p x)=LT p x:=by
 match x with
 |none=>rfl
 |some (.row _ _ _ _ _)=>rfl
 |some (.bld _)=>rfl
 |some (.map _ _)=>rfl
 |some (.iter _ _ _)=>rfl
 |some (.box cs)=>
  simp only[LT,HM,m5,List.map_map];congr 2;exact List.map_congr_left (λv _=>Lc hp v)
structure Fr (n:Nat) (s:St):Prop where
 t:∀i,F9 n (s.get i)=s.get i
 o:∀m,HM n (DV s.o m)=DV s.o m
theorem Fr.congr{n:Nat}{s s':St}(h:Fr n s)(e:SEq s s'):Fr n s':=⟨λi=>by rw[<-e.t];exact h.t i,λm=>by rw[<-e.o];exact h.o m⟩
theorem i4{n:Nat}{l:List Nat}:K3 n l=AD↔n∉l:=by
 rw[<-iY];simp
theorem aL:∀{l l':List Nat},TR l l'=AC↔∀n∈l,n∉l'
 |[],l'=>by simp[TR]
 |m::r,l'=>by
  simp only[TR];cases hb:K3 m l' with
  |true=>simp[iY.1 hb]
  |false=>simp[i4.1 hb,aL (l:=r)]
theorem o0:∀{us:List Upd} {s:St},(∀n∈QE us,Fr n s)->QP us=AC->SEq (s.ups us) ⟨s.t,KF us s.o⟩
 |[],s,_,_=>SEq.refl s
 |.kill m::r,s,hf,ho=>by
  simp only[St.ups,KF];exact o0 (us:=r) (s:=s.up (.kill m)) (λn hn=>⟨(hf n hn).t,λk=>by
   simp only[St.up,EP];split
   .rfl
   .exact(hf n hn).o k⟩) ho
 |.set m ob::r,s,hf,ho=>by
  simp only[QP,AQ]at ho;simp only[St.ups,KF];exact o0 (us:=r) (s:=s.up (.set m ob)) (λn hn=>⟨(hf n hn).t,λk=>by
   simp only[St.up,EP];split
   .exact oB ho.1 (aL.1 ho.2.1 n hn)
   .exact(hf n hn).o k⟩) ho.2.2
 |.new m ob::r,s,hf,ho=>by
  simp only[QP,AQ]at ho;simp only[St.ups,KF];have hm:Fr m s:=hf m (by simp[QE]);have e:SEq (s.up (.new m ob)) (s.up (.set m ob)):=⟨λi=>by rw[iF,hm.t];rfl,λk=>by rw[GS,hm.o];simp only[St.up,EP]⟩;refine(e.ups (us:=r)).trans ?_;exact o0 (us:=r) (s:=s.up (.set m ob)) (λn hn=>⟨(hf n (by simp[QE,hn])).t,λk=>by
   simp only[St.up,EP];split
   .exact oB ho.1 (aL.1 ho.2.1 n hn)
   .exact(hf n (by simp[QE,hn])).o k⟩) ho.2.2
open Go Go.RowKit
def CmpP(p:Nat->Bool)(γ:Nat->Value)(o:Store)(γ':Nat->Value)(o':Store):Prop:=
 ∀n ob',p n=AD->DV o' n=AA ob'->γ' n=γ n/\∃ob,DV o n=AA ob/\ob.fits ob'
section
variable {γ γ':Nat→Value} {o o':Store} {w:World} {O:Nat→Prop} {p:Nat→Bool}
theorem CmpP.but(hc:CmpP p γ o γ' o'){n:Nat}(hn:p n=AD){v:V}(hv:v=.any\/(∃lo hi,v=.row n lo hi)\/(∃i c,v=.ptr n i c)\/∃c cap sz len,v=.bview n c cap sz len){x:Value}(h:VRel γ o w O v x):VRel γ' o' w O v x:=by
 let f:Nat->Value:=λm=>if m=n then γ' n else γ m
 rcases hv with rfl|⟨lo,hi,rfl⟩|⟨i,c,rfl⟩|⟨c,cap,sz,len,rfl⟩
 .simp only[VRel]
 .simp only[VRel]at h ⊢;cases h':DV o' n with
  |none=>trivial
  |some ob'=>
   obtain⟨hg,ob,ho,hf⟩:=hc n ob' hn h';rw[ho]at h;rw[hg];cases ob<;>cases ob'<;>simp only[Ob.fits]at hf<;>try trivial
   obtain⟨rfl,hl⟩:=hf;exact⟨by rw[<-hl];exact h.1,h.2⟩
 .simp only[VRel]at h ⊢;cases h':DV o' n with
  |none=>trivial
  |some ob'=>
   obtain⟨hg,ob,ho,hf⟩:=hc n ob' hn h';rw[ho]at h;rw[hg];cases ob<;>cases ob'<;>simp only[Ob.fits]at hf
   .exact h
   .obtain⟨rfl,hl⟩:=hf;exact⟨by rw[<-hl];exact h.1,h.2⟩
   .exact h
   .exact h
   .exact h
 .simp only[VRel]at h ⊢;cases h':DV o' n with
  |none=>trivial
  |some ob'=>
   obtain⟨hg,ob,ho,hf⟩:=hc n ob' hn h';rw[ho]at h;rw[hg];cases ob<;>cases ob'<;>simp only[Ob.fits]at hf<;>try trivial
   exact⟨h.1,h.2.1,by rw[<-hf];exact h.2.2.1,h.2.2.2⟩
theorem Kz(hc:CmpP p γ o γ' o'){v:V}{x:Value}(h:VRel γ o w O v x):VRel γ' o' w O (G8.leaf p v) x:=by
 cases v<;>simp only[G8.leaf]
 case row n lo hi=>
  cases hb:p n with
  |true=>simp only[VRel]
  |false=>exact hc.but hb (.inr (.inl ⟨_,_,rfl⟩)) h
 case ptr n i c=>
  cases hb:p n with
  |true=>simp only[VRel]
  |false=>exact hc.but hb (.inr (.inr (.inl ⟨_,_,rfl⟩))) h
 all_goals first
  |(simp only[VRel]at h ⊢;exact h)
  |simp only[VRel]
theorem nR(hc:CmpP p γ o γ' o'):∀{l:List V} {xs:List Value},VRels γ o w O l xs->VRels γ' o' w O (G8.go p l) xs
 |[],[],_=>by simp only[G8.go,VRels]
 |[],_::_,h=>by simp only[VRels]at h
 |_::_,[],h=>by simp only[VRels]at h
 |v::vs,x::xs,h=>by
  simp only[VRels,G8.go]at h ⊢;exact⟨Kz hc h.1,nR hc h.2⟩
theorem zbP(hc:CmpP p γ o γ' o'){v:V}{x:Value}(h:VRel γ o w O v x):VRel γ' o' w O (G8.leaf2 p v) x:=by
 cases v<;>simp only[G8.leaf2]<;>try exact Kz hc h
 simp only[VRel]at h ⊢;obtain⟨cs,hx,hr⟩:=h;exact⟨cs,hx,nR hc hr⟩
theorem Lb(hc:CmpP p γ o γ' o'):∀{l:List V} {xs:List Value},VRels γ o w O l xs->VRels γ' o' w O (G8.go2 p l) xs
 |[],[],_=>by simp only[G8.go2,VRels]
 |[],_::_,h=>by simp only[VRels]at h
 |_::_,[],h=>by simp only[VRels]at h
 |v::vs,x::xs,h=>by
  simp only[VRels,G8.go2]at h ⊢;exact⟨zbP hc h.1,Lb hc h.2⟩
theorem Ld(hc:CmpP p γ o γ' o'){v:V}{x:Value}(h:VRel γ o w O v x):VRel γ' o' w O (G8 p v) x:=by
 cases v<;>simp only[G8]
 case row n lo hi=>
  cases hb:p n with
  |true=>simp only[VRel]
  |false=>exact hc.but hb (.inr (.inl ⟨_,_,rfl⟩)) h
 case ptr n i c=>
  cases hb:p n with
  |true=>simp only[VRel]
  |false=>exact hc.but hb (.inr (.inr (.inl ⟨_,_,rfl⟩))) h
 case bview n c cap sz len=>
  cases hb:p n with
  |true=>simp only[VRel]
  |false=>exact hc.but hb (.inr (.inr (.inr ⟨_,_,_,_,rfl⟩))) h
 case agg l=>
  simp only[VRel]at h ⊢;obtain⟨cs,hx,hr⟩:=h;exact⟨cs,hx,nR hc hr⟩
 case tup l=>
  simp only[VRel]at h ⊢;obtain⟨cs,hx,hr⟩:=h;exact⟨cs,hx,Lb hc hr⟩
 case clo f l=>
  simp only[VRel]at h ⊢;obtain⟨cs,hx,hr⟩:=h;exact⟨cs,hx,nR hc hr⟩
 all_goals (simp only[VRel]at h ⊢;try exact h)
theorem Le(hc:CmpP p γ o γ' o'):∀{l:List V} {xs:List Value},VRels γ o w O l xs->VRels γ' o' w O (l.map (G8 p)) xs
 |[],[],_=>by simp only[CN,VRels]
 |[],_::_,h=>by simp only[VRels]at h
 |_::_,[],h=>by simp only[VRels]at h
 |v::vs,x::xs,h=>by
  simp only[VRels,A8]at h ⊢;exact⟨Ld hc h.1,Le hc h.2⟩
end
theorem qJ(p:Nat->Bool):∀(o:Store) (n:Nat),DV (aI p o) n=match p n with|true=>AB|false=>LT p (DV o n)
 |[],n=>by simp only[aI,DV,FA];cases p n<;>rfl
 |(m,x)::r,n=>by
  simp only[aI];by_cases e:m=n
  .subst e;cases hp:p m<;>simp only[EP,CX]
  .cases hp:p m<;>simp only[EP,BO e,qJ p r n]
theorem zdi{p:Nat->Bool}{x:Option Ob}{ob:Ob}(h:LT p x=AA ob):∃ob0,x=AA ob0/\LT p (AA ob0)=AA ob:=by
 cases x with
 |none=>simp[LT]at h
 |some ob0=>exact⟨ob0,rfl,h⟩
theorem jQ{p:Nat->Bool}{ob0 ob:Ob}(h:LT p (AA ob0)=AA ob):ob0.fits ob/\∀g b,FE g ob b↔FE g ob0 b:=by
 cases ob0<;>simp only[LT,AK]at h<;>subst h
 .exact⟨by simp[Ob.fits,m5],λ_ _=>Iff.rfl⟩
 .exact⟨⟨rfl,rfl⟩,λ_ _=>Iff.rfl⟩
 .exact⟨trivial,λ_ _=>Iff.rfl⟩
 .exact⟨rfl,λ_ _=>Iff.rfl⟩
 .exact⟨rfl,λ_ _=>Iff.rfl⟩
section
variable {B:BT} {nt:Nat} {w0:World} {X:Zone} {γ:Nat→Value} {st st':St} {a:Act} {w:World} {P:Program} {E:Env}
theorem Rel.less(h:Rel B nt w0 X γ st a w){st':St}(ht:∀i,st'.get i=st.get i\/st'.get i=.any)(ho:∀n ob,DV st'.o n=AA ob->DV st.o n=AA ob):Rel B nt w0 X γ st' a w:=by
 have hP:∀b,FN γ st'.o b->FN γ st.o b:=λb ⟨n,ob,h1,h2⟩=>⟨n,ob,ho n ob h1,h2⟩
 have hO:∀b,b<w.heap.size->DY X γ st'.o b->DY X γ st.o b:=λb _ hb=>hb.imp_left (hP b)
 have hc:Cmp γ st.o γ st'.o:=λn ob hn=>⟨rfl,ob,ho n ob hn,ob.fits_refl⟩
 refine⟨h.sz,h.df,λi=>?_,λn ob hn=>(h.ob n ob (ho n ob hn)).later (λ_ _=>rfl) (Keep.refl _ w) hO hc,λb hb=>h.lt b (hP b hb),λn m ob ob' b hne h1 h2=>h.dis n m ob ob' b hne (ho n ob h1) (ho m ob' h2),h.keep,λb hb=>h.nr b (hP b hb),h.fl,λp hp ob h1=>h.pn p hp ob (ho _ ob h1)⟩;rcases ht i with h1|h1
 .rw[h1];exact VRel.mono (Keep.refl _ w) hO (VRel.cmp hc (h.tm i))
 .rw[h1];simp only[VRel]
theorem Rel.lit(h:Rel B nt w0 X γ st a w){i:Nat}{v:V}(hv:st.get i=v):Rel B nt w0 X γ ⟨(i,v)::st.t,st.o⟩ a w:=by
 refine h.less (λj=>?_) (λ_ _ h=>h);simp only[St.get,SA];by_cases e:i=j
 .subst e;simp only[CX];exact .inl hv.symm
 .simp only[BO e];exact .inl trivial
theorem g9:∀(ops:List Oper) (j d:Nat),P5 ops j=AA d->(ops[j]?).bind (·.dst)=AA d
 |[],j,d,h=>by simp[P5]at h
 |o::r,0,d,h=>by simpa[P5]using h
 |o::r,j+1,d,h=>by simpa[P5]using g9 r j d (by simpa[P5]using h)
theorem zY(h:Rel B nt w0 X γ st a w){i:Nat}{c:Bool}(hv:st.get i=.bool c):a.tmps[i]?=AA (.bool c):=by
 have:=h.tm i
 rw[hv]at this;simp only[VRel,vbm]at this;cases ht:a.tmps[i]? with
 |none=>rw[ht]at this;simp[undef]at this
 |some u=>rw[ht]at this;simp only[vam]at this;rw[this]
theorem Uu(h:Rel B nt w0 X γ st a w){i:Nat}(hv:st.get i=.tup []):a.tmps[i]?=AB\/a.tmps[i]?=AA (.tuple #[]):=by
 have:=h.tm i
 rw[hv]at this;simp only[VRel,vbm]at this;obtain⟨cs,h1,h2⟩:=this;cases hl:cs.toList with
 |nil=>
  have e:cs= #[]:=by simpa using hl
  rw[e]at h1;cases ht:a.tmps[i]? with
  |none=>exact .inl rfl
  |some u=>rw[ht]at h1;simp only[vam]at h1;rw[h1];exact .inr rfl
 |cons x l=>rw[hl]at h2;simp only[VRels]at h2
theorem Rel.clear(h:Rel B nt w0 X γ st a w)(ds:List Nat):Rel B nt w0 X γ (OA ds st) a w:=by
 have hget:∀n ob,DV (OA ds st).o n=AA ob->P8 ds n=AD/\∃ob0,DV st.o n=AA ob0/\LT (P8 ds) (AA ob0)=AA ob:=by
  intro n ob hn;simp only[OA,qJ]at hn;split at hn
  .cases hn
  .rename_i hp;exact⟨hp,zdi hn⟩
 have hP:∀b,FN γ (OA ds st).o b->FN γ st.o b:=by
  rintro b ⟨n,ob,h1,h2⟩;obtain⟨_,ob0,h3,h4⟩:=hget n ob h1;exact⟨n,ob0,h3,((jQ h4).2 _ _).1 h2⟩
 have hO:∀b,b<w.heap.size->DY X γ (OA ds st).o b->DY X γ st.o b:=λb _ hb=>hb.imp_left (hP b)
 have hc:CmpP (P8 ds) γ st.o γ (OA ds st).o:=by
  intro n ob' _ hn;obtain⟨_,ob0,h3,h4⟩:=hget n ob' hn;exact⟨rfl,ob0,h3,(jQ h4).1⟩
 refine⟨h.sz,h.df,λi=>?_,λn ob hn=>?_,λb hb=>h.lt b (hP b hb),λn m ob ob' b hne h1 h2 hb1 hb2=>?_,h.keep,λb hb=>h.nr b (hP b hb),h.fl,λp hp ob h1=>?_⟩
 .have:(OA ds st).get i=G8 (P8 ds) (st.get i):=by
   simp only[OA,St.get];exact iR _ _ rfl _ _
  rw[this];exact VRel.mono (Keep.refl _ w) hO (Ld hc (h.tm i))
 .obtain⟨_,ob0,h3,h4⟩:=hget n ob hn;have hor:=h.ob n ob0 h3;cases ob0 with
  |box l=>
   simp only[LT,AK]at h4;subst h4;simp only[ObRel]at hor ⊢;obtain⟨b,c,T,hg,hh,hr⟩:=hor;rw[m5];exact⟨b,c,T,hg,hh,VRels.mono (Keep.refl _ w) hO (Le hc hr)⟩
  |row own e ag ks l=>
   simp only[LT,AK]at h4;subst h4;exact hor.later (λ_ _=>rfl) (Keep.refl _ w) hO (λm ob1 hm=>by
    obtain⟨_,ob0,h5,h6⟩:=hget m ob1 hm;exact⟨rfl,ob0,h5,(jQ h6).1⟩)
  |bld s=>
   simp only[LT,AK]at h4;subst h4;simpa only[ObRel]using hor
  |map vk es=>
   simp only[LT,AK]at h4;subst h4;simp only[ObRel]at hor ⊢;obtain⟨h0,b,ents,hg,q1,q2⟩:=hor;exact⟨h0,b,ents,hg,q1,EntRel.mono (Keep.refl _ w) hO q2⟩
  |iter vk last rest=>
   simp only[LT,AK]at h4;subst h4;simp only[ObRel]at hor ⊢;obtain⟨h0,r,b,since,seen,ents,clock,hg,q1,q2,q3⟩:=hor;exact⟨h0,r,b,since,seen,ents,clock,hg,q1,q2,IterRel.mono (Keep.refl _ w) hO q3⟩
 .obtain⟨_,ob0,h3,h4⟩:=hget n ob h1;obtain⟨_,ob1,h5,h6⟩:=hget m ob' h2;exact h.dis n m ob0 ob1 b hne h3 h5 (((jQ h4).2 _ _).1 hb1) (((jQ h6).2 _ _).1 hb2)
 .obtain⟨_,ob0,h3,_⟩:=hget _ ob h1;exact h.pn p hp ob0 h3
theorem Rel.seq(h:Rel B nt w0 X γ st a w)(e:SEq st st'):Rel B nt w0 X γ st' a w:=
 h.less (λi=>.inl (e.t i).symm) (λn ob hn=>by rw[e.o];exact hn)
end
theorem ck{ds:List Nat}{n:Nat}(hn:P8 ds n=AC)(s:St):Fr n (OA ds s):=by
 refine⟨λi=>?_,λm=>?_⟩
 .have:(OA ds s).get i=G8 (P8 ds) (s.get i):=by
   simp only[OA,St.get];exact iR _ _ rfl _ _
  rw[this];exact Lc hn _
 .simp only[OA,qJ];split
  .rfl
  .exact zbQ hn _
def StepOK(E:Env)(all:List Oper)(o:Oper)(s:St)(D:Dn):Prop:=
 Q8 E o.dst=AC/\D.dst=o.dst/\D.tm=M4 all o/\
 match o.guard with
 |none=>(EJ E s.o (opd s) o.dst o.op).get=AA (D.v,D.us)/\D.rd=OM E s.o (opd s) o.op
 |some (j,b)=>(∃dj c,P5 all j=AA dj/\s.get dj=.bool c/\
  ((c=b/\(EJ E s.o (opd s) o.dst o.op).get=AA (D.v,D.us)/\D.rd=OM E s.o (opd s) o.op)\/(c≠b/\D.v=.tup []/\D.us=[])))\/
  (∃dj,P5 all j=AA dj/\s.get dj=.tup []/\D.v=.tup []/\D.us=[])
def Steps(E:Env)(all:List Oper):List Oper->St->List Dn->Prop
 |[],_,[]=>True
 |o::r,s,D::Ds=>StepOK E all o s D/\Steps E all r (apD s D) Ds
 |_,_,_=>False
theorem StepOK.congr{E:Env}{all:List Oper}{o:Oper}{s s':St}{D:Dn}(h:StepOK E all o s D)(e:SEq s s'):StepOK E all o s' D:=by
 have hag:∀(ρ:Operand->V) d op,EJ E s'.o ρ d op=EJ E s.o ρ d op:=λρ d op=>Fl (λn _=>(e.o n).symm)
 have hdp:∀l,LK s'.o l=LK s.o l:=by
  intro l
  induction l with
  |nil=>rfl
  |cons n r ih=>simp only[LK,ih,e.o]
 have hrd:∀(ρ:Operand->V) op,OM E s'.o ρ op=OM E s.o ρ op:=λρ op=>by unfold OM nW;rw[hdp]
 unfold StepOK at h ⊢;refine⟨h.1,h.2.1,h.2.2.1,?_⟩;have h3:=h.2.2.2;rw[<-e.opd];simp only[hag,hrd];split at h3
 .exact h3
 .rcases h3 with⟨dj,c,h4,h5,h6⟩|⟨dj,h4,h5,h6⟩
  .exact .inl ⟨dj,c,h4,by rw[<-e.t];exact h5,h6⟩
  .exact .inr ⟨dj,h4,by rw[<-e.t];exact h5,h6⟩
theorem Steps.congr{E:Env}{all:List Oper}:∀{l:List Oper} {s s':St} {Ds:List Dn},Steps E all l s Ds->SEq s s'->Steps E all l s' Ds
 |[],_,_,[],_,_=>trivial
 |[],_,_,_::_,h,_=>by simp[Steps]at h
 |_::_,_,_,[],h,_=>by simp[Steps]at h
 |o::r,s,s',D::Ds,h,e=>by
  simp only[Steps]at h ⊢;exact⟨h.1.congr e,Steps.congr h.2 (e.apD D)⟩
theorem Fk{E:Env}{all:List Oper}{res:V×List (List V)}:∀(l:List Oper) {s:St} {acc:List Dn} {k:List Dn->St->DU},Q7 E all l s acc k=AA res->
  ∃Ds s',Steps E all l s Ds/\SEq s' (apDs s Ds)/\k (Ds.reverse++acc) s'=AA res
 |[],s,acc,k,h=>⟨[],s,trivial,SEq.refl s,by simpa[Q7]using h⟩
 |o::r,s,acc,k,h=>by
  simp only[Q7]at h;have hd:Q8 E o.dst=AC:=by
   cases hd:Q8 E o.dst with
   |true=>rfl
   |false=>rw[hd]at h;cases h
  rw[hd]at h;simp only at h;have fin:∀(s1:St) (D:Dn),SEq s s1->StepOK E all o s1 D->Q7 E all r (apD s1 D) (D::acc) k=AA res->
    ∃Ds s',Steps E all (o::r) s Ds/\SEq s' (apDs s Ds)/\k (Ds.reverse++acc) s'=AA res:=by
   intro s1 D e hs he;obtain⟨Ds,s',h1,h2,h3⟩:=Fk r he;refine⟨D::Ds,s',⟨hs.congr e.symm,h1.congr (e.symm.apD D)⟩,h2.trans ((e.symm.apD D).apDs),?_⟩;simpa using h3
  split at h
  .rename_i hg;obtain⟨v,us,h1,h2⟩:=T.run_some h;exact fin s _ (SEq.refl s) ⟨hd,rfl,rfl,by rw[hg];exact⟨h1,rfl⟩⟩ h2
  .rename_i j b hg;split at h
   .rename_i dj hdj;split at h
    .rename_i c hc;have hl:∀c',(OH s dj c').get dj=.bool c':=λc'=>by simp[OH,St.get,SA]
     cases c with
     |true=>
      have e:=SEq.lit hc;cases b with
      |true=>
       simp only at h;obtain⟨v,us,h1,h2⟩:=T.run_some h;exact fin _ _ e ⟨hd,rfl,rfl,by rw[hg];exact .inl ⟨dj,AC,hdj,hl _,.inl ⟨rfl,h1,rfl⟩⟩⟩ h2
      |false=>exact fin _ _ e ⟨hd,rfl,rfl,by rw[hg];exact .inl ⟨dj,AC,hdj,hl _,.inr ⟨by simp,rfl,rfl⟩⟩⟩ h
     |false=>
      have e:=SEq.lit hc;cases b with
      |false=>
       simp only at h;obtain⟨v,us,h1,h2⟩:=T.run_some h;exact fin _ _ e ⟨hd,rfl,rfl,by rw[hg];exact .inl ⟨dj,AD,hdj,hl _,.inl ⟨rfl,h1,rfl⟩⟩⟩ h2
      |true=>exact fin _ _ e ⟨hd,rfl,rfl,by rw[hg];exact .inl ⟨dj,AD,hdj,hl _,.inr ⟨by simp,rfl,rfl⟩⟩⟩ h
    .rename_i hc;exact fin _ _ (SEq.refl s) ⟨hd,rfl,rfl,by rw[hg];exact .inr ⟨dj,hdj,hc,rfl,rfl⟩⟩ h
    .cases h
   .cases h
theorem Steps.length{E:Env}{all:List Oper}:∀{l:List Oper} {s:St} {Ds:List Dn},Steps E all l s Ds->Ds.length=l.length
 |[],_,[],_=>rfl
 |[],_,_::_,h=>by simp[Steps]at h
 |_::_,_,[],h=>by simp[Steps]at h
 |_::_,_,_::_,h=>by simp only[AV,Steps.length h.2]
theorem Steps.get{E:Env}{all:List Oper}:∀{l:List Oper} {s:St} {Ds:List Dn} {i:Nat} {o:Oper} {D:Dn},Steps E all l s Ds->l[i]?=AA o->Ds[i]?=AA D->StepOK E all o (apDs s (Ds.take i)) D
 |[],_,_,_,_,_,_,h,_=>by simp at h
 |_::_,_,[],_,_,_,_,_,h=>by simp at h
 |o::r,s,D::Ds,0,_,_,h,h1,h2=>by
  simp only[CA,AK]at h1 h2;subst h1;subst h2;exact h.1
 |o::r,s,D::Ds,i+1,_,_,h,h1,h2=>by
  simp only[C5]at h1 h2;simp only[List.take_succ_cons,apDs];exact Steps.get h.2 h1 h2
def E9(L:Nat->Bool):Nat->List Dn->List Dn
 |_,[]=>[]
 |i,D::r=>match L i with|true=>D::E9 L (i+1) r|false=>E9 L (i+1) r
theorem bX{L L':Nat->Bool}:∀(l:List Dn) (i:Nat),(∀j,i<=j->j<i+l.length->L j=L' j)->E9 L i l=E9 L' i l
 |[],_,_=>rfl
 |D::r,i,h=>by
  simp only[E9];rw[h i (A4 i) (by simp),bX r (i+1) (λj h1 h2=>h j AG (by simp only[AV];omega))]
theorem jS:∀(l:List Dn) (i:Nat),E9 (λ_=>AD) i l=[]
 |[],_=>rfl
 |D::r,i=>by simp only[E9,jS r]
theorem Oz:∀(l:List Dn) (i:Nat),E9 (λ_=>AC) i l=l
 |[],_=>rfl
 |D::r,i=>by simp only[E9,Oz r]
theorem Pa(k:Nat):∀(l:List Dn) (i:Nat),E9 (λj=>AE (j<i+k)) i l=l.take k
 |[],i=>by simp[E9]
 |D::r,i=>by
  cases k with
  |zero=>
   rw[bX (L':=λ_=>AD) _ _ (λj h1 h2=>by simp;omega),jS];rfl
  |succ k=>
   simp only[E9];rw[show AE (i<i+(k+1))=AC by simp];simp only[List.take_succ_cons,vaD,vaS]
   have:=Pa k r (i+1)
   rw[show i+(k+1)=i+1+k by omega];exact this
theorem UB{L L':Nat->Bool}{n:Nat}:∀(l:List Dn) (i:Nat) {s s':St},DV s.o n=DV s'.o n->(∀j D,l[j]?=AA D->n∈JG D.us->L (i+j)=L' (i+j))->DV (apDs s (E9 L i l)).o n=DV (apDs s' (E9 L' i l)).o n
 |[],_,_,_,h,_=>h
 |D::r,i,s,s',h,hl=>by
  have hr:∀j E,r[j]?=AA E->n∈JG E.us->L (i+1+j)=L' (i+1+j):=λj E hj hn=>by
   have:=hl (j+1) E (by simpa using hj) hn
   rwa [show i+(j+1)=i+1+j by omega]at this
  have one:∀{s:St},n∉JG D.us->DV (apD s D).o n=DV s.o n:=λh=>WF h
  by_cases hn:n∈JG D.us
  .have h0:=hl 0 D rfl hn;simp only[DJ]at h0;simp only[E9,h0];cases L' i with
   |true=>exact UB r (i+1) (xX hn) hr
   |false=>exact UB r (i+1) h hr
  .simp only[E9];cases L i<;>cases L' i<;>simp only[apDs]
   .exact UB r (i+1) h hr
   .exact UB r (i+1) (h.trans (one hn).symm) hr
   .exact UB r (i+1) ((one hn).trans h) hr
   .exact UB r (i+1) ((one hn).trans (h.trans (one hn).symm)) hr
theorem QY(s:St)(D:Dn)(t:Nat):(apD s D).get t=if D.dst=AA t then D.v else s.get t:=by
 unfold apD;cases hd:D.dst with
 |none=>simp[St.put,St.get]
 |some d=>
  have:=me s d D.v t
  simp only[AK];exact this
theorem UA{L L':Nat->Bool}{t:Nat}:∀(l:List Dn) (i:Nat) {s s':St},s.get t=s'.get t->(∀j D,l[j]?=AA D->D.dst=AA t->L (i+j)=L' (i+j))->(apDs s (E9 L i l)).get t=(apDs s' (E9 L' i l)).get t
 |[],_,_,_,h,_=>h
 |D::r,i,s,s',h,hl=>by
  have hr:∀j E,r[j]?=AA E->E.dst=AA t->L (i+1+j)=L' (i+1+j):=λj E hj hn=>by
   have:=hl (j+1) E (by simpa using hj) hn
   rwa [show i+(j+1)=i+1+j by omega]at this
  by_cases hn:D.dst=AA t
  .have h0:=hl 0 D rfl hn;simp only[DJ]at h0;simp only[E9,h0];cases L' i with
   |true=>exact UA r (i+1) (by rw[QY,QY,BX hn,BX hn]) hr
   |false=>exact UA r (i+1) h hr
  .simp only[E9];cases L i<;>cases L' i<;>simp only[apDs]
   .exact UA r (i+1) h hr
   .exact UA r (i+1) (by rw[QY,BO hn];exact h) hr
   .exact UA r (i+1) (by rw[QY,BO hn];exact h) hr
   .exact UA r (i+1) (by rw[QY,QY,BO hn,BO hn];exact h) hr
theorem wB{L:Nat->Bool}{n:Nat}:∀(l:List Dn) (i:Nat) {s:St},Fr n s->(∀j D,l[j]?=AA D->L (i+j)=AC->Q1 D.v=AC/\n∉FB D.v/\∀u∈D.us,∀m ob,(u=.new m ob\/u=.set m ob)->HM n (AA ob)=AA ob)->Fr n (apDs s (E9 L i l))
 |[],_,_,h,_=>h
 |D::r,i,s,h,hl=>by
  have hr:∀j E,r[j]?=AA E->L (i+1+j)=AC->Q1 E.v=AC/\n∉FB E.v/\∀u∈E.us,∀m ob,(u=.new m ob\/u=.set m ob)->HM n (AA ob)=AA ob:=λj E hj hn=>by
   refine hl (j+1) E (by simpa using hj) ?_
   rwa [show i+(j+1)=i+1+j by omega]
  simp only[E9];cases hL:L i with
  |false=>exact wB r (i+1) h hr
  |true=>
   refine wB r (i+1) ?_ hr;obtain⟨h1,h2,h3⟩:=hl 0 D rfl hL;refine⟨λt=>?_,?_⟩
   .rw[QY];split
    .exact Oq h1 h2
    .exact h.t t
   .have key:∀(us:List Upd) (o:Store),(∀u∈us,∀m ob,(u=.new m ob\/u=.set m ob)->HM n (AA ob)=AA ob)->(∀m,HM n (DV o m)=DV o m)->∀m,HM n (DV (KF us o) m)=DV (KF us o) m:=by
     intro us
     induction us with
     |nil=>intro o _ h;exact h
     |cons u us ih=>
      intro o hu ho;have hu':=λu' hu'=>hu u' (A6 _ hu')
      cases u with
      |kill k=>exact ih _ hu' (λm=>by rw[EP];split<;>first|rfl|exact ho m)
      |set k ob=>exact ih _ hu' (λm=>by rw[EP];split<;>first|exact hu _ (AY ..) k ob (.inr rfl)|exact ho m)
      |new k ob=>exact ih _ hu' (λm=>by rw[EP];split<;>first|exact hu _ (AY ..) k ob (.inl rfl)|exact ho m)
    exact key D.us s.o h3 h.o
theorem wC{L:Nat->Bool}:∀(l l':List Dn) (i:Nat),E9 L i (l++l')=E9 L i l++E9 L (i+l.length) l'
 |[],l',i=>by simp[E9]
 |D::r,l',i=>by
  simp only[C9,E9,AV];rw[show i+(r.length+1)=i+1+r.length by omega];cases L i<;>simp[wC r l' (i+1)]
open Go Go.RowKit
theorem bC:∀(l:List (List Nat)) (i:Nat),ID l i=(l[i]?).getD []
 |[],i=>by simp[ID]
 |x::r,0=>rfl
 |x::r,i+1=>by simp only[ID,bC r i,C5]
theorem m9{acc:List (List Nat)}{j:Nat}:∀{es:List Edge},j∈V3 acc es->∃e∈es,va4 .any e=AC/\(j=e.on\/j∈ID acc e.on)
 |[],h=>by simp[V3]at h
 |e::r,h=>by
  simp only[V3]at h;split at h
  .rename_i hb;simp only[AW,A5]at h;rcases h with h|h|h
   .exact⟨e,AY ..,hb,.inl h⟩
   .exact⟨e,AY ..,hb,.inr h⟩
   .obtain⟨e',h1,h2⟩:=m9 h;exact⟨e',A6 _ h1,h2⟩
  .obtain⟨e',h1,h2⟩:=m9 h;exact⟨e',A6 _ h1,h2⟩
def T6(acc:List Nat):List Nat->List Nat
 |[]=>acc
 |n::r=>match K3 n acc with
  |true=>T6 acc r
  |false=>T6 (n::acc) r
theorem YX(k:List Nat->List (List Nat)):∀(l acc:List Nat),i6 acc l k=k (T6 acc l)
 |[],_=>rfl
 |n::r,acc=>by
  simp only[i6,T6];cases K3 n acc with
  |true=>exact YX k r acc
  |false=>exact YX k r (n::acc)
theorem tO{j:Nat}:∀{l acc:List Nat},j∈T6 acc l->j∈acc\/j∈l
 |[],_,h=>.inl h
 |n::r,acc,h=>by
  simp only[T6]at h;cases hb:K3 n acc with
  |true=>
   rw[hb]at h;exact(tO h).imp_right (A6 _)
  |false=>
   rw[hb]at h;rcases tO h with h1|h1
   .rcases AW.1 h1 with rfl|h1
    .exact .inr (AY ..)
    .exact .inl h1
   .exact .inr (A6 _ h1)
theorem Jg{j:Nat}{l:List Nat}(h:j∈T6 [] l):j∈l:=(tO h).resolve_left (by simp)
theorem vA:∀(l:List Oper) (acc:List (List Nat)) (i:Nat),i<acc.length->ID (JL acc l) i=ID acc i
 |[],_,_,_=>rfl
 |o::r,acc,i,h=>by
  simp only[JL,YX];rw[vA r _ i (by simp;omega),bC,bC,List.getElem?_append_left h]
theorem u9:∀(l:List Oper) (acc:List (List Nat)) (i:Nat) (o:Oper),l[i]?=AA o->
  ∃acc',acc'.length=acc.length+i/\ID (JL acc l) (acc.length+i)=T6 [] (V3 acc' o.after.toList)/\∀k,k<acc'.length->ID acc' k=ID (JL acc l) k
 |[],_,_,_,h=>by simp at h
 |o::r,acc,0,o',h=>by
  simp only[CA,AK]at h;subst h;refine⟨acc,rfl,?_,λk hk=>?_⟩
  .simp only[JL,YX,DJ];rw[vA r _ acc.length (by simp),bC];simp
  .simp only[JL,YX];rw[vA r _ k (by simp;omega),bC,bC,List.getElem?_append_left hk]
 |o::r,acc,i+1,o',h=>by
  simp only[C5]at h;obtain⟨acc',h1,h2,h3⟩:=u9 r (acc++[T6 [] (V3 acc o.after.toList)]) i o' h;simp only[A2,AV,BN]at h1 h2;refine⟨acc',by omega,?_,λk hk=>by rw[JL,YX];exact h3 k hk⟩;rw[show acc.length+(i+1)=acc.length+(0+1)+i by omega,JL,YX];exact h2
theorem lN:∀{l:List Oper} {k i:Nat} {o:Oper} {e:Edge},TS k l=AC->l[i]?=AA o->e∈o.after.toList->va4 .any e=AC->e.on<k+i
 |[],_,_,_,_,_,h,_,_=>by simp at h
 |o::r,k,0,o',e,hu,h,he,hb=>by
  simp only[CA,AK]at h;subst h;simp only[TS,AQ]at hu;have key:∀(es:List Edge),TS.go k es=AC->e∈es->e.on<k:=by
   intro es
   induction es with
   |nil=>intro _ h;cases h
   |cons x es ih=>
    intro hg hm;simp only[TS.go]at hg;rcases AW.1 hm with h1|h1
    .subst h1;rw[hb]at hg;simp only[AQ]at hg;exact AX hg.1
    .split at hg
     .simp only[AQ]at hg;exact ih hg.2 h1
     .exact ih hg h1
  exact key _ hu.1 he
 |o::r,k,i+1,o',e,hu,h,he,hb=>by
  simp only[C5]at h;simp only[TS,AQ]at hu
  have:=lN hu.2 h he hb
  omega
section
variable {ops:List Oper}
def yS(ops:List Oper)(L:Nat->Bool):Prop:=∀i o,ops[i]?=AA o->L i=AC->∀e∈o.after.toList,va4 .any e=AC->L e.on=AC
theorem Lo(hu:TS 0 ops=AC):∀(i:Nat) {o:Oper},ops[i]?=AA o->∀j∈ID (JL [] ops) i,j<i:=by
 intro i
 induction i using vbC with
 |_ i ih=>
  intro o ho j hj;obtain⟨acc',h1,h2,h3⟩:=u9 ops [] i o ho;simp only[BN,BU]at h1 h2;rw[h2]at hj;obtain⟨e,he,hb,h4⟩:=m9 (Jg hj);have hlt:=lN hu ho he hb;rw[BU]at hlt;rcases h4 with h4|h4
  .omega
  .have hk:e.on<acc'.length:=by omega
   rw[h3 _ hk]at h4;have hlen:i<ops.length:=(B4.1 ho).1
   have:=ih e.on hlt (o:=ops[e.on]'AG) (by simp[Nat.lt_trans hlt hlen]) j h4
   omega
theorem Lq{L:Nat->Bool}(hu:TS 0 ops=AC)(hL:yS ops L):∀(i:Nat) {o:Oper},ops[i]?=AA o->(∀e∈o.after.toList,va4 .any e=AC->L e.on=AC)->∀j∈ID (JL [] ops) i,L j=AC:=by
 intro i
 induction i using vbC with
 |_ i ih=>
  intro o ho hr j hj;obtain⟨acc',h1,h2,h3⟩:=u9 ops [] i o ho;simp only[BN,BU]at h1 h2;rw[h2]at hj;obtain⟨e,he,hb,h4⟩:=m9 (Jg hj);have hlt:=lN hu ho he hb;rw[BU]at hlt;rcases h4 with h4|h4
  .subst h4;exact hr e he hb
  .have hk:e.on<acc'.length:=by omega
   rw[h3 _ hk]at h4;have hlen:i<ops.length:=(B4.1 ho).1;have hg:ops[e.on]?=AA (ops[e.on]'AG):=by simp[Nat.lt_trans hlt hlen]
   exact ih e.on hlt hg (hL e.on _ hg (hr e he hb)) j h4
end
theorem zbL{d:Option Nat}{l:List Nat}(h:Kt d l=AD):∀t,d=AA t->t∉l:=by
 rintro t rfl;exact i4.1 h
theorem zbK{d e:Option Nat}(h:uJ d e=AD):∀t,d=AA t->e≠AA t:=by
 rintro t rfl h';subst h';simp only[uJ]at h;exact I4.1 h rfl
theorem Lg{ps:List (List Nat)}{pi:List Nat}{i:Nat}{x:Dn}:∀{l:List Dn} {k j:Nat} {y:Dn},bI ps pi i x k l=AC->l[j]?=AA y->i≠k+j->jA pi (ID ps (k+j)) i (k+j) x y=AC
 |[],_,_,_,_,h,_=>by simp at h
 |z::r,k,0,y,h,hy,hne=>by
  simp only[CA,AK]at hy;subst hy;simp only[bI,AQ,vap]at h;rcases h.1 with h1|h1
  .exact absurd (F1.1 h1) hne
  .exact h1
 |z::r,k,j+1,y,h,hy,hne=>by
  simp only[C5]at hy;simp only[bI,AQ]at h
  have:=Lg (k:=k+1) h.2 hy AG
  rw[show k+(j+1)=k+1+j by omega];exact this
theorem Lf{ps:List (List Nat)}{all:List Dn}:∀{l:List Dn} {k i:Nat} {x:Dn},jB ps all k l=AC->l[i]?=AA x->bI ps (ID ps (k+i)) (k+i) x 0 all=AC
 |[],_,_,_,_,h=>by simp at h
 |z::r,k,0,x,h,hx=>by
  simp only[CA,AK]at hx;subst hx;simp only[jB,AQ]at h;exact h.1
 |z::r,k,i+1,x,h,hx=>by
  simp only[C5]at hx;simp only[jB,AQ]at h
  have:=Lf (k:=k+1) h.2 hx
  rw[show k+(i+1)=k+1+i by omega];exact this
theorem yZ{ds:List Nat}:∀{l:List Nat},kT ds l=AC->∀n∈l,P8 ds n=AC
 |[],_,n,h=>by cases h
 |m::r,h,n,hn=>by
  simp only[kT,AQ]at h;rcases AW.1 hn with e|e
  .subst e;exact h.1
  .exact yZ h.2 n e
theorem uE{ds:List Nat}:∀{l:List Dn} {i:Nat} {x:Dn},i7 ds l=AC->l[i]?=AA x->Q1 x.v=AC/\QP x.us=AC/\∀n∈QE x.us,P8 ds n=AC
 |[],_,_,_,h=>by simp at h
 |z::r,0,x,h,hx=>by
  simp only[CA,AK]at hx;subst hx;simp only[i7,AQ]at h;exact⟨h.1,h.2.1,yZ h.2.2.1⟩
 |z::r,i+1,x,h,hx=>by
  simp only[C5]at hx;simp only[i7,AQ]at h;exact uE h.2.2.2 hx
theorem Uw{n:Nat}:∀{us:List Upd},QP us=AC->n∉VX us->∀u∈us,∀m ob,(u=.new m ob\/u=.set m ob)->HM n (AA ob)=AA ob
 |[],_,_,u,hu,_,_,_=>by cases hu
 |u::r,ho,hn,u',hu',m,ob,he=>by
  have h1:QP r=AC/\n∉VX r/\(∀m ob,(u=.new m ob\/u=.set m ob)->HM n (AA ob)=AA ob):=by
   cases u with
   |kill k=>exact⟨ho,hn,λm ob h=>by rcases h with h|h<;>cases h⟩
   |set k ob'=>
    simp only[QP,AQ]at ho;simp only[VX,A5,not_or]at hn;refine⟨ho.2.2,hn.2,λm ob h=>?_⟩;rcases h with h|h<;>cases h
    exact oB ho.1 hn.1
   |new k ob'=>
    simp only[QP,AQ]at ho;simp only[VX,A5,not_or]at hn;refine⟨ho.2.2,hn.2,λm ob h=>?_⟩;rcases h with h|h<;>cases h
    exact oB ho.1 hn.1
  rcases AW.1 hu' with h|h
  .subst h;exact h1.2.2 m ob he
  .exact Uw h1.1 h1.2.1 u' h m ob he
theorem xS{t:Nat}:∀{l:List Operand},Operand.tmp t∈l->t∈ZG l
 |x::r,h=>by
  rcases AW.1 h with h1|h1
  .subst h1;exact AY ..
  .cases x<;>simp only[ZG,AW]<;>first|exact .inr (xS h1)|exact xS h1
theorem Ed{α:Type}{p q:α->Bool}:∀{l:List α},(∀x∈l,q x=AC->p x=AC)->(∃x∈l,p x=AC/\q x=AD)->l.countP q<l.countP p
 |[],_,⟨_,h,_⟩=>by cases h
 |y::r,h,⟨x,hx,h1,h2⟩=>by
  have hr:r.countP q<=r.countP p:=by
   clear hx;have h':∀x∈r,q x=AC->p x=AC:=λx hx=>h x (A6 _ hx)
   exact List.countP_mono_left h'
  rcases AW.1 hx with e|e
  .subst e;rw[vaY h1,vbi (by simp[h2])];omega
  .have:=Ed (l:=r) (λx hx=>h x (A6 _ hx)) ⟨x,e,h1,h2⟩
   by_cases hq:q y=AC
   .rw[vaY (h y (AY ..) hq),vaY hq];omega
   .rw[vbi hq];by_cases hp:p y=AC
    .rw[vaY hp];omega
    .rw[vbi hp];omega
section
variable {B:BT} {nt:Nat} {w0:World} {X:Zone} {γ:Nat→Value} {st st':St} {a:Act} {w:World} {P:Program} {E:Env}
variable (hT:TiOK P B E) (hE:∀ t,t∈E.eqs→EqSnd P t (E.tyd t).ks) (hSp:SpOK P B E w0 X) (hB:BldOK P B E) (hnt:E.nt=nt) (hn9:nt≤900000)
include hT hE hSp hB hnt hn9
theorem fb{Q:Exit->Act->World->Prop}{ops:Array Oper}{s0:St}{Ds:List Dn}(hs:Steps E ops.toList ops.toList s0 Ds)(hfree:rS ops.toList Ds=AC)
  (hfr:∀n,P8 (YF ops.toList) n=AC->Fr n s0) (hQ:∀γ' a' w',Rel B nt w0 X γ' (apDs s0 Ds) a' w'->Q .normal a' w'):
  ∀(fuel:Nat) (listed:Array Bool) {γ:Nat->Value} {a:Act} {w:World},listed.size=ops.size->yS ops.toList (λi=>listed.getD i AD)->
   (vaQ ops.size).countP (λi=>!listed.getD i AD)<=fuel->Rel B nt w0 X γ (apDs s0 (E9 (λi=>listed.getD i AD) 0 Ds)) a w->wpAny P .any ops Q fuel listed a w:=by
 have hlen:Ds.length=ops.size:=by simpa using hs.length
 simp only[rS,AQ]at hfree;obtain⟨hup,hone,hpairs⟩:=hfree;have hgd:∀(listed:Array Bool) (i:Nat),listed.size=ops.size->i<ops.size->listed.getD i AC=listed.getD i AD:=λlisted i h1 h2=>by
  simp[Array.getD,h1,h2]
 have hready:∀(listed:Array Bool) (i:Nat),listed.size=ops.size->(i∈vbD .any ops listed↔∃o,ops.toList[i]?=AA o/\listed.getD i AD=AD/\∀e∈o.after.toList,va4 .any e=AC->listed.getD e.on AD=AC):=by
  intro listed i hsz;simp only[vbD,List.mem_filter,vbk,AQ,CE];constructor
  .rintro⟨h1,h2,h3⟩;refine⟨ops[i],by simp[h1],by rw[<-hgd listed i hsz h1];exact h2,λe he hb=>?_⟩;simp only[Array.getElem?_eq_getElem h1,vaf,vam,vbF,vap,CE]at h3;rcases h3 e (by simpa using he)with h4|h4
   .rw[hb]at h4;cases h4
   .exact h4
  .rintro⟨o,ho,h2,h3⟩;obtain⟨h1,rfl⟩:=B4.1 ho;simp only[C1]at h1;refine⟨h1,by rw[hgd listed i hsz h1];exact h2,?_⟩;simp only[Array.getElem?_eq_getElem h1,vaf,vam,vbF,vap,CE];intro e he;cases hb:va4 .any e with
   |false=>exact .inl rfl
   |true=>exact .inr (h3 e (by simpa using he) hb)
 have hend:∀(listed:Array Bool) {γ:Nat->Value} {a:Act} {w:World},(∀i,i<ops.size->listed.getD i AD=AC)->Rel B nt w0 X γ (apDs s0 (E9 (λi=>listed.getD i AD) 0 Ds)) a w->Q .normal a w:=by
  intro listed γ a w hall h;rw[bX (L':=λ_=>AC) _ _ (λj _ h2=>hall j AG),Oz]at h;exact hQ γ a w h
 have hnil:∀(listed:Array Bool),listed.size=ops.size->vbD .any ops listed=[]->∀i,i<ops.size->listed.getD i AD=AC:=by
  intro listed hsz hr i
  induction i using vbC with
  |_ i ih=>
   intro hi;cases hL:listed.getD i AD with
   |true=>rfl
   |false=>
    exfalso;have hm:i∈vbD .any ops listed:=by
     refine(hready listed i hsz).2 ⟨ops[i],by simp[hi],hL,λe he hb=>?_⟩
     have:=lN (i:=i) hup (by simp[hi]:ops.toList[i]?=AA ops[i]) he hb
     exact ih e.on AG AG
    rw[hr]at hm;cases hm
 intro fuel
 induction fuel with
 |zero=>
  intro listed γ a w hsz hcl hcount h;have hall:∀i,i<ops.size->listed.getD i AD=AC:=by
   intro i hi;have h0:(vaQ ops.size).countP (λi=>!listed.getD i AD)=0:=by omega
   have:=(List.countP_eq_zero.1 h0) i (vbk.2 hi)
   simpa using this
  refine⟨?_,hend listed hall h⟩;refine List.eq_nil_iff_forall_not_mem.2 (λi hi=>?_);obtain⟨o,ho,h2,_⟩:=(hready listed i hsz).1 hi;have h1:i<ops.size:=by simpa using(B4.1 ho).1
  rw[hall i h1]at h2;cases h2
 |succ fuel ih=>
  intro listed γ a w hsz hcl hcount h;refine⟨λhr=>hend listed (hnil listed hsz hr) h,λi hi=>?_⟩;obtain⟨o,ho,hLi,hedges⟩:=(hready listed i hsz).1 hi;have hi':i<ops.size:=by simpa using(B4.1 ho).1
  have hoi:ops[i]?=AA o:=by simpa using ho
  obtain⟨D,hD⟩:∃D,Ds[i]?=AA D:=⟨Ds[i]'AG,by simp[hlen,hi']⟩;generalize hLdef:(λi=>listed.getD i AD)=L at*;have hL:∀j,listed.getD j AD=L j:=λj=>congrFun hLdef j
  simp only[hL]at hLi hedges;have hin:∀j∈ID (JL [] ops.toList) i,L j=AC:=Lq hup hcl i ho hedges;have hout:∀j D',Ds[j]?=AA D'->L j=AC->i∉ID (JL [] ops.toList) j:=by
   intro j D' hj hLj hm;have hj':j<ops.size:=by have:=(B4.1 hj).1;omega
   have hoj:ops.toList[j]?=AA ops[j]:=by simp[hj']
   have:=Lq hup hcl j hoj (hcl j _ hoj hLj) i hm
   rw[hLi]at this;cases this
  have hlt:∀j,j∈ID (JL [] ops.toList) i->j<i:=Lo hup i ho;have hltj:∀j D',Ds[j]?=AA D'->i∈ID (JL [] ops.toList) j->i<j:=by
   intro j D' hj hm;have hj':j<ops.size:=by have:=(B4.1 hj).1;omega
   exact Lo hup j (by simp[hj']:ops.toList[j]?=AA ops[j]) i hm
  have hpair:∀j D',Ds[j]?=AA D'->i≠j->jA (ID (JL [] ops.toList) i) (ID (JL [] ops.toList) j) i j D D'=AC:=by
   intro j D' hj hne;have h1:=Lf (k:=0) hpairs hD;rw[BU]at h1;have h2:=Lg (k:=0) h1 hj AG
   rwa [BU]at h2
  have hunord:∀j D',Ds[j]?=AA D'->i≠j->i∉ID (JL [] ops.toList) j->j∉ID (JL [] ops.toList) i->
    (∀t,D'.dst=AA t->t∉D.tm)/\(∀t,D.dst=AA t->D'.dst≠AA t)/\(∀n∈JG D'.us,n∉D.rd)/\(∀n∈JG D.us,n∉JG D'.us):=by
   intro j D' hj hne h1 h2;have hp:=hpair j D' hj hne;simp only[jA,i4.2 h1,i4.2 h2,AQ,CE]at hp;exact⟨zbL hp.2.1,zbK hp.2.2.1,aL.1 hp.2.2.2.1,aL.1 hp.2.2.2.2⟩
  have hdiff:∀j D',Ds[j]?=AA D'->L j≠AE (j<i)->i≠j/\i∉ID (JL [] ops.toList) j/\j∉ID (JL [] ops.toList) i:=by
   intro j D' hj hne;cases hLj:L j with
   |true=>
    rw[hLj]at hne;have hji:¬j<i:=λh=>hne (by simp[h])
    have hij:i≠j:=λe=>by subst e;rw[hLi]at hLj;cases hLj
    exact⟨hij,hout j D' hj hLj,λhm=>hji (hlt j hm)⟩
   |false=>
    rw[hLj]at hne;have hji:j<i:=by
     rcases DN j i with h|h
     .exact h
     .exact absurd (by simp;omega) hne
    refine⟨by omega,λhm=>?_,λhm=>?_⟩
    .have:=hltj j D' hj hm;omega
    .have:=hin j hm;rw[hLj]at this;cases this
  have hstep:=Steps.get hs ho hD;have htake:apDs s0 (Ds.take i)=apDs s0 (E9 (λj=>AE (j<i)) 0 Ds):=by
   have:=Pa i Ds 0
   rw[BU]at this;rw[this]
  rw[htake]at hstep;have hobj:∀n∈D.rd,DV (apDs s0 (E9 L 0 Ds)).o n=DV (apDs s0 (E9 (λj=>AE (j<i)) 0 Ds)).o n:=by
   intro n hn;refine UB Ds 0 rfl (λj D' hj hnm=>?_);rw[BU];refine vbK (λhne=>?_);obtain⟨h1,h2,h3⟩:=hdiff j D' hj hne;exact(hunord j D' hj h1 h2 h3).2.2.1 n hnm hn
  have htm:∀t∈D.tm,(apDs s0 (E9 L 0 Ds)).get t=(apDs s0 (E9 (λj=>AE (j<i)) 0 Ds)).get t:=by
   intro t ht;refine UA Ds 0 rfl (λj D' hj hnm=>?_);rw[BU];refine vbK (λhne=>?_);obtain⟨h1,h2,h3⟩:=hdiff j D' hj hne;exact(hunord j D' hj h1 h2 h3).1 t hnm ht
  have hafter:SEq (apD (apDs s0 (E9 L 0 Ds)) D) (apDs s0 (E9 (λj=>(listed.setIfInBounds i AC).getD j AD) 0 Ds)):=by
   have hset:∀j,(listed.setIfInBounds i AC).getD j AD=(L j||B2 j i):=by
    intro j;rw[<-hL j];simp only[vbm,Array.getElem?_setIfInBounds,hsz];by_cases e:i=j
    .subst e;simp[hi',vbj]
    .rw[BO e,I4.2 (λh=>e h.symm),Bool.or_false]
   rw[show(λj=>(listed.setIfInBounds i AC).getD j AD)=(λj=>L j||B2 j i)from funext hset];have hsplit:Ds=Ds.take i++D::Ds.drop (i+1):=by
    have hi2:i<Ds.length:=by omega
    have h1:Ds[i]=D:=by have:=B4.1 hD;exact this.2
    rw[<-h1];simp
   have hlate:∀j D',(Ds.drop (i+1))[j]?=AA D'->L (i+1+j)=AC->(∀t,D.dst=AA t->D'.dst≠AA t)/\∀n∈JG D.us,n∉JG D'.us:=by
    intro j D' hj hLj;have hj':Ds[i+1+j]?=AA D':=by rw[<-hj,vat]
    have h2:=hout _ D' hj' hLj;have h3:i+1+j∉ID (JL [] ops.toList) i:=λhm=>by have:=hlt _ hm;omega
    exact⟨(hunord _ D' hj' AG h2 h3).2.1,(hunord _ D' hj' AG h2 h3).2.2.2⟩
   have hli:(Ds.take i).length=i:=by simp;omega
   have hR:∀s,apDs s (E9 (λj=>L j||B2 j i) 0 Ds)=apDs (apD (apDs s (E9 L 0 (Ds.take i))) D) (E9 L (i+1) (Ds.drop (i+1))):=by
    intro s;rw[show E9 (λj=>L j||B2 j i) 0 Ds=E9 (λj=>L j||B2 j i) 0 (Ds.take i++D::Ds.drop (i+1)) by rw[<-hsplit]];rw[wC,pL,hli,BU];simp only[E9,vbj,Bool.or_true,apDs];rw[bX (L':=L) (Ds.take i) 0 (λj _ h2=>by rw[I4.2 AG,Bool.or_false]),bX (L':=L) (Ds.drop (i+1)) (i+1) (λj h1 _=>by rw[I4.2 AG,Bool.or_false])]
   have hLs:∀s,apDs s (E9 L 0 Ds)=apDs (apDs s (E9 L 0 (Ds.take i))) (E9 L (i+1) (Ds.drop (i+1))):=by
    intro s;rw[show E9 L 0 Ds=E9 L 0 (Ds.take i++D::Ds.drop (i+1)) by rw[<-hsplit]];rw[wC,pL,hli,BU];simp only[E9,hLi]
   rw[hR,hLs];generalize apDs s0 (E9 L 0 (Ds.take i))=s1;refine⟨λt=>?_,λn=>?_⟩
   .by_cases e:D.dst=AA t
    .rw[QY,BX e]
     have:(apDs (apD s1 D) (E9 L (i+1) (Ds.drop (i+1)))).get t=(apDs (apD s1 D) (E9 (λ_=>AD) (i+1) (Ds.drop (i+1)))).get t:=by
      refine UA _ _ rfl (λj D' hj hd=>?_);cases hLj:L (i+1+j)with
      |false=>rfl
      |true=>exact absurd hd ((hlate j D' hj hLj).1 t e)
     rw[this,jS];simp only[apDs];rw[QY,BX e]
    .rw[QY,BO e];exact UA _ _ (by rw[QY,BO e]) (λ_ _ _ _=>rfl)
   .by_cases e:n∈JG D.us
    .have:DV (apDs (apD s1 D) (E9 L (i+1) (Ds.drop (i+1)))).o n=DV (apDs (apD s1 D) (E9 (λ_=>AD) (i+1) (Ds.drop (i+1)))).o n:=by
      refine UB _ _ rfl (λj D' hj hd=>?_);cases hLj:L (i+1+j)with
      |false=>rfl
      |true=>exact absurd hd ((hlate j D' hj hLj).2 n e)
     rw[this,jS];exact xX e
    .have h1:DV (apD (apDs s1 (E9 L (i+1) (Ds.drop (i+1)))) D).o n=DV (apDs s1 (E9 L (i+1) (Ds.drop (i+1)))).o n:=WF e;rw[h1];exact UB _ _ (WF e).symm (λ_ _ _ _=>rfl)
  have hnext:∀γ' a' w',Rel B nt w0 X γ' (apD (apDs s0 (E9 L 0 Ds)) D) a' w'->wpAny P .any ops Q fuel (listed.setIfInBounds i AC) a' w':=by
   intro γ' a' w' h';have hset:∀j,(listed.setIfInBounds i AC).getD j AD=(L j||B2 j i):=by
    intro j;rw[<-hL j];simp only[vbm,Array.getElem?_setIfInBounds,hsz];by_cases e:i=j
    .subst e;simp[hi',vbj]
    .rw[BO e,I4.2 (λh=>e h.symm),Bool.or_false]
   refine ih (listed.setIfInBounds i AC) (by simpa using hsz) ?_ ?_ (h'.seq hafter)
   .intro j o' ho' hLj e he hb;simp only[hset]at hLj ⊢;by_cases e':j=i
    .subst e';rw[ho]at ho';simp only[AK]at ho';subst ho';rw[hedges e he hb];rfl
    .rw[I4.2 e',Bool.or_false]at hLj;rw[hcl j o' ho' hLj e he hb];rfl
   .have:(vaQ ops.size).countP (λj=>!(listed.setIfInBounds i AC).getD j AD)<(vaQ ops.size).countP (λj=>!listed.getD j AD):=by
     refine Ed (λj _ hj=>?_) ⟨i,vbk.2 hi',by rw[hL,hLi];rfl,by rw[hset,vbj,Bool.or_true];rfl⟩;rw[hset]at hj;rw[hL];cases hLj:L j<;>simp_all
    simp only[hL]at this hcount;omega
  obtain⟨hok,hdst,htms,hguard⟩:=hstep;have hclean:=uE hone hD;have run:(EJ E (apDs s0 (E9 (λj=>AE (j<i)) 0 Ds)).o (opd (apDs s0 (E9 (λj=>AE (j<i)) 0 Ds))) o.dst o.op).get=AA (D.v,D.us)->D.rd=OM E (apDs s0 (E9 (λj=>AE (j<i)) 0 Ds)).o (opd (apDs s0 (E9 (λj=>AE (j<i)) 0 Ds))) o.op->
    (∀x∈o.op.operands.toList,∀t,x=.tmp t->t∈D.tm)->o.wp P a w (wpAny P .any ops Q fuel (listed.setIfInBounds i AC)) Q:=by
   intro he hrd htmo;have h1:EJ E (apDs s0 (E9 L 0 Ds)).o (opd (apDs s0 (E9 L 0 Ds))) o.dst o.op=EJ E (apDs s0 (E9 (λj=>AE (j<i)) 0 Ds)).o (opd (apDs s0 (E9 (λj=>AE (j<i)) 0 Ds))) o.dst o.op:=by
    rw[fp (ρ:=opd (apDs s0 (E9 L 0 Ds))) (ρ':=opd (apDs s0 (E9 (λj=>AE (j<i)) 0 Ds))) (λx hx=>?_)]
    .exact Fl (λn hn=>hobj n (by rw[hrd];exact hn))
    .cases x with
     |tmp t=>exact htm t (htmo _ hx t rfl)
     |_=>rfl
   rw[<-h1]at he;have hn9':∀d,o.dst=AA d->d≠900000:=λd hdd e=>by
    subst e;rw[hdd]at hok;simp only[Q8]at hok;have h8:900000+1<=E.nt:=AX hok;omega
   refine Ks hT hE hSp hB h o hn9' he _ _ (λγ' x w' h3 h4=>hnext γ' _ w' ?_);refine(h3.put hnt hok h4).seq ?_;have hfr':∀n∈QE D.us,Fr n (apDs s0 (E9 L 0 Ds)):=by
    intro n hn;refine wB Ds 0 (hfr n (hclean.2.2 n hn)) (λj D' hj hLj=>?_);rw[BU]at hLj;have hne:i≠j:=λe=>by subst e;rw[hLi]at hLj;cases hLj
    have hp:=hpair j D' hj hne;simp only[jA,i4.2 (hout j D' hj hLj),AQ]at hp;have hdj:=aL.1 hp.1 n hn;simp only[A5,not_or]at hdj;have hc':=uE hone hj;exact⟨hc'.1,hdj.1,Uw hc'.2.1 hdj.2⟩
   have:=(o0 hfr' hclean.2.1).put o.dst D.v
   refine this.trans ?_;rw[<-hdst];cases hdd:D.dst<;>exact⟨λt=>by simp only[apD,hdd,St.put];try rfl,λn=>by simp only[apD,St.put]⟩
  unfold wpOp;rw[hoi];simp only;have htmo:∀x∈o.op.operands.toList,∀t,x=.tmp t->t∈D.tm:=by
   rintro x hx t rfl
   have:=xS hx
   rw[htms];unfold M4;split
   .split
    .exact A6 _ this
    .exact this
   .exact this
  split at hguard
  .rename_i hg;rw[BX (by simp[DL,hg])];exact .inl (run hguard.1 hguard.2 htmo)
  .rename_i j b hg;have skip:D.v=.tup []->D.us=[]->DL o (yielded ops a.tmps)=AD->(if DL o (yielded ops a.tmps)=AC then o.wp P a w (wpAny P .any ops Q fuel (listed.setIfInBounds i AC)) Q\/(o.asks P a w/\LetsOut Q)else wpAny P .any ops Q fuel (listed.setIfInBounds i AC) (a.put o.dst undef) w):=by
    intro h1 h2 h3;rw[BO (by rw[h3];simp)];refine hnext γ _ w ?_;refine(h.put hnt hok (v:=.tup []) (x:=undef) (by simp only[VRel];exact⟨#[],rfl,by simp only[VRels]⟩)).seq ?_;rw[<-hdst,<-h1];cases hdd:D.dst<;>exact⟨λt=>by simp only[apD,hdd,St.put];try rfl,λn=>by simp only[apD,St.put,h2,KF]⟩
   have hdjm0:∀dj,P5 ops.toList j=AA dj->dj∈D.tm:=by
    intro dj hdj;rw[htms];unfold M4;rw[hg];simp only[hdj];exact AY ..
   rcases hguard with⟨dj,c,hdj,hc,hcase⟩|⟨dj,hdj,hc,h1,h2⟩
   case inr=>
    rw[<-htm dj (hdjm0 dj hdj)]at hc;have hy:yielded ops a.tmps j=AB:=by
     unfold yielded;rw[show ops[j]?=ops.toList[j]? by simp,g9 _ _ _ hdj];rcases Uu h hc with h0|h0<;>simp[h0]
    exact skip h1 h2 (by simp[DL,hg,hy])
   have hdjm:dj∈D.tm:=by
    rw[htms];unfold M4;rw[hg];simp only[hdj];exact AY ..
   rw[<-htm dj hdjm]at hc;have hy:yielded ops a.tmps j=AA c:=by
    unfold yielded;rw[show ops[j]?=ops.toList[j]? by simp,g9 _ _ _ hdj];simp[zY h hc]
   rcases hcase with⟨rfl,h1,h2⟩|⟨hne,h1,h2⟩
   .rw[BX (by simp[DL,hg,hy])];exact .inl (run h1 h2 htmo)
   .exact skip h1 h2 (by simp[DL,hg,hy,hne])
theorem fm{Q:Exit->Act->World->Prop}(hm:P.follows .mixedOrders=AC){r:V×List (List V)}{id:Nat}{ops:Array Oper}{k:St->DU}{γ:Nat->Value}{st:St}{a:Act}{w:World}
  (he:rH E ops.toList st k=AA r) (h:Rel B nt w0 X γ st a w) (hk:∀γ' st' a' w',Rel B nt w0 X γ' st' a' w'->k st'=AA r->Q .normal a' w'):(Code.region id ops AC).wp P Q a w:=by
 refine wp_region_any hm ?_;unfold rH at he;obtain⟨Ds,s',h1,h2,h3⟩:=Fk ops.toList he;split at h3
 .rename_i hf;simp only[vab,List.reverse_reverse]at hf;have h0:Rel B nt w0 X γ (OA (YF ops.toList) st) a {w with drawn:=w.drawn+1}:=(h.clear (YF ops.toList)).world (Keep.drew _ w);refine fb hT hE hSp hB hnt hn9 h1 hf (λn hn=>ck hn st) (λγ' a' w' h'=>hk γ' s' a' w' (h'.seq h2.symm) h3) ops.size (Array.replicate ops.size AD) (by simp) ?_ ?_ (γ:=γ) ?_
  .intro i o ho hL;have hi:i<ops.size:=by simpa using(B4.1 ho).1
   simp[Array.getD,hi]at hL
  .refine DD (List.countP_le_length) ?_;simp
  .rw[bX (L':=λ_=>AD) _ _ (λj _ _=>by simp[Array.getD]),jS];exact h0
 .cases h3
end
open Go Go.RowKit
section
variable {B:BT} {nt:Nat} {w0:World} {X:Zone} {γ:Nat→Value} {st st':St} {a:Act} {w:World} {P:Program} {E:Env}
theorem mM(s:St):∀(l:List Nat) (i:Nat),FA .any (VS s l) i=s.get i\/FA .any (VS s l) i=.any
 |[],i=>.inr rfl
 |j::r,i=>by
  simp only[VS,SA];by_cases e:j=i
  .subst e;simp
  .simp only[BO e];exact mM s r i
theorem Hp(s:St):∀(l:List Nat) (n:Nat) (ob:Ob),DV (iI s l) n=AA ob->DV s.o n=AA ob
 |[],n,ob,h=>by simp[iI,DV,FA]at h
 |j::r,n,ob,h=>by
  simp only[iI,EP]at h;split at h
  .rename_i e;subst e;exact h
  .exact Hp s r n ob h
theorem Rel.prune(h:Rel B nt w0 X γ st a w)(kp:Option (List Nat)):Rel B nt w0 X γ (prune kp st) a w:=by
 cases kp with
 |none=>exact h
 |some l=>exact h.less (λi=>mM st l i) (λ_ _ h=>h)
theorem VRels.putOne{γ:Nat->Value}{o:Store}{w:World}{O:Nat->Prop}{v:V}{x:Value}(hv:VRel γ o w O v x):∀{cs:List V} {xs:List Value} {c:Nat},VRels γ o w O cs xs->xs[c]?=AA x->VRels γ o w O (HE cs c [v]) xs
 |[],[],_,_,h=>by simp at h
 |[],_::_,_,h,_=>by simp only[VRels]at h
 |_::_,[],_,h,_=>by simp only[VRels]at h
 |u::cs,y::xs,0,h,hx=>by
  simp only[VRels]at h;simp only[CA,AK]at hx;subst hx
  have:HE cs 0 []=cs:=by cases cs<;>rfl
  simp only[HE,this,VRels];exact⟨hv,h.2⟩
 |u::cs,y::xs,c+1,h,hx=>by
  simp only[VRels]at h;simp only[C5]at hx;simp only[HE,VRels];exact⟨h.1,VRels.putOne hv h.2 hx⟩
def Yv(γ:Nat->Value)(o:Store)(w:World)(a:Act)(x:Value):Loc->Prop
 |.tmp t=>x=a.tmps.getD t undef
 |.cell b c=>∃cs bb T cc,DV o b=AA (.box cs)/\γ b=.pointer (AA ⟨bb,0,AB⟩)/\w.heap[bb]?=AA (.cells cc T (0,0))/\cc.toList[c]?=AA x
def pG(γ:Nat->Value)(o:Store)(w:World)(a:Act)(x:Value):Loc->Prop
 |.tmp t=>x=a.tmps.getD t undef
 |.cell b c=>∀cs,DV o b=AA (.box cs)->∃bb T cc,γ b=.pointer (AA ⟨bb,0,AB⟩)/\w.heap[bb]?=AA (.cells cc T (0,0))/\cc.toList[c]?=AA x
theorem Rel.at(h:Rel B nt w0 X γ st a w)(l:Loc){v:V}(hv:tC st l=v)(hne:v≠.any):∃x,VRel γ st.o w (DY X γ st.o) v x/\
  Yv γ st.o w a x l:=by
 subst hv;cases l with
 |tmp t=>exact⟨_,h.tm t,rfl⟩
 |cell b c=>
  simp only[tC]at hne ⊢;split at hne
  .rename_i cs hob;have hor:=h.ob b _ hob;simp only[ObRel]at hor;obtain⟨bb,cc,T,hg,hh,hr⟩:=hor;rw[i5]at hne ⊢;cases hc:cs[c]? with
   |none=>rw[hc]at hne;exact absurd rfl hne
   |some u=>
    obtain⟨x,hx,hrx⟩:=hr.get hc;exact⟨x,hrx,cs,bb,T,cc,hob,hg,hh,hx⟩
  .exact absurd rfl hne
theorem Rel.putLoc{γ2:Nat->Value}{st2:St}(h2:Rel B nt w0 X γ2 st2 a w)(l:Loc){v:V}{x:Value}(hv:VRel γ2 st2.o w (DY X γ2 st2.o) v x)
  (hx:pG γ2 st2.o w a x l):Rel B nt w0 X γ2 (putLoc st2 v l) a w:=by
 cases l with
 |tmp t=>
  simp only[pG]at hx;subst hx;refine⟨h2.sz,h2.df,λi=>?_,h2.ob,h2.lt,h2.dis,h2.keep,h2.nr,h2.fl,h2.pn⟩;simp only[FM.putLoc,St.get,SA];split
  .rename_i e;subst e;exact hv
  .exact h2.tm i
 |cell b c=>
  simp only[FM.putLoc];split
  .rename_i cs hob;simp only[pG]at hx;obtain⟨bb,T,cc,hg,hh,hcx⟩:=hx cs hob;have hob':∀m,DV ((b,AA (.box (HE cs c [v])))::st2.o) m=if b=m then AA (.box (HE cs c [v]))else DV st2.o m:=λm=>EP ..
   have hlen:(HE cs c [v]).length=cs.length:=by
    have key:∀(cs:List V) (c:Nat),(HE cs c [v]).length=cs.length:=by
     intro cs
     induction cs with
     |nil=>intro c;cases c<;>rfl
     |cons u r ih=>
      intro c;cases c with
      |zero=>
       have:HE r 0 []=r:=by cases r<;>rfl
       simp[HE,this]
      |succ c=>simp[HE,ih]
    exact key cs c
   have hP:∀b',FN γ2 ((b,AA (.box (HE cs c [v])))::st2.o) b'->FN γ2 st2.o b':=by
    rintro b' ⟨m,ob,hm,hb⟩;rw[hob']at hm;split at hm
    .rename_i e;subst e;simp only[AK]at hm;subst hm;exact⟨_,_,hob,hb⟩
    .exact⟨m,ob,hm,hb⟩
   have hO:∀b',b'<w.heap.size->DY X γ2 ((b,AA (.box (HE cs c [v])))::st2.o) b'->DY X γ2 st2.o b':=λb' _ hb=>hb.imp_left (hP b')
   have hc:Cmp γ2 st2.o γ2 ((b,AA (.box (HE cs c [v])))::st2.o):=by
    intro m ob' hm;rw[hob']at hm;split at hm
    .rename_i e;subst e;simp only[AK]at hm;subst hm;exact⟨rfl,_,hob,hlen.symm⟩
    .exact⟨rfl,ob',hm,ob'.fits_refl⟩
   refine⟨h2.sz,h2.df,λi=>VRel.mono (Keep.refl _ w) hO (VRel.cmp hc (h2.tm i)),λm ob hm=>?_,λb' hb=>h2.lt b' (hP b' hb),λm1 m2 ob1 ob2 b' hne h3 h4 hb1 hb2=>?_,h2.keep,λb' hb=>h2.nr b' (hP b' hb),h2.fl,λp hp ob hm=>?_⟩
   .simp only at hm ⊢;rw[hob']at hm;split at hm
    .rename_i e;subst e;simp only[AK]at hm;subst hm;have hor:=h2.ob _ _ hob;simp only[ObRel]at hor ⊢;obtain⟨bb',cc',T',hg',hh',hr'⟩:=hor;rw[hg]at hg';simp only[C6,AK,DI,CI]at hg';subst hg';rw[hh]at hh';simp only[AK,Obj.cells.injEq]at hh';obtain⟨rfl,rfl,_⟩:=hh';exact⟨bb,cc,T,hg,hh,VRels.mono (Keep.refl _ w) hO (VRels.cmp hc (VRels.putOne hv hr' hcx))⟩
    .exact(h2.ob m ob hm).later (λ_ _=>rfl) (Keep.refl _ w) hO hc
   .have key:∀m ob,DV ((b,AA (.box (HE cs c [v])))::st2.o) m=AA ob->FE (γ2 m) ob b'->∃ob0,DV st2.o m=AA ob0/\FE (γ2 m) ob0 b':=by
     intro m ob hm hb;rw[hob']at hm;split at hm
     .rename_i e;subst e;simp only[AK]at hm;subst hm;exact⟨_,hob,hb⟩
     .exact⟨ob,hm,hb⟩
    obtain⟨o1,q1,q2⟩:=key m1 ob1 h3 hb1;obtain⟨o2,q3,q4⟩:=key m2 ob2 h4 hb2;exact h2.dis m1 m2 o1 o2 b' hne q1 q3 q2 q4
   .simp only at hm;rw[hob']at hm;split at hm
    .rename_i e;exact h2.pn p hp _ (e▸hob)
    .exact h2.pn p hp ob hm
  .exact h2
theorem Rel.canon1(h:Rel B nt w0 X γ st a w)(c:Can):∃γ',Rel B nt w0 X γ' (canon1 c st) a w:=by
 unfold FM.canon1;split
 .exact⟨γ,h⟩
 rename_i h9;have h9:=I4.1 h9;split
 .rename_i hv;split
  .rename_i hks;have hks':0<c.ks.length:=AX hks;obtain⟨x,hx,hat⟩:=h.at c.loc hv (by simp);simp only[VRel]at hx;have hadd:=h.add c.nm h9 (.row AC c.e c.ag c.ks []) (.slice AB 0 0) (λb hb=>by simp[FE,CO]at hb) (λO' hO'=>by
    simp only[ObRel];exact⟨hks',by simp[strMax],[],⟨by simp,.inl ⟨rfl,rfl⟩⟩,λi y hy=>by simp at hy⟩)
   have hadd:=hadd.shrink (F:=X.far) (λb hb=>⟨hb,λhb'=>by simp[FE,CO]at hb'⟩);refine⟨_,hadd.putLoc c.loc (x:=x) ?_ ?_⟩
   .simp only[VRel,GS,CX];subst hx;exact⟨A4 _,AB,0,0,AB,rfl,rfl,A4 _,A4 _,A4 _,by simp[maxLen],.inl rfl,λ_=>rfl⟩
   .revert hat;cases c.loc with
    |tmp t=>exact λhat=>hat
    |cell b k=>
     intro hat;obtain⟨cs,bb,T,cc,q1,q2,q3,q4⟩:=hat;intro cs2 hcs2;rw[GS]at hcs2;split at hcs2
     .cases hcs2
     .rename_i hne;exact⟨bb,T,cc,by simp only[BO hne];exact q2,q3,q4⟩
  .exact⟨γ,h⟩
 .rename_i n lo hi hv;split
  .rename_i e ag ks l hn hlo hob;have hn':=I4.1 hn;obtain rfl:=F1.1 hlo;obtain⟨x,hx,hat⟩:=h.at c.loc hv (by simp);simp only[VRel,hob]at hx;have hk:=h.kill n;have hor:=h.ob n _ hob;have hkb:∀b,FE (γ n) (.row AC e ag ks l) b->FC γ st.o n b:=λb hb=>⟨_,hob,hb⟩
   have hadd:=hk.add c.nm h9 (.row AC e ag ks l) (γ n) (λb hb=>⟨.inr (hkb b hb),(h.lt b ⟨n,_,hob,hb⟩).2⟩) (λO' hO'=>by
    simp only[ObRel]at hor ⊢;obtain⟨k1,k2,xs,k3,k4⟩:=hor;refine⟨k1,k2,xs,k3,λi y hy=>Kd.RelAll.mono (Keep.refl _ w) (λb _ hb=>?_) (λ_ _ hu=>hu) (k4 i y hy)⟩;rcases hO' b hb with h1|h1|h1
    .obtain⟨m,ob1,q1,q2⟩:=h1;simp only[St.up]at q1;rw[EP]at q1;split at q1
     .cases q1
     .exact .inl ⟨m,ob1,q1,q2⟩
    .exact .inr h1
    .obtain⟨ob1,q1,q2⟩:=h1;exact .inl ⟨n,ob1,q1,q2⟩)
   have hadd:=hadd.shrink (F:=X.far) (λb hb=>⟨.inl hb,λhb'=>h.nr b ⟨n,_,hob,hb'⟩ hb⟩);refine⟨_,hadd.putLoc c.loc (x:=x) ?_ ?_⟩
   .simp only[VRel,GS,CX];exact hx
   .revert hat;cases c.loc with
    |tmp t=>exact λhat=>hat
    |cell b k=>
     intro hat;obtain⟨cs,bb,T,cc,q1,q2,q3,q4⟩:=hat;intro cs2 hcs2;rw[GS]at hcs2;split at hcs2
     .cases hcs2
     .rename_i hne;exact⟨bb,T,cc,by simp only[BO hne];exact q2,q3,q4⟩
  .exact⟨γ,h⟩
 .exact⟨γ,h⟩
theorem Rel.canons:∀(l:List Can) {γ:Nat->Value} {st:St},Rel B nt w0 X γ st a w->∃γ',Rel B nt w0 X γ' (canons l st) a w
 |[],γ,st,h=>⟨γ,h⟩
 |c::r,γ,st,h=>by
  obtain⟨γ1,h1⟩:=h.canon1 c;exact Rel.canons r h1
theorem Rel.restrict(h:Rel B nt w0 X γ st a w)(kp:KP):∃γ',Rel B nt w0 X γ' (restrict kp st) a w:=by
 have h1:Rel B nt w0 X γ ⟨VS st kp.t,st.o⟩ a w:=h.less (λi=>mM st kp.t i) (λ_ _ h=>h);obtain⟨γ',h2⟩:=h1.canons kp.c;exact⟨γ',h2.less (λi=>mM _ kp.t i) (λn ob=>Hp _ kp.o n ob)⟩
variable (hT:TiOK P B E) (hE:∀ t,t∈E.eqs→EqSnd P t (E.tyd t).ks) (hSp:SpOK P B E w0 X) (hB:BldOK P B E) (hnt:E.nt=nt) (hn9:nt≤900000)
include hT hE hSp hB hnt hn9
theorem rI{Q:Exit->Act->World->Prop}{r:V×List (List V)}{ops:Array Oper}{k:St->DU}:
  ∀(l:List Oper) (i:Nat) {γ:Nat->Value} {st:St} {a:Act} {w:World},ops.toList.drop i=l->P6 E ops.toList l st k=AA r->Rel B nt w0 X γ st a w->
   (∀γ' st' a' w',Rel B nt w0 X γ' st' a' w'->k st'=AA r->Q .normal a' w')->wpOps P ops Q (vbh i l.length) a w
 |[],i,γ,st,a,w,hl,he,h,hk=>by
  simp only[P6]at he;exact hk _ _ _ _ h he
 |o::l,i,γ,st,a,w,hl,he,h,hk=>by
  have hoi:ops[i]?=AA o:=by
   rw[<-vaE]
   have:=congrArg (·[0]?) hl
   simpa using this
  have hl':ops.toList.drop (i+1)=l:=by
   have:=congrArg (A3 1) hl
   simpa using this
  simp only[AV,List.range'_succ,wpOps,hoi];simp only[P6]at he;have hd:Q8 E o.dst=AC:=by
   cases hd:Q8 E o.dst with
   |true=>rfl
   |false=>rw[hd]at he;cases he
  rw[hd]at he;simp only at he;have go:∀{st:St},Rel B nt w0 X γ st a w->DL o (yielded ops a.tmps)=AC->(bV E st.o (opd st) o.dst o.op λv us=>P6 E ops.toList l ((st.ups us).put o.dst v) k)=AA r->
    (if DL o (yielded ops a.tmps)=AC then o.wp P a w (wpOps P ops Q (vbh (i+1) l.length)) Q\/(o.asks P a w/\LetsOut Q)else wpOps P ops Q (vbh (i+1) l.length) (a.put o.dst undef) w):=by
   intro st h hw he;rw[BX hw];obtain⟨v,us,h2,h1⟩:=zc6 hT hE hSp hB h o (λd hdd e=>by subst e;rw[hdd]at hd;simp only[Q8]at hd;have h8:900000+1<=E.nt:=AX hd;omega) he;refine .inl (h1 _ _ (λγ' x w' h3 h4=>?_));exact rI l (i+1) hl' h2 (h3.put hnt hd h4) hk
  have no:∀{st:St},Rel B nt w0 X γ st a w->DL o (yielded ops a.tmps)=AD->P6 E ops.toList l (st.put o.dst (.tup [])) k=AA r->
    (if DL o (yielded ops a.tmps)=AC then o.wp P a w (wpOps P ops Q (vbh (i+1) l.length)) Q\/(o.asks P a w/\LetsOut Q)else wpOps P ops Q (vbh (i+1) l.length) (a.put o.dst undef) w):=by
   intro st h hw he;rw[BO (by rw[hw];simp)];exact rI l (i+1) hl' he (h.put hnt hd (by simp only[VRel];exact⟨#[],rfl,by simp only[VRels]⟩)) hk
  split at he
  .rename_i hg;exact go h (by simp[DL,hg]) he
  .rename_i j b hg;split at he
   .rename_i dj hdj;split at he
    .rename_i c hc;have hy:yielded ops a.tmps j=AA c:=by
      unfold yielded;rw[show ops[j]?=ops.toList[j]? by simp,g9 _ _ _ hdj];simp[zY h hc]
     have hlit:=h.lit hc;cases c with
     |true=>
      simp only at he;cases b with
      |true=>exact go (st:=st.put (AA dj) (.bool AC)) hlit (by simp[DL,hg,hy]) he
      |false=>exact no (st:=st.put (AA dj) (.bool AC)) hlit (by simp[DL,hg,hy]) he
     |false=>
      simp only at he;cases b with
      |false=>exact go (st:=st.put (AA dj) (.bool AD)) hlit (by simp[DL,hg,hy]) he
      |true=>exact no (st:=st.put (AA dj) (.bool AD)) hlit (by simp[DL,hg,hy]) he
    .rename_i hc;have hy:yielded ops a.tmps j=AB:=by
      unfold yielded;rw[show ops[j]?=ops.toList[j]? by simp,g9 _ _ _ hdj];rcases Uu h hc with h0|h0<;>simp[h0]
     exact no h (by simp[DL,hg,hy]) he
    .cases he
   .cases he
def rM:Out->Exit
 |.normal=>.normal
 |.exit i=>.exit i
 |.ret=>.ret
omit hT hE hSp hB hnt hn9 in
theorem Ie (J:Nat→Prop) (h:∃ n,J n):∃ n,J n∧∀ m,J m→n≤m:=by
 obtain ⟨n,hn⟩:=h
 induction n using Nat.strongRecOn with
 | _ n ih=>
  by_cases hm:∃ m,m < n∧J m
  ·obtain ⟨m,h1,h2⟩:=hm;exact ih m h1 h2
  ·exact ⟨n,hn,fun m hJ=>Nat.le_of_not_lt (fun hlt=>hm ⟨m,hlt,hJ⟩)⟩
theorem YH(hm:P.follows .mixedOrders=AC){r:V×List (List V)}:∀(c:Code) {k:Out->St->DU} {Q:Exit->Act->World->Prop} {γ:Nat->Value} {st:St} {a:Act} {w:World},Q6 E c st k=AA r->Rel B nt w0 X γ st a w->
  (∀o γ' st' a' w',Rel B nt w0 X γ' st' a' w'->k o st'=AA r->Q (rM o) a' w')->c.wp P Q a w
 |.skip,k,Q,γ,st,a,w,he,h,hk=>wp_skip (hk .normal γ st a w h he)
 |.exit id,k,Q,γ,st,a,w,he,h,hk=>wp_exit (hk (.exit id) γ st a w h he)
 |.ret,k,Q,γ,st,a,w,he,h,hk=>wp_ret (hk .ret γ st a w h he)
 |.label _,k,Q,γ,st,a,w,he,h,hk=>by simp[Q6,KL]at he
 |.goto _,k,Q,γ,st,a,w,he,h,hk=>by simp[Q6,KL]at he
 |.scope _,k,Q,γ,st,a,w,he,h,hk=>by simp[Q6,KL]at he
 |.rangeFunc _ _ _ _,k,Q,γ,st,a,w,he,h,hk=>by simp[Q6,KL]at he
 |.region id ops draw,k,Q,γ,st,a,w,he,h,hk=>by
  simp only[Q6,KL]at he;cases draw with
  |true=>
   simp only at he;exact fm hT hE hSp hB hnt hn9 hm he h (λγ' st' a' w' h' hk'=>hk .normal γ' _ a' w' (h'.prune _) hk')
  |false=>
   simp only at he;refine wp_region ?_;rw[show ops.size=ops.toList.length by simp,List.range_eq_range'];exact rI hT hE hSp hB hnt hn9 ops.toList 0 rfl he h (λγ' st' a' w' h' hk'=>hk .normal γ' _ a' w' (h'.prune _) hk')
 |.seq x y,k,Q,γ,st,a,w,he,h,hk=>by
  simp only[Q6,KL]at he;refine wp_seq (YH hm x he h (λo γ' st' a' w' h' hk'=>?_));cases o with
  |normal=>exact YH hm y hk' h' hk
  |exit i=>exact hk (.exit i) γ' st' a' w' h' hk'
  |ret=>exact hk .ret γ' st' a' w' h' hk'
 |.cond c x y,k,Q,γ,st,a,w,he,h,hk=>by
  simp only[Q6,KL]at he;split at he
  .rename_i b hc;have hcr:=FZ h c;rw[hc]at hcr;simp only[VRel]at hcr;have hlit:Rel B nt w0 X γ (mX st c b) a w:=by
    unfold mX;split
    .exact h.lit hc
    .exact h
   cases b with
   |true=>exact wp_cond_true hcr (YH hm x he hlit hk)
   |false=>exact wp_cond_false hcr (YH hm y he hlit hk)
  .cases he
 |.block id c,k,Q,γ,st,a,w,he,h,hk=>by
  simp only[Q6,KL]at he;refine wp_block (YH hm c he h (λo γ' st' a' w' h' hk'=>?_));cases o with
  |normal=>exact hk .normal γ' st' a' w' h' hk'
  |ret=>exact hk .ret γ' st' a' w' h' hk'
  |exit i=>
   simp only[rM,Exit.inBlock];simp only[DW]at hk';cases hb:B2 i id with
   |true=>
    rw[hb]at hk';rw[BX (F1.1 hb)];exact hk .normal γ' st' a' w' h' hk'
   |false=>
    rw[hb]at hk';rw[BO (I4.1 hb)];exact hk (.exit i) γ' st' a' w' h' hk'
 |.loop c,k,Q,γ,st,a,w,he,h,hk=>by
  simp only[Q6,KL]at he;generalize FA ⟨[],[],[]⟩ E.lp (aO c)=kp at he
  let J:Act->World->Nat->Prop:=λa w n=>∃γ st,Rel B nt w0 X γ st a w/\SB c (KL SB E c) kp n st k=AA r
  obtain⟨γr,hr⟩:=h.restrict kp;refine wp_loop (λa w=>∃n,J a w n) (λa w=>(Classical.epsilon λn=>J a w n/\∀m,J a w m->n<=m)) ⟨_,γr,_,hr,he⟩ ?_;intro a w hI;have hleast:=Classical.epsilon_spec (Ie (J a w) hI);generalize(Classical.epsilon λn=>J a w n/\∀m,J a w m->n<=m)=n at hleast;obtain⟨⟨γ1,st1,h1,he1⟩,_⟩:=hleast;cases n with
  |zero=>simp[SB]at he1
  |succ n=>
   simp only[SB]at he1;refine YH hm c he1 h1 (λo γ' st' a' w' h' hk'=>?_);obtain⟨γr,hr⟩:=h'.restrict kp;cases o with
   |normal=>
    simp only[rM,Exit.then];have hJ:J a' w' n:=⟨γr,_,hr,hk'⟩;refine⟨⟨n,hJ⟩,?_⟩
    have:=Classical.epsilon_spec (Ie (J a' w') ⟨n,hJ⟩)
    exact Nat.lt_succ_of_le (this.2 n hJ)
   |exit i=>exact hk (.exit i) γr _ a' w' hr hk'
   |ret=>exact hk .ret γr _ a' w' hr hk'
end
open Go Go.RowKit
theorem tT(o:Store)(bs:List V)(tk:Option Kd)(v:V):H5 (IN (EZ o bs tk v))=AC:=by
 cases v<;>simp only[EZ]<;>repeat' split
 all_goals rfl
theorem tG(o:Store)(bs:List V):∀(l:List V) (ks:List Kd),(MV (λk v=>IN (EZ o bs k v)) ks l).all H5=AC
 |[],ks=>by cases ks<;>rfl
 |v::l,[]=>by simp[MV,tT,tG o bs l []]
 |v::l,k::ks=>by simp[MV,tT,tG o bs l ks]
theorem vU(o:Store)(ks:List Kd)(v:V):(match NW o ks v with|.agg l=>l.all H5|v=>H5 v)=AC/\∀l,NW o ks v≠.tup l:=by
 by_cases hc:∃l,v=.agg l
 .obtain⟨l,rfl⟩:=hc;simp only[NW];exact⟨tG o [] l ks,λl' h=>by cases h⟩
 .have h1:NW o ks v=IN (EZ o [] ks.head? v):=by cases v<;>first|rfl|exact absurd ⟨_,rfl⟩ hc
  have h2:=tT o [] ks.head? v;rw[h1];cases hx:IN (EZ o [] ks.head? v)<;>rw[hx]at h2<;>simp only[H5]at h2 ⊢ <;>first|(cases h2;done)|(refine⟨trivial,λl h=>?_⟩;cases h)
theorem vW(o:Store)(ks:List (List Kd))(v:V):MR (H1 o ks v)=AC:=by
 by_cases hc:∃l,v=.tup l
 .obtain⟨l,rfl⟩:=hc;simp only[H1,MR];have key:∀(l:List V) (ks:List (List Kd)),((H1.go o ks l).all λv=>match v with|.agg l=>l.all H5|v=>H5 v)=AC:=by
   intro l
   induction l with
   |nil=>intro ks;cases ks<;>rfl
   |cons v l ih=>
    intro ks;cases ks with
    |nil=>simp only[H1.go,van,AQ];exact⟨(vU o [] v).1,ih []⟩
    |cons k ks=>simp only[H1.go,van,AQ];exact⟨(vU o k v).1,ih ks⟩
  exact key l ks
 .have h1:H1 o ks v=NW o (ks.headD []) v:=by cases v<;>first|rfl|exact absurd ⟨_,rfl⟩ hc
  rw[h1];obtain⟨h2,h3⟩:=vU o (ks.headD []) v;cases hx:NW o (ks.headD []) v<;>rw[hx]at h2<;>simp only[MR]at h2 ⊢ <;>first|exact h2|exact absurd hx (h3 _)
theorem qD(o:Store)(all:List Nat)(cs:List V):(cs.map (FS o all)).all SI=AC:=by
 refine CZ.2 (λv hv=>?_);obtain⟨u,_,rfl⟩:=CU.1 hv;rcases gS o all u with⟨_,_,_,_,_,_,_,_,_,h1⟩|⟨h1,_⟩
 .rw[h1];rfl
 .cases hcc:FS o all u<;>first|rfl|(rw[hcc]at h1;cases h1)
section
variable {B:BT} {nt:Nat} {w0:World} {X:Zone} {γ:Nat→Value} {st st':St} {a:Act} {w:World} {P:Program} {E:Env}
theorem za9(h:Rel B nt w0 X γ st a w){n:Nat}{cs:List V}(ho:DV st.o n=AA (.box cs)){extra:List Nat}{m:Nat}(hm:m∈extra){b:Nat}(hr:RowOf γ st.o m b):
  ¬(FC γ st.o n b\/∃m∈HJ st.o (FD cs++extra) cs,FC γ st.o m b):=by
 intro hLb;obtain⟨e,ag,ks,l,h5,h6⟩:=hr;rcases hLb with⟨ob,h7,h8⟩|⟨m2,h9,ob,h7,h8⟩
 .have hne:n≠m:=by
   rintro rfl;rw[ho]at h5;cases h5
  exact h.dis n m ob _ b hne h7 h5 h8 h6
 .by_cases hne:m2=m
  .subst hne;obtain⟨hi2,e2,ag2,ks2,l2,k1,k2,k3⟩:=TV.1 h9;rw[VY]at k3;have q1:=VZ (YV k1);have q2:=VZ hm;omega
  .exact h.dis m2 m ob _ b hne h7 h5 h8 h6
theorem ld{p:Value}(h:Rel ⟨B.T,B.e,AA p,B.ng,B.F⟩ nt w0 X γ st a w){v:V}{x:Value}(hv:VRel γ st.o w (DY X γ st.o) v x){ks:List (List Kd)}{vs:List V}{r:V}{out:List (List V)}(he:lT st.o ks (FX vs) v=AA (r,out)){g0:Value}(hp:p=TG g0):
  ∃γ',Rel B.base 0 w0 X γ' ⟨[],GZ r out⟩ J1 w/\VRel γ' (GZ r out) w (DY X γ' (GZ r out)) (MZ r) x/\LF vs r out g0 (γ' 900000):=by
 have hfar:∀b,X.far b->DY X γ st.o b/\∀b',b'=b->¬FN γ st.o b':=λb hb=>⟨.inr hb,λb' e hP=>h.nr b' hP (e▸hb)⟩
 have hbd:∀{n:Nat} {cs:List V} (ho:DV st.o n=AA (.box cs)) (extra:List Nat),∃γb,Rel B.base 0 w0 X γb ⟨[],E7 (cs.map (FS st.o (FD cs++extra)))⟩ J1 w/\γb 900000=γ n/\
   ∀b,FN γb (E7 (cs.map (FS st.o (FD cs++extra)))) b->FC γ st.o n b\/∃m∈HJ st.o (FD cs++extra) cs,FC γ st.o m b:=by
  intro n cs ho extra;exact h.bound ho extra (w1:=w0) (own1:=X.own) (F:=X.far) h.keep (λb hb=>⟨.inr hb,λ⟨ob,h1,h2⟩=>h.nr b ⟨n,ob,h1,h2⟩ hb,λm _ ⟨ob,h1,h2⟩=>h.nr b ⟨m,ob,h1,h2⟩ hb,λm _ ⟨ob,h1,h2⟩=>h.nr b ⟨m,ob,h1,h2⟩ hb⟩)
   (λb hb=>by
    rcases hb with⟨ob,h1,h2⟩|⟨m,_,ob,h1,h2⟩
    .exact(h.lt b ⟨n,ob,h1,h2⟩).2
    .exact(h.lt b ⟨m,ob,h1,h2⟩).2)
 have hbP:∀{n b:Nat} {hs:List Nat},(FC γ st.o n b\/∃m∈hs,FC γ st.o m b)->FN γ st.o b:=by
  rintro n b hs (⟨ob,h1,h2⟩|⟨m,_,ob,h1,h2⟩)
  .exact⟨n,ob,h1,h2⟩
  .exact⟨m,ob,h1,h2⟩
 unfold lT at he;split at he
 .rename_i s0 hb;split at he
  .rename_i s hob;simp only[AK,A1]at he;obtain⟨rfl,rfl⟩:=he;obtain⟨hR,hP⟩:=h.boundB hob (w1:=w0) (own1:=X.own) (F:=X.far) h.keep (λb hb=>⟨.inr hb,λ⟨ob,h1,h2⟩=>h.nr b ⟨_,ob,h1,h2⟩ hb⟩) (λb ⟨ob,h1,h2⟩=>(h.lt b ⟨_,ob,h1,h2⟩).2);have hmo:GZ (H1 st.o ks v) [[.bld s]]=E7 [.bld s]:=by cases H1 st.o ks v<;>rfl
   have hf:=vW st.o ks v;refine⟨_,by rw[hmo];exact hR,?_,?_⟩
   .rw[hmo,V7 hf];refine vX h hv (λb _ hb=>?_) (λm hm b hr hb=>?_) ks
    .exact hb.imp_left (λhb=>by obtain⟨ob,h1,h2⟩:=hP b hb;exact⟨_,ob,h1,h2⟩)
    .obtain⟨e,ag,ks',l,q1,q2⟩:=hr;rcases hb with hb|hb
     .obtain⟨ob,h1,h2⟩:=hP b hb;refine h.dis 900000 m ob _ b ?_ h1 q1 h2 q2;rintro rfl;rw[hob]at q1;cases q1
     .exact h.nr b ⟨m,_,q1,q2⟩ hb
   .simp only[LF,hb];exact⟨hf,rfl,(h.pn p rfl _ hob).trans hp⟩
  .cases he
 .rename_i cs0 hnb hb;split at he
  .rename_i cs hob;simp only[AK,A1]at he;obtain⟨rfl,rfl⟩:=he;obtain⟨γb,hR,hg,hP⟩:=hbd hob (LB v);have hmo:GZ (H1 st.o ks v) [cs.map (FS st.o (FD cs++LB v))]=E7 (cs.map (FS st.o (FD cs++LB v))):=by cases H1 st.o ks v<;>rfl
   have hf:=vW st.o ks v;refine⟨γb,by rw[hmo];exact hR,?_,?_⟩
   .rw[hmo,V7 hf];refine vX h hv (λb _ hb=>hb.imp_left (λhb=>hbP (hP b hb))) (λm hm b hr hb=>?_) ks;rcases hb with hb|hb
    .exact za9 h hob hm hr (hP b hb)
    .obtain⟨e,ag,ks',l,q1,q2⟩:=hr;exact h.nr b ⟨m,_,q1,q2⟩ hb
   .simp only[LF,hb];refine⟨hf,?_,?_⟩
    .unfold v9;split
     .exact absurd rfl (hnb _)
     .exact absurd rfl (hnb _)
     .exact qD _ _ _
    .rw[hg];exact(h.pn p rfl _ hob).trans hp
  .cases he
 .rename_i hb;have fin9:∀v,VRel γ st.o w (DY X γ st.o) v x->∃γ',Rel B.base 0 w0 X γ' ⟨[],GZ (H1 st.o ks v) []⟩ J1 w/\VRel γ' (GZ (H1 st.o ks v) []) w (DY X γ' (GZ (H1 st.o ks v) [])) (MZ (H1 st.o ks v)) x/\LF vs (H1 st.o ks v) [] g0 (γ' 900000):=by
   intro v hv;have hf:=vW st.o ks v;have hmo:GZ (H1 st.o ks v) []=[]:=by
    cases hx:H1 st.o ks v<;>first|rfl|(rw[hx]at hf;simp only[MR,H5]at hf;cases hf)
   refine⟨γ,?_,?_,?_⟩
   .rw[hmo];refine⟨rfl,rfl,λi=>by simp only[St.get,FA,VRel],λn ob hn=>?_,?_,?_,h.keep,?_,h.fl,λp hp=>by cases hp⟩
    .simp only[DV,FA]at hn;cases hn
    .rintro b ⟨n,ob,hn,_⟩;simp only[DV,FA]at hn;cases hn
    .intro n m ob ob' b _ hn;simp only[DV,FA]at hn;cases hn
    .rintro b ⟨n,ob,hn,_⟩;simp only[DV,FA]at hn;cases hn
   .rw[hmo,V7 hf];refine vX h hv (λb _ hb=>?_) (λm hm b hr hb=>?_) ks
    .rcases hb with⟨n,ob,hn,_⟩|hb
     .simp only[DV,FA]at hn;cases hn
     .exact .inr hb
    .rcases hb with⟨n,ob,hn,_⟩|hb
     .simp only[DV,FA]at hn;cases hn
     .obtain⟨e,ag,ks',l,q1,q2⟩:=hr;exact h.nr b ⟨m,_,q1,q2⟩ hb
   .simp only[LF,hb];cases hx:H1 st.o ks v<;>first|(rw[hx]at hf;exact hf)|(rw[hx]at hf;simp only[MR,H5]at hf;cases hf)
  split at he
  .rename_i n i c;split at he
   .rename_i cs hob hc;simp only[AK,A1]at he;obtain⟨rfl,rfl⟩:=he;obtain rfl:=F1.1 hc;obtain⟨γb,hR,hg,hP⟩:=hbd hob [];refine⟨γb,hR,?_,?_⟩
    .simp only[VRel,hob]at hv;simp only[GZ,MZ,EV,VRel];rw[aN (qD _ _ _),EP,BX rfl,hg];exact⟨trivial,hv.2⟩
    .simp only[LF,hb,bG];exact qD _ _ _
   .cases he
  .rename_i n lo hi;split at he
   .rename_i e ag ks' l hob;split at he
    .rename_i hlo;simp only[AK,A1]at he;obtain⟨rfl,rfl⟩:=he;obtain rfl:=F1.1 hlo;obtain⟨hpr,hpb⟩:=uY (γ':=λm=>if m=900000 then x else γ m) (o':=[(900000,AA (Ob.row AC e ag ks' (l.take hi)))]) h hob hv;have hmo:GZ (.vec e ag ks' (l.take hi)) []=[(900000,AA (.row AC e ag ks' (l.take hi)))]:=rfl;have obs:∀m ob,DV [(900000,AA (Ob.row AC e ag ks' (l.take hi)))] m=AA ob->m=900000/\ob=.row AC e ag ks' (l.take hi):=λm ob hn=>by
      rw[EP]at hn;split at hn
      .rename_i h9;simp only[AK]at hn;exact⟨h9.symm,hn.symm⟩
      .simp[DV,FA]at hn
     have ownP:∀b,FN (λm=>if m=900000 then x else γ m) [(900000,AA (Ob.row AC e ag ks' (l.take hi)))] b->FC γ st.o n b:=by
      rintro b ⟨m,ob,hn,hb⟩;obtain⟨rfl,rfl⟩:=obs m ob hn;exact hpb b (by simpa only[CX]using hb)
     have hlt:∀b,FC γ st.o n b->FN γ st.o b:=λb ⟨ob,h1,h2⟩=>⟨n,ob,h1,h2⟩
     have hO:∀b,b<w.heap.size->DY X (λm=>if m=900000 then x else γ m) [(900000,AA (Ob.row AC e ag ks' (l.take hi)))] b->DY X γ st.o b:=λb _ hb=>hb.imp_left (λhb=>hlt b (ownP b hb))
     rw[hmo];refine⟨λm=>if m=900000 then x else γ m,⟨rfl,rfl,λi=>by simp only[St.get,FA,VRel],λm ob hn=>?_,λb hb=>h.lt b (hlt b (ownP b hb)),λm m' ob ob' b hnm h1 h2=>?_,h.keep,λb hb=>h.nr b (hlt b (ownP b hb)),h.fl,λp hp=>by cases hp⟩,?_,?_⟩
     .obtain⟨rfl,rfl⟩:=obs m ob hn;simp only[ObRel,CX]at hpr ⊢;obtain⟨k1,k2,xs,k3,k4⟩:=hpr;exact⟨k1,k2,xs,k3,λi y hy=>Kd.RelAll.mono (Keep.refl _ w) hO (λ_ _ hu=>hu) (k4 i y hy)⟩
     .obtain⟨rfl,rfl⟩:=obs m ob h1;obtain⟨rfl,rfl⟩:=obs m' ob' h2;exact absurd rfl hnm
     .simp only[MZ,VRel,EP,CX];refine⟨A4 _,?_⟩;simp only[VRel,hob]at hv;obtain⟨hl,p,len,cap,p',hgm,hxx,_,h22,h33,hm4,_,h5⟩:=hv;have htl:(l.take hi).length=hi:=by rw[BL,vaG hl]
      rw[htl];rw[vas,vas]at hxx;refine⟨p',hi,cap,p',hxx,by rw[hxx];simp,CH _,A4 _,by omega,hm4,.inl ?_,λ_=>rfl⟩;cases p'<;>simp[Addr.add]
     .simp only[LF,hb,bG]
    .cases he
   .simp only[AK,A1]at he;obtain⟨rfl,rfl⟩:=he;exact fin9 _ hv
  .rename_i hnp;simp only[AK,A1]at he;obtain⟨rfl,rfl⟩:=he;exact fin9 _ hv
theorem Fd:∀(vs:List V) (i j:Nat),FA .any (iA i vs) j=if i<=j/\j<i+vs.length then EV (vs.getD (j-i) .any)else .any
 |[],i,j=>by
  rw[BO (by simp only[BN];omega)];rfl
 |v::r,i,j=>by
  simp only[iA,SA,Fd r (i+1) j,AV];by_cases e:i=j
  .subst e;simp
  .rw[BO e];by_cases h:i+1<=j/\j<i+1+r.length
   .rw[BX h,BX AG,show j-i=(j-(i+1))+1 by omega];simp
   .rw[BO h,BO AG]
theorem vV(hT:TiOK P B E){w:World}:∀{rs:List ResultVar} {l:List V},V5 E st rs=AA l->Rel B nt w0 X γ st a w->
  ∃xs:List Value,(rs.mapM λr=>match r with|.tmp t=>pure (a.tmps.getD t undef)|.cell ad t=>do loadVar t (<-asAddr (a.tmps.getD ad undef)):Sem (List Value)).run P w=.ok xs w/\VRels γ st.o w (DY X γ st.o) l xs
 |[],l,h,hR=>by
  simp only[V5,AK]at h;subst h;exact⟨[],by simp,by simp only[VRels]⟩
 |.tmp t::r,l,h,hR=>by
  simp only[V5]at h;split at h
  .rename_i l' hl';simp only[AK]at h;subst h;obtain⟨xs,h1,h2⟩:=vV hT hl' hR;refine⟨a.tmps.getD t undef::xs,?_,?_⟩
   .simp only[List.mapM_cons,CL,CM,B9,h1]
   .simp only[VRels];exact⟨hR.tm t,h2⟩
  .cases h
 |.cell ad t::r,l,h,hR=>by
  simp only[V5]at h;split at h
  .rename_i n i c hop;split at h
   .rename_i cs hob;split at h
    .rename_i v l' hv hl';simp only[AK]at h;subst h;obtain⟨xs,h1,h2⟩:=vV hT hl' hR;have hx:=hR.tm ad;rw[hop]at hx;simp only[VRel,hob]at hx;obtain⟨_,b,hg,hx⟩:=hx;have hor:=hR.ob n _ hob;simp only[ObRel]at hor;obtain⟨b',cs',T,hg',hh,hr⟩:=hor;rw[hg]at hg';simp only[C6,AK,DI,CI]at hg';subst hg';obtain⟨y,hy,hr'⟩:=Hz (hT.known (Hy hv)) hv hh hr;refine⟨y::xs,?_,?_⟩
     .have hy':(do loadVar t (<-asAddr (a.tmps.getD ad undef)):Sem Value).run P w=.ok y w:=by
       rw[hx];exact hy
      simp only[CL]at hy';simp only[List.mapM_cons,CL,hy',CM,B9,h1]
     .simp only[VRels];exact⟨hr',h2⟩
    .cases h
   .cases h
  .cases h
theorem fo{f:FuncId}{fn:Func}{code:Code}(hf:P.funcs[f]?=AA fn)(hn:(fn.name== "runtime.NumGoroutine")=AD)(hb:fn.body=AA code)(hnt:E.nt=fn.ntmps)(hn9:CG fn.ntmps 900000=AC){rs:List ResultVar}(hrs:fn.results.toList=rs)
  (rks:List (List Kd)) (hm:P.follows .mixedOrders=AC) (hT:TiOK P B E) (hE:∀t,t∈E.eqs->EqSnd P t (E.tyd t).ks) (hSp:∀f sp,lk E.sp f=AA sp->Snd P B f (λvs=>(sp vs).get)) (hIp:∀f p,lk E.ip f=AA p->S1 P f p) (hB:BldOK P B E):Snd P B f (EA E code rs rks):=by
 intro w X γ vs xs r out hsp hgl hxo hR hV;unfold EA at hsp;split at hsp
 case h_2=>cases hsp
 rename_i hle;have hle':=AX hle;have hlen:xs.length=vs.length:=by rw[<-hV.length,BW]
 refine Does.enter hf hn (by rw[hb];rfl) (calls_of_wp hf hb ?_)
 let B':BT:=⟨B.T,B.e,AA (TG (γ 900000)),B.ng,B.F⟩
 have hT':TiOK P B' E:=λt x ht=>⟨(hT t x ht).info,(hT t x ht).ks,(hT t x ht).by1,(hT t x ht).one,(hT t x ht).und⟩
 have hSp':SpOK P B' E w X:=⟨⟨hgl,hxo⟩,λf sp hfs=>hSp f sp hfs,hIp⟩;have hB':BldOK P B' E:=hB;have hstart:Rel B' fn.ntmps w X γ ⟨iA 0 vs,I0 vs⟩ {tmps:=xs.toArray++Array.replicate (fn.ntmps-xs.toArray.size) undef,defers:=[]} w:=by
  refine⟨?_,rfl,λi=>?_,λn ob hnob=>?_,hR.lt,hR.dis,hR.keep,hR.nr,hR.fl,λp hp ob _=>?_⟩
  .simp;omega
  .simp only[St.get,Fd];split
   .rename_i hi;have hi':i<vs.length:=by omega
    have h1:(vs.map EV)[i]?=AA (EV vs[i]):=by simp[hi']
    obtain⟨x,hx,hvx⟩:=hV.get h1;have h2:vs.getD (i-0) .any=vs[i]:=by simp[hi']
    rw[h2];have h3:(xs.toArray++Array.replicate (fn.ntmps-xs.toArray.size) undef).getD i undef=x:=by
     rw[vbm,Array.getElem?_append_left (by simp;omega)];simp[hx]
    simp only[h3];exact hvx
   .simp only[VRel]
  .have:=hR.ob n ob hnob
   cases ob with
   |box l=>simpa only[ObRel]using this
   |row own e ag ks l=>cases own<;>simpa only[ObRel]using this
   |bld s=>simpa only[ObRel,BT.base]using this
   |map _ _=>simpa only[ObRel,BT.base]using this
   |iter _ _ _=>simpa only[ObRel,BT.base]using this
  .simp only[B',AK]at hp;exact hp
 refine YH hT' hE hSp' hB' hnt (AX hn9) hm code hsp hstart (λo γ' st' a' w' h' hk'=>?_);have fin:∀l,V5 E st' rs=AA l->lT st'.o rks (FX vs) (bS l)=AA (r,out)->bodyPost P fn (λe w'=>∃x,e=.returned x/\∃γ',Rel B.base 0 w X γ' ⟨[],GZ r out⟩ J1 w'/\VRel γ' (GZ r out) w' (DY X γ' (GZ r out)) (MZ r) x/\LF vs r out (γ 900000) (γ' 900000)) .ret a' w':=by
  intro l hl he;obtain⟨ys,hy1,hy2⟩:=vV (P:=P) hT' hl h';have hval:(results fn a'.tmps).run P w'=.ok (if h:ys.toArray.size=1 then ys.toArray[0]else .tuple ys.toArray) w':=by
   unfold results;rw[show fn.results=rs.toArray by rw[<-hrs]];rw[Array.mapM_eq_mapM_toList];simp only[CL,Sem.run_map]
   erw[hy1]
   rfl
  have hrel:VRel γ' st'.o w' (DY X γ' st'.o) (bS l) (if h:ys.toArray.size=1 then ys.toArray[0]else .tuple ys.toArray):=by
   match l,ys,hy2 with
   |[],[],_=>simp only[bS,VRel];exact⟨#[],by simp,by simp only[VRels]⟩
   |[v],[y],h2=>simp only[VRels]at h2;simpa[bS]using h2.1
   |v::v'::l,y::y'::ys,h2=>simp only[bS,VRel];exact⟨(y::y'::ys).toArray,by simp,by simpa using h2⟩
  obtain⟨γ2,q1,q2,q3⟩:=ld (B:=B) h' hrel he rfl;exact⟨h'.df,_,hval,_,rfl,γ2,q1,q2,q3⟩
 cases o with
 |exit i=>simp[D2]at hk'
 |normal=>
  simp only[D2]at hk';split at hk'
  .rename_i l hl;exact fin l hl hk'
  .cases hk'
 |ret=>
  simp only[D2]at hk';split at hk'
  .rename_i l hl;exact fin l hl hk'
  .cases hk'
end
open Go Go.RowKit
def zB:V->Value->Bool
 |.int k n,.int k' n'=>k==k'&&(n==n'&&aR k n)
 |.bool b,.bool c=>b==c
 |.str s,.string s'=>s.size==0&&s'.size==0
 |.zs,.slice AB 0 0=>AC
 |.nilp,.pointer AB=>AC
 |.err AC,.nilIface=>AC
 |.any,_=>AC
 |_,_=>AD
def cT:List V->List Value->Bool
 |[],[]=>AC
 |v::vs,x::xs=>zB v x&&cT vs xs
 |_,_=>AD
def yP:Kd->Value->Bool
 |.int k,.int k' n=>k==k'&&n==0
 |.bool,.bool b=>!b
 |.str,.string s=>s.size==0
 |_,_=>AD
theorem zgi{k:Kd}{z:Value}(h:yP k z=AC):WP k z:=by
 cases k<;>cases z<;>simp only[yP]at h<;>try (cases h;done)
 .simp only[AQ,CF]at h;obtain⟨rfl,rfl⟩:=h;rfl
 .simp only[CE]at h;subst h;rfl
 .rename_i s;have e:s=CQ:=by
   obtain⟨⟨l⟩⟩:=s;cases l with
   |nil=>rfl
   |cons a l=>simp[AP]at h
  subst e;rfl
def dB(P:Program)(T t:Nat)(ks:List Kd):TD->TypeDesc->Bool
 |.slice e,.slice e'=>e==e'
 |.struct fs,.struct fields=>fs==fields.toList.map (λf=>(f.offset,f.type))&&fields.toList.all (λf=>(P.info? f.type).isSome)
 |.array n e,.array n' e'=>n==n'&&e==e'
 |.ptr e,.pointer e'=>e==e'
 |.bld,_=>t==T
 |.map e k,.map kt e'=>e==e'&&((match P.underlying kt with|some (.int .i64)=>AC|_=>AD)&&(match P.info? e with|some i=>(match i.zero with|some z=>yP k z|none=>AD)|none=>AD))
 |.iface,.interface _=>AC
 |.leaf,d=>match ks with
  |[.int k]=>(match d with|.int k'=>k==k'|_=>AD)
  |[.str]=>(match d with|.string=>AC|_=>AD)
  |[.bool]=>(match d with|.bool=>AC|_=>AD)
  |_=>AC
 |_,_=>AD
def oU(P:Program)(T t:Nat)(x:TI):Bool:=
 match P.info? t,P.underlying t with
 |some i,AA d=>match i.zero with
  |some z=>i.size==x.size&&(i.bytes==x.bytes&&(z.cells.size==x.size&&(cT x.zero z.cells.toList&&(x.ks.length==x.size&&(CG 1 x.bytes&&((x.agg||x.size==1)&&(d.isRow==x.agg&&dB P T t x.ks x.d d)))))))
  |none=>AD
 |_,_=>AD
def j4(P:Program)(T:Nat):List (Nat×TI)->Bool
 |[]=>AC
 |(t,x)::r=>oU P T t x&&j4 P T r
theorem zgh{γ:Nat->Value}{o:Store}{w:World}{O:Nat->Prop}{v:V}{x:Value}(h:zB v x=AC):VRel γ o w O v x:=by
 unfold zB at h;split at h
 .simp only[AQ,CF,aR,AZ]at h;obtain⟨rfl,rfl,h1,h2⟩:=h;simp only[VRel];exact⟨trivial,h1,h2⟩
 .simp only[CF]at h;subst h;simp only[VRel]
 .rename_i s s';simp only[AQ,CF]at h;have e:∀s:BA,s.size=0->s=CQ:=λs hs=>by
   obtain⟨⟨l⟩⟩:=s;cases l with
   |nil=>rfl
   |cons a l=>simp[AP]at hs
  simp only[VRel];rw[e s h.1,e s' h.2];exact⟨rfl,by simp[ByteArray.size_empty]⟩
 .simp only[VRel]
 .simp only[VRel]
 .simp only[VRel]
 .simp only[VRel]
 .cases h
theorem Vs{γ:Nat->Value}{o:Store}{w:World}{O:Nat->Prop}:∀{l:List V} {xs:List Value},cT l xs=AC->VRels γ o w O l xs
 |[],[],_=>by simp only[VRels]
 |[],_::_,h=>by simp[cT]at h
 |_::_,[],h=>by simp[cT]at h
 |v::vs,x::xs,h=>by
  simp only[cT,AQ]at h;simp only[VRels];exact⟨zgh h.1,Vs h.2⟩
theorem zfu{P:Program}{B:BT}{t:Nat}{x:TI}(h:oU P B.T t x=AC):TISnd P B t x:=by
 unfold oU at h;split at h
 .rename_i i d hi hd;split at h
  .rename_i z hz;simp only[AQ,CF,vap]at h;obtain⟨h1,h2,h3,h4,h5,h6,h7,h8,h9⟩:=h;refine⟨⟨i,z,hi,h1,h2,hz,h3,λγ o w O=>Vs h4⟩,h5,AX h6,λha=>by rw[ha]at h7;simpa using h7,⟨d,hd,h8,?_⟩⟩;cases hx:x.d with
   |slice e=>rw[hx]at h9;cases d<;>simp only[dB]at h9<;>first|(cases h9;done)|(simp only[CF]at h9;subst h9;rfl)
   |struct fs=>
    rw[hx]at h9;cases d<;>simp only[dB]at h9<;>first|(cases h9;done)|skip
    rename_i fields;simp only[AQ,CF,CZ]at h9;exact⟨fields,rfl,h9.1,h9.2⟩
   |array n e=>
    rw[hx]at h9;cases d<;>simp only[dB]at h9<;>first|(cases h9;done)|skip
    simp only[AQ,CF]at h9;obtain⟨rfl,rfl⟩:=h9;rfl
   |ptr e=>rw[hx]at h9;cases d<;>simp only[dB]at h9<;>first|(cases h9;done)|(simp only[CF]at h9;subst h9;rfl)
   |bld=>rw[hx]at h9;simp only[dB,CF]at h9;exact h9
   |map e k=>
    rw[hx]at h9;cases d<;>simp only[dB]at h9<;>first|(cases h9;done)|skip
    rename_i kt e';simp only[AQ,CF]at h9;obtain⟨rfl,h10,h11⟩:=h9;split at h10
    .rename_i hu;split at h11
     .rename_i i' hi';split at h11
      .rename_i z' hz';exact⟨kt,i',z',rfl,hu,hi',hz',zgi h11⟩
      .cases h11
     .cases h11
    .cases h10
   |iface=>rw[hx]at h9;cases d<;>simp only[dB]at h9<;>first|(cases h9;done)|exact⟨_,rfl⟩
   |leaf=>
    rw[hx]at h9;refine⟨λk hk=>?_,λhk=>?_,λhk=>?_⟩<;>rw[hk]at h9<;>cases d<;>simp only[dB]at h9<;>first|(cases h9;done)|(simp only[CF]at h9;subst h9;rfl)|rfl
  .cases h
 .cases h
theorem Ud{P:Program}{B:BT}{E:Env}{ti:List (Nat×TI)}(he:E.ti=ti)(h:j4 P B.T ti=AC):TiOK P B E:=by
 subst he;have key:∀(l:List (Nat×TI)),j4 P B.T l=AC->∀t x,lk l t=AA x->oU P B.T t x=AC:=by
  intro l
  induction l with
  |nil=>intro _ t x hx;simp[lk]at hx
  |cons p r ih=>
   obtain⟨j,y⟩:=p;intro hl t x hx;simp only[j4,AQ]at hl;simp only[lk]at hx;split at hx
   .rename_i hb;simp only[AK]at hx;subst hx;rw[<-F1.1 hb];exact hl.1
   .exact ih hl.2 t x hx
 exact λt x ht=>zfu (key E.ti h t x ht)
def bY(P:Program)(t w:Nat):Bool:=match P.info? t with|some _=>P.cellsOf t==w|none=>AD
def Y9(ks:List Kd):Nat->List Kd
 |0=>[]
 |n+1=>ks++Y9 ks n
def iB(P:Program)(g:Nat->Option (List Kd)):List Field->Nat->Option (List Kd)
 |[],_=>AA []
 |f::r,o=>match g f.type with
  |some ks=>match f.name != "_"&&(f.offset==o&&bY P f.type ks.length)with
   |true=>match iB P g r (o+ks.length)with
    |some ks'=>AA (ks++ks')
    |none=>AB
   |false=>AB
  |none=>AB
def TU(P:Program):Nat->Nat->Option (List Kd)
 |0,_=>AB
 |d+1,t=>match P.underlying t with
  |some (.int k)=>AA [.int k]
  |some .bool=>AA [.bool]
  |some (.struct fs)=>match P.stoodInHeld t with
   |true=>AB
   |false=>iB P (TU P d) fs.toList 0
  |some (.array n e)=>match TU P d e with
   |some ks=>match bY P e ks.length with
    |true=>AA (Y9 ks n)
    |false=>AB
   |none=>AB
  |_=>AB
def lS(P:Program)(ti:List (Nat×TI)):List Nat->Bool
 |[]=>AC
 |t::r=>(!(P.eqGuardType P.depth t))&&((match P.underlying t with|some d=>d.isRow|none=>AD)&&(match TU P 10 t with|some ks=>I5.kdsEq (FA TI.none ti t).ks ks|none=>AD))&&lS P ti r
theorem iG:∀{ks:List Kd} {l:List V},KA ks l=AC->l.length=ks.length
 |[],[],_=>rfl
 |[],_::_,h=>by simp[KA]at h
 |k::_,[],h=>by cases k<;>simp[KA]at h
 |k::ks,v::l,h=>by
  cases k<;>cases v<;>simp only[KA]at h<;>try (cases h;done)
  .split at h
   .simp[iG h]
   .cases h
  .simp[iG h]
theorem mI:∀{ks ks':List Kd} {l:List V},KA (ks++ks') l=AC->KA ks (l.take ks.length)=AC/\KA ks' (l.drop ks.length)=AC
 |[],_,_,h=>⟨rfl,h⟩
 |k::ks,ks',[],h=>by cases k<;>simp[KA]at h
 |k::ks,ks',v::l,h=>by
  cases k<;>cases v<;>simp only[C9,KA]at h<;>try (cases h;done)
  .split at h
   .rename_i hk;obtain⟨h1,h2⟩:=mI h;simp only[AV,List.take_succ_cons,List.drop_succ_cons,KA,hk];exact⟨h1,h2⟩
   .cases h
  .obtain⟨h1,h2⟩:=mI h;simp only[AV,List.take_succ_cons,List.drop_succ_cons,KA];exact⟨h1,h2⟩
theorem lR:∀{a a':List V} {b b':List V} {c:Bool},a.length=a'.length->KK (a++b) (a'++b')=AA c->∃c1 c2,KK a a'=AA c1/\KK b b'=AA c2/\c=(c1&&c2)
 |[],[],b,b',c,_,h=>⟨AC,c,rfl,h,by simp⟩
 |[],_::_,_,_,_,hl,_=>by simp at hl
 |_::_,[],_,_,_,hl,_=>by simp at hl
 |x::a,y::a',b,b',c,hl,h=>by
  have hl':a.length=a'.length:=by simpa using hl
  cases x<;>cases y<;>simp only[C9,KK]at h ⊢ <;>try (cases h;done)
  .split at h
   .rename_i hk;split at h
    .rename_i c0 h0;simp only[AK]at h;obtain⟨c1,c2,h1,h2,h3⟩:=lR hl' h0;rw[h1];exact⟨_,c2,rfl,h2,by rw[<-h,h3,Bool.and_assoc]⟩
    .cases h
   .cases h
  .split at h
   .rename_i c0 h0;simp only[AK]at h;obtain⟨c1,c2,h1,h2,h3⟩:=lR hl' h0;rw[h1];exact⟨_,c2,rfl,h2,by rw[<-h,h3,Bool.and_assoc]⟩
   .cases h
theorem lQ:∀{a a':List V} {c:Bool},KK a a'=AA c->a.length=a'.length
 |[],[],_,_=>rfl
 |[],_::_,_,h=>by simp[KK]at h
 |x::_,[],_,h=>by cases x<;>simp[KK]at h
 |x::a,y::a',c,h=>by
  cases x<;>cases y<;>simp only[KK]at h<;>try (cases h;done)
  .split at h
   .split at h
    .rename_i h0;simp[lQ h0]
    .cases h
   .cases h
  .split at h
   .rename_i h0;simp[lQ h0]
   .cases h
section
variable {P:Program} {γ:Nat→Value} {o:Store} {w:World} {O:Nat→Prop}
def UV(P:Program)(γ:Nat->Value)(o:Store)(w:World)(O:Nat->Prop)(t:Nat)(l:List V)(x:Value):Prop:=
 match P.underlying t with
 |some d=>match d.isRow with
  |true=>∃xs,x=.agg xs/\VRels γ o w O l xs.toList
  |false=>∃v,l=[v]/\VRel γ o w O v x
 |none=>False
theorem Fg{d t:Nat}{ks:List Kd}(h:TU P d t=AA ks):∃k,P.underlying t=AA k/\(k.isRow=AD->ks.length=1):=by
 cases d with
 |zero=>simp[TU]at h
 |succ d=>
  simp only[TU]at h;split at h
  .rename_i hu;simp only[AK]at h;exact⟨_,hu,λ_=>by rw[<-h];rfl⟩
  .rename_i hu;simp only[AK]at h;exact⟨_,hu,λ_=>by rw[<-h];rfl⟩
  .rename_i hu;exact⟨_,hu,λh=>by simp[vbl]at h⟩
  .rename_i hu;exact⟨_,hu,λh=>by simp[vbl]at h⟩
  .cases h
theorem k9{t n off:Nat}{l:List V}{xs:Array Value}(hu:∃k,P.underlying t=AA k/\(k.isRow=AD->n=1))(hs:bY P t n=AC)(hr:VRels γ o w O l xs.toList)(hl:off+n<=l.length)(W:World):
  ∃y,(part t xs off).run P W=.ok y W/\UV P γ o w O t ((l.drop off).take n) y:=by
 obtain⟨k,hu,hn⟩:=hu;unfold bY at hs;split at hs
 .rename_i i hi;simp only[CF]at hs;cases hrow:k.isRow with
  |true=>
   refine⟨.agg (xs.extract off (off+n)),?_,?_⟩
   .cases k<;>simp[vbl]at hrow<;>simp[part,isAgg,BQ hu,run_sizeOf W hi,hs]
   .unfold UV;rw[hu];simp only[hrow];refine⟨_,rfl,?_⟩
    have:(xs.extract off (off+n)).toList=(xs.toList.drop off).take n:=by
     simp[List.extract_eq_take_drop]
    rw[this];exact(hr.drop off).take n
  |false=>
   obtain rfl:=hn hrow;obtain⟨v,hv⟩:∃v,l[off]?=AA v:=⟨l[off]'AG,BD _⟩;obtain⟨y,hy,hyr⟩:=hr.get hv;have hy':xs[off]?=AA y:=by simpa using hy
   refine⟨y,?_,?_⟩
   .cases k<;>simp[vbl]at hrow<;>simp[part,isAgg,BQ hu,hy']
   .unfold UV;rw[hu];simp only[hrow];refine⟨v,?_,hyr⟩;rw[List.take_one,List.head?_drop,hv];rfl
 .cases hs
def pF(P:Program)(γ:Nat->Value)(o:Store)(w:World)(O:Nat->Prop)(dd t:Nat)(ks:List Kd):Prop:=∀(W:World) (x y:Value) (l l':List V) (c:Bool),KA ks l=AC->UV P γ o w O t l x->UV P γ o w O t l' y->KK l l'=AA c->(vbo dd t x y).run P W=.ok c W
theorem oS(l:List V)(off n:Nat):l.drop off=(l.drop off).take n++l.drop (off+n):=by
 rw[<-List.drop_drop];exact(List.take_append_drop n (l.drop off)).symm
theorem Fe{dd:Nat}{g:Nat->Option (List Kd)}(hg:∀t ks,g t=AA ks->pF P γ o w O dd t ks/\∃k,P.underlying t=AA k/\(k.isRow=AD->ks.length=1)){xs ys:Array Value}{l l':List V}(hx:VRels γ o w O l xs.toList)(hy:VRels γ o w O l' ys.toList)(hll:l.length=l'.length)(W:World):
  ∀(fs:List Field) (off:Nat) {ks:List Kd} {c:Bool},off<=l.length->iB P g fs off=AA ks->KA ks (l.drop off)=AC->KK (l.drop off) (l'.drop off)=AA c->(Op.eqFields dd xs ys fs).run P W=.ok c W
 |[],off,ks,c,hoff,hf,hk,he=>by
  simp only[iB,AK]at hf;subst hf;have h0:=iG hk;have h1:l.drop off=[]:=List.length_eq_zero_iff.1 h0;have h2:l'.drop off=[]:=by
   have:=lQ he
   rw[h1]at this;exact List.length_eq_zero_iff.1 this.symm
  rw[h1,h2]at he;simp only[KK,AK]at he;subst he;simp[Op.eqFields]
 |f::r,off,ks,c,hoff,hf,hk,he=>by
  simp only[iB]at hf;split at hf
  .rename_i ks1 hw;split at hf
   .rename_i hb;split at hf
    .rename_i ks2 hf2;simp only[AK]at hf;subst hf;simp only[AQ,CF,bne_iff_ne,ne_eq]at hb;obtain⟨hn,ho,hs⟩:=hb;obtain⟨hrun,hu⟩:=hg _ _ hw;obtain⟨hk1,hk2⟩:=mI hk;rw[List.drop_drop]at hk2;have hkl:=iG hk;simp only[DA,A2]at hkl;have hle:off+ks1.length<=l.length:=by omega
     rw[oS l off ks1.length,oS l' off ks1.length]at he;obtain⟨c1,c2,h1,h2,h3⟩:=lR (by simp;omega) he;obtain⟨a,ha,hac⟩:=k9 (off:=off) hu hs hx hle W;obtain⟨b,hb,hbc⟩:=k9 (off:=off) hu hs hy AG W;have he1:=hrun W a b _ _ c1 hk1 hac hbc h1;have ih:=Fe hg hx hy hll W r (off+ks1.length) hle hf2 hk2 h2;simp only[Op.eqFields,hn,ne_eq,not_false_eq_true,CX,CL,ho,ha,hb,he1,B9];subst h3;cases c1
     .simp
     .simpa using ih
    .cases hf
   .cases hf
  .cases hf
theorem Ff{dd e:Nat}{ks:List Kd}(hrun:pF P γ o w O dd e ks)(hu:∃k,P.underlying e=AA k/\(k.isRow=AD->ks.length=1))(hs:bY P e ks.length=AC){xs ys:Array Value}{l l':List V}(hx:VRels γ o w O l xs.toList)(hy:VRels γ o w O l' ys.toList)(hll:l.length=l'.length)(W:World):
  ∀(m i:Nat) {c:Bool},i*ks.length+m*ks.length=l.length->KA (Y9 ks m) (l.drop (i*ks.length))=AC->KK (l.drop (i*ks.length)) (l'.drop (i*ks.length))=AA c->(Op.eqItems dd e ks.length xs ys (vbh i m)).run P W=.ok c W
 |0,i,c,hl,hk,he=>by
  rw[DC AG,DC AG]at he;simp only[KK,AK]at he;subst he;simp[Op.eqItems]
 |m+1,i,c,hl,hk,he=>by
  rw[vao,vbs]at hl;obtain⟨hk1,hk2⟩:=mI (ks:=ks) (ks':=Y9 ks m) hk;rw[List.drop_drop]at hk2;rw[oS l (i*ks.length) ks.length,oS l' (i*ks.length) ks.length]at he;obtain⟨c1,c2,h1,h2,h3⟩:=lR (by simp;omega) he;obtain⟨a,ha,hac⟩:=k9 (off:=i*ks.length) hu hs hx AG W;obtain⟨b,hb,hbc⟩:=k9 (off:=i*ks.length) hu hs hy AG W;have he1:=hrun W a b _ _ c1 hk1 hac hbc h1;have ih:=Ff hrun hu hs hx hy hll W m (i+1) (by rw[vao,vbs];omega) (by rw[vao,vbs];exact hk2) (by rw[vao,vbs];exact h2);simp only[List.range'_succ,Op.eqItems,CL,ha,hb,he1,B9];subst h3;cases c1
  .simp
  .simpa using ih
theorem Nm(ks:List Kd):∀n,(Y9 ks n).length=n*ks.length
 |0=>by simp[Y9]
 |n+1=>by simp only[Y9,A2,Nm ks n,vao,vbs];omega
theorem rG(dd:Nat):∀(d t:Nat) (ks:List Kd),TU P d t=AA ks->pF P γ o w O (dd+d) t ks
 |0,t,ks,h=>by simp[TU]at h
 |d+1,t,ks,h=>by
  intro W x y l l' c hk hx hy he;have hll:=lQ he;simp only[TU]at h;unfold UV at hx hy;split at h
  .rename_i k hu;simp only[AK]at h;subst h;rw[hu]at hx hy;simp only at hx hy;obtain⟨v,rfl,hx⟩:=hx;obtain⟨v',rfl,hy⟩:=hy;cases v<;>simp only[KA]at hk<;>try (cases hk;done)
   cases v'<;>simp only[KK]at he<;>try (cases he;done)
   simp only[VRel]at hx hy;obtain⟨rfl,_⟩:=hx;obtain⟨rfl,_⟩:=hy;split at he
   .rename_i hkk;simp only[AK,CK]at he;have hkk:=eq_of_beq hkk;subst hkk;rw[show dd+(d+1)=(dd+d)+1 from rfl,run_equalIn_int W _ t _ k _ _ hu,he]
   .cases he
  .rename_i hu;simp only[AK]at h;subst h;rw[hu]at hx hy;simp only at hx hy;obtain⟨v,rfl,hx⟩:=hx;obtain⟨v',rfl,hy⟩:=hy;cases v<;>simp only[KA]at hk<;>try (cases hk;done)
   cases v'<;>simp only[KK]at he<;>try (cases he;done)
   simp only[VRel]at hx hy;subst hx;subst hy;simp only[AK,CK]at he;rw[show dd+(d+1)=(dd+d)+1 from rfl,run_equalIn_bool W _ t _ _ hu,he]
  .rename_i fs hu;rw[hu]at hx hy;simp only at hx hy;obtain⟨xs,rfl,hx⟩:=hx;obtain⟨ys,rfl,hy⟩:=hy;split at h
   .cases h
   .rename_i hst;have hfs:P.fieldsOf t=fs:=by simp[Program.fieldsOf,hu]
    rw[show dd+(d+1)=(dd+d)+1 from rfl,run_equalIn_struct W (dd+d) t xs ys (by rw[hfs];exact hu) hst,hfs];exact Fe (λt ks ht=>⟨rG dd d t ks ht,Fg ht⟩) hx hy hll W fs.toList 0 (CH _) h hk he
  .rename_i m e hu;rw[hu]at hx hy;simp only at hx hy;obtain⟨xs,rfl,hx⟩:=hx;obtain⟨ys,rfl,hy⟩:=hy;split at h
   .rename_i ks1 hw;split at h
    .rename_i hs;simp only[AK]at h;subst h;have hs':=hs;unfold bY at hs';split at hs'
     .rename_i i hi;simp only[CF]at hs';have hkl:=iG hk;rw[Nm]at hkl;rw[show dd+(d+1)=(dd+d)+1 from rfl,run_equalIn_array W (dd+d) xs ys hu hi,hs',List.range_eq_range'];exact Ff (rG dd d e ks1 hw) (Fg hw) hs hx hy hll W m 0 AG (by simpa using hk) (by simpa using he)
     .cases hs'
    .cases h
   .cases h
  .cases h
end
theorem Fi{P:Program}{E:Env}{ti:List (Nat×TI)}(hti:E.ti=ti){l:List Nat}(h:lS P ti l=AC):∀t,t∈l->EqSnd P t (E.tyd t).ks:=by
 induction l with
 |nil=>intro t ht;cases ht
 |cons t r ih=>
  intro t' ht';simp only[lS,AQ,CE]at h;rcases AW.1 ht' with e|e
  .subst e;refine⟨h.1.1,λγ o w w' O l l' xs ys c hk hc hx hy=>?_⟩;obtain⟨⟨_,h2,h3⟩,_⟩:=h;split at h3
   .rename_i ks hn;have hks:(E.tyd t').ks=ks:=by
     unfold Env.tyd;rw[hti];exact sM h3
    rw[hks]at hk;split at h2
    .rename_i k hk2;have hcx:∀{l:List V} {xs:Array Value},VRels γ o w O l xs.toList->UV P γ o w O t' l (.agg xs):=λhx=>by
      unfold UV;rw[hk2];simp only[h2];exact⟨_,rfl,hx⟩
     exact rG (P:=P) (γ:=γ) (o:=o) (w:=w) (O:=O) 9990 10 t' ks hn w' (.agg xs) (.agg ys) l l' c hk (hcx hx) (hcx hy) hc
    .cases h2
   .cases h3
  .exact ih h.2 t' e
open Go Go.RowKit
theorem Snd.mono{P:Program}{B:BT}{f:FuncId}{sp sp':TF}(h:Snd P B f sp)(hs:∀vs r,sp' vs=AA r->sp vs=AA r):Snd P B f sp':=
 λw X γ vs xs r out hsp=>h w X γ vs xs r out (hs vs _ hsp)
def D6(P:Program)(B:BT)(f:FuncId)(sp:D4):Prop:=Snd P B f (λvs=>(sp vs).get)
mutual
def ZN:Kd->IV->Prop
 |.int k,x=>k.min<=x.toInt/\x.toInt<=k.max
 |.bool,_=>True
 |.str,x=>x.toStr.size<=strMax
 |.list ag ks,x=>x.toList.length<=strMax/\∀y∈x.toList,ZO ks (GK ag y) 0
def ZO:List Kd->(Nat->IV)->Nat->Prop
 |[],_,_=>True
 |k::ks,f,j=>ZN k (f j)/\ZO ks f (j+1)
end
def wfL:V->Prop
 |.int k n=>k.min<=n/\n<=k.max
 |.str s=>s.size<=strMax
 |.list ag ks l=>l.length<=strMax/\∀y∈l,ZO ks (GK ag y) 0
 |.vec _ ag ks l=>l.length<=strMax/\∀y∈l,ZO ks (GK ag y) 0
 |.bld s=>s.size<=strMax
 |_=>True
def wfLs:List V->Prop
 |[]=>True
 |v::r=>wfL v/\wfLs r
def SU:V->Prop
 |.agg l=>wfLs l
 |.bor l=>wfLs l
 |v=>wfL v
def UK:List V->Prop
 |[]=>True
 |v::r=>SU v/\UK r
mutual
theorem Kd.Rel.wf{w:World}{O:Nat->Prop}:∀{k:Kd} {x:IV} {v:Value},Kd.Rel w O k x v->ZN k x
 |.int k,x,v,h=>by simp only[Kd.Rel]at h;simp only[ZN];exact h.2
 |.bool,x,v,h=>by simp only[ZN]
 |.str,x,v,h=>by simp only[Kd.Rel]at h;simp only[ZN];exact h.2
 |.list ag ks,x,v,h=>by
  simp only[Kd.Rel]at h;obtain⟨p,c,_,_,_,hl,hi⟩:=h;simp only[ZN];refine⟨hl,λy hy=>?_⟩;obtain⟨i,hi'⟩:=List.getElem?_of_mem hy;obtain⟨b,o,_,_,_,hr⟩:=hi i y hi';exact Kd.RelAll.wf hr
theorem Kd.RelAll.wf{w:World}{O:Nat->Prop}:∀{ks:List Kd} {f:Nat->IV} {j:Nat} {R:Nat->Value->Prop},Kd.RelAll w O ks f j R->ZO ks f j
 |[],_,_,_,_=>by simp only[ZO]
 |k::ks,f,j,R,h=>by
  simp only[Kd.RelAll]at h;obtain⟨⟨u,_,hr⟩,h2⟩:=h;simp only[ZO];exact⟨Kd.Rel.wf hr,Kd.RelAll.wf h2⟩
end
theorem VRel.wfL{γ:Nat->Value}{o:Store}{w:World}{O:Nat->Prop}{v:V}{x:Value}(h:VRel γ o w O v x):wfL v:=by
 cases v<;>simp only[FM.wfL]<;>simp only[VRel]at h
 .exact h.2
 .exact h.2
 .have:=Kd.Rel.wf h
  simp only[ZN,IV.toList]at this;exact this
theorem VRels.wfLs{γ:Nat->Value}{o:Store}{w:World}{O:Nat->Prop}:∀{l:List V} {xs:List Value},VRels γ o w O l xs->wfLs l
 |[],[],_=>by simp only[FM.wfLs]
 |[],_::_,h=>by simp only[VRels]at h
 |_::_,[],h=>by simp only[VRels]at h
 |v::vs,x::xs,h=>by
  simp only[VRels]at h;simp only[FM.wfLs];exact⟨h.1.wfL,VRels.wfLs h.2⟩
theorem zc2{B:BT}{γ:Nat->Value}{o:Store}{w:World}{O:Nat->Prop}{g:Value}{e:Nat}{ag:Bool}{ks:List Kd}{l:LI}(h:ObRel B γ o w O g (.row AC e ag ks l)):wfL (.vec e ag ks l):=by
 simp only[ObRel]at h;obtain⟨_,hl,xs,_,hr⟩:=h;simp only[FM.wfL];refine⟨hl,λy hy=>?_⟩;obtain⟨i,hi⟩:=List.getElem?_of_mem hy;exact Kd.RelAll.wf (hr i y hi)
theorem uz{B:BT}{nt:Nat}{w0:World}{X:Zone}{γ:Nat->Value}{a:Act}{w:World}{cs:List V}(h:Rel B nt w0 X γ ⟨[],E7 cs⟩ a w):wfLs cs:=by
 by_cases hb:∃s,cs=[.bld s]
 .obtain⟨s,rfl⟩:=hb
  have:=h.ob 900000 (.bld s) (by simp[E7,EP])
  simp only[ObRel]at this;obtain⟨b,v,p,_,_,_,_,_,hs⟩:=this;simp only[FM.wfLs,FM.wfL,CI];exact hs
 .have he:E7 cs=(900000,AA (.box (GY 900001 cs)))::LR 900001 cs:=rE (λs e=>hb ⟨s,e⟩);have hbox:=h.ob 900000 (.box (GY 900001 cs)) (by rw[he,EP,BX rfl]);simp only[ObRel]at hbox;obtain⟨b,c,T,_,_,hr⟩:=hbox;have hall:∀(j:Nat) (v:V),cs[j]?=AA v->FM.wfL v:=by
   intro j v hj;by_cases hv:∃e ag ks l,v=.vec e ag ks l
   .obtain⟨e,ag,ks,l,rfl⟩:=hv;have hat:=jM (nr:=900001) hj
    have:=h.ob (900001+j) _ (show DV (E7 cs) (900001+j)=_ by rw[he,EP,BO AG];exact hat)
    exact zc2 this
   .have hbk:(GY 900001 cs)[j]?=AA v:=by
     rw[gM,hj];cases v<;>first|rfl|exact absurd ⟨_,_,_,_,rfl⟩ hv
    obtain⟨x,_,hx⟩:=hr.get hbk;exact hx.wfL
  clear hr he hb h
  induction cs with
  |nil=>simp only[FM.wfLs]
  |cons v r ih=>
   simp only[FM.wfLs];exact⟨hall 0 v rfl,ih (λj u hj=>hall (j+1) u (by simpa using hj))⟩
theorem zD{B:BT}{nt:Nat}{w0:World}{X:Zone}{γ:Nat->Value}{a:Act}{w:World}{O:Nat->Prop}{o:Store}{cs:Option (List V)}(hcs:∀l,cs=AA l->wfLs l):∀{vs:List V} {xs:List Value},(∀l,.bor l∈vs->cs=AA l)->VRels γ o w O (vs.map EV) xs->UK vs
 |[],_,_,_=>by simp only[UK]
 |v::r,[],_,h=>by simp only[A8,VRels]at h
 |v::r,x::xs,hb,h=>by
  simp only[A8,VRels]at h;simp only[UK];refine⟨?_,zD (B:=B) (nt:=nt) (w0:=w0) (X:=X) (a:=a) hcs (λl hl=>hb l (A6 _ hl)) h.2⟩;have h1:=h.1;by_cases hbor:∃l,v=.bor l
  .obtain⟨l,rfl⟩:=hbor;simp only[SU];exact hcs l (hb l (AY ..))
  .by_cases hagg:∃l,v=.agg l
   .obtain⟨l,rfl⟩:=hagg;simp only[EV,VRel]at h1;obtain⟨cs',_,hr⟩:=h1;simp only[SU];exact hr.wfLs
   .have:SU v=FM.wfL v:=by cases v<;>first|rfl|exact absurd ⟨_,rfl⟩ hbor|exact absurd ⟨_,rfl⟩ hagg
    rw[this];cases v<;>first|exact h1.wfL|exact absurd ⟨_,rfl⟩ hbor|exact absurd ⟨_,rfl⟩ hagg|(simp only[FM.wfL])
def MX:List V->Option (List V)->Prop
 |[],_=>True
 |.bor l::r,c=>c=AA l/\MX r c
 |_::r,c=>MX r c
theorem uD:∀{vs:List V} {c:Option (List V)},MX vs c->∀l,.bor l∈vs->c=AA l
 |[],_,_,l,h=>by cases h
 |v::r,c,ho,l,h=>by
  rcases AW.1 h with e|e
  .subst e;exact ho.1
  .cases v<;>simp only[MX]at ho<;>first|exact uD ho l e|exact uD ho.2 l e
theorem Pw{P:Program}{B:BT}{f:FuncId}{fn:Func}(E:Nat->Env)(sp:D4)(rks:List (List Kd))(hf:P.funcs[f]?=AA fn){code:Code}{rs:List ResultVar}{nt:Nat}
  (hc:(fn.name== "runtime.NumGoroutine")=AD/\fn.body=AA code/\fn.ntmps=nt/\CG nt 900000=AC/\fn.results.toList=rs) (hnt:∀N,(E N).nt=nt) (hm:P.follows .mixedOrders=AC)
  (hT:∀N,TiOK P B (E N)) (hE:∀N t,t∈(E N).eqs->EqSnd P t ((E N).tyd t).ks) (hSp:∀N f sp,lk (E N).sp f=AA sp->D6 P B f sp) (hIp:∀N f p,lk (E N).ip f=AA p->S1 P f p) (hB:∀N,BldOK P B (E N))
  (h:∀vs r,(MX vs (FX vs)->UK vs)->(sp vs).get=AA r->∃N,EA (E N) code rs rks vs=AA r):D6 P B f sp:=by
 intro w X γ vs xs r out hsp hg hx hR hV;have hwf:MX vs (FX vs)->UK vs:=λho=>by
  refine zD (B:=B.base) (nt:=0) (w0:=w) (X:=X) (a:=J1) (cs:=FX vs) (λl hl=>?_) (uD ho) hV;have hm:I0 vs=E7 l:=by simp only[I0,hl]
  rw[hm]at hR;exact uz hR
 obtain⟨N,hN⟩:=h vs _ hwf hsp;exact fo hf hc.1 hc.2.1 ((hnt N).trans hc.2.2.1.symm) (by rw[hc.2.2.1];exact hc.2.2.2.1) hc.2.2.2.2 rks hm (hT N) (hE N) (hSp N) (hIp N) (hB N) w X γ vs xs r out hN hg hx hR hV
abbrev ic(n:Nat):Int:=n
noncomputable abbrev D3(E:Env)(c:Code)(kp:KP)(n:Nat)(s:St)(k:Out->St->DU):DU:=SB c (KL SB E c) kp n s k
noncomputable abbrev DX(E:Env)(c:Code)(k:Out->St->DU):Out->St->DU:=Ho c (KL SB E c) k
noncomputable abbrev EY(E:Env)(c:Code)(s:St)(k:Out->St->DU):DU:=KL SB E c s k
theorem D8(E:Env)(c:Code)(kp:KP)(n:Nat)(s:St)(k:Out->St->DU):D3 E c kp (n+1) s k=EY E c s (ES (λs'=>D3 E c kp n s' k) kp k):=rfl
def EB(fn:Func):Code:=match fn.body with|some c=>c|none=>.skip
def DS:Code->List Nat->Code
 |c,[]=>c
 |.seq a _,0::r=>DS a r
 |.seq _ b,_::r=>DS b r
 |.cond _ a _,0::r=>DS a r
 |.cond _ _ b,_::r=>DS b r
 |.block _ c,_::r=>DS c r
 |.loop c,_::r=>DS c r
 |.scope c,_::r=>DS c r
 |_,_=>.skip
open Go Go.RowKit
section
variable {P:Program} {B:BT} {f:FuncId}
theorem Does.of_calls{fn:Func}(hf:P.funcs[f]?=AA fn)(hn:(fn.name== "runtime.NumGoroutine")=AD)(hb:fn.body.isNone=AD){xs:List Value}{w:World}{R:Ending->World->Prop}(h:Calls P f xs.toArray w R):Does P f xs w R:=Does.enter hf hn hb h
theorem vu{r:V}(h:∀cs,r≠.bor cs)(hv:∀e ag ks l,r≠.vec e ag ks l):GZ r []=[]:=by
 cases r<;>first|rfl|exact absurd rfl (h _)|exact absurd rfl (hv _ _ _ _)
theorem RF{w:World}{X:Zone}{γ:Nat->Value}{vs:List V}{xs:List Value}{r:V}(hR:Rel B.base 0 w X γ ⟨[],I0 vs⟩ J1 w)(hb:FX vs=AB)(hr:MR r=AC)
  (h:Does P f xs w λe w'=>∃x,e=.returned x/\Keep (λ_=>False) w w'/\∀O:Nat->Prop,(∀b,O b->b<w.heap.size)->VRel γ [] w' O r x):
  Does P f xs w λe w'=>∃x,e=.returned x/\∃γ',Rel B.base 0 w X γ' ⟨[],GZ r []⟩ J1 w'/\VRel γ' (GZ r []) w' (DY X γ' (GZ r [])) (MZ r) x/\LF vs r [] (γ 900000) (γ' 900000):=by
 have hm:I0 vs=[]:=by simp only[I0,hb]
 rw[hm]at hR;have hnb:∀cs,r≠.bor cs:=λcs e=>by subst e;simp[MR,H5]at hr
 have hnv:∀e ag ks l,r≠.vec e ag ks l:=λe ag ks l h=>by subst h;simp[MR,H5]at hr
 rw[vu hnb hnv,V7 hr];refine h.mono ?_;rintro e w' ⟨x,rfl,hk,hv⟩;refine⟨x,rfl,γ,hR.world hk,hv _ (λb hb=>?_),?_⟩
 .rcases hb with⟨n,ob,hn,_⟩|hb
  .simp[DV,FA]at hn
  .exact hR.fl b hb
 .simp only[LF,hb];cases r<;>first|exact hr|exact absurd rfl (hnb _)|exact absurd rfl (hnv _ _ _ _)
structure BldIs (B:BT) (w:World) (b:Nat) (p v:Value) (s:BA):Prop where
 self:p=.pointer AB\/p=.pointer (AA ⟨b,0,AB⟩)
 heap:w.heap[b]?=AA (.cells #[p,v] B.T (0,0))
 own:w.ownsRowF 0 B.e 1 v s.size (DO s)
 ne:v.ownBlock≠AA b
 size:s.size<=strMax
theorem wN{w:World}{X:Zone}{γ:Nat->Value}{vs:List V}{xs:List Value}{r:V}{s s':BA}(hR:Rel B.base 0 w X γ ⟨[],I0 vs⟩ J1 w)(hb:FX vs=AA [.bld s])(hr:MR r=AC)(hnl:∀γ' o w' O x,VRel γ [] w O r x->VRel γ' o w' O r x)
  (h:∀b v p,γ 900000=.tuple #[.pointer (AA ⟨b,0,AB⟩),v]->BldIs B w b p v s->Does P f xs w λe w'=>∃x,e=.returned x/\(∃p' v',BldIs B w' b p' v' s'/\Keep (λk=>k=b\/v.ownBlock=AA k) w w'/\∀k,v'.ownBlock=AA k->v.ownBlock=AA k\/w.heap.size<=k)/\∀O,VRel γ [] w O r x):
  Does P f xs w λe w'=>∃x,e=.returned x/\∃γ',Rel B.base 0 w X γ' ⟨[],GZ r [[.bld s']]⟩ J1 w'/\VRel γ' (GZ r [[.bld s']]) w' (DY X γ' (GZ r [[.bld s']])) (MZ r) x/\LF vs r [[.bld s']] (γ 900000) (γ' 900000):=by
 have hm:I0 vs=E7 [.bld s]:=by simp only[I0,hb]
 have hmo:GZ r [[.bld s']]=E7 [.bld s']:=by cases r<;>rfl
 rw[hm]at hR;have hob:DV (E7 [.bld s]) 900000=AA (.bld s):=by simp[E7,EP]
 have hor:=hR.ob 900000 _ hob;simp only[ObRel,BT.base]at hor;obtain⟨b,v,p,hg,hp,hh,how,hne,hsz⟩:=hor;rw[hmo,V7 hr];refine(h b v p hg ⟨hp,hh,how,hne,hsz⟩).mono ?_;rintro e w' ⟨x,rfl,⟨p',v',hB,hk,hnew⟩,hx⟩;have hPb:∀k,(k=b\/v.ownBlock=AA k)->FN γ (E7 [.bld s]) k:=by
  rintro k hk;refine⟨900000,_,hob,⟨b,0,AB⟩,v,hg,?_⟩;rcases hk with rfl|hk
  .exact .inl rfl
  .exact .inr hk
 have hXb:∀k,(k=b\/v.ownBlock=AA k)->k<w.heap.size/\X.own k/\¬X.far k:=λk hk=>by
  obtain⟨h1,h2⟩:=hR.lt k (hPb k hk);exact⟨h1,h2.resolve_left AG,hR.nr k (hPb k hk)⟩
 have hkX:Keep X.own w w':=hk.mono (λk _ h=>(hXb k h).2.1);have hobs:∀n ob,DV (E7 [.bld s']) n=AA ob->n=900000/\ob=.bld s':=by
  intro n ob hn;simp only[E7,EP]at hn;split at hn
  .rename_i e;simp only[AK]at hn;exact⟨e.symm,hn.symm⟩
  .simp[DV,FA]at hn
 have hP':∀k,FN (λ_=>.tuple #[.pointer (AA ⟨b,0,AB⟩),v']) (E7 [.bld s']) k->k=b\/v'.ownBlock=AA k:=by
  rintro k ⟨n,ob,hn,hbk⟩;obtain⟨rfl,rfl⟩:=hobs n ob hn;obtain⟨a,v2,h1,h2⟩:=hbk;simp only[Value.tuple.injEq]at h1;have e1:a=⟨b,0,AB⟩/\v2=v':=by
   have:=congrArg Array.toList h1
   simp at this;exact⟨this.1.symm,this.2.symm⟩
  obtain⟨rfl,rfl⟩:=e1;rcases h2 with h2|h2
  .exact .inl h2.symm
  .exact .inr h2
 have hlt':∀k,v'.ownBlock=AA k->k<w'.heap.size:=by
  intro k hk;rcases hB.own.2 with⟨rfl,_⟩|⟨g,cap,cur,fz,rfl,_,hgh,_⟩
  .simp[CO]at hk
  .simp only[CO,AK]at hk;subst hk;exact(DK.1 hgh).1
 refine⟨x,rfl,λ_=>.tuple #[.pointer (AA ⟨b,0,AB⟩),v'],⟨rfl,rfl,λi=>by simp only[St.get,FA,VRel],λn ob hn=>?_,λk hk2=>?_,λn m ob ob' k hnm h1 h2=>?_,hkX,λk hk2 hf=>?_,λk hf=>CY (hR.fl k hf) hk.size,λq hq=>by cases hq⟩,hnl _ _ _ _ _ (hx _),?_⟩
 .obtain⟨rfl,rfl⟩:=hobs n ob hn;simp only[ObRel,BT.base];exact⟨b,v',p',rfl,hB.self,hB.heap,hB.own,hB.ne,hB.size⟩
 .rcases hP' k hk2 with rfl|h2
  .obtain⟨h3,h4,_⟩:=hXb k (.inl rfl);exact⟨CY h3 hk.size,.inr h4⟩
  .refine⟨hlt' k h2,?_⟩;rcases hnew k h2 with h3|h3
   .exact .inr (hXb k (.inr h3)).2.1
   .exact .inl h3
 .obtain⟨rfl,rfl⟩:=hobs n ob h1;obtain⟨rfl,rfl⟩:=hobs m ob' h2;exact absurd rfl hnm
 .rcases hP' k hk2 with rfl|h2
  .exact(hXb k (.inl rfl)).2.2 hf
  .rcases hnew k h2 with h3|h3
   .exact(hXb k (.inr h3)).2.2 hf
   .have:=hR.fl k hf
    omega
 .simp only[LF,hb];exact⟨hr,rfl,by rw[hg];rfl⟩
theorem pY{w:World}{γ:Nat->Value}{s:BA}{O:Nat->Prop}{x:Value}{b:Nat}{v:Value}(hg:γ 900000=.tuple #[.pointer (AA ⟨b,0,AB⟩),v])(h:VRel γ (E7 [.bld s]) w O (.ptr 900000 0 0) x):x=.pointer (AA ⟨b,0,AB⟩):=by
 simp only[VRel,E7,EP,CX]at h;obtain⟨_,b',v',h1,rfl⟩:=h;rw[hg]at h1;simp only[Value.tuple.injEq]at h1
 have:=congrArg Array.toList h1
 simp at this;rw[this.1]
theorem Pv{w:World}{X:Zone}{γ:Nat->Value}{vs:List V}{xs:List Value}{e:Nat}{ag:Bool}{ks:List Kd}{l:LI}(hR:Rel B.base 0 w X γ ⟨[],I0 vs⟩ J1 w)(hb:FX vs=AB)(he:e<1000000)(hks:0<ks.length)(hl:l.length<=strMax)
  (h:Does P f xs w λe' w'=>∃v ys,e'=.returned v/\Keep (λ_=>False) w w'/\w'.ownsRow w.heap.size e ks.length v l.length ys/\∀(O:Nat->Prop) i y,l[i]?=AA y->Kd.RelAll w' O ks (GK ag y) 0 (λj u=>ys[i*ks.length+j]?=AA u)):
  Does P f xs w λe' w'=>∃x,e'=.returned x/\∃γ',Rel B.base 0 w X γ' ⟨[],GZ (.vec e ag ks l) []⟩ J1 w'/\VRel γ' (GZ (.vec e ag ks l) []) w' (DY X γ' (GZ (.vec e ag ks l) [])) (MZ (.vec e ag ks l)) x/\LF vs (.vec e ag ks l) [] (γ 900000) (γ' 900000):=by
 have hm:I0 vs=[]:=by simp only[I0,hb]
 rw[hm]at hR;have hmo:GZ (.vec e ag ks l) []=[(900000,AA (.row AC e ag ks l))]:=rfl;rw[hmo];refine h.mono ?_;rintro e' w' ⟨v,ys,rfl,hk,hown,hel⟩;have hown0:w'.ownsRow 0 e ks.length v l.length ys:=by
  refine⟨hown.1,?_⟩;rcases hown.2 with h1|⟨g,cap,cur,h1,_,h2,h3,h4,h5,h6⟩
  .exact .inl h1
  .exact .inr ⟨g,cap,cur,h1,CH _,h2,h3,h4,h5,h6⟩
 have obs:∀n ob,DV [(900000,AA (Ob.row AC e ag ks l))] n=AA ob->n=900000/\ob=.row AC e ag ks l:=λn ob hn=>by
  rw[EP]at hn;split at hn
  .rename_i h9;simp only[AK]at hn;exact⟨h9.symm,hn.symm⟩
  .simp[DV,FA]at hn
 have hfresh:∀b,v.ownBlock=AA b->w.heap.size<=b/\b<w'.heap.size:=λb hb=>hown.lt b hb
 have ownP:∀b,FN (λn=>if n=900000 then v else γ n) [(900000,AA (Ob.row AC e ag ks l))] b->v.ownBlock=AA b:=by
  rintro b ⟨n,ob,hn,hb⟩;obtain⟨rfl,rfl⟩:=obs n ob hn;simpa only[FE,CX]using hb
 refine⟨v,rfl,λn=>if n=900000 then v else γ n,⟨hR.sz,hR.df,λi=>by simp only[St.get,FA,VRel],λn ob hn=>?_,λb hb=>?_,λn m ob ob' b hnm h1 h2=>?_,hk.mono (λ_ _ h=>h.elim),λb hb hf=>?_,λb hf=>CY (hR.fl b hf) hk.size,λp hp=>by cases hp⟩,?_,?_⟩
 .obtain⟨rfl,rfl⟩:=obs n ob hn;simp only[ObRel,CX];exact⟨hks,hl,ys,OwnRow.of hown0 he,hel _⟩
 .have:=hfresh b (ownP b hb)
  exact⟨this.2,.inl this.1⟩
 .obtain⟨rfl,rfl⟩:=obs n ob h1;obtain⟨rfl,rfl⟩:=obs m ob' h2;exact absurd rfl hnm
 .have:=hfresh b (ownP b hb)
  have:=hR.fl b hf
  omega
 .simp only[MZ,VRel,EP,CX];refine⟨A4 _,?_⟩;rcases hown.2 with⟨rfl,h0⟩|⟨g,cap,cur,rfl,_,h2,h3,h4,h5,h6⟩
  .exact⟨AB,0,0,AB,rfl,by rw[h0],CH _,by rw[h0];exact A4 _,A4 _,CH _,.inl rfl,λ_=>rfl⟩
  .refine⟨AA ⟨g,0,AB⟩,l.length,cap,AA ⟨g,0,AB⟩,rfl,by simp,CH _,A4 _,h3,h4,.inl ?_,λ_=>rfl⟩;simp[Addr.add]
 .simp only[LF,hb,bG]
end
theorem zfg{w w':World}{O:Nat->Prop}(hO:∀b,O b->b<w.heap.size){g:Nat}{T:TypeId}{l:List BA}{c:Nat}(hg:w.heap.size<=g)(hh:w'.heap[g]?=AA (.cells (l.map Value.string).toArray T (0,0)))(hc:l.length<=c)(hcm:c<=maxLen)(hl:l.length<=strMax)
  (hs:∀s∈l,s.size<=strMax):Kd.Rel w' O (.list AD [.str]) (.list (l.map IV.str)) (.slice (AA ⟨g,0,AB⟩) l.length c):=by
 simp only[Kd.Rel,IV.toList,BW];refine⟨_,c,rfl,hc,hcm,hl,λi y hy=>⟨g,0,rfl,λh=>by have:=hO g h;omega,(DK.1 hh).1,?_⟩⟩;simp only[CJ,DP]at hy;obtain⟨s,hs1,rfl⟩:=hy;simp only[Kd.RelAll,AV,BN,BU,Nat.mul_one,DJ,CI];refine⟨.string s,?_,?_⟩
 .simp only[vaI,hh];simp[hs1]
 .simp only[Kd.Rel,GK,IV.toStr];exact⟨trivial,hs s (vaa hs1)⟩
open Go Go.RowKit
theorem R.get_br(b:Bool)(x y:R):(R.br b x y).get=cond b x.get y.get:=by cases b<;>rfl
theorem R.get_ok(v:V)(o:List (List V)):(R.ok v o).get=AA (v,o):=rfl
theorem R.get_no:R.no.get=AB:=rfl
def DZ(n:Int):BA:=⟨(Lib.itoa n).toArray⟩
def FT(s:BA):Int:=match Lib.atoiAll s.data.toList with|.ok v=>v|.range=>Lib.atoiSat s.data.toList|_=>0
def MK(s:BA):Bool:=match Lib.atoiAll s.data.toList with|.ok _=>AC|_=>AD
def cutL(s sep:BA):BA:=⟨(Lib.cut s.data.toList sep.data.toList).1.toArray⟩
def GA(s sep:BA):BA:=⟨(Lib.cut s.data.toList sep.data.toList).2.1.toArray⟩
def de(s sep:BA):Bool:=(Lib.cut s.data.toList sep.data.toList).2.2
def EH(s sep:BA):List BA:=Lib.splitB sep 0 (Lib.countB s sep) s
def N7(c:Int):UInt8:=UInt8.ofNat c.toNat
def U3:D4
 |[.bor [.bld s],.str t]=>.br (AE (s.size+t.size<=strMax)) (.ok (.tup [.int .i64 (ic t.size),.err AC]) [[.bld (s++t)]]) .no
 |_=>.no
def ZZ:D4
 |[.bor [.bld s],.int .u8 c]=>.br (AE (s.size+1<=strMax)) (.ok (.err AC) [[.bld (s.push (N7 c))]]) .no
 |_=>.no
def U2:D4
 |[.bor [.bld s]]=>.ok (.str s) [[.bld s]]
 |_=>.no
def PZ:D4
 |[.int .i64 n]=>.ok (.str (DZ n)) []
 |_=>.no
def R0:D4
 |[.str s]=>.ok (.tup [.int .i64 (FT s),.err (MK s)]) []
 |_=>.no
def U4:D4
 |[.str s,.str sep]=>.br (AE (s.size<4294967281)) (.ok (.tup [.str (cutL s sep),.str (GA s sep),.bool (de s sep)]) []) .no
 |_=>.no
def N6:D4
 |[.str s,.str sep]=>.br (AE (s.size<4294967281)&&AE (1<=sep.size)) (.ok (.list AD [.str] ((EH s sep).map IV.str)) []) .no
 |_=>.no
def FK(n:Int):BA:=⟨(CS n.toNat).toArray⟩
def G2(s:BA):Int:=match Lib.parseMag s.data.toList with|.ok v=>(v:Int)|.range=>18446744073709551615|_=>0
def JT(s:BA):Bool:=match Lib.parseMag s.data.toList with|.ok _=>AC|_=>AD
def QO(s cs:BA):BA:=⟨(Lib.trimRightB s.data.toList (cs.data.toList.headD 0)).toArray⟩
def IF(s:BA)(n:Nat):BA:=⟨(Lib.repeatL s.data.toList n).toArray⟩
def GT(s p:BA):BA:=⟨(Lib.trimPrefix s.data.toList p.data.toList).toArray⟩
def P7(s p:BA):Bool:=Lib.hasPrefix s.data.toList p.data.toList
def kO:D4
 |[.int .u64 n,.int .i64 b]=>.br (AE (b=10)) (.ok (.str (FK n)) []) .no
 |_=>.no
def kP:D4
 |[.str s,.int .i64 b,.int .i64 c]=>.br (AE (b=10)&&AE (c=64)) (.ok (.tup [.int .u64 (G2 s),.err (JT s)]) []) .no
 |_=>.no
def kR:D4
 |[.str s,.str cs]=>.br (AE (cs.size=1)&&AE ((cs.data.toList.headD 0).toNat<128)) (.ok (.str (QO s cs)) []) .no
 |_=>.no
def Z2:D4
 |[.str s,.int .i64 n]=>.br (AE (0<=n)&&AE (s.size*n.toNat<=strMax)) (.ok (.str (IF s n.toNat)) []) .no
 |_=>.no
def Z0:D4
 |[.str s,.str p]=>.ok (.tup [.str (GT s p),.bool (P7 s p)]) []
 |_=>.no
def GU(l:List BA)(sep:BA):BA:=⟨(Lib.join (l.map (·.data.toList)) sep.data.toList).toArray⟩
def Z1:D4
 |[.list AD [.str] l,.str sep]=>.br (AE (l.length<=strMax)&&AE ((GU (l.map IV.toStr) sep).size<=strMax)) (.ok (.str (GU (l.map IV.toStr) sep)) []) .no
 |_=>.no
def GB:LI->BA->Int->Int
 |[],_,_=> -1
 |x::l,s,i=>cond (s.toList==x.toStr.toList) i (GB l s (i+1))
theorem Zz{l:List UInt8}{v:Int}(h:Lib.atoiAll l=.ok v):AJ.min<=v/\v<=AJ.max:=by
 have e1:AJ.min= -9223372036854775808:=rfl;have e2:AJ.max=9223372036854775807:=rfl;rw[e1,e2];unfold Lib.atoiAll at h;split at h
 .cases h
 .simp only at h;split at h
  .cases h
  .cases h
  .rename_i u hu;split at h
   .cases h
   .split at h
    .cases h
    .simp only[Lib.NumEnd.ok.injEq]at h;subst h;split<;>omega
theorem zK(s:BA):AJ.min<=FT s/\FT s<=AJ.max:=by
 have e1:AJ.min= -9223372036854775808:=rfl;have e2:AJ.max=9223372036854775807:=rfl;unfold FT;split
 .rename_i v hv;exact Zz hv
 .unfold Lib.atoiSat;rw[e1,e2];split<;>omega
 .rw[e1,e2];omega
theorem aT{n:Int}(h0:AJ.min<=n)(h1:n<=AJ.max):(DZ n).size<=21:=by
 have e1:AJ.min= -9223372036854775808:=rfl;have e2:AJ.max=9223372036854775807:=rfl;rw[e1]at h0;rw[e2]at h1
 have:=Lib.itoa_length_le n h0 h1
 simpa[DZ,AP]using this
theorem vI(s:BA):AO.min<=G2 s/\G2 s<=AO.max:=by
 have e1:AO.min=0:=rfl;have e2:AO.max=18446744073709551615:=rfl;unfold G2;split
 .rename_i v hv
  have:=Lib.parseMag_lt hv
  rw[e1,e2];omega
 .rw[e1,e2];omega
 .rw[e1,e2];omega
theorem tY{n:Int}(h0:0<=n)(h1:n<=18446744073709551615):(FK n).size<=20:=by
 rcases Int.lt_or_le 0 n with h|h
 .have hd:=Lib.numDigits_eq n.toNat AG AG;have hl:=Lib.decDigits_length n.toNat;have hs:(FK n).size=(CS n.toNat).length:=by simp[FK,AP]
  rw[hs,hl];split at hd<;>omega
 .have:n=0:=by omega
  subst this;have hd:CS (0:Int).toNat=[UInt8.ofNat (48+0)]:=by rw[show(0:Int).toNat=0 from rfl,CS];rfl
  unfold FK;rw[hd];decide
theorem Uq(s cs:BA):(QO s cs).size<=s.size:=by
 have:∀(l:List UInt8) c,(Lib.trimRightB l c).length<=l.length:=λl c=>by
  unfold Lib.trimRightB;rw[List.length_reverse]
  have:=(List.dropWhile_sublist (·==c) (l:=l.reverse)).length_le
  simpa using this
 have h:=this s.data.toList (cs.data.toList.headD 0);simp only[QO,AP,DM];simpa using h
theorem Up(s p:BA):(GT s p).size<=s.size:=by
 simp only[GT,AP,DM,Lib.trimPrefix];split
 .simp
 .simp
theorem vS(s:BA)(n:Nat):(IF s n).size=s.size*n:=by
 have:∀(l:List UInt8) n,(Lib.repeatL l n).length=l.length*n:=λl n=>by rw[Lib.repeatL_length,Nat.mul_comm]
 show(Lib.repeatL s.data.toList n).toArray.size=s.size*n;rw[DM,this,C1];rfl
theorem lI(s sep:BA):(cutL s sep).size<=s.size/\(GA s sep).size<=s.size:=by
 unfold cutL GA Lib.cut;split
 .simp only[AP,DM,BL,DA,C1];omega
 .simp only[AP,DM,C1,BN];omega
theorem ZC(sep:BA):∀(k:Nat) (s:BA),(Lib.splitB sep 0 k s).length<=k+1/\∀p∈Lib.splitB sep 0 k s,p.size<=s.size
 |0,s=>by simp[Lib.splitB]
 |k+1,s=>by
  unfold Lib.splitB;split
  .simp
  .obtain⟨h1,h2⟩:=ZC sep k (s.extract ((Lib.indexB s sep).toNat+sep.size) s.size);refine⟨by simp only[AV];omega,λp hp=>?_⟩;rcases AW.1 hp with h|h
   .subst h;simp only[vay];omega
   .have:=h2 p h
    simp only[vay]at this;omega
open Go Go.Proofs
def j9:List (Nat×TI):=[
 (2,⟨1,8,AD,[.z],[.int .i64 0],.leaf⟩),
 (3,⟨1,8,AD,[.z],[.int .i64 0],.leaf⟩),
 (4,⟨1,1,AD,[.bool],[.bool AD],.leaf⟩),
 (5,⟨1,1,AD,[.int .u8],[.int .u8 0],.leaf⟩),
 (6,⟨1,1,AD,[.int .u8],[.int .u8 0],.leaf⟩),
 (7,⟨4,24,AC,[.z,.z,.bool,.int .u8],[.int .i64 0,.int .i64 0,.bool AD,.int .u8 0],.struct [(0,2),(1,3),(2,4),(3,6)]⟩),
 (8,⟨4,24,AC,[.z,.z,.bool,.int .u8],[.int .i64 0,.int .i64 0,.bool AD,.int .u8 0],.struct [(0,2),(1,3),(2,4),(3,6)]⟩),
 (9,⟨1,16,AD,[.str],[.str ⟨#[]⟩],.leaf⟩),
 (22,⟨1,24,AD,[.list AD [.z]],[.zs],.slice 3⟩),
 (23,⟨1,24,AD,[.list AC [.z,.list AD [.z],.list AD [.z],.list AD [.z],.list AD [.z]]],[.zs],.slice 81⟩),
 (25,⟨4,64,AC,[.z,.z,.list AD [.z],.list AC [.z,.list AD [.z],.list AD [.z],.list AD [.z],.list AD [.z]]],[.int .i64 0,.int .i64 0,.zs,.zs],.struct [(0,3),(1,3),(2,22),(3,23)]⟩),
 (26,⟨1,24,AD,[.list AC [.z,.z,.z,.z,.z,.z,.bool,.list AD [.z]]],[.zs],.slice 43⟩),
 (27,⟨1,24,AD,[.list AC [.z,.list AC [.bool,.z,.z],.z,.z,.z,.z,.z,.z]],[.zs],.slice 50⟩),
 (28,⟨3,24,AC,[.z,.z,.z],[.int .i64 0,.int .i64 0,.int .i64 0],.array 3 3⟩),
 (29,⟨1,24,AD,[.list AC [.z,.list AD [.int .u64]]],[.zs],.slice 85⟩),
 (31,⟨6,64,AC,[.z,.z,.z,.z,.z,.list AC [.z,.list AD [.int .u64]]],[.int .i64 0,.int .i64 0,.int .i64 0,.int .i64 0,.int .i64 0,.zs],.struct [(0,3),(1,3),(2,28),(5,29)]⟩),
 (33,⟨1,24,AD,[.list AC [.z,.z,.z,.z,.z,.z,.z,.z,.z,.z,.z,.z,.z,.z,.z,.bool,.z]],[.zs],.slice 39⟩),
 (35,⟨2,16,AC,[.z,.z],[.int .i64 0,.int .i64 0],.struct [(0,3),(1,3)]⟩),
 (37,⟨10,80,AC,[.z,.z,.z,.z,.z,.z,.z,.z,.z,.z],[.int .i64 0,.int .i64 0,.int .i64 0,.int .i64 0,.int .i64 0,.int .i64 0,.int .i64 0,.int .i64 0,.int .i64 0,.int .i64 0],.array 5 35⟩),
 (39,⟨17,136,AC,[.z,.z,.z,.z,.z,.z,.z,.z,.z,.z,.z,.z,.z,.z,.z,.bool,.z],[.int .i64 0,.int .i64 0,.int .i64 0,.int .i64 0,.int .i64 0,.int .i64 0,.int .i64 0,.int .i64 0,.int .i64 0,.int .i64 0,.int .i64 0,.int .i64 0,.int .i64 0,.int .i64 0,.int .i64 0,.bool AD,.int .i64 0],.struct [(0,3),(1,3),(2,37),(12,3),(13,3),(14,3),(15,4),(16,3)]⟩),
 (43,⟨8,80,AC,[.z,.z,.z,.z,.z,.z,.bool,.list AD [.z]],[.int .i64 0,.int .i64 0,.int .i64 0,.int .i64 0,.int .i64 0,.int .i64 0,.bool AD,.zs],.struct [(0,3),(1,3),(2,3),(3,3),(4,3),(5,3),(6,4),(7,22)]⟩),
 (46,⟨1,24,AD,[.list AC [.bool,.z,.z]],[.zs],.slice 101⟩),
 (48,⟨4,32,AC,[.z,.z,.z,.z],[.int .i64 0,.int .i64 0,.int .i64 0,.int .i64 0],.array 4 3⟩),
 (50,⟨8,80,AC,[.z,.list AC [.bool,.z,.z],.z,.z,.z,.z,.z,.z],[.int .i64 0,.zs,.int .i64 0,.int .i64 0,.int .i64 0,.int .i64 0,.int .i64 0,.int .i64 0],.struct [(0,3),(1,46),(2,48),(6,3),(7,3)]⟩),
 (51,⟨1,24,AD,[.list AD [.int .u8]],[.zs],.slice 5⟩),
 (65,⟨1,24,AD,[.list AD [.str]],[.zs],.slice 9⟩),
 (81,⟨5,104,AC,[.z,.list AD [.z],.list AD [.z],.list AD [.z],.list AD [.z]],[.int .i64 0,.zs,.zs,.zs,.zs],.struct [(0,3),(1,22),(2,22),(3,22),(4,22)]⟩),
 (82,⟨1,24,AD,[.list AD [.int .u64]],[.zs],.slice 106⟩),
 (85,⟨2,32,AC,[.z,.list AD [.int .u64]],[.int .i64 0,.zs],.struct [(0,3),(1,82)]⟩),
 (93,⟨1,24,AD,[.list AC [.z,.z]],[.zs],.slice 35⟩),
 (96,⟨1,8,AD,[.list AD []],[.nilp],.ptr 98⟩),
 (98,⟨2,32,AC,[.list AD [],.list AD [.int .u8]],[.nilp,.zs],.bld⟩),
 (101,⟨3,24,AC,[.bool,.z,.z],[.bool AD,.int .i64 0,.int .i64 0],.struct [(0,4),(1,3),(2,3)]⟩),
 (106,⟨1,8,AD,[.int .u64],[.int .u64 0],.leaf⟩),
 (108,⟨6,48,AC,[.bool,.z,.z,.z,.z,.z],[.bool AD,.int .i64 0,.int .i64 0,.int .i64 0,.int .i64 0,.int .i64 0],.struct [(0,4),(1,3),(2,3),(3,3),(4,3),(5,3)]⟩),
 (119,⟨1,24,AD,[.list AC [.z,.z,.z,.z,.z,.z,.z,.z,.z,.z]],[.zs],.slice 37⟩),
 (126,⟨1,8,AD,[.list AD []],[.nilp],.ptr 129⟩),
 (129,⟨1,24,AC,[.list AD [.str]],[.zs],.struct [(0,65)]⟩),
 (135,⟨1,8,AD,[.list AD []],[.nilp],.ptr 85⟩),
 (149,⟨1,16,AD,[.list AD []],[.err AC],.iface⟩),
 (152,⟨1,24,AD,[.list AC [.bool,.z,.z,.z,.z,.z]],[.zs],.slice 108⟩),
 (156,⟨1,8,AD,[.int .u64],[.int .u64 0],.leaf⟩),
 (169,⟨1,8,AD,[.list AD []],[.nilp],.ptr 207⟩),
 (207,⟨34,336,AC,[.z,.z,.z,.z,.z,.list AC [.z,.list AD [.int .u64]],.z,.z,.z,.z,.z,.z,.z,.z,.z,.z,.z,.z,.z,.z,.z,.bool,.z,.list AC [.z,.z,.z,.z,.z,.z,.z,.z,.z,.z],.list AC [.bool,.z,.z],.z,.list AC [.bool,.z,.z],.z,.z,.z,.z,.z,.z,.z],[.int .i64 0,.int .i64 0,.int .i64 0,.int .i64 0,.int .i64 0,.zs,.int .i64 0,.int .i64 0,.int .i64 0,.int .i64 0,.int .i64 0,.int .i64 0,.int .i64 0,.int .i64 0,.int .i64 0,.int .i64 0,.int .i64 0,.int .i64 0,.int .i64 0,.int .i64 0,.int .i64 0,.bool AD,.int .i64 0,.zs,.zs,.int .i64 0,.zs,.int .i64 0,.int .i64 0,.int .i64 0,.int .i64 0,.int .i64 0,.int .i64 0,.int .i64 0],.struct [(0,31),(6,39),(23,119),(24,46),(25,50),(33,3)]⟩),
 (221,⟨1,8,AD,[.list AD []],[.any],.map 3 .z⟩),
 (224,⟨1,8,AD,[.list AD []],[.any],.map 4 (.bool)⟩),
 (261,⟨1,24,AD,[.list AC [.z,.z,.z,.z,.z,.z,.z,.z,.z,.z,.z]],[.zs],.slice 264⟩),
 (264,⟨11,88,AC,[.z,.z,.z,.z,.z,.z,.z,.z,.z,.z,.z],[.int .i64 0,.int .i64 0,.int .i64 0,.int .i64 0,.int .i64 0,.int .i64 0,.int .i64 0,.int .i64 0,.int .i64 0,.int .i64 0,.int .i64 0],.struct [(0,37),(10,3)]⟩),
 (273,⟨11,88,AC,[.z,.z,.z,.z,.z,.z,.z,.z,.z,.z,.z],[.int .i64 0,.int .i64 0,.int .i64 0,.int .i64 0,.int .i64 0,.int .i64 0,.int .i64 0,.int .i64 0,.int .i64 0,.int .i64 0,.int .i64 0],.struct [(0,3),(1,37)]⟩),
 (274,⟨1,24,AD,[.list AC [.z,.z,.z,.z,.z,.z,.z,.z,.z,.z,.z]],[.zs],.slice 273⟩)]
def rF:List Nat:=[28,35,39,48,101,108]
noncomputable abbrev PR:Program:=Tryz.prog
theorem Uc:j4 PR 98 j9=AC:=AF
theorem Fh:lS PR j9 rF=AC:=AF
theorem Jl:PR.follows .mixedOrders=AC:=AF
theorem aq:∃i,PR.info? 98=AA i/\i.zero=AA (.agg #[.pointer AB,.slice AB 0 0]):=by
 refine⟨(PR.info? 98).getD default,by kernel_rfl,by kernel_rfl⟩
theorem zT(_h:(FA TI.none j9 98).d=.bld):∃i,PR.info? 98=AA i/\i.zero=AA (.agg #[.pointer AB,.slice AB 0 0]):=aq
def EE(sp:List (Nat×D4))(lp:List (Nat×KP))(nt N:Nat):Env:=⟨j9,sp,[],lp,nt,N,rF,[]⟩
def nA(sp:List (Nat×D4))(ip:List (Nat×Ip))(lp:List (Nat×KP))(nt N:Nat):Env:=⟨j9,sp,[],lp,nt,N,rF,ip⟩
abbrev HF(fn:Func)(c:Code)(nt:Nat)(rs:List ResultVar):Prop:=(fn.name== "runtime.NumGoroutine")=AD/\fn.body=AA c/\fn.ntmps=nt/\CG nt 900000=AC/\fn.results.toList=rs
theorem ED{fn:Func}{nt:Nat}{rs:List ResultVar}(h:(!(fn.name== "runtime.NumGoroutine")&&(fn.body.isSome&&(fn.ntmps==nt&&CG nt 900000)))=AC:=by kernel_rfl)(h2:fn.results.toList=rs:=by kernel_rfl):HF fn (EB fn) nt rs:=by
 simp only[AQ,CE,CF]at h;refine⟨h.1,?_,h.2.2.1,h.2.2.2,h2⟩;unfold EB;cases hb:fn.body with
 |none=>rw[hb]at h;exact absurd h.2.1 (by decide)
 |some c=>rfl
noncomputable def aD:Code:=EB Tryz.f6
theorem ox:HF Tryz.f6 aD 172 [.tmp 14]:=ED
noncomputable def N8:Code:=EB Tryz.f7
theorem oo:HF Tryz.f7 N8 63 [.cell 2 31]:=ED
noncomputable def Ax:Code:=EB Tryz.f9
theorem om:HF Tryz.f9 Ax 58 [.cell 4 39]:=ED
noncomputable def ML:Code:=EB Tryz.f10
theorem ml:HF Tryz.f10 ML 100 [.tmp 4]:=ED
noncomputable def X4:Code:=EB Tryz.f11
theorem ny:HF Tryz.f11 X4 61 [.tmp 2]:=ED
noncomputable def VA:Code:=EB Tryz.f12
theorem mr:HF Tryz.f12 VA 54 [.tmp 6]:=ED
noncomputable def LH:Code:=EB Tryz.f13
theorem sm:HF Tryz.f13 LH 94 [.tmp 2]:=ED
noncomputable def VB:Code:=EB Tryz.f15
theorem mt:HF Tryz.f15 VB 59 [.tmp 2,.tmp 3]:=ED
noncomputable def J4:Code:=EB Tryz.f17
theorem sk:HF Tryz.f17 J4 88 [.cell 2 31,.tmp 3]:=ED
noncomputable def TM:Code:=EB Tryz.f23
theorem mj:HF Tryz.f23 TM 82 [.cell 2 39,.tmp 3,.tmp 4]:=ED
noncomputable def Bs:Code:=EB Tryz.f26
theorem qi:HF Tryz.f26 Bs 46 [.cell 4 50]:=ED
noncomputable def X7:Code:=EB Tryz.f27
theorem qk:HF Tryz.f27 X7 37 [.tmp 4]:=ED
noncomputable def Bt:Code:=EB Tryz.f29
theorem qj:HF Tryz.f29 Bt 8 [.tmp 2]:=ED
noncomputable def X6:Code:=EB Tryz.f31
theorem oy:HF Tryz.f31 X6 37 [.tmp 6]:=ED
noncomputable def Aw:Code:=EB Tryz.f32
theorem ol:HF Tryz.f32 Aw 24 [.tmp 6]:=ED
noncomputable def Ba:Code:=EB Tryz.f33
theorem ow:HF Tryz.f33 Ba 39 [.tmp 0]:=ED
noncomputable def TN:Code:=EB Tryz.f34
theorem ph:HF Tryz.f34 TN 38 [.tmp 6,.tmp 7]:=ED
noncomputable def Az:Code:=EB Tryz.f35
theorem ov:HF Tryz.f35 Az 15 [.tmp 4]:=ED
noncomputable def NE:Code:=EB Tryz.f36
theorem ou:HF Tryz.f36 NE 113 [.tmp 4]:=ED
noncomputable def Cm:Code:=EB Tryz.f38
theorem ro:HF Tryz.f38 Cm 16 [.cell 2 37]:=ED
noncomputable def VG:Code:=EB Tryz.f39
theorem oq:HF Tryz.f39 VG 32 [.cell 4 37]:=ED
noncomputable def Ae:Code:=EB Tryz.f40
theorem mq:HF Tryz.f40 Ae 39 [.cell 4 39]:=ED
noncomputable def Ad:Code:=EB Tryz.f41
theorem mp:HF Tryz.f41 Ad 9 [.tmp 2]:=ED
noncomputable def Bo:Code:=EB Tryz.f43
theorem qe:HF Tryz.f43 Bo 38 [.tmp 2]:=ED
noncomputable def Au:Code:=EB Tryz.f45
theorem nz:HF Tryz.f45 Au 47 [.tmp 2]:=ED
noncomputable def X5:Code:=EB Tryz.f46
theorem oa:HF Tryz.f46 X5 26 []:=ED
noncomputable def Af:Code:=EB Tryz.f48
theorem mu:HF Tryz.f48 Af 66 [.tmp 6]:=ED
noncomputable def R3:Code:=EB Tryz.f49
theorem qv:HF Tryz.f49 R3 54 [.tmp 2]:=ED
noncomputable def Cz:Code:=EB Tryz.f50
theorem sq:HF Tryz.f50 Cz 10 []:=ED
noncomputable def Cf:Code:=EB Tryz.f51
theorem rb:HF Tryz.f51 Cf 33 [.cell 2 108,.tmp 3]:=ED
noncomputable def Ay:Code:=EB Tryz.f52
theorem ot:HF Tryz.f52 Ay 14 [.cell 0 31]:=ED
noncomputable def VK:Code:=EB Tryz.f53
theorem rv:HF Tryz.f53 VK 13 [.cell 4 50]:=ED
noncomputable def MM:Code:=EB Tryz.f54
theorem og:HF Tryz.f54 MM 59 [.tmp 6]:=ED
noncomputable def VC:Code:=EB Tryz.f56
theorem mv:HF Tryz.f56 VC 29 [.tmp 4,.tmp 5,.tmp 6]:=ED
noncomputable def Ag:Code:=EB Tryz.f57
theorem mw:HF Tryz.f57 Ag 37 [.tmp 2]:=ED
noncomputable def As:Code:=EB Tryz.f58
theorem nx:HF Tryz.f58 As 17 [.cell 2 50,.tmp 3]:=ED
noncomputable def O4:Code:=EB Tryz.f62
theorem rk:HF Tryz.f62 O4 75 [.tmp 8]:=ED
noncomputable def Ar:Code:=EB Tryz.f63
theorem nw:HF Tryz.f63 Ar 16 [.cell 2 48]:=ED
noncomputable def Cx:Code:=EB Tryz.f65
theorem sj:HF Tryz.f65 Cx 8 [.tmp 4]:=ED
noncomputable def Da:Code:=EB Tryz.f66
theorem sr:HF Tryz.f66 Da 26 [.tmp 2]:=ED
noncomputable def Cy:Code:=EB Tryz.f67
theorem sn:HF Tryz.f67 Cy 24 [.tmp 4]:=ED
noncomputable def Dd:Code:=EB Tryz.f68
theorem sw:HF Tryz.f68 Dd 13 [.tmp 4]:=ED
noncomputable def Dc:Code:=EB Tryz.f69
theorem su:HF Tryz.f69 Dc 11 [.tmp 2]:=ED
noncomputable def Db:Code:=EB Tryz.f70
theorem ss:HF Tryz.f70 Db 28 [.tmp 2]:=ED
noncomputable def Bf:Code:=EB Tryz.f74
theorem pp:HF Tryz.f74 Bf 32 [.tmp 2]:=ED
noncomputable def NF:Code:=EB Tryz.f75
theorem pq:HF Tryz.f75 NF 77 [.tmp 2]:=ED
noncomputable def Bh:Code:=EB Tryz.f78
theorem pw:HF Tryz.f78 Bh 42 [.cell 2 108,.tmp 3]:=ED
noncomputable def VL:Code:=EB Tryz.f80
theorem sb:HF Tryz.f80 VL 19 [.tmp 4]:=ED
noncomputable def Ab:Code:=EB Tryz.f81
theorem mn:HF Tryz.f81 Ab 46 [.cell 2 39]:=ED
noncomputable def Ac:Code:=EB Tryz.f83
theorem mo:HF Tryz.f83 Ac 11 [.tmp 2]:=ED
noncomputable def Aa:Code:=EB Tryz.f84
theorem mm:HF Tryz.f84 Aa 11 [.tmp 2]:=ED
noncomputable def VH:Code:=EB Tryz.f85
theorem pd:HF Tryz.f85 VH 139 [.tmp 4]:=ED
noncomputable def Bc:Code:=EB Tryz.f86
theorem pf:HF Tryz.f86 Bc 28 [.cell 2 37]:=ED
noncomputable def O2:Code:=EB Tryz.f88
theorem oz:HF Tryz.f88 O2 87 [.tmp 8]:=ED
noncomputable def Bb:Code:=EB Tryz.f89
theorem pc:HF Tryz.f89 Bb 16 [.cell 2 48]:=ED
noncomputable def Ck:Code:=EB Tryz.f93
theorem rl:HF Tryz.f93 Ck 41 [.tmp 4]:=ED
noncomputable def KJ:Code:=EB Tryz.f95
theorem pa:HF Tryz.f95 KJ 89 [.tmp 8,.tmp 9]:=ED
noncomputable def qA:Code:=EB Tryz.f96
theorem qo:HF Tryz.f96 qA 24 [.tmp 8]:=ED
noncomputable def Co:Code:=EB Tryz.f97
theorem rr:HF Tryz.f97 Co 16 [.tmp 2]:=ED
noncomputable def Br:Code:=EB Tryz.f100
theorem qh:HF Tryz.f100 Br 8 [.tmp 0]:=ED
noncomputable def VF:Code:=EB Tryz.f104
theorem oe:HF Tryz.f104 VF 37 [.tmp 2]:=ED
noncomputable def Ah:Code:=EB Tryz.f106
theorem my:HF Tryz.f106 Ah 25 [.tmp 4]:=ED
noncomputable def Cr:Code:=EB Tryz.f107
theorem rz:HF Tryz.f107 Cr 9 [.tmp 4]:=ED
noncomputable def Cc:Code:=EB Tryz.f108
theorem qw:HF Tryz.f108 Cc 22 [.tmp 3]:=ED
noncomputable def MN:Code:=EB Tryz.f109
theorem sx:HF Tryz.f109 MN 94 [.tmp 4]:=ED
noncomputable def Al:Code:=EB Tryz.f110
theorem nb:HF Tryz.f110 Al 14 [.tmp 6]:=ED
noncomputable def Ai:Code:=EB Tryz.f111
theorem mz:HF Tryz.f111 Ai 18 [.tmp 6]:=ED
noncomputable def Cg:Code:=EB Tryz.f112
theorem rc:HF Tryz.f112 Cg 11 [.tmp 5]:=ED
noncomputable def Cd:Code:=EB Tryz.f113
theorem qz:HF Tryz.f113 Cd 32 [.tmp 2]:=ED
noncomputable def Cq:Code:=EB Tryz.f114
theorem ru:HF Tryz.f114 Cq 26 [.tmp 4]:=ED
noncomputable def gQ:Code:=EB Tryz.f115
theorem rx:HF Tryz.f115 gQ 165 [.tmp 2]:=ED
noncomputable def gR:Code:=EB Tryz.f116
theorem ry:HF Tryz.f116 gR 22 [.cell 2 50]:=ED
noncomputable def aE:Code:=EB Tryz.f117
theorem rh:HF Tryz.f117 aE 75 [.tmp 4,.tmp 5]:=ED
noncomputable def OZ:Code:=EB Tryz.f118
theorem oj:HF Tryz.f118 OZ 94 [.tmp 6]:=ED
noncomputable def Aq:Code:=EB Tryz.f119
theorem nv:HF Tryz.f119 Aq 25 [.tmp 6]:=ED
noncomputable def IK:Code:=EB Tryz.f123
theorem od:HF Tryz.f123 IK 87 [.cell 2 50]:=ED
noncomputable def bh:Code:=EB Tryz.f124
theorem nq:HF Tryz.f124 bh 32 [.cell 6 37,.cell 7 37]:=ED
noncomputable def Cb:Code:=EB Tryz.f126
theorem qu:HF Tryz.f126 Cb 24 [.tmp 6]:=ED
noncomputable def Cu:Code:=EB Tryz.f127
theorem se:HF Tryz.f127 Cu 15 [.tmp 4]:=ED
noncomputable def Cl:Code:=EB Tryz.f128
theorem rm:HF Tryz.f128 Cl 14 [.cell 6 48]:=ED
noncomputable def Ca:Code:=EB Tryz.f130
theorem qs:HF Tryz.f130 Ca 16 [.tmp 4]:=ED
noncomputable def Bp:Code:=EB Tryz.f131
theorem qf:HF Tryz.f131 Bp 76 [.tmp 2,.tmp 3]:=ED
noncomputable def Bg:Code:=EB Tryz.f133
theorem pr:HF Tryz.f133 Bg 66 [.tmp 2]:=ED
noncomputable def Bd:Code:=EB Tryz.f134
theorem pk:HF Tryz.f134 Bd 27 [.tmp 4]:=ED
noncomputable def NG:Code:=EB Tryz.f135
theorem pu:HF Tryz.f135 NG 94 [.tmp 4]:=ED
noncomputable def Be:Code:=EB Tryz.f137
theorem pl:HF Tryz.f137 Be 31 [.tmp 4]:=ED
noncomputable def P2:Code:=EB Tryz.f143
theorem po:HF Tryz.f143 P2 46 [.tmp 6]:=ED
noncomputable def J3:Code:=EB Tryz.f144
theorem pb:HF Tryz.f144 J3 133 [.tmp 8]:=ED
noncomputable def Cp:Code:=EB Tryz.f146
theorem rt:HF Tryz.f146 Cp 35 [.tmp 4]:=ED
noncomputable def Cn:Code:=EB Tryz.f147
theorem rp:HF Tryz.f147 Cn 71 [.tmp 4]:=ED
noncomputable def Bw:Code:=EB Tryz.f149
theorem qp:HF Tryz.f149 Bw 23 [.tmp 4]:=ED
noncomputable def P3:Code:=EB Tryz.f151
theorem qx:HF Tryz.f151 P3 54 [.tmp 4]:=ED
noncomputable def TP:Code:=EB Tryz.f163
theorem sa:HF Tryz.f163 TP 19 [.tmp 4]:=ED
noncomputable def Am:Code:=EB Tryz.f164
theorem nc:HF Tryz.f164 Am 21 [.tmp 4]:=ED
noncomputable def An:Code:=EB Tryz.f165
theorem nf:HF Tryz.f165 An 21 [.tmp 4]:=ED
noncomputable def Ao:Code:=EB Tryz.f166
theorem nh:HF Tryz.f166 Ao 7 [.tmp 2]:=ED
noncomputable def Ce:Code:=EB Tryz.f167
theorem ra:HF Tryz.f167 Ce 43 [.tmp 2]:=ED
noncomputable def Aj:Code:=EB Tryz.f168
theorem na:HF Tryz.f168 Aj 30 [.tmp 8]:=ED
noncomputable def Bu:Code:=EB Tryz.f169
theorem ql:HF Tryz.f169 Bu 86 [.tmp 6]:=ED
noncomputable def Bv:Code:=EB Tryz.f170
theorem qm:HF Tryz.f170 Bv 9 [.cell 2 48,.tmp 3]:=ED
noncomputable def TO:Code:=EB Tryz.f171
theorem qn:HF Tryz.f171 TO 31 [.tmp 6,.tmp 7,.tmp 8]:=ED
noncomputable def Ci:Code:=EB Tryz.f173
theorem rf:HF Tryz.f173 Ci 6 [.tmp 2]:=ED
noncomputable def Ap:Code:=EB Tryz.f174
theorem nu:HF Tryz.f174 Ap 12 [.tmp 2]:=ED
noncomputable def JD:Code:=EB Tryz.f175
theorem oh:HF Tryz.f175 JD 66 [.tmp 6,.tmp 7]:=ED
noncomputable def Av:Code:=EB Tryz.f180
theorem oc:HF Tryz.f180 Av 20 [.tmp 4]:=ED
noncomputable def Cs:Code:=EB Tryz.f181
theorem sc:HF Tryz.f181 Cs 29 [.cell 4 35,.cell 5 35]:=ED
noncomputable def P4:Code:=EB Tryz.f182
theorem qy:HF Tryz.f182 P4 33 [.tmp 6]:=ED
noncomputable def Bz:Code:=EB Tryz.f186
theorem qr:HF Tryz.f186 Bz 21 [.tmp 4]:=ED
noncomputable def Bq:Code:=EB Tryz.f187
theorem qg:HF Tryz.f187 Bq 19 [.tmp 2,.tmp 3]:=ED
noncomputable def Bi:Code:=EB Tryz.f190
theorem px:HF Tryz.f190 Bi 23 [.tmp 4]:=ED
noncomputable def Ct:Code:=EB Tryz.f191
theorem sd:HF Tryz.f191 Ct 8 [.tmp 2]:=ED
noncomputable def Ch:Code:=EB Tryz.f206
theorem re:HF Tryz.f206 Ch 9 [.tmp 2]:=ED
noncomputable def JC:Code:=EB Tryz.f207
theorem nk:HF Tryz.f207 JC 69 [.tmp 6,.tmp 7,.tmp 8]:=ED
noncomputable def VD:Code:=EB Tryz.f208
theorem nj:HF Tryz.f208 VD 62 [.tmp 6,.tmp 7]:=ED
noncomputable def Bl:Code:=EB Tryz.f209
theorem qb:HF Tryz.f209 Bl 23 [.tmp 4]:=ED
noncomputable def Bj:Code:=EB Tryz.f210
theorem pz:HF Tryz.f210 Bj 54 [.tmp 6,.tmp 7,.tmp 8]:=ED
noncomputable def VJ:Code:=EB Tryz.f211
theorem ri:HF Tryz.f211 VJ 40 [.tmp 2]:=ED
noncomputable def aC:Code:=EB Tryz.f212
theorem oi:HF Tryz.f212 aC 88 [.tmp 4,.tmp 5]:=ED
noncomputable def Cw:Code:=EB Tryz.f219
theorem si:HF Tryz.f219 Cw 12 [.cell 4 35]:=ED
noncomputable def Cv:Code:=EB Tryz.f220
theorem sf:HF Tryz.f220 Cv 2 [.cell 0 35]:=ED
noncomputable def De:Code:=EB Tryz.f221
theorem sy:HF Tryz.f221 De 15 [.tmp 4]:=ED
noncomputable def O3:Code:=EB Tryz.f230
theorem py:HF Tryz.f230 O3 41 [.tmp 4]:=ED
noncomputable def VE:Code:=EB Tryz.f240
theorem nn:HF Tryz.f240 VE 43 [.tmp 4,.tmp 5,.tmp 6]:=ED
noncomputable def Bn:Code:=EB Tryz.f241
theorem qd:HF Tryz.f241 Bn 16 [.tmp 2]:=ED
noncomputable def Bk:Code:=EB Tryz.f242
theorem qa:HF Tryz.f242 Bk 10 [.cell 4 37]:=ED
noncomputable def Bm:Code:=EB Tryz.f243
theorem qc:HF Tryz.f243 Bm 15 [.cell 4 37]:=ED
noncomputable def Cj:Code:=EB Tryz.f244
theorem rj:HF Tryz.f244 Cj 16 [.tmp 2]:=ED
noncomputable def O5:Code:=EB Tryz.f248
theorem ta:HF Tryz.f248 O5 46 [.tmp 4,.cell 5 108]:=ED
noncomputable def VI:Code:=EB Tryz.f264
theorem qt:HF Tryz.f264 VI 79 [.tmp 4]:=ED
open Go Go.Proofs Go.RowKit
theorem Keep.freeze{O:Nat->Prop}(w:World)(a:Addr)(n:Nat)(h:O a.block):Keep O w (w.freeze a n):=by
 unfold World.freeze;split
 .exact Keep.refl _ _
 .exact⟨rfl,rfl,rfl,by simp,λb _ hn=>by simp only[vaP];rw[BO (λe:a.block=b=>hn (e▸h))]⟩
theorem Keep.setCell{O:Nat->Prop}(w:World)(a:Addr)(v:Value)(h:O a.block):Keep O w (w.setCell a v):=
 ⟨rfl,rfl,rfl,by simp[vbv],λb _ hn=>Below.heap_setCell _ _ _ _ (λe=>hn (e▸h))⟩
theorem iS{w:World}{b:Nat}{o:Obj}(h:w.heap[b]?=AA o):b<w.heap.size:=(DK.1 h).1
theorem ap:liesAt PR PR.depth 98 (2/PR.cellsOf 98) 0 98 1=AC:=AF
theorem zW:(PR.info? 98).map (·.size)=AA 2:=AF
theorem Ut:(PR.info? 5).map (λi=>(i.zero,i.size,i.bytes))=AA (AA (.int .u8 0),1,1):=AF
set_option maxHeartbeats 1000000 in
theorem an (b:Nat) (w:World) (h0:w.cell? ⟨b,0,none⟩=some (.pointer (some ⟨b,0,none⟩))) :
  Calls Tryz.prog 148 #[.pointer (some ⟨b,0,none⟩)] w fun e w'=>e = .returned (.tuple #[])∧w'=w:=by
 obtain ⟨j,hj,_⟩:=Option.map_eq_some_iff.1 zW
 go_enter Tryz.func148,Tryz.ntmps148
 go_wp2
 rw [Lib.run_neq_ptr_same w _ Tryz.underlying96 hj]
 go_wp2
 go_end0
 exact ⟨rfl,rfl⟩
set_option maxHeartbeats 1000000 in
theorem am (b:Nat) (w:World) (h0:w.cell? ⟨b,0,none⟩=some (.pointer none)) (hsh:w.shape? b=some (98,2)) (hfz:w.frozen? ⟨b,0,none⟩=false) :
  Calls Tryz.prog 148 #[.pointer (some ⟨b,0,none⟩)] w fun e w'=>e = .returned (.tuple #[])∧w'=w.setCell ⟨b,0,none⟩ (.pointer (some ⟨b,0,none⟩)):=by
 obtain ⟨j,hj,hjs⟩:=Option.map_eq_some_iff.1 zW
 go_enter Tryz.func148,Tryz.ntmps148
 go_wp2
 rw [Lib.run_to_unsafe w ⟨b,0,none⟩ Tryz.underlying96 Tryz.underlying226 hj (by rw [hjs]; decide) hsh (Nat.zero_lt_succ 1)];simp only [Result.andThen];rw [Oper.upon_value]
 go_wp2
 rw [run_callFunc_extern Tryz.func192 (by kernel_rfl) (by kernel_rfl) (by kernel_rfl) (e:=Extern.AbiNoEscape.same) (by kernel_rfl)];rw [Lib.run_noEscape];simp only [Result.andThen];rw [Oper.upon_value]
 go_wp2
 rw [Lib.run_from_unsafe w ⟨b,0,none⟩ Tryz.underlying226 Tryz.underlying96 hj hsh ap];simp only [Result.andThen];rw [Oper.upon_value]
 go_wp2
 go_end0
 exact ⟨rfl,rfl⟩
theorem zU(b:Nat)(p v:Value)(w:World)(hp:p=.pointer AB\/p=.pointer (AA ⟨b,0,AB⟩))(hbk:w.heap[b]?=AA (.cells #[p,v] 98 (0,0))):
  Calls Tryz.prog 148 #[.pointer (AA ⟨b,0,AB⟩)] w λe w'=>e=.returned (.tuple #[])/\w'.heap[b]?=AA (.cells #[.pointer (AA ⟨b,0,AB⟩),v] 98 (0,0))/\Keep (λk=>k=b) w w'/\w'.heap.size=w.heap.size:=by
 have hc0:w.cell? ⟨b,0,AB⟩=AA p:=by rw[Lib.cell_of_heap hbk];rfl
 rcases hp with rfl|rfl
 .refine(am b w hc0 (by simp[World.shape?,hbk]) (Lib.frozen_of_heap hbk 0)).mono ?_;rintro e w' ⟨rfl,rfl⟩;exact⟨rfl,by simp[vbv,vaP,hbk],Keep.setCell w ⟨b,0,AB⟩ _ rfl,by simp[vbv]⟩
 .refine(an b w hc0).mono ?_;rintro e w' ⟨rfl,rfl⟩;exact⟨rfl,hbk,Keep.refl _ _,rfl⟩
def c5(b:Nat)(v:Value)(bs:List Value)(w w':World):Prop:=
 ∃v',w'.heap[b]?=AA (.cells #[.pointer (AA ⟨b,0,AB⟩),v'] 98 (0,0))/\w'.ownsRowF 0 5 1 v' bs.length bs/\v'.ownBlock≠AA b/\
  Keep (λk=>k=b\/v.ownBlock=AA k) w w'/\∀k,v'.ownBlock=AA k->v.ownBlock=AA k\/w.heap.size<=k
theorem zV{b:Nat}{v v':Value}{bs:List Value}{w w1 w2:World}(hs1:w1.heap.size=w.heap.size)(hk1:Keep (λk=>k=b) w w1)
  (hb2:w2.heap[b]?=AA (.cells #[.pointer (AA ⟨b,0,AB⟩),v] 98 (0,0))) (hown:w2.ownsRowF 0 5 1 v' bs.length bs) (hk2:Keep (λk=>v.ownBlock=AA k) w1 w2) (hv:∀k,v'.ownBlock=AA k->v.ownBlock=AA k\/w1.heap.size<=k):
  c5 b v bs w (w2.setCell ⟨b,1,AB⟩ v'):=by
 have hput:=Lib.BuilderAtF.put (T:=98) (e:=5) (CH b) hb2 hown (by decide);obtain⟨_,v2,q1,q2,q3⟩:=hput;have e2:v2=v':=by
  have:(w2.setCell ⟨b,1,AB⟩ v').heap[b]?=AA (.cells #[.pointer (AA ⟨b,0,AB⟩),v'] 98 (0,0)):=by simp[vbv,vaP,hb2]
  rw[this]at q1;simp at q1;exact q1.symm
 subst e2;refine⟨v2,q1,q2,q3,?_,λk hk=>by rw[<-hs1];exact hv k hk⟩;have h3:Keep (λk=>k=b) w2 (w2.setCell ⟨b,1,AB⟩ v2):=Keep.setCell w2 ⟨b,1,AB⟩ v2 rfl;refine(hk1.mono (λ_ _ h=>Or.inl h)).trans ((hk2.mono (O':=λk=>k=b\/v.ownBlock=AA k) (λ_ _ h=>Or.inr h)).trans h3 (λ_ _ h=>Or.inl h)) (λ_ _ h=>h)
theorem Gp{w w':World}{v:Value}(hg:w.grownBy w' v.ownBlock):Keep (λk=>v.ownBlock=AA k) w w':=
 ⟨hg.os,hg.tape,hg.output,hg.size,λb hb hn=>hg.block b hb (λh=>hn h.symm)⟩
theorem Y5{g n c k:Nat}(h:(Value.slice (AA ⟨g,0,AB⟩) n c).ownBlock=AA k):k=g:=by
 simp only[CO,AK]at h;exact h.symm
theorem Zp{P:Program}(w:World)(t u ty e:TypeId)(i:TypeInfo)(ht:P.underlying t=AA (.slice e))(hu:P.underlying u=AA .string)(hi:P.info? e=AA i)(hz:i.zero=AA (.int .u8 0))(hsize:i.size=1)(hby:i.bytes=1)
  (v:Value) (n:Nat) (xs:List Value) (hown:w.ownsRowF 0 e 1 v n xs) (s:BA) (hbytes:n+s.size<=140737488355328):
  ∃v' w',(DB #[t,u] ty #[v,.string s]).run P w=.ok v' w'/\w'.ownsRowF 0 e 1 v' (n+s.size) (xs++DO s)/\w.grownBy w' v.ownBlock/\∀k,v'.ownBlock=AA k->v.ownBlock=AA k\/w.heap.size<=k:=by
 have h63:n+s.size<=maxLen:=by unfold maxLen;omega
 rcases hown.2 with⟨rfl,rfl⟩|⟨g,cap,cur,fz,rfl,hbg,hg,hfz,hnc,hcm,hcs,htake⟩
 .obtain⟨v',w',h1,h2,h3,_⟩:=Lib.run_append_own_string (P:=P) w w.heap.size t u ty e i ht hu hi hz hsize hby (.slice AB 0 0) 0 xs ⟨hown.1,.inl ⟨rfl,rfl⟩⟩ s h63 hbytes (A4 _);refine⟨v',w',h1,⟨h2.1,?_⟩,h3,λk hk=>.inr ?_⟩
  .rcases h2.2 with q|⟨g,cap,cur,q1,_,q2,q3,q4,q5,q6⟩
   .exact .inl q
   .exact .inr ⟨g,cap,cur,(0,0),q1,CH _,q2,CH _,q3,q4,q5,q6⟩
  .rcases h2.2 with⟨rfl,_⟩|⟨g,cap,cur,rfl,q1,_⟩
   .simp[CO]at hk
   .rw[Y5 hk];exact q1
 .obtain⟨v',w',h1,h2,h3,_⟩:=Lib.run_append_own_stringF (P:=P) w 0 t u ty e i ht hu hi hz hsize hby _ n xs hown s h63 hbytes (CH _);refine⟨v',w',h1,h2,h3,λk hk=>?_⟩;have hsmall:n+s.size<=9223372036854775807:=by omega
  by_cases hroom:n+s.size<=cap
  .have hr:=Lib.run_append_room_stringF (P:=P) w t u ty e i ht hu hi hsize g n cap cur fz hg (by simpa using hfz) s hroom (by simp at hcs;omega);rw[h1]at hr;simp only[vbg]at hr;obtain⟨rfl,_⟩:=hr;exact .inl (by rw[Y5 hk];rfl)
  .have hxl:xs.length=n:=by simpa using hown.1
   have hr:=Lib.run_append_grow_string (P:=P) w t u ty e i (.int .u8 0) ht hu hi hz ⟨g,0,AB⟩ n cap xs (by rw[hsize];simpa using hxl) (hown.cells (g:=g) rfl) s AG AG (by rw[hby];exact growslice_fits AG AG);rw[h1]at hr;simp only[vbg]at hr;obtain⟨rfl,_⟩:=hr;exact .inr (by rw[Y5 hk];exact A4 _)
theorem zfZ{P:Program}{w:World}{ops:Array Oper}{rest:List Oper}{o:Oper}{a:Act}{Q:Exit->Act->World->Prop}(hgd:o.guard=AB)(sl x:Operand)(t u:TypeId)
  (ho:o.op=.call {callee:=.builtin .append,args:=#[sl,x],argTypes:=#[t,u]})
  (e:TypeId) (i:TypeInfo) (ht:P.underlying t=AA (.slice e)) (hu:P.underlying u=AA .string) (hi:P.info? e=AA i) (hz:i.zero=AA (.int .u8 0)) (hsize:i.size=1) (hby:i.bytes=1)
  (v:Value) (n:Nat) (xs:List Value) (hs:a.eval sl=v) (hown:w.ownsRowF 0 e 1 v n xs) (s:BA) (hx:a.eval x=.string s) (hbytes:n+s.size<=140737488355328)
  (h:∀v' w',w'.ownsRowF 0 e 1 v' (n+s.size) (xs++DO s)->w.grownBy w' v.ownBlock->(∀k,v'.ownBlock=AA k->v.ownBlock=AA k\/w.heap.size<=k)->wpList P ops Q rest (a.put o.dst v') w'):wpList P ops Q (o::rest) a w:=by
 refine wpList_plain hgd λK hK=>?_
 obtain⟨v',w',hr,h2,h3,h4⟩:=Zp (P:=P) w t u o.type e i ht hu hi hz hsize hby v n xs hown s hbytes;unfold Oper.wp execOp;simp only[ho,resolve,invoke,builtin,CL,CM,B9,List.map_toArray,A8,CN,hs,hx,hr];exact hK _ _ (h v' w' h2 h3 h4)
theorem Zm{P:Program}(w:World)(t ty e:TypeId)(i:TypeInfo)(ht:P.underlying t=AA (.slice e))(hi:P.info? e=AA i)(hz:i.zero=AA (.int .u8 0))(hsize:i.size=1)(hby:i.bytes=1)
  (v:Value) (n:Nat) (xs:List Value) (hown:w.ownsRowF 0 e 1 v n xs) (ad:Addr) (c:Nat) (x:Int) (hx:w.cell? ad=AA (.int .u8 x)) (hbytes:n+1<=140737488355328):
  ∃v' w',(DB #[t,t] ty #[v,.slice (AA ad) 1 c]).run P w=.ok v' w'/\w'.ownsRowF 0 e 1 v' (n+1) (xs++[.int .u8 x])/\w.grownBy w' v.ownBlock/\∀k,v'.ownBlock=AA k->v.ownBlock=AA k\/w.heap.size<=k:=by
 have h63:n+1<=maxLen:=by unfold maxLen;omega
 have hnews:∀j u,[Value.int .u8 x][j]?=AA u->w.cell? (ad.add j)=AA u:=by
  intro j u hj
  match j,hj with
  |0,hj=>simp at hj;subst hj;obtain⟨b,o,p⟩:=ad;cases p<;>simpa[Addr.add]using hx
 have h1c:∀u∈[Value.int .u8 x],u.oneCell'=AC:=λu hu=>by simp at hu;subst hu;rfl
 rcases hown.2 with⟨rfl,rfl⟩|⟨g,cap,cur,fz,rfl,hbg,hg,hfz,hnc,hcm,hcs,htake⟩
 .obtain⟨v',w',h1,h2,h3,_⟩:=run_append_own (P:=P) w w.heap.size t ty e i (.int .u8 0) 1 1 ht hi hz hsize hby rfl (by decide) (.slice AB 0 0) 0 xs ⟨hown.1,.inl ⟨rfl,rfl⟩⟩ ad 1 c [.int .u8 x] rfl hnews h1c h63 AG (A4 _);refine⟨v',w',h1,⟨h2.1,?_⟩,h3,λk hk=>.inr ?_⟩
  .rcases h2.2 with q|⟨g,cap,cur,q1,_,q2,q3,q4,q5,q6⟩
   .exact .inl q
   .exact .inr ⟨g,cap,cur,(0,0),q1,CH _,q2,CH _,q3,q4,q5,q6⟩
  .rcases h2.2 with⟨rfl,_⟩|⟨g,cap,cur,rfl,q1,_⟩
   .simp[CO]at hk
   .rw[Y5 hk];exact q1
 .obtain⟨v',w',h1,h2,h3,_⟩:=run_append_ownF (P:=P) w 0 t ty e i (.int .u8 0) 1 1 ht hi hz hsize hby rfl (by decide) _ n xs hown ad 1 c [.int .u8 x] rfl hnews h1c h63 AG (CH _);refine⟨v',w',h1,h2,h3,λk hk=>?_⟩;by_cases hroom:n+1<=cap
  .have hr:=run_append_roomF (P:=P) w t ty e i ht hi g n cap cur fz hg (by rw[hsize];simpa using hfz) ad 1 c [.int .u8 x] (by rw[hsize];rfl) hnews h1c hroom (by rw[hsize];simp at hcs ⊢;omega);rw[h1]at hr;simp only[vbg]at hr;obtain⟨rfl,_⟩:=hr;exact .inl (by rw[Y5 hk];rfl)
  .have hxl:xs.length=n:=by simpa using hown.1
   have hr:=run_append_grow (P:=P) w t ty e i (.int .u8 0) ht hi hz ⟨g,0,AB⟩ n cap xs (by rw[hsize];simpa using hxl) (hown.cells (g:=g) rfl) ad 1 c [.int .u8 x] (by rw[hsize];rfl) hnews AG AG (by rw[hby];exact growslice_fits AG AG);rw[h1]at hr;simp only[vbg]at hr;obtain⟨rfl,_⟩:=hr;exact .inr (by rw[Y5 hk];exact A4 _)
theorem zfY{P:Program}{w:World}{ops:Array Oper}{rest:List Oper}{o:Oper}{a:Act}{Q:Exit->Act->World->Prop}(hgd:o.guard=AB)(sl x:Operand)(t:TypeId)
  (ho:o.op=.call {callee:=.builtin .append,args:=#[sl,x],argTypes:=#[t,t]})
  (e:TypeId) (i:TypeInfo) (ht:P.underlying t=AA (.slice e)) (hi:P.info? e=AA i) (hz:i.zero=AA (.int .u8 0)) (hsize:i.size=1) (hby:i.bytes=1)
  (v:Value) (n:Nat) (xs:List Value) (hs:a.eval sl=v) (hown:w.ownsRowF 0 e 1 v n xs) (ad:Addr) (c:Nat) (y:Int) (hx:a.eval x=.slice (AA ad) 1 c) (hc:w.cell? ad=AA (.int .u8 y)) (hbytes:n+1<=140737488355328)
  (h:∀v' w',w'.ownsRowF 0 e 1 v' (n+1) (xs++[.int .u8 y])->w.grownBy w' v.ownBlock->(∀k,v'.ownBlock=AA k->v.ownBlock=AA k\/w.heap.size<=k)->wpList P ops Q rest (a.put o.dst v') w'):wpList P ops Q (o::rest) a w:=by
 refine wpList_plain hgd λK hK=>?_
 obtain⟨v',w',hr,h2,h3,h4⟩:=Zm (P:=P) w t o.type e i ht hi hz hsize hby v n xs hown ad c y hc hbytes;unfold Oper.wp execOp;simp only[ho,resolve,invoke,builtin,CL,CM,B9,List.map_toArray,A8,CN,hs,hx,hr];exact hK _ _ (h v' w' h2 h3 h4)
theorem uL{w:World}{e:Nat}{v:Value}{bs:List Value}{n k:Nat}(hown:w.ownsRowF 0 e 1 v n bs)(hk:v.ownBlock=AA k):k<w.heap.size:=by
 rcases hown.2 with⟨rfl,_⟩|⟨g,cap,cur,fz,rfl,_,hg,_⟩
 .simp[CO]at hk
 .rw[Y5 hk];exact iS hg
set_option maxHeartbeats 2000000 in
theorem ba (b:Nat) (p v:Value) (bs:List Value) (s:BA) (w:World) (hp:p = .pointer none∨p = .pointer (some ⟨b,0,none⟩)) (hbk:w.heap[b]?=some (.cells #[p,v] 98 (0,0)))
  (hown:w.ownsRowF 0 5 1 v bs.length bs) (hne:v.ownBlock≠some b) (hlen:bs.length+s.size≤140737488355328) :
  Calls Tryz.prog 94 #[.pointer (some ⟨b,0,none⟩),.string s] w fun e w'=>e = .returned (.tuple #[.int .i64 s.size,.nilIface])∧c5 b v (bs++Lib.strCells s) w w':=by
 obtain ⟨i0,hi,hz0,hz1,hz2⟩:=info_parts Ut
 go_enter Tryz.func94,Tryz.ntmps94
 go_wp2_with (go_at_call 148; refine (zU b p v _ hp hbk).mono ?_)
 rintro e w1 ⟨rfl,hb1,hk1,hs1⟩;have HS:Hid (w1.heap.size=w.heap.size):=hs1;clear hs1;have hown1:w1.ownsRowF 0 5 1 v bs.length bs:=bH hown (fun k hk=>hk1.block k (uL hown hk) (fun e=>hne (e ▸ hk)));have c0:w1.cell? ⟨b,0,none⟩=some (.pointer (some ⟨b,0,none⟩)):=by rw [Lib.cell_of_heap hb1]; rfl
 have c1:w1.cell? ⟨b,1,none⟩=some v:=by rw [Lib.cell_of_heap hb1]; rfl
 go_wp2_with (at_builtin; refine zfZ rfl _ _ 51 9 rfl 5 i0 Tryz.underlying51 Tryz.underlying9 hi hz0 hz1 hz2 _ _ _ rfl hown1 s rfl hlen ?_)
 intro v' w2 hown' hgrow hblk;have hlt:b < w1.heap.size:=iS hb1;have hb2:w2.heap[b]?=some (.cells #[.pointer (some ⟨b,0,none⟩),v] 98 (0,0)):=by
  rw [hgrow.block b hlt (fun e=>hne e.symm)];exact hb1
 have d0:w2.cell? ⟨b,0,none⟩=some (.pointer (some ⟨b,0,none⟩)):=by rw [Lib.cell_of_heap hb2]; rfl
 have d1:w2.cell? ⟨b,1,none⟩=some v:=by rw [Lib.cell_of_heap hb2]; rfl
 have f1:w2.frozen? ⟨b,1,none⟩=false:=Lib.frozen_of_heap hb2 1;have hX:Hid (c5 b v (bs++Lib.strCells s) w (w2.setCell ⟨b,1,none⟩ v')):=zV HS hk1 hb2 (by simpa [Lib.strCells_length] using hown') (Gp hgrow) hblk;clear hblk HS;obtain ⟨ao,n',cap,rfl⟩:∃ ao n' cap,v' = .slice ao n' cap:=by
  rcases hown'.2 with ⟨hv,_⟩ | ⟨g,cap,cur,fz,hv,_⟩
  ·exact ⟨_,_,_,hv⟩
  ·exact ⟨_,_,_,hv⟩
 go_wp2
 go_ret2
 exact ⟨rfl,hX⟩
set_option maxHeartbeats 2000000 in
theorem az (b:Nat) (p v:Value) (bs:List Value) (c:Int) (w:World) (hp:p = .pointer none∨p = .pointer (some ⟨b,0,none⟩)) (hbk:w.heap[b]?=some (.cells #[p,v] 98 (0,0)))
  (hown:w.ownsRowF 0 5 1 v bs.length bs) (hne:v.ownBlock≠some b) (hlen:bs.length+1≤140737488355328) :
  Calls Tryz.prog 105 #[.pointer (some ⟨b,0,none⟩),.int .u8 c] w fun e w'=>e = .returned .nilIface∧c5 b v (bs++[.int .u8 c]) w w':=by
 obtain ⟨i0,hi,hz0,hz1,hz2⟩:=info_parts Ut
 go_enter Tryz.func105,Tryz.ntmps105
 go_wp2_with (go_at_call 148; refine (zU b p v _ hp hbk).mono ?_)
 rintro e w1 ⟨rfl,hb1,hk1,hs1⟩;have HS:Hid (w1.heap.size=w.heap.size):=hs1;clear hs1;have hown1:w1.ownsRowF 0 5 1 v bs.length bs:=bH hown (fun k hk=>hk1.block k (uL hown hk) (fun e=>hne (e ▸ hk)));have c0:w1.cell? ⟨b,0,none⟩=some (.pointer (some ⟨b,0,none⟩)):=by rw [Lib.cell_of_heap hb1]; rfl
 have c1:w1.cell? ⟨b,1,none⟩=some v:=by rw [Lib.cell_of_heap hb1]; rfl
 have hlt:b < w1.heap.size:=iS hb1
 go_wp2_with (at_builtin; refine zfY rfl _ _ 51 rfl 5 i0 Tryz.underlying51 hi hz0 hz1 hz2 _ _ _ rfl (hown1.alloc _) ⟨w1.heap.size,0,none⟩ 1 c rfl (by rw [Lib.cell_of_heap (heap_alloc_new w1 _)]; rfl) hlen ?_)
 intro v' w2 hown' hgrow hblk;have hb2:w2.heap[b]?=some (.cells #[.pointer (some ⟨b,0,none⟩),v] 98 (0,0)):=by
  rw [hgrow.block b (by simp; omega) (fun e=>hne e.symm),Lib.alloc_old w1 _ b hlt];exact hb1
 have d0:w2.cell? ⟨b,0,none⟩=some (.pointer (some ⟨b,0,none⟩)):=by rw [Lib.cell_of_heap hb2]; rfl
 have d1:w2.cell? ⟨b,1,none⟩=some v:=by rw [Lib.cell_of_heap hb2]; rfl
 have f1:w2.frozen? ⟨b,1,none⟩=false:=Lib.frozen_of_heap hb2 1;have hX:Hid (c5 b v (bs++[.int .u8 c]) w (w2.setCell ⟨b,1,none⟩ v')):=zV HS hk1 hb2 (by simpa using hown') (((Keep.alloc (fun k=>v.ownBlock=some k) w1 _)).trans (Gp hgrow) (fun _ _ h=>h)) (fun k hk=>(hblk k hk).imp_right (fun h=>by first | omega | (simp at h; omega)));clear hblk HS;obtain ⟨ao,n',cap,rfl⟩:∃ ao n' cap,v' = .slice ao n' cap:=by
  rcases hown'.2 with ⟨hv,_⟩ | ⟨g,cap,cur,fz,hv,_⟩
  ·exact ⟨_,_,_,hv⟩
  ·exact ⟨_,_,_,hv⟩
 go_wp2
 go_ret
 exact ⟨rfl,hX⟩
def P0(b:Nat)(p v:Value)(n:Nat)(bs:List Value)(w w':World):Prop:=
 w'.heap[b]?=AA (.cells #[p,v] 98 (0,0))/\w'.ownsRowF 0 5 1 v n bs/\Keep (λk=>k=b\/v.ownBlock=AA k) w w'
theorem zfe{b g cap:Nat}{p:Value}{bs:List Value}{w:World}(hbk:w.heap[b]?=AA (.cells #[p,.slice (AA ⟨g,0,AB⟩) bs.length cap] 98 (0,0)))(hown:w.ownsRowF 0 5 1 (.slice (AA ⟨g,0,AB⟩) bs.length cap) bs.length bs)(hne:(Value.slice (AA ⟨g,0,AB⟩) bs.length cap).ownBlock≠AA b):
  P0 b p (.slice (AA ⟨g,0,AB⟩) bs.length cap) bs.length bs w (w.drew.freeze ⟨g,0,AB⟩ bs.length):=by
 have hA:Lib.BuilderAtF 98 5 0 b p bs w.drew:=⟨CH _,_,hbk,hown,hne⟩;have c1:w.drew.cell? ⟨b,1,AB⟩=AA (.slice (AA ⟨g,0,AB⟩) bs.length cap):=by
  have:w.drew.heap[b]?=AA (.cells #[p,.slice (AA ⟨g,0,AB⟩) bs.length cap] 98 (0,0)):=hbk
  rw[Lib.cell_of_heap this];rfl
 obtain⟨_,v',q1,q2,q3⟩:=hA.froze c1;have hk:Keep (λk=>k=g) w (w.drew.freeze ⟨g,0,AB⟩ bs.length):=(Keep.drew _ w).trans (Keep.freeze (O:=λk=>k=g) w.drew ⟨g,0,AB⟩ _ rfl) (λ_ _ h=>h);have hgb:b≠g:=λe=>hne (by simp[CO,e])
 have hb2:(w.drew.freeze ⟨g,0,AB⟩ bs.length).heap[b]?=AA (.cells #[p,.slice (AA ⟨g,0,AB⟩) bs.length cap] 98 (0,0)):=(hk.block b (iS hbk) hgb).trans hbk;have e:v'=.slice (AA ⟨g,0,AB⟩) bs.length cap:=by
  rw[hb2]at q1;simp at q1;exact q1.symm
 subst e;exact⟨hb2,q2,hk.mono (λk _ h=>.inr (by rw[h];rfl))⟩
set_option maxHeartbeats 1000000 in
theorem ay (b g cap:Nat) (p:Value) (l:List UInt8) (w:World) (h0:l≠[]) (hbk:w.heap[b]?=some (.cells #[p,.slice (some ⟨g,0,none⟩) l.length cap] 98 (0,0)))
  (hown:w.ownsRowF 0 5 1 (.slice (some ⟨g,0,none⟩) l.length cap) l.length (Lib.byteCells l)) (hne:(Value.slice (some ⟨g,0,none⟩) l.length cap).ownBlock≠some b) :
  Calls Tryz.prog 47 #[.pointer (some ⟨b,0,none⟩)] w fun e w'=>e = .returned (.string ⟨l.toArray⟩)∧P0 b p (.slice (some ⟨g,0,none⟩) l.length cap) l.length (Lib.byteCells l) w w':=by
 have hl0:l.length≠0:=by simpa using h0
 obtain ⟨cur,fz,hg,hnc,hcm,hcs⟩:∃ cur fz,w.heap[g]?=some (.cells cur 5 fz)∧l.length≤cap∧cap≤maxLen∧cur.size=cap*1:=by
  rcases hown.2 with ⟨hv,_⟩ | ⟨g',cap',cur,fz,hv,_,q1,_,q2,q3,q4,_⟩
  ·cases hv
  ·injection hv with ha _ hc
   injection ha with ha
   injection ha with hgg
   subst hgg; subst hc;exact ⟨cur,fz,q1,q2,q3,q4⟩
 have c1:w.drew.cell? ⟨b,1,none⟩=some (.slice (some ⟨g,0,none⟩) l.length cap):=by
  have:w.drew.heap[b]?=some (.cells #[p,.slice (some ⟨g,0,none⟩) l.length cap] 98 (0,0)):=hbk
  rw [Lib.cell_of_heap this]; rfl
 have hSD:(Builtin.unsafeSliceData_ #[51] 161 #[.slice (some ⟨g,0,none⟩) l.length cap]).run Tryz.prog w.drew = .ok (.pointer (some ⟨g,0,none⟩)) w.drew:=
  Lib.run_unsafeSliceData_row _ _ _ _ _ _ (by omega)
 have hcells:PR.cellsOf 5=1:=by kernel_rfl
 have hUS:(Builtin.unsafeString_ #[161,3] 9 #[.pointer (some ⟨g,0,none⟩),.int .i64 l.length]).run Tryz.prog w.drew = .ok (.string ⟨l.toArray⟩) (w.drew.freeze ⟨g,0,none⟩ l.length):=by
  refine Lib.run_unsafeString_row w.drew 161 3 9 5 Tryz.underlying161 hcells g cur.size (by have hg':w.drew.heap[g]?=some (.cells cur 5 fz):=hg; simp [World.shape?,hg']) l h0 (by omega) (by unfold maxLen at hcm; omega) ?_;intro j x hx
  have:=hown.cells (g:=g) rfl j (.int .u8 x.toNat) (by simp [Lib.byteCells,hx])
  exact this
 have hP:Hid (P0 b p (.slice (some ⟨g,0,none⟩) l.length cap) l.length (Lib.byteCells l) w (w.drew.freeze ⟨g,0,none⟩ l.length)):=by
  have:=zfe (bs:=Lib.byteCells l) (by rw [Lib.byteCells_length]; exact hbk) (by rw [Lib.byteCells_length]; exact hown) (by rw [Lib.byteCells_length]; exact hne)
  rw [Lib.byteCells_length] at this;exact this
 clear hcells hcs hg hnc hcm hl0
 go_enter Tryz.func47,Tryz.ntmps47
 go_wp2
 go_region
 all_goals (go_wp2; go_ret; exact ⟨rfl,hP⟩)
set_option maxHeartbeats 2000000 in
theorem au (b:Nat) (p:Value) (w:World) (hbk:w.heap[b]?=some (.cells #[p,.slice none 0 0] 98 (0,0))) :
  Calls Tryz.prog 47 #[.pointer (some ⟨b,0,none⟩)] w fun e w'=>e = .returned (.string ⟨#[]⟩)∧P0 b p (.slice none 0 0) 0 [] w w':=by
 have hUS:∀ (W:World) (q:Option Addr),(Builtin.unsafeString_ #[161,3] 9 #[.pointer q,.int .i64 0]).run Tryz.prog W = .ok (.string .empty) W:=fun W q=>Lib.run_unsafeString_none W _ _ _ q
 have c1:w.drew.cell? ⟨b,1,none⟩=some (.slice none 0 0):=by
  have:w.drew.heap[b]?=some (.cells #[p,.slice none 0 0] 98 (0,0)):=hbk
  rw [Lib.cell_of_heap this]; rfl
 have hSD:(Builtin.unsafeSliceData_ #[51] 161 #[.slice none 0 0]).run Tryz.prog w.drew = .ok (.pointer none) w.drew:=rfl;have hP:Hid (P0 b p (.slice none 0 0) 0 [] w w.drew):=⟨hbk,⟨rfl,.inl ⟨rfl,rfl⟩⟩,Keep.drew _ w⟩
 go_enter Tryz.func47,Tryz.ntmps47
 go_wp2
 go_region
 all_goals (go_wp2; go_ret; exact ⟨rfl,hP⟩)
set_option maxHeartbeats 2000000 in
theorem aw (b g:Nat) (p:Value) (cur:Array Value) (fz:Nat × Nat) (w:World) (hbk:w.heap[b]?=some (.cells #[p,.slice (some ⟨g,0,none⟩) 0 0] 98 (0,0))) (hg:w.heap[g]?=some (.cells cur 5 fz)) (hown:w.ownsRowF 0 5 1 (.slice (some ⟨g,0,none⟩) 0 0) 0 []) :
  Calls Tryz.prog 47 #[.pointer (some ⟨b,0,none⟩)] w fun e w'=>e = .returned (.string ⟨#[]⟩)∧P0 b p (.slice (some ⟨g,0,none⟩) 0 0) 0 [] w w':=by
 have hUS:∀ (W:World) (q:Option Addr),(Builtin.unsafeString_ #[161,3] 9 #[.pointer q,.int .i64 0]).run Tryz.prog W = .ok (.string .empty) W:=fun W q=>Lib.run_unsafeString_none W _ _ _ q
 have hlt:b < w.heap.size:=iS hbk;have c1:w.drew.cell? ⟨b,1,none⟩=some (.slice (some ⟨g,0,none⟩) 0 0):=by
  have:w.drew.heap[b]?=some (.cells #[p,.slice (some ⟨g,0,none⟩) 0 0] 98 (0,0)):=hbk
  rw [Lib.cell_of_heap this]; rfl
 have hSD:(Builtin.unsafeSliceData_ #[51] 161 #[.slice (some ⟨g,0,none⟩) 0 0]).run Tryz.prog w.drew = .ok (.pointer (some ⟨w.drew.heap.size,0,none⟩)) (w.drew.alloc (.view ⟨g,0,none⟩ 5)):=
  Lib.run_unsafeSliceData_zero w.drew _ _ 5 Tryz.underlying161 ⟨g,0,none⟩ 0 (5,cur.size) (by have hg':w.drew.heap[g]?=some (.cells cur 5 fz):=hg; simp [World.shape?,hg'])
 have c2:(w.drew.alloc (.view ⟨g,0,none⟩ 5)).cell? ⟨b,1,none⟩=some (.slice (some ⟨g,0,none⟩) 0 0):=by
  have:(w.drew.alloc (.view ⟨g,0,none⟩ 5)).heap[b]?=_:=(Lib.alloc_old w.drew _ b hlt).trans hbk
  rw [Lib.cell_of_heap this]; rfl
 have c3:(w.alloc (.view ⟨g,0,none⟩ 5)).drew.cell? ⟨b,1,none⟩=some (.slice (some ⟨g,0,none⟩) 0 0):=c2;have c0:w.cell? ⟨b,1,none⟩=some (.slice (some ⟨g,0,none⟩) 0 0):=c1;have hP:∀ W:World,W.heap=(w.drew.alloc (.view ⟨g,0,none⟩ 5)).heap→W.os=w.os→W.tape=w.tape→W.output=w.output→P0 b p (.slice (some ⟨g,0,none⟩) 0 0) 0 [] w W:=by
  intro W h1 h2 h3 h4;have hk:Keep (fun k=>k=b∨(Value.slice (some ⟨g,0,none⟩) 0 0).ownBlock=some k) w W:=by
   have:=Keep.alloc (fun _=>False) w.drew (.view ⟨g,0,none⟩ 5)
   exact ⟨h2,h3,h4,by rw [h1]; exact this.size,fun k hk _=>by rw [h1]; exact this.block k hk (fun h=>h)⟩
  have hblk:∀ k,k < w.heap.size→W.heap[k]?=w.heap[k]?:=fun k hk=>by
   rw [h1]; exact (Keep.alloc (fun _=>False) w.drew (.view ⟨g,0,none⟩ 5)).block k hk (fun h=>h)
  exact ⟨(hblk b hlt).trans hbk,bH hown (fun k hk=>hblk k (uL hown hk)),hk⟩
 have hP:Hid (∀ W:World,W.heap=(w.drew.alloc (.view ⟨g,0,none⟩ 5)).heap→W.os=w.os→W.tape=w.tape→W.output=w.output→P0 b p (.slice (some ⟨g,0,none⟩) 0 0) 0 [] w W):=hP
 go_enter Tryz.func47,Tryz.ntmps47
 go_wp2
 go_region
 all_goals (go_wp2; go_ret; exact ⟨rfl,hP _ rfl rfl rfl rfl⟩)
set_option maxHeartbeats 2000000 in
theorem ax (b g cap:Nat) (p:Value) (w:World) (hc0:cap≠0) (hbk:w.heap[b]?=some (.cells #[p,.slice (some ⟨g,0,none⟩) 0 cap] 98 (0,0))) (hown:w.ownsRowF 0 5 1 (.slice (some ⟨g,0,none⟩) 0 cap) 0 []) :
  Calls Tryz.prog 47 #[.pointer (some ⟨b,0,none⟩)] w fun e w'=>e = .returned (.string ⟨#[]⟩)∧P0 b p (.slice (some ⟨g,0,none⟩) 0 cap) 0 [] w w':=by
 have hUS:∀ (W:World) (q:Option Addr),(Builtin.unsafeString_ #[161,3] 9 #[.pointer q,.int .i64 0]).run Tryz.prog W = .ok (.string .empty) W:=fun W q=>Lib.run_unsafeString_none W _ _ _ q
 have c1:w.drew.cell? ⟨b,1,none⟩=some (.slice (some ⟨g,0,none⟩) 0 cap):=by
  have:w.drew.heap[b]?=some (.cells #[p,.slice (some ⟨g,0,none⟩) 0 cap] 98 (0,0)):=hbk
  rw [Lib.cell_of_heap this]; rfl
 have hSD:(Builtin.unsafeSliceData_ #[51] 161 #[.slice (some ⟨g,0,none⟩) 0 cap]).run Tryz.prog w.drew = .ok (.pointer (some ⟨g,0,none⟩)) w.drew:=
  Lib.run_unsafeSliceData_row _ _ _ _ _ _ hc0
 clear hc0;have hP:Hid (P0 b p (.slice (some ⟨g,0,none⟩) 0 cap) 0 [] w w.drew):=⟨hbk,hown,Keep.drew _ w⟩
 go_enter Tryz.func47,Tryz.ntmps47
 go_wp2
 go_region
 all_goals (go_wp2; go_ret; exact ⟨rfl,hP⟩)
theorem zfd(s:BA):DO s=vbz s.data.toList:=by
 simp[DO,vbz]
theorem ar(b:Nat)(p v:Value)(s:BA)(w:World)(hbk:w.heap[b]?=AA (.cells #[p,v] 98 (0,0)))(hown:w.ownsRowF 0 5 1 v s.size (DO s))(hne:v.ownBlock≠AA b):
  Calls Tryz.prog 47 #[.pointer (AA ⟨b,0,AB⟩)] w λe w'=>e=.returned (.string s)/\P0 b p v s.size (DO s) w w':=by
 obtain⟨⟨l⟩⟩:=s;rw[zfd]at hown ⊢
 change w.ownsRowF 0 5 1 v l.length (vbz l)at hown
 change Calls Tryz.prog 47 #[.pointer (AA ⟨b,0,AB⟩)] w λe w'=>e=.returned (.string ⟨l.toArray⟩)/\P0 b p v l.length (vbz l) w w'
 by_cases h0:l=[]
 .subst h0;rcases hown.2 with⟨rfl,_⟩|⟨g,cap,cur,fz,rfl,_,hg,_⟩
  .exact au b p w hbk
  .by_cases hc:cap=0
   .subst hc;exact aw b g p cur fz w hbk hg hown
   .exact ax b g cap p w hc hbk hown
 .rcases hown.2 with⟨rfl,hz⟩|⟨g,cap,cur,fz,rfl,_⟩
  .exact absurd (vav hz) h0
  .exact ay b g cap p l w h0 hbk hown hne
end Go.FM
