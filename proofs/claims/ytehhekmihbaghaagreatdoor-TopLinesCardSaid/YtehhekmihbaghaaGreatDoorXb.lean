/-
  A small machine that reckons what a call comes to; the functions of the program, one by one. (THE SMALL MACHINE (24): a call., THE SMALL MACHINE (25): a call that lends a variable., THE SMALL MACHINE (26): a call, as an operation., and so on.)
-/
import Derived.Test.YtehhekmihbaghaaGreatDoorXa
import Derived.Lib.ItoaLen
import Derived.Test.YtehhekmihbaghaaGreatDoorProg
import Derived.Shelf.Strings.BuilderK
import Derived.Shelf.Strings.OnBuilder
import Derived.Shelf.Strings.Trim
import Derived.Shelf.Small.Wraps
import Derived.Shelf.Utf8.RuneCount
import Derived.Shelf.Strconv.Itoa3
import Derived.Shelf.Strconv.ErrVarAll
import Derived.Shelf.Strconv.ParseUint10b64
import Derived.Shelf.Pu.ErrVarParseUint
import Derived.Shelf.Strings.Shaped
import Derived.Shelf.Sort.Plain
import Derived.Shelf.Strings.SplitShaped
import Derived.Shelf.Strings.Runes
import Derived.Shelf.Strings.AsciiSet
import Derived.Shelf.Strings.Explode
import Derived.Shelf.Strings.Repeat
import Derived.Shelf.Unicode.DecodeLast
import Derived.Shelf.Slices.Turned
import Derived.Shelf.Slices.Clone
import Derived.Shelf.Slices.SearchI
import Derived.Shelf.Slices.Cells
import Derived.Shelf.Slices.In.SortNone
import Derived.Shelf.SlicesE.Clone
import Derived.Shelf.SlicesE.DeleteFunc
set_option linter.all false
set_option maxRecDepth 100000
open Array renaming length_toList→CK,getElem?_eq_some_iff→DF,toList_append→vah,getElem?_toList→vau,getElem?_modify→va3,getD_eq_getD_getElem?→vbq,all_eq_true_iff_forall_mem→vbI
open Bool renaming and_eq_true→AH,and_true→B1,not_eq_true'→B4,or_eq_true→van
open ByteArray renaming size→AG,empty→CI,size_extract→vbf
open Decidable renaming byContradiction→vbN
open Go.Addr.mk renaming injEq→DH
open Go.Builtin renaming append_→CZ
open Go.IntKind renaming i64→AB,u64→AJ,bits→AR,signed→vai
open Go.Lib renaming decDigits→BU,strCells→DC,itoa→vaj,bytesWorld→vaN,cut→vaO,atoiAll→vbj,byteCells→vbE
open Go.Op renaming operands→CU,equalIn→vbs
open Go.Region renaming wanted→C4,binds→va0,ready→vbG
open Go.Result renaming andThen_ok→CB
open Go.Result.ok renaming injEq→vbk
open Go.Sem renaming run_bind→CM,run_pure→CN
open Go.TypeDesc renaming isRow→vbp
open Go.Value renaming ownBlock→CC
open Go.Value.pointer renaming injEq→C0
open Go.Value.slice renaming injEq→CH
open Go.World renaming cell?→vaL,setCell→vbB
open List renaming length_cons→AM,mem_cons_self→AN,mem_cons→AO,drop→AS,length_append→AT,mem_append→AX,mem_cons_of_mem→AY,map_cons→A0,length_nil→A7,getElem?_eq_getElem→A9,length_take→BB,length_map→BE,mem_singleton→BL,getElem?_eq_some_iff→BR,not_mem_nil→BX,getElem?_cons_zero→BY,getElem?_eq_none→BZ,getElem?_map→B9,map_nil→CA,mem_map→CJ,all_eq_true→CQ,drop_of_length_le→CS,cons_append→CT,take_of_length_le→CV,length_drop→CX,getElem?_cons_succ→C6,size_toArray→C9,append_nil→DB,mem_of_getElem?→vag,getElem?_drop→vap,all_cons→vax,range→vaC,mem_append_right→vaG,mem_of_mem_take→vaI,mem_append_left→vaJ,eq_nil_of_length_eq_zero→vaK,countP_cons_of_pos→vaR,mem_map_of_mem→vaS,map_map→vaY,mem_of_mem_drop→va5,mem_range→va6,countP_cons_of_neg→vbl,getElem?_append_left→vbx
open List.cons renaming injEq→vas
open Nat renaming le_of_ble_eq_true→AP,le_refl→AZ,zero_add→BI,beq→BQ,zero_le→B5,ble→B6,lt_of_lt_of_le→CW,le_trans→C2,add_zero→DA,lt_or_ge→DD,add_mul→vak,min_eq_left→vay,sub_zero→vaD,beq_refl→vbn,strongRecOn→vbr,one_mul→vby
open Option renaming map_eq_some_iff→DE,getD_some→vad,map_some→vat
open Option.some renaming injEq→AC
open Prod.mk renaming injEq→AU
namespace Go.FM
open Go Go.RowKit
section
variable {B:BT} {nt:Nat} {w0:World} {X:Zone} {γ:Nat→Value} {st st':St} {a:Act} {w:World} {P:Program} {E:Env}
theorem fA (h:Rel B nt w0 X γ st a w) (ns:List Nat) {b:Nat} (hb:DR X γ (st.ups (EN st.o ns)).o b):DR X γ st.o b∧∀ m∈ns,¬ RowOf γ st.o m b:=by
 obtain ⟨h1,h2,h3,h4,h5⟩:=NQ st.o ns (FrzLe.refl _) h;refine ⟨h2.owned hb,?_⟩;rintro m hm ⟨e,ag,ks,l,ho,hob⟩;rcases hb with ⟨m',ob',hm',hb'⟩ | hb
 ·by_cases e1:m=m'
  ·subst e1;rcases h2 m with h6 | ⟨e',ag',ks',l',h6,h7⟩
   ·rw [h6,ho] at hm'
    have:=h4 m hm true e ag ks l (by rw [h6,ho])
    cases this
   ·rw [h7,AC] at hm';subst hm';exact hb'.elim
  ·rcases h2 m' with h6 | ⟨e',ag',ks',l',h6,h7⟩
   ·rw [h6] at hm';exact h.dis m m' _ ob' b e1 ho hm' hob hb'
   ·rw [h7,AC] at hm';subst hm';exact hb'.elim
 ·exact h.near ⟨m,_,ho,hob⟩ hb
theorem nV (h:Rel B nt w0 X γ st a w) (hg:GX B w0 X) {f:FuncId} {sp:UJ} (hS:Snd P B f sp) {vs:List V} {xs:List Value} (hv:VRels γ st.o w (DR X γ st.o) vs xs) (hl:FV vs=[]) {tks:List (List Kd)} {v:V} {out:List (List V)}
  (hsp:sp (GI st.o [] tks vs)=some (v,out)) :
  Does P f xs w fun e w'=>∃ x,e = .returned x∧∃ γ',Rel B.base 0 w ⟨fun _=>False,fun b=>DR X γ st.o b∧∀ m∈EW vs,¬ RowOf γ st.o m b⟩ γ' ⟨[],GS v out⟩ J3 w' ∧
   VRel γ' (GS v out) w' (DR ⟨fun _=>False,fun b=>DR X γ st.o b∧∀ m∈EW vs,¬ RowOf γ st.o m b⟩ γ' (GS v out)) (M5 v) x∧Z6 v=true∧out=[]:=by
 have hb:GN (GI st.o [] tks vs)=none:=i6.2 hl;have hm:IY (GI st.o [] tks vs)=[]:=by simp only [IY,hb]
 have hR:Rel B.base 0 w ⟨fun _=>False,fun b=>DR X γ st.o b∧∀ m∈EW vs,¬ RowOf γ st.o m b⟩ γ ⟨[],[]⟩ J3 w:=by
  refine ⟨rfl,rfl,fun i=>by simp only [St.get,E7,VRel],fun n ob hn=>?_,?_,?_,Keep.refl _ w,?_,?_,fun p hp=>by cases hp⟩
  ·simp only [DM,E7] at hn; cases hn
  ·rintro b ⟨n,ob,hn,_⟩; simp only [DM,E7] at hn; cases hn
  ·intro n m ob ob' b _ hn; simp only [DM,E7] at hn; cases hn
  ·rintro b ⟨n,ob,hn,_⟩; simp only [DM,E7] at hn; cases hn
  ·rintro b ⟨hb | hb,_⟩
   ·exact (h.lt b hb).1
   ·exact h.fl b hb
 have:=hS w ⟨fun _=>False,fun b=>DR X γ st.o b∧∀ m∈EW vs,¬ RowOf γ st.o m b⟩ γ (GI st.o [] tks vs) xs v out hsp (h.glob hg) (fun _ hf=>hf.elim) (by rw [hm]; exact hR) (by
  rw [hm];refine iU h (fun b _ hb=>?_) [] hv (fun m hm b hr hb=>?_) (fun m hm=>by rw [hl] at hm; cases hm)
  ·rcases hb with ⟨n,ob,hn,_⟩ | hb
   ·simp only [DM,E7] at hn; cases hn
   ·exact hb.1
  ·rcases hb with ⟨n,ob,hn,_⟩ | hb
   ·simp only [DM,E7] at hn; cases hn
   ·exact hb.2 m hm hr)
 refine this.mono ?_;rintro e w' ⟨x,he,γ',h1,h2,h3⟩;refine ⟨x,he,γ',h1,h2,?_⟩;simp only [KV,hb] at h3;cases out with
 | nil=>exact ⟨h3,rfl⟩
 | cons _ _=>exact h3.elim
theorem rT (h:Rel B nt w0 X γ st a w) {w':World} {X':Zone} (hX:∀ b,¬ X'.own b) {γ':Nat→Value} {st':St} {a':Act} (hc:Rel B.base 0 w X' γ' st' a' w') (F:Nat→Prop) (hF:∀ b,F b→X.far b∨(w.heap.size≤b∧b < w'.heap.size)):Rel B nt w0 ⟨X.own,F⟩ γ st a w':=
 (h.fresh (hc.keep) (fun b _ hb=>(hX b hb).elim)).shrink hF
theorem ZP {cs:List V} (h:cs.all RW=true):EP cs=(900000,some (.box (GR 900001 cs))) :: K2 900001 cs:=by
 refine oW (fun s he=>?_);subst he;simp [RW,HP] at h
theorem zR {w':World} {X':Zone} {γ':Nat→Value} {cs:List V} (hok:cs.all RW=true) (_:Rel B.base 0 w X' γ' ⟨[],EP cs⟩ J3 w') {c:Array Value}
  (hr:VRels γ' (EP cs) w' (DR X' γ' (EP cs)) (GR 900001 cs) c.toList) {γf:Nat→Value} {of:Store} {nm:Nat}
  (hrow:∀ j e ag ks l,cs[j]?=some (.vec e ag ks l)→γf (nm+j)=γ' (900001+j)∧DM of (nm+j)=some (.row true e ag ks l)) {O':Nat→Prop} (hO:IG cs=true→∀ b,b < w'.heap.size→O' b→DR X' γ' (EP cs) b) :
  VRels γf of w' O' (GR nm cs) c.toList:=by
 have hl:=hr.length;rw [Y8] at hl;refine VRels.of_get (by rw [Y8,hl]) (fun j v x hv hx=>?_);rw [d8] at hv;cases hcj:cs[j]? with
 | none=>rw [hcj] at hv; cases hv
 | some u=>
  rw [hcj] at hv;simp only [vat,AC] at hv;have hb:(GR 900001 cs)[j]?=some (match (generalizing:=false) u with | .vec _ _ _ l=>.row (900001+j) 0 l.length | v=>v):=by rw [d8,hcj]; rfl
  have hux:=hr.get' hb hx;have huok:RW u=true:=CQ.1 hok u (vag hcj);by_cases hvec:∃ e ag ks l,u = .vec e ag ks l
  ·obtain ⟨e,ag,ks,l,rfl⟩:=hvec;simp only at hv hux;subst hv;obtain ⟨h1,h2⟩:=hrow j e ag ks l hcj;have hat:=gM (nr:=900001) hcj;have hat':DM (EP cs) (900001+j)=some (.row true e ag ks l):=by
    rw [ZP hok,EI,BD (by omega)];exact hat
   simp only [VRel,hat'] at hux;simp only [VRel,h2,h1];exact hux
  ·have hf:HP u=true:=by cases u <;> first | exact huok | exact absurd ⟨_,_,_,_,rfl⟩ hvec
   have hvu:v=u:=by cases u <;> first | exact hv.symm | exact absurd ⟨_,_,_,_,rfl⟩ hvec
   have hux':VRel γ' (EP cs) w' (DR X' γ' (EP cs)) u x:=by cases u <;> first | exact hux | exact absurd ⟨_,_,_,_,rfl⟩ hvec
   subst hvu;exact jX hf (fun hv=>hO (iR (vag hcj) hv)) hux'
theorem wG {w':World} {X':Zone} {γ':Nat→Value} {cs:List V} (hok:cs.all RW=true) (hc:Rel B.base 0 w X' γ' ⟨[],EP cs⟩ J3 w') :
  (∀ (γ:Nat→Value) j e ag ks l,cs[j]?=some (.vec e ag ks l)→ObRel B.base γ [] w' (fun b=>IG cs=true→DR X' γ' (EP cs) b) (γ' (900001+j)) (.row true e ag ks l)∧∀ b,(γ' (900001+j)).ownBlock=some b→FE γ' (EP cs) b) ∧
  (∀ i j e ag ks l e' ag' ks' l' b,i≠j→cs[i]?=some (.vec e ag ks l)→cs[j]?=some (.vec e' ag' ks' l')→(γ' (900001+i)).ownBlock=some b→(γ' (900001+j)).ownBlock=some b→False) ∧
  (∀ j e ag ks l b,cs[j]?=some (.vec e ag ks l)→(γ' (900001+j)).ownBlock=some b→E9 γ' (EP cs) 900000 b→False):=by
 have hat:∀ {j e ag ks l},cs[j]?=some (V.vec e ag ks l)→DM (EP cs) (900001+j)=some (.row true e ag ks l):=by
  intro j e ag ks l hj;rw [ZP hok,EI,BD (by omega)];exact gM hj
 refine ⟨fun γ j e ag ks l hj=>⟨?_,fun b hb=>⟨_,_,hat hj,hb⟩⟩,?_,?_⟩
 ·have hr:=hc.ob _ _ (hat hj);simp only [ObRel] at hr ⊢;obtain ⟨k1,k2,xs,k3,k4⟩:=hr;refine ⟨k1,k2,xs,k3,fun i y hy=>Kd.RelAll.mono (Keep.refl _ w') (fun b _ hb=>?_) (fun _ _ hu=>hu) (k4 i y hy)⟩;exact hb (iR (vag hj) rfl)
 ·intro i j e ag ks l e' ag' ks' l' b hij h1 h2 hb1 hb2;exact hc.dis _ _ _ _ b (by omega) (hat h1) (hat h2) hb1 hb2
 ·rintro j e ag ks l b hj hb ⟨ob,h1,h2⟩;exact hc.dis _ _ _ _ b (by omega) (hat hj) h1 hb h2
theorem Vo (h:Rel B nt w0 X γ st a w) (hg:GX B w0 X) {f:FuncId} {sp:UJ} (hS:Snd P B f sp) {vs:List V} {xs:List Value} (hv:VRels γ st.o w (DR X γ st.o) vs xs) (hl:FV vs=[]) {tks:List (List Kd)} {v:V} {out:List (List V)}
  (hsp:sp (GI st.o [] tks vs)=some (v,out)) (hnb:∀ cs,v≠.bor cs) (hnv:∀ e ag ks l,v≠.vec e ag ks l) :
  Does P f xs w fun e w'=>∃ x,e = .returned x∧∃ γ',Rel B nt w0 X γ' (st.ups (EN st.o (match IK v with | true=>EW vs | false=>[]))) a w' ∧
   VRel γ' (st.ups (EN st.o (match IK v with | true=>EW vs | false=>[]))).o w' (DR X γ' (st.ups (EN st.o (match IK v with | true=>EW vs | false=>[]))).o) v x:=by
 refine (nV h hg hS hv hl hsp).mono ?_;rintro e w' ⟨x,he,γ',h1,h2,h3,rfl⟩;have hf:L6 v=true:=by cases v <;> first | exact h3 | exact absurd rfl (hnb _) | exact absurd rfl (hnv _ _ _ _)
 have hmo:GS v []=[]:=by cases v <;> first | rfl | exact absurd rfl (hnb _) | exact absurd rfl (hnv _ _ _ _)
 rw [hmo] at h1 h2;rw [VM hf] at h2;have hz:=(NQ st.o (match IK v with | true=>EW vs | false=>[]) (FrzLe.refl _) h).1;have hp:=rT hz (fun b hb=>hb) h1 X.far (fun b hb=>.inl hb);refine ⟨x,he,γ,hp,pD hf (fun hhl b _ hb=>?_) h2⟩
 have:=fA h _ hb
 rw [hhl] at this;exact .inr this
theorem Vn (h:Rel B nt w0 X γ st a w) (hg:GX B w0 X) {f:FuncId} {sp:UJ} (hS:Snd P B f sp) {vs:List V} {xs:List Value} (hv:VRels γ st.o w (DR X γ st.o) vs xs) (hl:FV vs=[]) {tks:List (List Kd)} {cs:List V} {out:List (List V)}
  (hsp:sp (GI st.o [] tks vs)=some (.bor cs,out)) (d:Nat) (hd9:d≠900000) (hn9:1000*(d+1)+cs.length≤900000) :
  Does P f xs w fun e w'=>∃ x,e = .returned x∧∃ γ',Rel B nt w0 X γ' (st.ups (EN st.o (match IG cs with | true=>EW vs | false=>[])++(KG (1000*(d+1)) cs++[.new d (.box (GR (1000*(d+1)) cs))]))) a w' ∧
   VRel γ' (st.ups (EN st.o (match IG cs with | true=>EW vs | false=>[])++(KG (1000*(d+1)) cs++[.new d (.box (GR (1000*(d+1)) cs))]))).o w'
    (DR X γ' (st.ups (EN st.o (match IG cs with | true=>EW vs | false=>[])++(KG (1000*(d+1)) cs++[.new d (.box (GR (1000*(d+1)) cs))]))).o) (.ptr d 0 0) x:=by
 refine (nV h hg hS hv hl hsp).mono ?_;rintro e w' ⟨x,he,γ',h1,h2,h3,rfl⟩;simp only [Z6] at h3;have hmo:GS (.bor cs) []=EP cs:=rfl;rw [hmo] at h1 h2;generalize hX':(⟨fun _=>False,fun b=>DR X γ st.o b∧∀ m∈EW vs,¬ RowOf γ st.o m b⟩:Zone)=X' at h1 h2;have hXo:∀ b,¬ X'.own b:=fun b hb=>by rw [← hX'] at hb; exact hb
 have hz:=(NQ st.o (match IG cs with | true=>EW vs | false=>[]) (FrzLe.refl _) h).1;have hPf:∀ b,FE γ' (EP cs) b→w.heap.size≤b∧b < w'.heap.size:=fun b hb=>by
  obtain ⟨q1,q2⟩:=h1.lt b hb;exact ⟨q2.resolve_right (hXo b),q1⟩
 have hp:=rT hz hXo h1 (fun b=>X.far b∨FE γ' (EP cs) b) (fun b hb=>hb.imp_right (hPf b));obtain ⟨br1,br2,br3⟩:=wG h3 h1;have hO1:∀ b,DR ⟨X.own,fun b=>X.far b∨FE γ' (EP cs) b⟩ γ (st.ups (EN st.o (match IG cs with | true=>EW vs | false=>[]))).o b→(IG cs=true→DR X' γ' (EP cs) b):=by
  intro b hb hal;rw [hal] at hb;have key:DR X γ (st.ups (EN st.o (EW vs))).o b∨FE γ' (EP cs) b:=by
   rcases hb with hb | hb | hb
   ·exact .inl (.inl hb)
   ·exact .inl (.inr hb)
   ·exact .inr hb
  rcases key with hb | hb
  ·have:=fA h _ hb
   exact .inr (by rw [← hX']; exact this)
  ·exact .inl hb
 obtain ⟨γd,F',r1,r2,r3,r4,r5,r6⟩:=iO (B':=B.base) (g:=fun j=>γ' (900001+j)) (1000*(d+1)) cs 0 (by omega) hp hO1 (fun j e ag ks l hj=>by
   rw [BI];obtain ⟨q1,q2⟩:=br1 γ j e ag ks l hj;exact ⟨q1,fun b hb=>⟨.inr (q2 b hb),.inl (C2 h.keep.size (hPf b (q2 b hb)).1)⟩⟩)
  (fun i j e ag ks l e' ag' ks' l' b hij q1 q2 q3 q4=>by
   rw [BI] at q3 q4;exact br2 i j e ag ks l e' ag' ks' l' b hij q1 q2 q3 q4)
 simp only [DA,BI] at r1 r3 r4 r5 r6;have hob0:DM (EP cs) 900000=some (.box (GR 900001 cs)):=by rw [ZP h3,EI,BP rfl]
 have hor:=h1.ob _ _ hob0;simp only [ObRel] at hor;obtain ⟨b0,c,T,hg,hh,hr⟩:=hor;have hb0P:FE γ' (EP cs) b0:=⟨900000,_,hob0,⟨_,hg,rfl⟩⟩;have hadd:=r1.add d hd9 (.box (GR (1000*(d+1)) cs)) (γ' 900000) (fun b hb=>by
   obtain ⟨ad,q1,q2⟩:=hb;rw [hg] at q1;simp only [C0,AC] at q1;subst q1;simp only at q2;subst q2;exact ⟨r3 b0 (.inr hb0P) (fun j e ag ks l hj hb=>br3 j e ag ks l b0 hj hb ⟨_,hob0,_,hg,rfl⟩),.inl (C2 h.keep.size (hPf b0 hb0P).1)⟩)
  (fun O' hO'=>by
   simp only [ObRel];refine ⟨b0,c,T,hg,hh,zR h3 h1 hr (fun j e ag ks l hj=>?_) (fun hal b _ hb=>hO1 b (r4 b (hO' b hb)) hal)⟩;obtain ⟨q1,q2⟩:=r5 j e ag ks l hj;refine ⟨by rw [BD (by omega)]; exact q1,?_⟩;rw [GT,BD (by omega),q2];rfl)
 have hfin:=hadd.shrink (F:=X.far) (fun b hb=>by
   have hlt:=h.fl b hb;refine ⟨r3 b (.inl hb) (fun j e ag ks l hj hbj=>?_),fun hbb=>?_⟩
   ·have:=hPf b ((br1 γ j e ag ks l hj).2 b hbj)
    omega
   ·obtain ⟨ad,q1,q2⟩:=hbb;rw [hg] at q1;simp only [C0,AC] at q1;subst q1;simp only at q2;subst q2
    have:=hPf b0 hb0P
    omega)
 refine ⟨x,he,_,by rw [LT,LT]; exact hfin,?_⟩;rw [LT,LT];simp only [St.ups,VRel,GT,CP];simp only [M5,ER,VRel,hob0] at h2;exact h2
theorem Vp (h:Rel B nt w0 X γ st a w) (hg:GX B w0 X) {f:FuncId} {sp:UJ} (hS:Snd P B f sp) {vs:List V} {xs:List Value} (hv:VRels γ st.o w (DR X γ st.o) vs xs) (hl:FV vs=[]) {tks:List (List Kd)} {e:Nat} {ag:Bool} {ks:List Kd} {l:LI} {out:List (List V)}
  (hsp:sp (GI st.o [] tks vs)=some (.vec e ag ks l,out)) (d:Nat) (hd9:d≠900000) :
  Does P f xs w fun e' w'=>∃ x,e' = .returned x∧∃ γ',Rel B nt w0 X γ' (st.ups (EN st.o (EW vs)++[.new d (.row true e ag ks l)])) a w' ∧
   VRel γ' (st.ups (EN st.o (EW vs)++[.new d (.row true e ag ks l)])).o w' (DR X γ' (st.ups (EN st.o (EW vs)++[.new d (.row true e ag ks l)])).o) (.row d 0 l.length) x:=by
 refine (nV h hg hS hv hl hsp).mono ?_;rintro e' w' ⟨x,he,γ',h1,h2,h3,rfl⟩;have hmo:GS (.vec e ag ks l) []=[(900000,some (.row true e ag ks l))]:=rfl;rw [hmo] at h1 h2;generalize hX':(⟨fun _=>False,fun b=>DR X γ st.o b∧∀ m∈EW vs,¬ RowOf γ st.o m b⟩:Zone)=X' at h1 h2;have hXo:∀ b,¬ X'.own b:=fun b hb=>by rw [← hX'] at hb; exact hb
 have hz:=(NQ st.o (EW vs) (FrzLe.refl _) h).1;have hPf:∀ b,FE γ' [(900000,some (.row true e ag ks l))] b→w.heap.size≤b∧b < w'.heap.size:=fun b hb=>by
  obtain ⟨q1,q2⟩:=h1.lt b hb;exact ⟨q2.resolve_right (hXo b),q1⟩
 have hp:=rT hz hXo h1 (fun b=>X.far b∨FE γ' [(900000,some (.row true e ag ks l))] b) (fun b hb=>hb.imp_right (hPf b));have hO1:∀ b,DR ⟨X.own,fun b=>X.far b∨FE γ' [(900000,some (.row true e ag ks l))] b⟩ γ (st.ups (EN st.o (EW vs))).o b→DR X' γ' [(900000,some (.row true e ag ks l))] b:=by
  intro b hb;have key:DR X γ (st.ups (EN st.o (EW vs))).o b∨FE γ' [(900000,some (.row true e ag ks l))] b:=by
   rcases hb with hb | hb | hb
   ·exact .inl (.inl hb)
   ·exact .inl (.inr hb)
   ·exact .inr hb
  rcases key with hb | hb
  ·have:=fA h _ hb
   exact .inr (by rw [← hX']; exact this)
  ·exact .inl hb
 have hob0:DM [(900000,some (.row true e ag ks l))] 900000=some (.row true e ag ks l):=by rw [EI,BP rfl]
 have hor:=h1.ob _ _ hob0;simp only [ObRel] at hor;obtain ⟨k1,k2,ys,k3,k4⟩:=hor;have hg0:∀ b,FF (γ' 900000) (.row true e ag ks l) b→FE γ' [(900000,some (.row true e ag ks l))] b:=fun b hb=>⟨900000,_,hob0,hb⟩
 have hadd:=hp.add d hd9 (.row true e ag ks l) (γ' 900000) (fun b hb=>⟨.inr (hg0 b hb),.inl (C2 h.keep.size (hPf b (hg0 b hb)).1)⟩)
  (fun O' hO'=>by
   simp only [ObRel];exact ⟨k1,k2,ys,k3,fun i y hy=>Kd.RelAll.mono (Keep.refl _ w') (fun b _ hb=>hO1 b (hO' b hb)) (fun _ _ hu=>hu) (k4 i y hy)⟩)
 have hfin:=hadd.shrink (F:=X.far) (fun b hb=>by
   have hlt:=h.fl b hb;refine ⟨.inl hb,fun hbb=>?_⟩
   have:=hPf b (hg0 b hbb)
   omega)
 refine ⟨x,he,_,by rw [LT]; exact hfin,?_⟩;rw [LT];simp only [St.ups,VRel,GT,CP];simp only [M5,VRel,hob0] at h2;exact h2
end
open Go Go.RowKit
mutual
theorem VRel.leaves {γ γ':Nat→Value} {o o':Store} {w:World} {O:Nat→Prop} (h1:∀ n lo hi x,VRel γ o w O (.row n lo hi) x→VRel γ' o' w O (.row n lo hi) x) (h2:∀ n i c x,VRel γ o w O (.ptr n i c) x→VRel γ' o' w O (.ptr n i c) x)
  (h3:∀ n c cap sz len x,VRel γ o w O (.bview n c cap sz len) x→VRel γ' o' w O (.bview n c cap sz len) x):∀ {v:V} {x:Value},VRel γ o w O v x→VRel γ' o' w O v x
 | .any,_,_=>by simp only [VRel]
 | .int _ _,_,h=>by simpa only [VRel] using h
 | .bool _,_,h=>by simpa only [VRel] using h
 | .str _,_,h=>by simpa only [VRel] using h
 | .list _ _ _,_,h=>by simpa only [VRel] using h
 | .zs,_,h=>by simpa only [VRel] using h
 | .row _ _ _,_,h=>h1 _ _ _ _ h
 | .ptr _ _ _,_,h=>h2 _ _ _ _ h
 | .iptr _ _ _,_,h=>by simpa only [VRel] using h
 | .bview _ _ _ _ _,_,h=>h3 _ _ _ _ _ _ h
 | .agg l,x,h=>by
  simp only [VRel] at h ⊢;obtain ⟨cs,hx,hr⟩:=h;exact ⟨cs,hx,VRels.leaves h1 h2 h3 hr⟩
 | .tup l,x,h=>by
  simp only [VRel] at h ⊢;obtain ⟨cs,hx,hr⟩:=h;exact ⟨cs,hx,VRels.leaves h1 h2 h3 hr⟩
 | .err _,_,h=>by simpa only [VRel] using h
 | .nilp,_,h=>by simpa only [VRel] using h
 | .clo _ l,x,h=>by
  simp only [VRel] at h ⊢;obtain ⟨cs,hx,hr⟩:=h;exact ⟨cs,hx,VRels.leaves h1 h2 h3 hr⟩
 | .bor _,_,h=>by simp only [VRel] at h
 | .vec _ _ _ _,_,h=>by simp only [VRel] at h
 | .bld _,_,h=>by simp only [VRel] at h
theorem VRels.leaves {γ γ':Nat→Value} {o o':Store} {w:World} {O:Nat→Prop} (h1:∀ n lo hi x,VRel γ o w O (.row n lo hi) x→VRel γ' o' w O (.row n lo hi) x) (h2:∀ n i c x,VRel γ o w O (.ptr n i c) x→VRel γ' o' w O (.ptr n i c) x)
  (h3:∀ n c cap sz len x,VRel γ o w O (.bview n c cap sz len) x→VRel γ' o' w O (.bview n c cap sz len) x):∀ {l:List V} {xs:List Value},VRels γ o w O l xs→VRels γ' o' w O l xs
 | [],[],_=>by simp only [VRels]
 | [],_ :: _,h=>by simp only [VRels] at h
 | _ :: _,[],h=>by simp only [VRels] at h
 | v :: vs,x :: xs,h=>by
  simp only [VRels] at h ⊢;exact ⟨VRel.leaves h1 h2 h3 h.1,VRels.leaves h1 h2 h3 h.2⟩
end
section
variable {B:BT} {nt:Nat} {w0:World} {X:Zone} {γ:Nat→Value} {st st':St} {a:Act} {w:World} {P:Program} {E:Env}
theorem Cz:∀ (hs:List Nat) {st:St} {X:Zone},Rel B nt w0 X γ st a w →
  Rel B nt w0 ⟨X.own,fun b=>X.far b∨∃ m∈hs,E9 γ st.o m b⟩ γ (st.ups (L7 hs)) a w∧(st.ups (L7 hs)).t=st.t∧∀ m,DM (st.ups (L7 hs)).o m=if m∈hs then none else DM st.o m
 | [],st,X,h=>⟨h.shrink (fun b hb=>by simpa using hb),rfl,fun m=>by simp [L7,St.ups]⟩
 | n :: r,st,X,h=>by
  obtain ⟨h1,h2,h3⟩:=Cz r (h.kill n);have hob:∀ m,DM (st.up (.kill n)).o m=if n=m then none else DM st.o m:=fun m=>by simp only [St.up,EI]
  refine ⟨?_,h2,fun m=>?_⟩
  ·simp only [L7,St.ups];refine h1.shrink (fun b hb=>?_);rcases hb with hb | ⟨m,hm,hb⟩
   ·exact .inl (.inl hb)
   ·by_cases e:n=m
    ·subst e;exact .inl (.inr hb)
    ·rcases AO.1 hm with h4 | h4
     ·exact absurd h4.symm e
     ·obtain ⟨ob,p1,p2⟩:=hb;exact .inr ⟨m,h4,ob,by rw [hob,BD e]; exact p1,p2⟩
  ·simp only [L7,St.ups];rw [h3,hob];by_cases h4:m∈r
   ·simp [h4]
   ·by_cases h5:n=m
    ·subst h5;simp
    ·have:¬ m=n:=fun e=>h5 e.symm
     simp [h4,h5,this]
theorem Bw (h:Rel B nt w0 X γ st a w) (ns:List Nat) {n:Nat} {ob:Ob} (ho:DM st.o n=some ob) (hb:∀ e ag ks l,ob≠.row true e ag ks l):DM (st.ups (EN st.o ns)).o n=some ob:=by
 obtain ⟨_,h2,_⟩:=NQ st.o ns (FrzLe.refl _) h;rcases h2 n with h3 | ⟨e,ag,ks,l,h3,_⟩
 ·rw [h3,ho]
 ·rw [ho,AC] at h3;exact absurd h3 (hb _ _ _ _)
theorem Rel.boundB (h:Rel B nt w0 X γ st a w) {n:Nat} {s:BA} (ho:DM st.o n=some (.bld s)) {w1:World} {own1 F:Nat→Prop} (hk:Keep own1 w1 w)
  (hF:∀ b,F b→DR X γ st.o b∧¬ E9 γ st.o n b) (hown:∀ b,E9 γ st.o n b→w1.heap.size≤b∨own1 b) :
  Rel B.base 0 w1 ⟨own1,F⟩ (fun _=>γ n) ⟨[],EP [.bld s]⟩ J3 w∧∀ b,FE (fun _=>γ n) (EP [.bld s]) b→E9 γ st.o n b:=by
 have hP:∀ b,FE (fun _=>γ n) (EP [.bld s]) b→E9 γ st.o n b:=by
  rintro b ⟨m,ob,hm,hb⟩;simp only [EP] at hm;rw [EI] at hm;split at hm
  ·simp only [AC] at hm;subst hm;exact ⟨_,ho,hb⟩
  ·simp only [DM,E7] at hm; cases hm
 refine ⟨⟨rfl,rfl,fun i=>by simp only [St.get,E7,VRel],fun m ob hm=>?_,fun b hb=>?_,?_,hk,?_,?_,fun p hp=>by cases hp⟩,hP⟩
 ·simp only [EP] at hm;rw [EI] at hm;split at hm
  ·simp only [AC] at hm;subst hm
   have:=h.ob n _ ho
   simpa only [ObRel,BT.base] using this
  ·simp only [DM,E7] at hm; cases hm
 ·obtain ⟨ob,h1,h2⟩:=hP b hb;exact ⟨(h.lt b ⟨n,ob,h1,h2⟩).1,hown b (hP b hb)⟩
 ·intro m1 m2 ob1 ob2 b hne h1 h2 _ _;simp only [EP] at h1 h2;rw [EI] at h1 h2;split at h1
  ·split at h2
   ·omega
   ·simp only [DM,E7] at h2; cases h2
  ·simp only [DM,E7] at h1; cases h1
 ·intro b hb hf;exact (hF b hf).2 (hP b hb)
 ·intro b hb;rcases (hF b hb).1 with h1 | h1
  ·exact (h.lt b h1).1
  ·exact h.fl b h1
theorem Vl (h:Rel B nt w0 X γ st a w) (hg:GX B w0 X) {f:FuncId} {sp:UJ} (hS:Snd P B f sp) {vs:List V} {xs:List Value} (hv:VRels γ st.o w (DR X γ st.o) vs xs) {n:Nat} (hl:FV vs=[n]) {s s':BA} (ho:DM st.o n=some (.bld s))
  {tks:List (List Kd)} {v:V} (hsp:sp (GI st.o [.bld s] tks vs)=some (v,[[.bld s']])) (hib:j7 (GN (GI st.o [.bld s] tks vs))=true) :
  Does P f xs w fun e w'=>∃ x,e = .returned x∧∃ γ',Rel B nt w0 X γ' (st.ups (EN st.o (match IK v with | true=>EW vs | false=>[])++[.set n (.bld s')])) a w' ∧
   VRel γ' (st.ups (EN st.o (match IK v with | true=>EW vs | false=>[])++[.set n (.bld s')])).o w' (DR X γ' (st.ups (EN st.o (match IK v with | true=>EW vs | false=>[])++[.set n (.bld s')])).o) v x:=by
 have hL:∀ b,E9 γ st.o n b→w.heap.size≤b∨E9 γ st.o n b:=fun b hb=>.inr hb
 obtain ⟨hR,hP⟩:=h.boundB ho (w1:=w) (own1:=E9 γ st.o n) (F:=fun b=>DR X γ st.o b∧¬ E9 γ st.o n b∧∀ m∈EW vs,¬ RowOf γ st.o m b) (Keep.refl _ w) (fun b hb=>⟨hb.1,hb.2.1⟩) hL;generalize hX':(⟨E9 γ st.o n,fun b=>DR X γ st.o b∧¬ E9 γ st.o n b∧∀ m∈EW vs,¬ RowOf γ st.o m b⟩:Zone)=X' at hR;have hXf:∀ b,X'.far b↔(DR X γ st.o b∧¬ E9 γ st.o n b∧∀ m∈EW vs,¬ RowOf γ st.o m b):=fun b=>by rw [← hX']
 have hXo:∀ b,X'.own b↔E9 γ st.o n b:=fun b=>by rw [← hX']
 have hnP:∀ b,E9 γ st.o n b→FE γ st.o b:=fun b ⟨ob,h1,h2⟩=>⟨n,ob,h1,h2⟩
 rcases (i6 (o:=st.o) (bs:=[.bld s]) (l:=vs) (tks:=tks)).1 with hb | hb
 ·rw [hb] at hib;cases hib
 ·have hm:IY (GI st.o [.bld s] tks vs)=EP [.bld s]:=by simp only [IY,hb]
  have hcall:=hS w X' (fun _=>γ n) (GI st.o [.bld s] tks vs) xs v [[.bld s']] hsp (h.glob hg) (fun b hb=>h.high hg (hnP b ((hXo b).1 hb))) (by rw [hm]; exact hR) (by
   rw [hm];refine iU h (fun b _ hb=>?_) [.bld s] hv (fun m hm b hr hb=>?_) (fun m hm=>?_)
   ·rcases hb with hb | hb
    ·exact .inl (hnP b (hP b hb))
    ·exact ((hXf b).1 hb).1
   ·rcases hb with hb | hb
    ·obtain ⟨e,ag,ks,l,h5,h6⟩:=hr;obtain ⟨ob,h7,h8⟩:=hP b hb;have hne:n≠m:=by
      rintro rfl;rw [ho] at h5;cases h5
     exact h.dis n m ob _ b hne h7 h5 h8 h6
    ·exact ((hXf b).1 hb).2.2 m hm hr
   ·rw [hl] at hm;simp only [BL] at hm;subst hm;exact ⟨rfl,.inr ⟨s,s,ho,by simp [EP,EI]⟩⟩)
  refine hcall.mono ?_;rintro e w' ⟨x,he,γ',h1,h2,h3⟩;simp only [KV,hb] at h3;obtain ⟨hf,_,had⟩:=h3;have hmo:GS v [[.bld s']]=EP [.bld s']:=by cases v <;> rfl
  rw [hmo] at h1 h2;rw [VM hf] at h2;refine ⟨x,he,?_⟩;generalize hF0:(match IK v with | true=>EW vs | false=>[])=F0;have hz:=(NQ st.o F0 (FrzLe.refl _) h).1;have hon:=Bw h F0 ho (fun _ _ _ _=>by simp);have hob0:DM (EP [.bld s']) 900000=some (.bld s'):=by simp [EP,EI]
  have hor:=h1.ob _ _ hob0;have hor0:=h.ob _ _ ho;simp only [ObRel] at hor hor0;obtain ⟨b1,v1,p1,hg1,_⟩:=hor;obtain ⟨b0,v0,p0,hg0,_⟩:=hor0;have hbb:b1=b0:=by
   rw [hg1,hg0] at had;simpa [SW] using had
  subst hbb;have hbl:∀ b,E9 γ (st.ups (EN st.o F0)).o n b↔E9 γ st.o n b:=fun b=>by simp only [E9,hon,ho]
  have hOP:∀ b,FF (γ' 900000) (.bld s') b→FE γ' (EP [.bld s']) b:=fun b hb=>⟨_,_,hob0,hb⟩
  have hsz:=h1.keep.size;have hlend:=hz.lend (n:=n) (ob':=.bld s') (g':=γ' 900000) hon had h1.keep (K:=X'.own) (fun b _ hb=>.inl ((hbl b).2 ((hXo b).1 hb)))
   (fun b hb=>by
    obtain ⟨q1,q2⟩:=h1.lt b (hOP b hb);exact ⟨q1,q2.elim .inr (fun hb=>.inl ((hbl b).2 ((hXo b).1 hb)))⟩)
   (fun O v x hvx=>VRel.leaves (fun m lo hi x hx=>by
     simp only [VRel] at hx ⊢;rw [EI];by_cases e:n=m
     ·subst e; simp only [CP]
     ·simp only [BD e]; exact hx) (fun m i c x hx=>by
     simp only [VRel] at hx ⊢;rw [EI];by_cases e:n=m
     ·subst e;simp only [CP];rw [hon] at hx;obtain ⟨rfl,b,v',hg,hxx⟩:=hx;rw [hg0] at hg;simp only [Value.tuple.injEq,Array.mk.injEq,vas,C0,AC,DH,B7] at hg;refine ⟨rfl,b1,v1,hg1,?_⟩;rw [hxx,hg.1]
     ·simp only [BD e]; exact hx) (fun m c cap sz len x hx=>by
     simp only [VRel] at hx ⊢;rw [EI];by_cases e:n=m
     ·subst e; simp only [CP]
     ·simp only [BD e]; exact hx) hvx)
   (by
    have hor:=h1.ob _ _ hob0;simpa only [ObRel,BT.base] using hor)
  have hfin:=hlend.shrink (F:=X.far) (fun b hb=>⟨.inl hb,fun hbb=>by
   obtain ⟨q1,q2⟩:=h1.lt b (hOP b hbb)
   have:=h.fl b hb
   rcases q2 with q2 | q2
   ·omega
   ·exact h.nr b (hnP b ((hXo b).1 q2)) hb⟩)
  refine ⟨_,by rw [LT]; exact hfin,?_⟩;rw [LT];refine pD hf (fun hhl b hlt hb=>?_) h2;rw [hhl] at hF0;simp only at hF0;rcases hb with ⟨m,ob,hm,hbm⟩ | hb
  ·simp only [St.ups,St.up] at hm;rw [EI] at hm;by_cases e:n=m
   ·subst e;simp only [CP,AC] at hm hbm;subst hm;exact .inl (hOP b hbm)
   ·simp only [BD e] at hm hbm;obtain ⟨q1,q2⟩:=fA h F0 (b:=b) (.inl ⟨m,ob,hm,hbm⟩);refine .inr ((hXf b).2 ⟨q1,fun hbn=>?_,by rw [hF0]; exact q2⟩);obtain ⟨ob2,q3,q4⟩:=(hbl b).2 hbn;exact hz.dis n m ob2 ob b e q3 hm q4 hbm
  ·refine .inr ((hXf b).2 ⟨.inr hb,fun hbn=>h.nr b (hnP b hbn) hb,fun m _ ⟨e,ag,ks,l,q1,q2⟩=>h.nr b ⟨m,_,q1,q2⟩ hb⟩)
theorem lS {o:Store} {all:List Nat} {n:Nat}:∀ {cs:List V},n∈H4 o all cs→∃ lo hi own e ag ks l,.row n lo hi∈cs∧DM o n=some (.row own e ag ks l)∧(own&&(BQ lo 0&&BQ (H2 n all) 1))=false
 | [],h=>by simp [H4] at h
 | v :: r,h=>by
  have up:n∈H4 o all r→∃ lo hi own e ag ks l,.row n lo hi∈v :: r∧DM o n=some (.row own e ag ks l)∧(own&&(BQ lo 0&&BQ (H2 n all) 1))=false:=fun h'=>by
   obtain ⟨lo,hi,own,e,ag,ks,l,h1,h2,h3⟩:=lS h';exact ⟨lo,hi,own,e,ag,ks,l,AY _ h1,h2,h3⟩
  cases v
  case row m lo hi=>
   simp only [H4] at h;split at h
   ·rename_i own e ag ks l hob;split at h
    ·exact up h
    ·rename_i hb;rcases AO.1 h with h1 | h1
     ·subst h1;exact ⟨lo,hi,own,e,ag,ks,l,AN ..,hob,hb⟩
     ·exact up h1
   ·exact up h
  all_goals exact up h
theorem Vm (h:Rel B nt w0 X γ st a w) (hg:GX B w0 X) {f:FuncId} {sp:UJ} (hS:Snd P B f sp) {vs:List V} {xs:List Value} (hv:VRels γ st.o w (DR X γ st.o) vs xs) {n:Nat} (hl:FV vs=[n]) {cs:List V} (ho:DM st.o n=some (.box cs)) {all:List Nat} (hall:EY cs++EW vs=all)
  {tks:List (List Kd)} {v:V} {out:List V} (hsp:sp (GI st.o (cs.map (FL st.o all)) tks vs)=some (v,[out])) (hib:j7 (GN (GI st.o (cs.map (FL st.o all)) tks vs))=true) {nm:Nat} (hlen:out.length=cs.length) (hnm:n < nm∨nm+out.length≤n) (hn9:nm+out.length≤900000) :
  Does P f xs w fun e w'=>∃ x,e = .returned x∧∃ γ',Rel B nt w0 X γ' (st.ups (EN st.o (H4 st.o all cs++(match IK v||IG out with | true=>EW vs | false=>[])) ++
     (L7 (G6 st.o all cs)++(.set n (.box (OA cs)) :: (KG nm out++[.set n (.box (GR nm out))]))))) a w' ∧
   VRel γ' (st.ups (EN st.o (H4 st.o all cs++(match IK v||IG out with | true=>EW vs | false=>[])) ++
     (L7 (G6 st.o all cs)++(.set n (.box (OA cs)) :: (KG nm out++[.set n (.box (GR nm out))]))))).o w' (DR X γ' (st.ups (EN st.o (H4 st.o all cs++(match IK v||IG out with | true=>EW vs | false=>[])) ++
     (L7 (G6 st.o all cs)++(.set n (.box (OA cs)) :: (KG nm out++[.set n (.box (GR nm out))]))))).o) v x:=by
 let L:Nat→Prop:=fun b=>E9 γ st.o n b∨∃ m∈G6 st.o all cs,E9 γ st.o m b
 have hLP:∀ b,L b→FE γ st.o b:=by
  rintro b (⟨ob,h1,h2⟩ | ⟨m,_,ob,h1,h2⟩)
  ·exact ⟨n,ob,h1,h2⟩
  ·exact ⟨m,ob,h1,h2⟩
 have hbound:=h.bound ho (EW vs) (w1:=w) (own1:=L) (F:=fun b=>DR X γ st.o b∧¬ L b∧(∀ m∈H4 st.o all cs,¬ E9 γ st.o m b)∧∀ m∈EW vs,¬ RowOf γ st.o m b) (Keep.refl _ w)
  (fun b hb=>⟨hb.1,fun h1=>hb.2.1 (.inl h1),fun m hm h1=>hb.2.1 (.inr ⟨m,by rw [← hall]; exact hm,h1⟩),by rw [hall]; exact hb.2.2.1⟩) (fun b hb=>.inr (by rw [hall] at hb; exact hb))
 rw [hall] at hbound;obtain ⟨γb,hR,hg0,hP⟩:=hbound;generalize hX':(⟨L,fun b=>DR X γ st.o b∧¬ L b∧(∀ m∈H4 st.o all cs,¬ E9 γ st.o m b)∧∀ m∈EW vs,¬ RowOf γ st.o m b⟩:Zone)=X' at hR;have hXf:∀ b,X'.far b↔(DR X γ st.o b∧¬ L b∧(∀ m∈H4 st.o all cs,¬ E9 γ st.o m b)∧∀ m∈EW vs,¬ RowOf γ st.o m b):=fun b=>by rw [← hX']
 have hXo:∀ b,X'.own b↔L b:=fun b=>by rw [← hX']
 have hb:GN (GI st.o (cs.map (FL st.o all)) tks vs)=some (cs.map (FL st.o all)):=by
  rcases (i6 (o:=st.o) (bs:=cs.map (FL st.o all)) (l:=vs) (tks:=tks)).1 with hb | hb
  ·rw [hb] at hib; cases hib
  ·exact hb
 have hm:IY (GI st.o (cs.map (FL st.o all)) tks vs)=EP (cs.map (FL st.o all)):=by simp only [IY,hb]
 have hargs:∀ m∈EW vs,∀ b,RowOf γ st.o m b→¬ L b:=by
  intro m hm b hr hLb;obtain ⟨e,ag,ks,l,h5,h6⟩:=hr;rcases hLb with ⟨ob,h7,h8⟩ | ⟨m2,h9,ob,h7,h8⟩
  ·have hne:n≠m:=by
    rintro rfl;rw [ho] at h5;cases h5
   exact h.dis n m ob _ b hne h7 h5 h8 h6
  ·by_cases hne:m2=m
   ·subst hne;obtain ⟨hi2,e2,ag2,ks2,l2,k1,k2,k3⟩:=S9.1 h9;rw [← hall,VD] at k3;have q1:=VE (XU k1);have q2:=VE hm;omega
   ·exact h.dis m2 m ob _ b hne h7 h5 h8 h6
 have hok0:∀ v,RW (FL st.o all v)=true:=by
  intro v;rcases eG st.o all v with ⟨_,_,_,_,_,_,_,_,_,h1⟩ | ⟨h1,_⟩
  ·rw [h1]; rfl
  ·cases hcc:FL st.o all v <;> first | rfl | (rw [hcc] at h1; cases h1)
 have hcall:=hS w X' γb (GI st.o (cs.map (FL st.o all)) tks vs) xs v [out] hsp (h.glob hg) (fun b hb=>h.high hg (hLP b ((hXo b).1 hb))) (by rw [hm]; exact hR) (by
  rw [hm];refine iU h (fun b _ hb=>?_) _ hv (fun m hm b hr hb=>?_) (fun m hm=>?_)
  ·rcases hb with hb | hb
   ·exact .inl (hLP b (hP b hb))
   ·exact ((hXf b).1 hb).1
  ·rcases hb with hb | hb
   ·exact hargs m hm b hr (hP b hb)
   ·exact ((hXf b).1 hb).2.2.2 m hm hr
  ·rw [hl] at hm;simp only [BL] at hm;subst hm;exact ⟨hg0,.inl ⟨cs,_,ho,by rw [ZP (CQ.2 (fun v hv=>by obtain ⟨u,_,rfl⟩:=CJ.1 hv; exact hok0 u)),EI,BP rfl]⟩⟩)
 refine hcall.mono ?_;rintro e w' ⟨x,he,γ',h1,h2,h3⟩;simp only [KV,hb] at h3;obtain ⟨hf,hsk,had⟩:=h3;have hok:out.all RW=true:=by
  unfold sZ at hsk;split at hsk
  ·rename_i s s' hcs;cases cs with
   | nil=>simp at hcs
   | cons u r=>
    simp only [A0,vas] at hcs
    have:=hok0 u
    rw [hcs.1] at this;cases this
  ·cases hsk
  ·exact hsk
 have hmo:GS v [out]=EP out:=by cases v <;> rfl
 rw [hmo] at h1 h2;rw [VM hf] at h2;refine ⟨x,he,?_⟩;generalize hF0:H4 st.o all cs++(match IK v||IG out with | true=>EW vs | false=>[])=F0;have hz:=(NQ st.o F0 (FrzLe.refl _) h).1;have hzf:=(NQ st.o F0 (FrzLe.refl _) h).2.1;have hon:=Bw h F0 ho (fun _ _ _ _=>by simp);obtain ⟨hk,hkt,hko⟩:=Cz (G6 st.o all cs) hz;have hnh:n ∉ G6 st.o all cs:=by
  intro hn;obtain ⟨_,_,_,_,_,_,q,_⟩:=S9.1 hn;rw [ho] at q;cases q
 have hon2:DM ((st.ups (EN st.o F0)).ups (L7 (G6 st.o all cs))).o n=some (.box cs):=by rw [hko,BD hnh]; exact hon
 have hor0:=h.ob _ _ ho;simp only [ObRel] at hor0;obtain ⟨b0,c0,T0,hgn,hh0,hr0⟩:=hor0;have hob0:DM (EP out) 900000=some (.box (GR 900001 out)):=by rw [ZP hok,EI,BP rfl]
 have hor:=h1.ob _ _ hob0;simp only [ObRel] at hor;obtain ⟨b1,c,T,hg,hh,hr⟩:=hor;have hbb:b1=b0:=by
  rw [hg,hg0,hgn] at had;simpa [SW] using had
 subst hbb;have hg':γ' 900000=γ n:=by rw [hg,hgn]
 have hsz:=h1.keep.size;have hbn:∀ b,E9 γ st.o n b↔b=b1:=by
  intro b;constructor
  ·rintro ⟨ob,h5,h6⟩;rw [ho] at h5;cases h5;obtain ⟨ad,h7,h8⟩:=h6;rw [hgn] at h7;cases h7;exact h8.symm
  ·rintro rfl;exact ⟨_,ho,_,hgn,rfl⟩
 have hbn2:∀ b,E9 γ ((st.ups (EN st.o F0)).ups (L7 (G6 st.o all cs))).o n b↔b=b1:=by
  intro b;rw [← hbn b];simp only [E9,hon2,ho]
 have hbx:∀ l b,FF (γ n) (.box l) b↔b=b1:=by
  intro l b;rw [← hbn b];simp only [E9,ho,AC,exists_eq_left',FF]
 have hhb:∀ m∈G6 st.o all cs,∀ b,E9 γ st.o m b→E9 γ (st.ups (EN st.o F0)).o m b:=by
  rintro m hm b ⟨ob,h5,h6⟩;obtain ⟨hi2,e2,ag2,ks2,l2,k1,k2,k3⟩:=S9.1 hm;refine ⟨ob,?_,h6⟩;rw [(NQ st.o F0 (FrzLe.refl _) h).2.2.2.2 m ?_]
  ·exact h5
  ·intro hmF;rw [← hF0] at hmF;rcases AX.1 hmF with h7 | h7
   ·obtain ⟨lo3,hi3,own3,e3,ag3,ks3,l3,q1,q2,q3⟩:=lS h7;obtain ⟨i1,hi1⟩:=List.mem_iff_getElem?.1 k1;obtain ⟨i2,hi2⟩:=List.mem_iff_getElem?.1 q1;rw [← hall,VD] at k3;rcases Nat.lt_trichotomy i1 i2 with hlt | hlt | hlt
    ·have:=XY hlt hi1 hi2
     omega
    ·subst hlt;rw [hi1] at hi2;simp only [AC,V.row.injEq,vaz] at hi2;obtain ⟨rfl,rfl⟩:=hi2;rw [k2] at q2;simp only [AC,Ob.row.injEq] at q2;obtain ⟨rfl,_⟩:=q2;rw [← hall,VD,k3] at q3;simp at q3
    ·have:=XY hlt hi2 hi1
     omega
   ·have q1:m∈EW vs:=by
     split at h7
     ·exact h7
     ·cases h7
    rw [← hall,VD] at k3
    have:=VE (XU k1)
    have:=VE q1
    omega
 have hlend:=hk.lend (n:=n) (ob':=.box (OA cs)) (g':=γ n) hon2 rfl h1.keep (K:=X'.own)
  (fun b hlt hb=>by
   have hLb:=(hXo b).1 hb;rcases hLb with h5 | ⟨m,h6,h7⟩
   ·exact .inl ((hbn2 b).2 ((hbn b).1 h5))
   ·refine .inr ⟨.inr ⟨m,h6,hhb m h6 b h7⟩,?_⟩;exact (h.lt b (hLP b (.inr ⟨m,h6,h7⟩))).2)
  (fun b hb=>by
   have:=(hbx _ b).1 hb
   subst this;exact ⟨CW (h.lt _ ⟨n,_,ho,(hbx _ _).2 rfl⟩).1 hsz,.inl ((hbn2 _).2 rfl)⟩)
  (fun O v x hvx=>by
   refine VRel.cmp ?_ hvx;intro m ob1 hm;refine ⟨by by_cases e:n=m <;> simp [e],?_⟩;rw [EI] at hm;by_cases e:n=m
   ·subst e;simp only [CP,AC] at hm;subst hm;exact ⟨_,hon2,by simp [Ob.fits,Y5]⟩
   ·rw [BD e] at hm;exact ⟨ob1,hm,ob1.fits_refl⟩)
  (by
   simp only [ObRel];refine ⟨b1,c,T,hgn,hh,?_⟩;have hcl:=hr.length;rw [Y8,hlen] at hcl;refine VRels.of_get (by rw [Y5,BE,hcl]) (fun j v x hv hx=>?_);rw [Y5,B9] at hv;cases hcj:cs[j]? with
   | none=>rw [hcj] at hv; cases hv
   | some u=>
    rw [hcj] at hv;simp only [vat,AC] at hv;subst hv;simp only [VRel])
 obtain ⟨br1,br2,br3⟩:=wG hok h1;have hPf:∀ b,FE γ' (EP out) b→(w.heap.size≤b∧b < w'.heap.size)∨L b:=fun b hb=>by
  obtain ⟨q1,q2⟩:=h1.lt b hb;rcases q2 with q2 | q2
  ·exact .inl ⟨q2,q1⟩
  ·exact .inr ((hXo b).1 q2)
 have hb1P:FE γ' (EP out) b1:=⟨900000,_,hob0,⟨_,hg,rfl⟩⟩;have hLb1:L b1:=.inl ((hbn b1).2 rfl);have hsh:=hlend.shrink (F:=fun b=>(X.far b∨FE γ' (EP out) b)∧b≠b1) (fun b hb=>by
  refine ⟨?_,fun hbb=>hb.2 ((hbx _ b).1 hbb)⟩;rcases hb.1 with h5 | h5
  ·exact .inl (.inl h5)
  ·rcases hPf b h5 with h6 | h6 | ⟨m,h6,h7⟩
   ·exact .inr h6
   ·exact absurd ((hbn b).1 h6) hb.2
   ·exact .inl (.inr ⟨m,h6,hhb m h6 b h7⟩))
 have hfarX:∀ b,X.far b→X'.far b:=fun b hb=>(hXf b).2 ⟨.inr hb,fun hL=>h.nr b (hLP b hL) hb,fun m _ ⟨ob,q1,q2⟩=>h.nr b ⟨m,ob,q1,q2⟩ hb,fun m _ ⟨e,ag,ks,l,q1,q2⟩=>h.nr b ⟨m,_,q1,q2⟩ hb⟩
 have hO1:∀ b,DR ⟨X.own,fun b=>(X.far b∨FE γ' (EP out) b)∧b≠b1⟩ (fun m=>if n=m then γ n else γ m) (((st.ups (EN st.o F0)).ups (L7 (G6 st.o all cs))).up (.set n (.box (OA cs)))).o b →
   ((IK v||IG out)=true→DR X' γ' (EP out) b):=by
  intro b hb hflag;rcases hb with ⟨m,ob,hm,hbm⟩ | ⟨hb | hb,_⟩
  ·simp only [St.up] at hm;rw [EI] at hm;by_cases e:n=m
   ·subst e;simp only [CP,AC] at hm hbm;subst hm
    have:=(hbx _ b).1 hbm
    subst this;exact .inl hb1P
   ·simp only [BD e] at hm hbm;rw [hko] at hm;split at hm
    ·cases hm
    rename_i hmh;obtain ⟨q1,q2⟩:=fA h F0 (b:=b) (.inl ⟨m,ob,hm,hbm⟩);refine .inr ((hXf b).2 ⟨q1,fun hL=>?_,fun m' hm' hbl=>?_,fun m' hm'=>?_⟩)
    ·rcases hL with h5 | ⟨m2,h5,h6⟩
     ·obtain ⟨ob2,q3,q4⟩:E9 γ (st.ups (EN st.o F0)).o n b:=⟨_,hon,(hbx _ b).2 ((hbn b).1 h5)⟩;exact hz.dis n m ob2 ob b e q3 hm q4 hbm
     ·obtain ⟨ob2,q3,q4⟩:=hhb m2 h5 b h6;exact hz.dis m2 m ob2 ob b (fun e=>hmh (e ▸ h5)) q3 hm q4 hbm
    ·obtain ⟨lo3,hi3,own3,e3,ag3,ks3,l3,p1,p2,p3⟩:=lS hm';obtain ⟨ob2,q3,q4⟩:=hbl;rw [p2,AC] at q3;subst q3;cases own3 with
     | false=>exact q4.elim
     | true=>exact q2 m' (by rw [← hF0]; exact vaJ _ hm') ⟨e3,ag3,ks3,l3,p2,q4⟩
    ·refine q2 m' ?_;rw [← hF0,hflag];exact vaG _ hm'
  ·exact .inr (hfarX b hb)
  ·exact .inl hb
 have hrows:=iO (B':=B.base) (O1:=fun b=>IG out=true→DR X' γ' (EP out) b) (g:=fun j=>γ' (900001+j)) nm out 0 (by omega) hsh (fun b hb hal=>hO1 b hb (by simp [hal])) (fun j e ag ks l hj=>by
   rw [BI];obtain ⟨q1,q2⟩:=br1 (fun m=>if n=m then γ n else γ m) j e ag ks l hj;refine ⟨q1,fun b hb=>⟨⟨.inr (q2 b hb),?_⟩,?_⟩⟩
   ·rintro rfl;exact br3 j e ag ks l _ hj hb ⟨_,hob0,_,hg,rfl⟩
   ·rcases hPf b (q2 b hb) with h5 | h5
    ·exact .inl (C2 h.keep.size h5.1)
    ·exact (h.lt b (hLP b h5)).2)
  (fun i j e ag ks l e' ag' ks' l' b hij q1 q2 q3 q4=>by
   rw [BI] at q3 q4;exact br2 i j e ag ks l e' ag' ks' l' b hij q1 q2 q3 q4)
 obtain ⟨γ4,F4,r1,r2,r3,r4,r5,r6⟩:=hrows;simp only [DA,BI] at r1 r3 r4 r5 r6;obtain ⟨hγn,hobn,_⟩:=r6 n hnm;have hon4:=hobn cs (by simp only [St.up,EI,CP]);simp only [CP] at hγn;have hset:=r1.set (n:=n) (ob':=.box (GR nm out)) hon4 (by simp only [Ob.fits,Y5,BE,Y8,hlen]) (Keep.refl _ w') (fun b hb=>hb) (fun hown hcmp=>by
  simp only [ObRel];refine ⟨b1,c,T,by rw [hγn,hgn],hh,zR hok h1 hr (fun j e ag ks l hj=>?_) (fun hal b _ hb=>hO1 b (r4 b (hown b hb)) (by simp [hal]))⟩;obtain ⟨q1,q2⟩:=r5 j e ag ks l hj;refine ⟨q1,?_⟩;have hjl:j < out.length:=by
   rcases DD j out.length with h' | h'
   ·exact h'
   ·rw [BZ h'] at hj; cases hj
  rw [EI,BD (by omega)];exact q2)
 have hfin:=hset.shrink (F:=X.far) (fun b hb=>by
  refine r3 b ⟨.inl hb,fun e=>h.nr b (hLP b (e ▸ hLb1)) hb⟩ (fun j e ag ks l hj hbj=>?_);rcases hPf b ((br1 γ j e ag ks l hj).2 b hbj) with h5 | h5
  ·have:=h.fl b hb
   omega
  ·exact h.nr b (hLP b h5) hb)
 have hst:(st.ups (EN st.o F0++(L7 (G6 st.o all cs)++(.set n (.box (OA cs)) :: (KG nm out++[.set n (.box (GR nm out))]))))) =
   (((((st.ups (EN st.o F0)).ups (L7 (G6 st.o all cs))).up (.set n (.box (OA cs)))).ups (KG nm out)).up (.set n (.box (GR nm out)))):=by
  rw [LT,LT];simp only [St.ups];rw [LT];rfl
 rw [hst];refine ⟨_,hfin,pD hf (fun hhl b _ hb=>?_) h2⟩;rcases hb with ⟨m,ob,hm,hbm⟩ | hb
 ·simp only [St.up] at hm;rw [EI] at hm;refine hO1 b (r4 b (.inl ?_)) (by simp [hhl]);by_cases e:n=m
  ·subst e;simp only [CP,AC] at hm;subst hm;exact ⟨n,_,hon4,hbm⟩
  ·rw [BD e] at hm;exact ⟨m,ob,hm,hbm⟩
 ·exact .inr (hfarX b hb)
end
open Go Go.RowKit
section
variable {B:BT} {nt:Nat} {w0:World} {X:Zone} {γ:Nat→Value} {st st':St} {a:Act} {w:World} {P:Program} {E:Env}
theorem zM (h:Rel B nt w0 X γ st a w) (hg:GX B w0 X) {f:FuncId} {sp:DV} (hS:Snd P B f (fun vs=>(sp vs).get)) {vs:List V} {xs:List Value} (hv:VRels γ st.o w (DR X γ st.o) vs xs) {d:Nat} (hd9:d≠900000) {tks:List (List Kd)} {v:V} {us:List Upd} (he:(U2 st.o d tks sp vs).get=some (v,us)) :
  Does P f xs w fun e w'=>∃ x,e = .returned x∧∃ γ',Rel B nt w0 X γ' (st.ups us) a w'∧VRel γ' (st.ups us).o w' (DR X γ' (st.ups us).o) v x:=by
 unfold U2 at he;split at he
 ·rename_i hl;obtain ⟨r,out,hsp,he⟩:=R.toT_get he;unfold d6 at he;split at he
  ·split at he
   ·rename_i cs;split at he
    ·rename_i hc;simp only [T.get,AC,AU] at he;obtain ⟨rfl,rfl⟩:=he;exact Vn h hg hS hv hl hsp d hd9 (AP hc)
    ·simp [T.get] at he
   ·simp only [T.get,AC,AU] at he;obtain ⟨rfl,rfl⟩:=he;exact Vp h hg hS hv hl hsp d hd9
   ·rename_i hnb hnv;simp only [T.get,AC,AU] at he;obtain ⟨rfl,rfl⟩:=he;exact Vo h hg hS hv hl hsp hnb hnv
  ·simp [T.get] at he
 ·rename_i n hl;split at he
  ·rename_i cs ho;split at he
   ·rename_i hib;obtain ⟨r,outs,hsp,he⟩:=R.toT_get he;unfold dZ at he;split at he
    ·split at he
     ·rename_i hc;simp only [T.get,AC,AU] at he;obtain ⟨rfl,rfl⟩:=he;simp only [AH,van] at hc;refine Vm h hg hS hv hl ho rfl hsp hib (F6.1 hc.1) (hc.2.1.imp (fun h=>AP h) (fun h=>AP h)) (AP hc.2.2)
     ·simp [T.get] at he
    ·simp [T.get] at he
   ·simp [T.get] at he
  ·rename_i s ho;split at he
   ·rename_i hib;obtain ⟨r,outs,hsp,he⟩:=R.toT_get he;unfold dY at he;split at he
    ·simp only [T.get,AC,AU] at he;obtain ⟨rfl,rfl⟩:=he;exact Vl h hg hS hv hl ho hsp hib
    ·simp [T.get] at he
   ·simp [T.get] at he
  ·simp [T.get] at he
 ·simp [T.get] at he
def MU (l:LI):List Value:=l.map fun x=>Value.int .i64 x.toInt
def zQ:V→Value
 | .int k n=>.int k n
 | _=>undef
def VL (w:World) (v:Value):List V→List Value→Prop
 | [],[]=>True
 | [.clo f [.bor cs]],[y]=>∃ b c T,y = .func (.func f) #[] #[.pointer (some ⟨b,0,none⟩)]∧w.heap[b]?=some (.cells c T (0,0))∧c.toList=cs.map zQ∧v.ownBlock≠some b
 | _,_=>False
def SJ (P:Program) (f:FuncId) (p:Ip):Prop:=
 ∀ (w:World) (v:Value) (l l':LI) (rs:List V) (ys:List Value),w.ownsRow 0 p.e 1 v l.length (MU l)→(∀ x∈l,AB.min≤x.toInt∧x.toInt≤AB.max)→l.length≤strMax →
  VL w v rs ys→p.g rs l=some l' →
  Does P f (v :: ys) w fun e w'=>∃ x,e = .returned x∧w.grownBy w' v.ownBlock∧(∀ x∈l',AB.min≤x.toInt∧x.toInt≤AB.max) ∧
   (p.ret=true→w'.ownsRow 0 p.e 1 x l'.length (MU l')∧∀ b,x.ownBlock=some b→v.ownBlock=some b∨w.heap.size≤b) ∧
   (p.ret=false→w'.ownsRow 0 p.e 1 v l'.length (MU l'))
theorem Vx {w:World} {O:Nat→Prop} {l:LI} {xs:List Value} (hl:xs.length=l.length*1)
  (h:∀ i y,l[i]?=some y→Kd.RelAll w O [.z] (GB false y) 0 (fun j u=>xs[i*1+j]?=some u)):xs=MU l∧∀ x∈l,AB.min≤x.toInt∧x.toInt≤AB.max:=by
 have one:∀ (i:Nat) (y:IV),l[i]?=some y→xs[i]?=some (.int .i64 y.toInt)∧AB.min≤y.toInt∧y.toInt≤AB.max:=fun i y hy=>by
  have:=h i y hy
  simp only [Kd.RelAll,GB,B7,Nat.mul_one,DA] at this;obtain ⟨u,hu,hk⟩:=this;simp only [Kd.Rel] at hk;rw [hu,hk.1];exact ⟨rfl,hk.2⟩
 constructor
 ·apply List.ext_getElem?;intro i;unfold MU;rw [B9];cases hy:l[i]? with
  | none=>
   rw [List.getElem?_eq_none_iff] at hy;rw [BZ (by omega)];rfl
  | some y=>rw [(one i y hy).1]; rfl
 ·intro x hx;obtain ⟨i,hi⟩:=List.getElem?_of_mem hx;exact (one i x hi).2
theorem pP {w:World} {O:Nat→Prop} {l:LI} (h:∀ x∈l,AB.min≤x.toInt∧x.toInt≤AB.max) (i:Nat) (y:IV) (hy:l[i]?=some y) :
  Kd.RelAll w O [.z] (GB false y) 0 (fun j u=>(MU l)[i*1+j]?=some u):=by
 simp only [Kd.RelAll,GB,B7,Nat.mul_one,DA];refine ⟨.int .i64 y.toInt,?_,?_⟩
 ·unfold MU;rw [B9,hy];rfl
 ·simp only [Kd.Rel];exact ⟨trivial,h y (vag hy)⟩
theorem Cs {γ:Nat→Value} {o:Store} {w:World} {O:Nat→Prop}:∀ {cs:List V} {xs:List Value},j3 cs=true→VRels γ o w O cs xs→xs=cs.map zQ
 | [],[],_,_=>rfl
 | [],_ :: _,_,h=>by simp only [VRels] at h
 | v :: cs,[],h,h'=>by simp only [VRels] at h'
 | v :: cs,x :: xs,h,h'=>by
  simp only [VRels] at h';unfold j3 at h;split at h
  ·rename_i h0; cases h0
  ·rename_i n r h0;injection h0 with h1 h2
   subst h1 h2;have h3:=h'.1;simp only [VRel] at h3;rw [A0,← Cs h h'.2,h3.1];rfl
  ·cases h
theorem Ir (h:Rel B nt w0 X γ st a w) {v:Value} (hv:∀ m cs b,DM st.o m=some (.box cs)→FF (γ m) (.box cs) b→v.ownBlock≠some b) {rest rs:List V} {ys:List Value} (hr:VRels γ st.o w (DR X γ st.o) rest ys) (he:XN st.o rest=some rs):VL w v rs ys:=by
 unfold XN at he;split at he
 ·simp only [AC] at he;subst he;cases ys with
  | nil=>trivial
  | cons y ys=>simp only [VRels] at hr
 ·rename_i f m i c;split at he
  ·rename_i cs hic ho;split at he
   ·rename_i hi;simp only [AC] at he;subst he;simp only [AH] at hic;obtain rfl:=F6.1 hic.1;obtain rfl:=F6.1 hic.2
    match ys,hr with
    | [y],hr=>
     simp only [VRels,B7] at hr;simp only [VRel] at hr;obtain ⟨cs',rfl,hc⟩:=hr;obtain ⟨b,c,T,hg,hh,hcs⟩:=h.ob m _ ho;have hc1:∃ x0,cs' = #[x0]∧x0 = .pointer (some ⟨b,0,none⟩):=by
      obtain ⟨l⟩:=cs'
      match l,hc with
      | [x0],hc=>
       simp only [VRels,B7,VRel,ho] at hc;obtain ⟨_,b',hb',rfl⟩:=hc;rw [hg] at hb';simp only [C0,AC,DH,B7] at hb';subst hb';exact ⟨_,rfl,rfl⟩
      | [],hc=>simp only [VRels] at hc
      | _ :: _ :: _,hc=>simp only [VRels,and_false] at hc
     obtain ⟨x0,rfl,rfl⟩:=hc1;exact ⟨b,c,T,rfl,hh,Cs hi hcs,hv m cs b ho ⟨_,hg,rfl⟩⟩
    | [],hr=>simp only [VRels] at hr
    | _ :: _ :: _,hr=>simp only [VRels,and_false] at hr
   ·cases he
  ·cases he
 ·cases he
theorem zcy (h:Rel B nt w0 X γ st a w) {f:FuncId} {p:Ip} (hI:SJ P f p) {vs:List V} {xs:List Value} (hv:VRels γ st.o w (DR X γ st.o) vs xs) {d:Option Nat} (hd9:∀ d',d=some d'→d'≠900000) {v:V} {us:List Upd} (he:(ZV st.o d p vs).get=some (v,us)) :
  Does P f xs w fun e w'=>∃ x,e = .returned x∧∃ γ',Rel B nt w0 X γ' (st.ups us) a w'∧VRel γ' (st.ups us).o w' (DR X γ' (st.ups us).o) v x:=by
 unfold ZV at he;split at he
 ·rename_i n lo hi rest;cases xs with
  | nil=>simp only [VRels] at hv
  | cons sv ys=>
  simp only [VRels] at hv;obtain ⟨hs,hrest⟩:=hv;split at he
  ·rename_i e l rs hob hra;split at he
   ·rename_i hc;simp only [AH] at hc;obtain ⟨hc1,hc3,hc4⟩:=hc;have he2:=T.get_when he;clear he;obtain ⟨hc2,he⟩:=he2;obtain rfl:=F6.1 hc1;obtain rfl:=F6.1 hc2;obtain rfl:=F6.1 hc3;have he6:p.e < 1000000:=AP hc4;simp only [VRel,hob] at hs;obtain ⟨hlen,q,len,cap,q',hg,hvv,_,h2,h3,hm,_,h5⟩:=hs;rw [h5 rfl,vaD,vaD] at hvv;have hor:=h.ob n _ hob;simp only [ObRel] at hor;obtain ⟨hkp,hstr,xs,hx,hrx⟩:=hor;have hx':=hx.plain he6;have hlen':len=l.length:=by
     rcases hx'.2 with ⟨h6,h7⟩ | ⟨g,cap',cur,h6,_⟩
     ·rw [hg] at h6; simp only [CH] at h6; omega
     ·rw [hg] at h6; simp only [CH] at h6; exact h6.2.1
    subst hlen';have hsv:sv=γ n:=by rw [hvv,hg]
    subst hsv;obtain ⟨rfl,hrng⟩:=Vx hx.1 hrx;split at he
    ·rename_i l' hgl;have hrok:=Ir h (v:=γ n) (fun m cs b hm hb hne=>by
      have hnm:n≠m:=fun e=>by subst e; rw [hob] at hm; cases hm
      exact h.dis n m _ _ b hnm hob hm (by simp only [FF]; exact hne) hb) hrest hra
     have hdoes:=hI w (γ n) l l' rs ys hx' hrng hstr hrok hgl;split at he
     ·rename_i d' hret;obtain ⟨hk,he⟩:=T.get_when he;simp only [T.get,AC,AU] at he;obtain ⟨rfl,rfl⟩:=he;have hk:=AP hk;refine hdoes.mono ?_;rintro e w' ⟨x,rfl,hgrow,hrng',hr1,_⟩;obtain ⟨hown,hblk⟩:=hr1 hret;refine ⟨x,rfl,fun m=>if d'=m then x else γ m,?_,?_⟩
      ·refine Rel.new h [n] d' (hd9 d' rfl) (.row true p.e false [.z] l') x (Keep.grown hgrow (fun g hg'=>⟨n,by simp,_,hob,hg'⟩)) (fun b hb=>⟨(hown.lt b hb).2,?_⟩) (fun O' hO hcmp=>?_)
       ·rcases hblk b hb with h1 | h1
        ·exact .inr ⟨n,by simp,_,hob,h1⟩
        ·exact .inl h1
       ·simp only [ObRel];exact ⟨by simp,by omega,MU l',OwnRow.of hown he6,fun i y hy=>pP hrng' i y hy⟩
      ·simp only [St.ups,St.up,VRel,EI,CP];refine ⟨AZ _,?_⟩;rcases hown.2 with ⟨h6,h7⟩ | ⟨g,cap',cur,h6,_,_,h8,h9,_⟩
       ·refine ⟨none,0,0,none,h6,?_,B5 _,by omega,AZ _,by simp [maxLen],.inr rfl,fun _=>rfl⟩;rw [h6,h7]
       ·refine ⟨some ⟨g,0,none⟩,l'.length,cap',some ⟨g,0,none⟩,h6,by rw [h6]; simp,B5 _,AZ _,h8,h9,.inl ?_,fun _=>rfl⟩;simp [Addr.add]
     ·rename_i hret;obtain ⟨hk,he⟩:=T.get_when he;simp only [T.get,AC,AU] at he;obtain ⟨rfl,rfl⟩:=he;have hk:=F6.1 hk;refine hdoes.mono ?_;rintro e w' ⟨x,rfl,hgrow,hrng',_,hr2⟩;have hown:=hr2 hret;refine ⟨x,rfl,γ,?_,by simp only [VRel]⟩;refine Rel.set h (ob':=.row true p.e false [.z] l') hob ⟨rfl,hk.symm⟩ (Keep.grown hgrow (fun g hg'=>hg')) (fun b hb=>hb) (fun hO hcmp=>?_);simp only [ObRel];exact ⟨by simp,by omega,MU l',OwnRow.of hown he6,fun i y hy=>pP hrng' i y hy⟩
     ·simp [T.get] at he
    ·simp [T.get] at he
   ·simp [T.get] at he
  ·simp [T.get] at he
 ·rename_i rest;cases xs with
  | nil=>simp only [VRels] at hv
  | cons sv ys=>
  simp only [VRels] at hv;obtain ⟨hs,hrest⟩:=hv;simp only [VRel] at hs;subst hs;split at he
  ·rename_i rs hra;split at he
   ·rename_i hgl;have hrok:=Ir h (v:=.slice none 0 0) (fun m cs b _ _ hne=>by simp [CC] at hne) hrest hra;have hdoes:=hI w (.slice none 0 0) [] [] rs ys (World.ownsRow_nil w 0 p.e _) (fun x hx=>by cases hx) (by simp) hrok hgl;split at he
    ·rename_i d' hret;obtain ⟨hk,he⟩:=T.get_when he;simp only [T.get,AC,AU] at he;obtain ⟨rfl,rfl⟩:=he;have he6:p.e < 1000000:=AP hk;refine hdoes.mono ?_;rintro e w' ⟨x,rfl,hgrow,hrng',hr1,_⟩;obtain ⟨hown,hblk⟩:=hr1 hret;refine ⟨x,rfl,fun m=>if d'=m then x else γ m,?_,?_⟩
     ·refine Rel.new h [] d' (hd9 d' rfl) (.row true p.e false [.z] []) x (Keep.grown hgrow (fun g hg'=>by simp [CC] at hg')) (fun b hb=>⟨(hown.lt b hb).2,?_⟩) (fun O' hO hcmp=>?_)
      ·rcases hblk b hb with h1 | h1
       ·simp [CC] at h1
       ·exact .inl h1
      ·simp only [ObRel];exact ⟨by simp,by simp,MU [],OwnRow.of hown he6,fun i y hy=>pP hrng' i y hy⟩
     ·simp only [St.ups,St.up,VRel,EI,CP];refine ⟨AZ _,?_⟩;rcases hown.2 with ⟨h6,h7⟩ | ⟨g,cap',cur,h6,_,_,h8,h9,_⟩
      ·refine ⟨none,0,0,none,h6,?_,B5 _,by omega,AZ _,by simp [maxLen],.inr rfl,fun _=>rfl⟩;rw [h6]
      ·refine ⟨some ⟨g,0,none⟩,0,cap',some ⟨g,0,none⟩,h6,by rw [h6]; simp,B5 _,AZ _,B5 _,h9,.inl ?_,fun _=>rfl⟩;simp [Addr.add]
    ·rename_i hret;simp only [T.get,AC,AU] at he;obtain ⟨rfl,rfl⟩:=he;refine hdoes.mono ?_;rintro e w' ⟨x,rfl,hgrow,_,_,_⟩;refine ⟨x,rfl,γ,Rel.world h (Keep.grown hgrow (fun g hg'=>by simp [CC] at hg')),by simp only [VRel]⟩
    ·simp [T.get] at he
   ·simp [T.get] at he
  ·simp [T.get] at he
 ·simp [T.get] at he
def SpOK (P:Program) (B:BT) (E:Env) (w0:World) (X:Zone):Prop:=GX B w0 X∧(∀ f sp,lk E.sp f=some sp→Snd P B f (fun vs=>(sp vs).get))∧∀ f p,lk E.ip f=some p→SJ P f p
theorem SpOK.get (h:SpOK P B E w0 X) (f:FuncId):Snd P B f (fun vs=>(E7 (fun _=>R.no) E.sp f vs).get):=by
 rw [Z2];cases hf:lk E.sp f with
 | none=>
  intro w X γ vs xs r out hsp;simp [R.get] at hsp
 | some sp=>exact h.2.1 f sp hf
theorem k8 (h:Rel B nt w0 X γ st a w):∀ l:List Operand,VRels γ st.o w (DR X γ st.o) (J7 (opd st) l) (l.map a.eval)
 | []=>by simp only [J7,CA,VRels]
 | x :: r=>by
  simp only [J7,A0,VRels];exact ⟨GD h x,k8 h r⟩
theorem rH (o:Oper) {f:FuncId} {xs:List Value} {v:V} {us:List Upd} (hr:(execOp a.eval o).run P w=(callFunc f xs.toArray).run P w)
  (hd:Does P f xs w fun e w'=>∃ x,e = .returned x∧∃ γ',Rel B nt w0 X γ' (st.ups us) a w'∧VRel γ' (st.ups us).o w' (DR X γ' (st.ups us).o) v x):OpWp P B nt w0 X a w o st v us:=by
 intro K Q hK;unfold Oper.wp;rw [hr];unfold Does at hd;split at hd
 ·rename_i g args w' hc;rw [hc,Oper.upon_enter];refine hd.mono ?_;rintro e w'' ⟨x,rfl,γ',h1,h2⟩;exact hK γ' x w'' h1 h2
 ·rename_i x w' hc;rw [hc,Oper.upon_value];obtain ⟨x',he,γ',h1,h2⟩:=hd;cases he;exact hK γ' x w' h1 h2
 ·rename_i row args w' hc;rw [hc,Oper.upon_row];refine Rows.mono hd ?_;rintro x w'' ⟨x',he,γ',h1,h2⟩;cases he;exact hK γ' x w'' h1 h2
 ·exact hd.elim
theorem zfA (hT:TiOK P B E) (hSp:SpOK P B E w0 X) (h:Rel B nt w0 X γ st a w) (o:Oper) (hd9:∀ d,o.dst=some d→d≠900000) {c:Call} (ho:o.op = .call c) {v:V} {us:List Upd}
  (he:(EF E st.o (opd st) o.dst o.op).get=some (v,us)):OpWp P B nt w0 X a w o st v us:=by
 obtain ⟨callee,args,ats⟩:=c;cases callee with
 | builtin b=>exact zfz hT h o hd9 ho he
 | invoke recv name=>
  rw [ho] at he;simp only [EF,S1] at he;simp [T.get] at he
 | value x=>
  rw [ho] at he;obtain ⟨args⟩:=args;have clo:∀ (x:Operand),o.op = .call ⟨.value x,⟨args⟩,ats⟩→∀ d,o.dst=some d→(match opd st x with
    | .clo f caps=>match XB caps with
     | true=>U2 st.o d (mO E ats.toList) (E7 (fun _=>R.no) E.sp f) (J7 (opd st) args++caps)
     | false=>.no
    | _=>.no).get=some (v,us)→OpWp P B nt w0 X a w o st v us:=by
   intro x ho d hd he;split at he
   ·rename_i f caps hclo;split at he
    case h_2=>simp [T.get] at he
    have hx:=GD h x;rw [hclo] at hx;simp only [VRel] at hx;obtain ⟨cs,hx1,hx2⟩:=hx;have hrel:=zM h hSp.1 (hSp.get f) ((k8 h args).append hx2) (hd9 d hd) he;refine rH o (xs:=args.map a.eval++cs.toList) ?_ hrel;obtain ⟨dst,op,type,pos,after,guard⟩:=o;simp only at ho;subst ho
    have:execOp a.eval { dst,op:=.call { callee:=.value x,args:=⟨args⟩,argTypes:=ats },type,pos,after,guard }=(do let d ← Deferred.ofValue (a.eval x) ((⟨args⟩:Array Operand).map a.eval); invoke d.target d.args):=rfl
    rw [this,hx1];have hla:(args.map a.eval).toArray++cs=(args.map a.eval++cs.toList).toArray:=by
     apply Array.ext';simp
    simp [Deferred.ofValue,invoke,hla]
   ·simp [T.get] at he
  cases x with
  | func f=>
   simp only [EF,S1,nU] at he;have hrun:∀ {f:Nat},o.op = .call ⟨.value (.func f),⟨args⟩,ats⟩→(execOp a.eval o).run P w=(callFunc f (args.map a.eval).toArray).run P w:=fun {f} ho=>by
    obtain ⟨dst,op,type,pos,after,guard⟩:=o;simp only at ho;subst ho
    have:execOp a.eval { dst,op:=.call { callee:=.value (.func f),args:=⟨args⟩,argTypes:=ats },type,pos,after,guard }=callFunc f (#[]++(⟨args⟩:Array Operand).map a.eval++#[]):=rfl
    rw [this];simp
   split at he
   ·rename_i p hp;exact rH o (xs:=args.map a.eval) (hrun ho) (zcy h (hSp.2.2 f p hp) (k8 h args) hd9 he)
   ·split at he
    ·rename_i d hd;exact rH o (xs:=args.map a.eval) (hrun ho) (zM h hSp.1 (hSp.get f) (k8 h args) (hd9 d hd) he)
    ·simp [T.get] at he
  | tmp t=>
   simp only [EF,S1] at he;cases hd:o.dst with
   | none=>rw [hd] at he; simp [T.get] at he
   | some d=>rw [hd] at he; exact clo _ ho d hd he
  | const t=>
   simp only [EF,S1] at he;cases hd:o.dst with
   | none=>rw [hd] at he; simp [T.get] at he
   | some d=>rw [hd] at he; exact clo _ ho d hd he
  | global t=>
   simp only [EF,S1] at he;cases hd:o.dst with
   | none=>rw [hd] at he; simp [T.get] at he
   | some d=>rw [hd] at he; exact clo _ ho d hd he
theorem zfC (hT:TiOK P B E) (h:Rel B nt w0 X γ st a w) (o:Oper) (hd9:∀ d,o.dst=some d→d≠900000) {s t:Nat} {x:Operand} (ho:o.op = .convert s t x) {v:V} {u:Upd} {us:List Upd}
  (he:(EF E st.o (opd st) o.dst o.op).get=some (v,u :: us)):OpWp P B nt w0 X a w o st v (u :: us):=by
 have hx:=GD h x;rw [ho] at he;simp only [EF] at he;split at he
 ·split at he
  ·simp [T.get] at he
  ·simp [T.get] at he
 ·rename_i b hop;rw [hop] at hx;simp only [VRel] at hx;split at he
  ·simp [T.get] at he
  ·rename_i e k1 kss hd hks hkss;split at he
   ·rename_i d hdst hde hkse;simp only [T.get,AC,AU,vas] at he;obtain ⟨rfl,rfl,rfl⟩:=he;have hu1:=VQ hT hd;obtain ⟨d',hd1',_,_⟩:=(hT.kinds (t:=s) (by rw [hkss]; simp)).und;obtain ⟨d'',hd1'',_,hd2''⟩:=(hT.kinds (t:=e) (by rw [hkse]; simp)).und;rw [hde] at hd2'';obtain rfl:=hd2''.1 _ hkse;have hrun:(execOp a.eval o).run P w = .ok (.value (.slice (some ⟨w.heap.size,0,none⟩) b.size (grownCap w b.size 0 e))) (vaN w e b):=by
     unfold execOp;simp only [ho,hx.1,CM,Lib.run_convert_string_bytes w s t e b hd1' hu1 hd1'',CB,CN]
    have hsm:=mG;have hcg:=grownCap_ge w b.size 0 e;have hcm:grownCap w b.size 0 e≤maxLen:=grownCap_le_maxLen w b.size 0 e (C2 hx.2 hsm);have hcs:(Lib.bytesCells w e b).size=grownCap w b.size 0 e:=by
     have:b.data.size=b.size:=rfl
     simp only [Lib.bytesCells,Array.size_append,Array.size_map,Array.size_replicate,this];omega
    have hkp:Keep (fun _=>False) w (vaN w e b):=by
     refine ⟨?_,?_,?_,by rw [Lib.bytesWorld_size]; omega,fun j hj _=>Lib.bytesWorld_at_old w e b j hj⟩
     ·simp [vaN,World.freeze]; rfl
     ·simp [vaN,World.freeze]
     ·simp [vaN,World.freeze]; rfl
    have hn:=Rel.new h [] d (hd9 d hdst) (.row true (e+1000000) false [.int .u8] (b.data.toList.map fun b=>.int (b.toNat:Int))) (.slice (some ⟨w.heap.size,0,none⟩) b.size (grownCap w b.size 0 e)) (w':=vaN w e b) (hkp.mono (fun _ _ h=>h.elim))
     (by
      intro b1 hb;simp only [FF,CC,AC] at hb;subst hb;rw [Lib.bytesWorld_size];exact ⟨by omega,.inl (AZ _)⟩)
     (by
      intro O' hO hcmp;simp only [ObRel];have hln:(b.data.toList.map fun b=>IV.int (b.toNat:Int)).length=b.size:=by simp
      refine ⟨by simp,by rw [hln]; exact hx.2,b.data.toList.map fun b=>.int .u8 b.toNat,?_,fun i y hy=>?_⟩
      ·rw [hln];refine ⟨by simp,.inr ⟨w.heap.size,grownCap w b.size 0 e,_,_,_,rfl,Lib.bytesWorld_at_new w e b,hcg,hcm,by rw [hcs]; simp,?_,.inr ⟨by omega,AZ _⟩⟩⟩;simp only [Lib.bytesCells,vah,AM,A7];rw [List.take_append_of_le_length (by simp)];rw [CV (by simp)];simp
      ·rw [B9] at hy;cases hbi:b.data.toList[i]? with
       | none=>rw [hbi] at hy; cases hy
       | some c=>
        rw [hbi] at hy;simp only [vat,AC] at hy;subst hy;simp only [Kd.RelAll,GB,Kd.Rel,IV.toInt,AM,A7];refine ⟨⟨.int .u8 c.toNat,by simp [hbi],rfl,?_,?_⟩,trivial⟩
        ·simp [IntKind.min,vai]
        ·have:=c.toNat_lt
         simp [IntKind.max,vai,AR];omega)
    refine OpWp.value hrun hn ?_;simp only [St.ups,VRel,GT,CP];refine ⟨by simp,some ⟨w.heap.size,0,none⟩,b.size,grownCap w b.size 0 e,some ⟨w.heap.size,0,none⟩,rfl,by simp,B5 _,AZ _,hcg,hcm,.inl ?_,fun _=>rfl⟩;simp [Addr.add]
   ·simp [T.get] at he
  ·simp [T.get] at he
 ·split at he
  ·split at he
   ·simp [T.get] at he
   ·simp [T.get] at he
  ·simp [T.get] at he
def BldOK (P:Program) (B:BT) (E:Env):Prop:=(E.tyd B.T).d = .bld→∃ i,P.info? B.T=some i∧i.zero=some (.agg #[.pointer none,.slice none 0 0])
theorem Gb (hT:TiOK P B E) (hE:∀ t,t∈E.eqs→EqSnd P t (E.tyd t).ks) (hSp:SpOK P B E w0 X) (hB:BldOK P B E) (h:Rel B nt w0 X γ st a w) (o:Oper) (hd9:∀ d,o.dst=some d→d≠900000) {v:V} {us:List Upd}
  (he:(EF E st.o (opd st) o.dst o.op).get=some (v,us)):OpWp P B nt w0 X a w o st v us:=by
 cases ho:o.op with
 | move x=>exact Ga h o (.inl ho) he
 | assign x=>exact Ga h o (.inr ho) he
 | pick c x y=>exact zfM h o ho he
 | alloc t=>exact zfu hT h o hd9 ho hB he
 | box t x=>exact zfw h o hd9 ho he
 | build t parts=>exact zfx hT h o ho he
 | buildSlice t len parts=>exact zfy hT h o hd9 ho he
 | load t x=>exact zfI hT h o ho he
 | store t p x=>exact zfO hT h o ho he
 | nilCheck x=>exact zfL h o ho he
 | binOp op t x y t'=>exact zfv hT hE h o ho he
 | unOp op t x=>exact zfP h o ho he
 | convert s t x=>
  cases us with
  | nil=>exact zfB hT h o ho he
  | cons u us=>exact zfC hT h o hd9 ho he
 | makeFunc f first caps=>exact zfJ h o ho he
 | makeSlice t n m=>exact zfK hT h o hd9 ho he
 | slice t x lo hi mx=>exact zfN hT h o ho he
 | fieldAddr s x f=>exact zfF hT h o ho he
 | field t x f=>exact zfE hT h o ho he
 | indexAddr t x ix=>exact zfH hT h o ho he
 | index t x ix=>exact zfG hT h o ho he
 | extract x i=>exact zfD h o ho he
 | call c=>exact zfA hT hSp h o hd9 ho he
 | _=>rw [ho] at he; simp [EF,T.get] at he
end
open Go Go.RowKit
theorem gI:∀ {l:List V} {n:Nat},n∈FK l→n∈FC.go l
 | v :: r,n,h=>by
  simp only [FK,AX] at h;rcases h with h | h
  ·cases v <;> simp only [EV] at h <;> first | (cases h; done) | (simp only [FC.go,AX]; exact .inl h)
  ·cases v <;> simp only [FC.go,AX] <;> exact .inr (gI h)
def Agree (o o':Store) (l:List Nat):Prop:=∀ n∈l,DM o' n=DM o n
theorem Agree.left {o o':Store} {l l':List Nat} (h:Agree o o' (l++l')):Agree o o' l:=fun n hn=>h n (vaJ _ hn)
theorem Agree.right {o o':Store} {l l':List Nat} (h:Agree o o' (l++l')):Agree o o' l':=fun n hn=>h n (vaG _ hn)
theorem Fv {o o':Store} {v:V} (h:Agree o o' (EV v)):LK o' v=LK o v:=by
 cases v <;> simp only [LK]
 all_goals rw [h _ (by simp [EV])]
theorem rB {o o':Store} {v:V} (h:Agree o o' (EV v)):RX o' v=RX o v:=by
 cases v <;> simp only [RX] <;> exact Fv h
theorem q9 {o o':Store}:∀ {l:List V},Agree o o' (FK l)→TJ o' l=TJ o l
 | [],_=>rfl
 | v :: r,h=>by simp only [TJ,Fv h.left,q9 (l:=r) h.right]
theorem Av {o o':Store} {v:V} (h:Agree o o' (EV v)):S7 o' v=S7 o v:=by
 cases v <;> simp only [S7]
 rw [h _ (by simp [EV])]
theorem Jz {o o':Store} {v:V} (h:Agree o o' (EV v)):QP o' v=QP o v:=by
 cases v <;> simp only [QP]
 rw [h _ (by simp [EV])]
theorem zcP {o o':Store} {k:Kd} {v:V} (h:Agree o o' (EV v)):RN o' k v=RN o k v:=by
 cases k <;> cases v <;> simp only [RN]
 rw [h _ (by simp [EV])]
theorem fJ {o o':Store}:∀ {ks:List Kd} {l:List V},Agree o o' (FK l)→KJ o' ks l=KJ o ks l
 | [],[],_=>rfl
 | [],_ :: _,_=>rfl
 | _ :: _,[],_=>rfl
 | k :: ks,v :: r,h=>by simp only [KJ,zcP h.left,fJ (l:=r) h.right]
theorem R0 {v:V} {n:Nat} (h:n∈EV v):n∈FC v:=by
 cases v <;> simp only [EV] at h <;> first | exact h | cases h
theorem Xh {o o':Store} {ag:Bool} {ks:List Kd} {v:V} (h:Agree o o' (FC v)):P9 o' ag ks v=P9 o ag ks v:=by
 cases ag with
 | false=>
  simp only [P9];rw [fJ (o:=o) (o':=o') (fun n hn=>h n (R0 (by simpa [FK] using hn)))]
 | true=>
  cases v <;> simp only [P9]
  rw [fJ h]
theorem Ie:∀ (a b:List V),FK (a++b)=FK a++FK b
 | [],b=>rfl
 | v :: r,b=>by simp [FK,Ie r b]
theorem Ig {l:List V} {v:V} {n:Nat} (hv:v∈l) (hn:n∈EV v):n∈FK l:=by
 induction l with
 | nil=>cases hv
 | cons u r ih=>
  simp only [FK,AX];rcases AO.1 hv with h | h
  ·subst h; exact .inl hn
  ·exact .inr (ih h)
theorem sK {l l':List V} (h:∀ v∈l,v∈l') {n:Nat} (hn:n∈FK l):n∈FK l':=by
 induction l with
 | nil=>simp [FK] at hn
 | cons u r ih=>
  simp only [FK,AX] at hn;rcases hn with hn | hn
  ·exact Ig (h u (AN ..)) hn
  ·exact ih (fun v hv=>h v (AY _ hv)) hn
theorem jC {o o':Store} {ag:Bool} {ks:List Kd} {sz:Nat}:∀ {n:Nat} {cs:List V},Agree o o' (FK cs)→NK ag ks o' cs sz n=NK ag ks o cs sz n
 | 0,cs,_=>rfl
 | n+1,cs,h=>by
  simp only [NK];rw [jC (n:=n) (cs:=MW cs sz) (fun m hm=>h m (by rw [RH] at hm; exact sK (fun v hv=>va5 hv) hm))];cases ag with
  | true=>
   rw [Xh];intro m hm;simp only [FC,YG] at hm;exact h m (sK (fun v hv=>vaI hv) hm)
  | false=>
   simp only [P9];rw [fJ (o:=o) (o':=o')];intro m hm;rw [fU] at hm;cases hc:cs[0]? with
   | none=>rw [hc] at hm; simp [FK,EV] at hm
   | some u=>
    rw [hc] at hm;simp only [vad,FK,DB] at hm;exact h m (Ig (vag hc) hm)
theorem X8 {l:List V} {n:Nat} (h:n∈EY l):n∈FK l:=by
 induction l with
 | nil=>simp [EY] at h
 | cons v r ih=>
  simp only [FK,AX];cases v <;> simp only [EY,AO] at h <;> first | exact .inr (ih h) | skip
  rcases h with h | h
  ·exact .inl (by simp [EV,h])
  ·exact .inr (ih h)
theorem e9 {o o':Store}:∀ {l:List Nat},Agree o o' l→EN o' l=EN o l
 | [],_=>rfl
 | n :: r,h=>by
  simp only [EN];rw [h n (AN ..),e9 (l:=r) (fun m hm=>h m (AY _ hm))]
theorem o7 {o o':Store} {place:Nat→Option (Nat × Nat)}:∀ {cs:List V} {l:List (Nat × V)},(∀ i v,(i,v)∈l→Agree o o' (FC v))→L5 o' place cs l=L5 o place cs l
 | cs,[],_=>rfl
 | cs,(i,v) :: r,h=>by
  simp only [L5];have h1:RX o' v=RX o v:=rB (fun n hn=>h i v (AN ..) n (R0 hn));rw [h1];split
  ·split
   ·exact o7 (fun i v hv=>h i v (AY _ hv))
   ·rfl
  ·rfl
theorem iS {o o':Store} {d e:Nat} {ag:Bool} {ks:List Kd} {bytes:Nat} {s:V} {l:LI} (h:Agree o o' (EV s)):O5 o' d e ag ks bytes s l=O5 o d e ag ks bytes s l:=by
 cases s <;> simp only [O5]
 rw [h _ (by simp [EV])]
theorem XH {o:Store} {n m:Nat} {cs:List V}:∀ {l:List Nat},n∈l→DM o n=some (.box cs)→m∈FK cs→m∈KY o l
 | x :: r,hn,ho,hm=>by
  simp only [KY];rcases AO.1 hn with h | h
  ·subst h;rw [ho];exact vaJ _ hm
  ·have:=XH h ho hm
   split
   ·exact vaG _ this
   ·exact this
theorem Tz {o o':Store} {d et:Nat} {e:TI} {tk:List Kd} {s x:V} (h:Agree o o' (EV s)):Y6 o' d et e tk s x=Y6 o d et e tk s x:=by
 unfold Y6;simp only [iS h]
theorem Tx {o o':Store} {d et:Nat} {e:TI} {s x:V} (h:Agree o o' (EV s)) (h':Agree o o' (EV x++KY o (EV x))):W4 o' d et e s x=W4 o d et e s x:=by
 have gen:(match S7 o' x,QP o' x with
   | some l,some (ag,ks)=>match JG (.list e.agg e.ks) (.list ag ks) with
    | true=>O5 o' d et e.agg e.ks e.bytes s l
    | false=>.no
   | _,_=>.no)=(match S7 o x,QP o x with
   | some l,some (ag,ks)=>match JG (.list e.agg e.ks) (.list ag ks) with
    | true=>O5 o d et e.agg e.ks e.bytes s l
    | false=>.no
   | _,_=>.no):=by
  simp only [Av h'.left,Jz h'.left,iS h]
 cases x
 case bview n c cap sz len=>
  simp only [W4];rw [h' n (by simp [EV])];split
  ·rename_i cs ho;simp only [iS h];split
   ·congr 1
    funext m
    rw [jC (o:=o) (o':=o')];intro k hk;rw [RH] at hk;exact h' k (vaG _ (XH (by simp [EV]) ho (sK (fun v hv=>va5 hv) hk)))
   ·rfl
  ·rfl
 case zs=>simp only [W4,iS h]
 all_goals exact gen
theorem iT {o o':Store} {bs:List V} {tk:Option Kd} {v:V} (h:Agree o o' (EV v)):EU o' bs tk v=EU o bs tk v:=by
 cases v <;> simp only [EU]
 all_goals rw [h _ (by simp [EV])]
theorem qF {o o':Store} {bs:List V}:∀ {l:List V} {ks:List Kd},Agree o o' (FK l)→MA (fun k v=>J8 (EU o' bs k v)) ks l=MA (fun k v=>J8 (EU o bs k v)) ks l
 | [],ks,_=>by cases ks <;> rfl
 | v :: l,[],h=>by simp only [MA,iT h.left,qF (l:=l) h.right]
 | v :: l,k :: ks,h=>by simp only [MA,iT h.left,qF (l:=l) h.right]
theorem Ed {o o':Store} {bs:List V} {tk:Option Kd}:∀ {l:List V},Agree o o' (FK l)→l.map (EU o' bs tk)=l.map (EU o bs tk)
 | [],_=>rfl
 | v :: l,h=>by simp only [A0,iT h.left,Ed (l:=l) h.right]
theorem v7 {o o':Store} {bs:List V} {ks:List Kd} {v:V} (h:Agree o o' (FC v)):LX o' bs ks v=LX o bs ks v:=by
 by_cases ha:∃ l,v = .agg l
 ·obtain ⟨l,rfl⟩:=ha;simp only [LX,qF (o:=o) (o':=o') h]
 by_cases hc:∃ f l,v = .clo f l
 ·obtain ⟨f,l,rfl⟩:=hc;simp only [LX,Ed (o:=o) (o':=o') (l:=l) (fun n hn=>h n (gI hn))]
 have h1:∀ o,LX o bs ks v=EU o bs ks.head? v:=by
  intro o;cases v <;> first | rfl | exact absurd ⟨_,rfl⟩ ha | exact absurd ⟨_,_,rfl⟩ hc
 rw [h1,h1];exact iT (fun n hn=>h n (R0 hn))
theorem nI {o o':Store} {bs:List V}:∀ {l:List V} {tks:List (List Kd)},Agree o o' (HC l)→GI o' bs tks l=GI o bs tks l
 | [],tks,_=>by cases tks <;> rfl
 | v :: l,[],h=>by simp only [GI,v7 h.left,nI (l:=l) h.right]
 | v :: l,t :: ts,h=>by simp only [GI,v7 h.left,nI (l:=l) h.right]
theorem Vt {o o':Store} {all:List Nat} {v:V} (h:Agree o o' (EV v)):FL o' all v=FL o all v:=by
 cases v <;> simp only [FL]
 rw [h _ (by simp [EV])]
theorem Ee {o o':Store} {all:List Nat}:∀ {l:List V},Agree o o' (FK l)→l.map (FL o' all)=l.map (FL o all)
 | [],_=>rfl
 | v :: l,h=>by simp only [A0,Vt h.left,Ee (l:=l) h.right]
theorem Cf {o o':Store} {all:List Nat}:∀ {l:List V},Agree o o' (FK l)→G6 o' all l=G6 o all l
 | [],_=>rfl
 | v :: l,h=>by
  have ih:=Cf (all:=all) (l:=l) h.right;cases v <;> simp only [G6,ih]
  rw [h.left _ (by simp [EV])]
theorem Ka {o o':Store} {all:List Nat}:∀ {l:List V},Agree o o' (FK l)→H4 o' all l=H4 o all l
 | [],_=>rfl
 | v :: l,h=>by
  have ih:=Ka (all:=all) (l:=l) h.right;cases v <;> simp only [H4,ih]
  rw [h.left _ (by simp [EV])]
theorem zjB {v:V} {n:Nat} (h:n∈K7 v):n∈FC v:=by
 cases v <;> simp only [K7] at h <;> try (cases h; done)
 case row=>simpa [FC,EV] using h
 case agg=>exact X8 h
 case clo=>exact gI (X8 h)
 case tup l=>
  simp only [FC]
  induction l with
  | nil=>simp [K7.go] at h
  | cons v r ih=>
   cases v <;> simp only [K7.go,FC.go,AO,AX] at h ⊢ <;> first | exact .inr (ih h) | skip
   ·rcases h with h | h
    ·exact .inl (by simp [EV,h])
    ·exact .inr (ih h)
   ·rcases h with h | h
    ·exact .inl (X8 h)
    ·exact .inr (ih h)
theorem u9:∀ {l:List V} {n:Nat},n∈EW l→n∈HC l
 | v :: l,n,h=>by
  simp only [EW,HC,AX] at h ⊢;exact h.imp zjB u9
theorem fK:∀ {l:List V} {n:Nat},n∈FV l→n∈HC l
 | v :: l,n,h=>by
  simp only [HC,AX];cases v <;> simp only [FV,AO,AX] at h <;> first | exact .inr (fK h) | skip
  ·rcases h with h | h
   ·exact .inl (by simp [FC,EV,h])
   ·exact .inr (fK h)
  ·rename_i f caps;rcases h with h | h
   ·refine .inl ?_;simp only [FC];refine gI ?_;clear fK
    induction caps with
    | nil=>simp [FV.lentC] at h
    | cons v r ih=>
     simp only [FK,AX];cases v <;> simp only [FV.lentC,AO] at h <;> first | exact .inr (ih h) | skip
     rcases h with h | h
     ·exact .inl (by simp [EV,h])
     ·exact .inr (ih h)
   ·exact .inr (fK h)
theorem zL {o o':Store} {d:Nat} {tks:List (List Kd)} {sp:DV} {vs:List V} (h:Agree o o' (HC vs++KY o (HC vs))):U2 o' d tks sp vs=U2 o d tks sp vs:=by
 have hA:∀ bs,GI o' bs tks vs=GI o bs tks vs:=fun bs=>nI h.left
 have hF:∀ l,(∀ n∈l,n∈HC vs++KY o (HC vs))→EN o' l=EN o l:=fun l hl=>e9 (fun n hn=>h n (hl n hn))
 have hFv:EN o' (EW vs)=EN o (EW vs):=hF _ (fun n hn=>vaJ _ (u9 hn));have hF0:EN o' []=EN o []:=rfl;have hPl:d6 o' d vs=d6 o d vs:=by
  funext v out
  unfold d6;split
  ·split
   ·rename_i cs;cases IG cs <;> simp only [hFv,hF0]
   ·simp only [hFv]
   ·cases IK v <;> simp only [hFv,hF0]
  ·rfl
 unfold U2;simp only [hA,hPl];split
 ·rfl
 ·rename_i n hl;have hn:n∈HC vs:=fK (by rw [hl]; exact AN ..);rw [h n (vaJ _ hn)];split
  ·rename_i cs ho;have hcs:Agree o o' (FK cs):=fun m hm=>h m (vaG _ (XH hn ho hm))
   have hsh:∀ m∈H4 o (EY cs++EW vs) cs,m∈HC vs++KY o (HC vs):=by
    intro m hm;obtain ⟨lo,hi,_,_,_,_,_,h1,_⟩:=lS hm;exact vaG _ (XH hn ho (X8 (XU h1)))
   have hBx:dZ o' d n cs vs=dZ o d n cs vs:=by
    funext v outs
    unfold dZ;rw [Cf hcs,Ka hcs];split
    ·rename_i out;have h1:EN o' (H4 o (EY cs++EW vs) cs++EW vs)=EN o (H4 o (EY cs++EW vs) cs++EW vs):=hF _ (fun m hm=>(AX.1 hm).elim (hsh m) (fun hm=>vaJ _ (u9 hm)));have h2:EN o' (H4 o (EY cs++EW vs) cs++[])=EN o (H4 o (EY cs++EW vs) cs++[]):=hF _ (fun m hm=>hsh m (by simpa using hm));cases (IK v||IG out) <;> simp only [h1,h2]
    ·rfl
   rw [Ee hcs,hBx]
  ·have hBd:dY o' n vs=dY o n vs:=by
    funext v outs
    unfold dY;split
    ·cases IK v <;> simp only [hFv,hF0]
    ·rfl
   rw [hBd]
  ·rfl
 ·rfl
theorem Ct {o o':Store} {l:List V} (h:Agree o o' (HC l)):XN o' l=XN o l:=by
 unfold XN;split
 ·rfl
 ·rename_i f m i c;rw [h m (by simp [HC,FC,FC.go,EV])]
 ·rfl
theorem zcx {o o':Store} {d:Option Nat} {p:Ip} {vs:List V} (h:Agree o o' (HC vs)):ZV o' d p vs=ZV o d p vs:=by
 unfold ZV;split
 ·rename_i n lo hi rest;rw [h n (by simp [HC,FC,EV]),Ct (fun k hk=>h k (by simp only [HC,AX]; exact .inr hk))]
 ·rename_i rest;rw [Ct (fun k hk=>h k (by simp only [HC,AX]; exact .inr hk))]
 ·rfl
theorem sC:∀ (cs:List V) (n:Nat) (vs:List V) {m:Nat},m∈FK (G4 cs n vs)→m∈FK cs∨m∈FK vs
 | cs,n,[],m,h=>by cases cs <;> cases n <;> exact .inl h
 | [],n,v :: vs,m,h=>by cases n <;> simp [G4,FK] at h
 | c :: r,0,v :: vs,m,h=>by
  simp only [G4,FK,AX] at h ⊢;rcases h with h | h
  ·exact .inr (.inl h)
  ·rcases sC r 0 vs h with h | h
   ·exact .inl (.inr h)
   ·exact .inr (.inr h)
 | c :: r,n+1,v :: vs,m,h=>by
  simp only [G4,FK,AX] at h ⊢;rcases h with h | h
  ·exact .inl (.inl h)
  ·rcases sC r n (v :: vs) h with h | h
   ·exact .inl (.inr h)
   ·exact .inr (by simpa [FK] using h)
theorem zS {v:V} {m:Nat} (h:m∈FK (cells v)):m∈FC v:=by
 by_cases ha:∃ l,v = .agg l
 ·obtain ⟨l,rfl⟩:=ha;exact h
 ·have:cells v=[v]:=by cases v <;> first | rfl | exact absurd ⟨_,rfl⟩ ha
  rw [this] at h;exact R0 (by simpa [FK] using h)
theorem aF {l:List V} {v:V} {n:Nat} (hv:v∈l) (hn:n∈FC v):n∈HC l:=by
 induction l with
 | nil=>cases hv
 | cons u r ih=>
  simp only [HC,AX];rcases AO.1 hv with h | h
  ·subst h; exact .inl hn
  ·exact .inr (ih h)
theorem Bn {o:Store} {place:Nat→Option (Nat × Nat)}:∀ {l:List (Nat × V)} {cs cs':List V},L5 o place cs l=some cs'→∀ m∈FK cs',m∈FK cs∨∃ i v,(i,v)∈l∧m∈FC v
 | [],cs,cs',h,m,hm=>by
  simp only [L5,AC] at h;subst h;exact .inl hm
 | (i,v) :: r,cs,cs',h,m,hm=>by
  simp only [L5] at h;split at h
  ·split at h
   ·rcases Bn h m hm with h1 | ⟨j,u,h1,h2⟩
    ·rcases sC _ _ _ h1 with h2 | h2
     ·exact .inl h2
     ·exact .inr ⟨i,v,AN ..,zS h2⟩
    ·exact .inr ⟨j,u,AY _ h1,h2⟩
   ·cases h
  ·cases h
theorem Io {z:List V}:∀ {n m:Nat},m∈FK (QM z n)→m∈FK z
 | 0,m,h=>by simp [QM,FK] at h
 | n+1,m,h=>by
  simp only [QM,Ie,AX] at h;exact h.elim id (Io (n:=n))
theorem rG (ρ:Operand→V):∀ {l:List (Nat × Operand)} {i:Nat} {v:V},(i,v)∈LL ρ l→v∈(l.map (·.2)).map ρ
 | (j,x) :: r,i,v,h=>by
  simp only [LL,AO,AU] at h;simp only [A0,AO];rcases h with ⟨_,rfl⟩ | h
  ·exact .inl rfl
  ·exact .inr (rG ρ h)
theorem Ih:∀ {l:List V} {n:Nat},n∈HC l→∃ v∈l,n∈FC v
 | v :: r,n,h=>by
  simp only [HC,AX] at h;rcases h with h | h
  ·exact ⟨v,AN ..,h⟩
  ·obtain ⟨u,h1,h2⟩:=Ih h;exact ⟨u,AY _ h1,h2⟩
theorem oN {o:Store} {m:Nat}:∀ {l:List Nat},m∈KY o l→∃ n∈l,∃ cs,DM o n=some (.box cs)∧m∈FK cs
 | n :: r,h=>by
  simp only [KY] at h;split at h
  ·rename_i cs ho;rcases AX.1 h with h | h
   ·exact ⟨n,AN ..,cs,ho,h⟩
   ·obtain ⟨k,h1,h2⟩:=oN h;exact ⟨k,AY _ h1,h2⟩
  ·obtain ⟨k,h1,h2⟩:=oN h;exact ⟨k,AY _ h1,h2⟩
theorem Ao {o:Store} {l l':List Nat} (hs:∀ k∈l,k∈l') {n:Nat} (h:n∈KY o l):n∈KY o l':=by
 obtain ⟨k,h1,cs,h2,h3⟩:=oN h;exact XH (hs k h1) h2 h3
theorem zO {v:V} {n:Nat}:∀ {l:List V},XB l=true→v∈l→n∈FC v→n∈FC.go l
 | u :: r,hok,hv,hn=>by
  rcases AO.1 hv with h | h
  ·subst h;cases v <;> simp only [XB] at hok <;> first | (cases hok; done) | (simp only [FC,EV] at hn; simp only [FC.go,EV,AX]; first | exact .inl hn | (cases hn; done))
  ·have hr:XB r=true:=by cases u <;> simp only [XB] at hok <;> first | exact hok | (cases hok; done)
   have:=zO hr h hn
   cases u <;> simp only [FC.go,AX] <;> exact .inr this
theorem Bf {E:Env} {o o':Store} {ρ:Operand→V} {d:Option Nat} {op:Op} (h:Agree o o' (NX E o ρ op)):EF E o' ρ d op=EF E o ρ d op:=by
 cases hq:Hw op with
 | true=>cases op <;> first | rfl | cases hq
 | false=>
 unfold NX at h;rw [hq] at h;replace h:Agree o o' (lF E o ρ op):=h;unfold lF at h;have hz:=h.left.right;have hd:=h.right;have hv:=h.left.left;clear h;have one:∀ {x:Operand} {n:Nat},x∈op.operands.toList→n∈FC (ρ x)→DM o' n=DM o n:=fun hx hn=>hv _ (aF (vaS hx) hn)
 have two:∀ {x:Operand} {n:Nat} {cs:List V},x∈op.operands.toList→n∈FC (ρ x)→DM o n=some (.box cs)→Agree o o' (FK cs):=fun hx hn ho m hm=>hd _ (XH (aF (vaS hx) hn) ho hm)
 cases op
 case box t x=>
  simp only [EF];rw [rB (fun n hn=>one (x:=x) (by simp [CU]) (R0 hn))]
 case build t parts=>
  have hp:∀ i v,(i,v)∈LL ρ parts.toList→Agree o o' (FC v):=fun i v hm n hn=>hv _ (aF (by have:=rG ρ hm; simpa [CU] using this) hn)
  simp only [EF,o7 hp]
 case buildSlice t len parts=>
  have hp:∀ i v,(i,v)∈LL ρ parts.toList→Agree o o' (FC v):=fun i v hm n hn=>hv _ (aF (by have:=rG ρ hm; simpa [CU] using this) hn)
  simp only [EF];split
  ·rename_i d e hd1;simp only [vM,hd1] at hz;rw [o7 hp];split
   ·rename_i cs hf;have hcs:Agree o o' (FK cs):=by
     intro m hm;rcases Bn hf m hm with h1 | ⟨i,v,h1,h2⟩
     ·exact hz m (Io h1)
     ·exact hp i v h1 m h2
    rw [jC hcs,e9 (fun m hm=>hcs m (X8 hm))]
   ·rfl
  ·rfl
 case load t x=>
  simp only [EF];split
  ·rename_i n i c hx;rw [one (x:=x) (by simp [CU]) (by rw [hx]; simp [FC,EV])]
  ·rfl
  ·rfl
 case nilCheck x=>
  simp only [EF];split
  ·rename_i n i c hx;rw [one (x:=x) (by simp [CU]) (by rw [hx]; simp [FC,EV])]
  ·rfl
 case fieldAddr s x f=>
  simp only [EF];split
  ·split
   ·split
    ·rename_i n i c hx;rw [one (x:=x) (by simp [CU]) (by rw [hx]; simp [FC,EV])]
    ·rfl
    ·rfl
   ·rfl
  ·rfl
 case binOp op t x y t'=>
  simp only [EF];unfold iX;split <;> try rfl
  rename_i n i c hx hy;rw [one (x:=x) (by simp [CU]) (by rw [hx]; simp [FC,EV])]
 case convert s t x=>
  simp only [EF];split <;> try rfl
  rw [Av (fun n hn=>one (x:=x) (by simp [CU]) (R0 hn)),Jz (fun n hn=>one (x:=x) (by simp [CU]) (R0 hn))]
 case slice t x lo hi mx=>
  simp only [EF];split <;> try rfl
  ·rename_i n a b hx;rw [one (x:=x) (by simp [CU]) (by rw [hx]; simp [FC,EV])]
  ·rename_i n a c hx;rw [one (x:=x) (by simp [CU]) (by rw [hx]; simp [FC,EV])]
 case indexAddr t x ix=>
  simp only [EF];split
  ·split
   ·rfl
   ·rename_i n lo hi hx;rw [one (x:=x) (by simp [CU]) (by rw [hx]; simp [FC,EV])]
   ·rename_i n c cap sz len hx;rw [one (x:=x) (by simp [CU]) (by rw [hx]; simp [FC,EV])]
   ·rfl
  ·split
   ·rename_i n i0 c hx;rw [one (x:=x) (by simp [CU]) (by rw [hx]; simp [FC,EV])]
   ·rfl
   ·rfl
  ·rfl
 case store t p x=>
  simp only [EF];have hx:Agree o o' (FC (ρ x)):=fun n hn=>one (x:=x) (by simp [CU]) hn
  have hc:Agree o o' (FK (cells (ρ x))):=fun n hn=>hx n (zS hn)
  unfold QS;split
  ·rename_i n i c hp;rw [one (x:=p) (by simp [CU]) (by rw [hp]; simp [FC,EV]),rB (fun n hn=>hx n (R0 hn)),q9 hc,e9 (fun m hm=>hc m (X8 hm))];simp only [fJ hc]
  ·rfl
 case makeSlice t n m=>
  simp only [EF];split
  ·rename_i d e k1 n1 k2 m1 hd1 _ _;simp only [vM,hd1] at hz;rw [jC hz];split
   ·rw [e9 (fun m hm=>hz m (X8 hm))]
   ·rfl
  ·rfl
 case call c=>
  obtain ⟨callee,args,ats⟩:=c;simp only [EF,S1];have hmem:∀ {x:Operand},x∈args.toList→x∈(Op.call ⟨callee,args,ats⟩).operands.toList:=fun {x} hx=>by
   simp only [CU,Call.operands,vah,AX];exact .inr hx
  have harg:∀ {x:Operand},x∈args.toList→Agree o o' (FC (ρ x)):=fun {x} hx n hn=>one (x:=x) (hmem hx) hn
  have hdp:∀ {x:Operand},x∈args.toList→Agree o o' (EV (ρ x)++KY o (EV (ρ x))):=fun {x} hx n hn=>by
   rcases AX.1 hn with hn | hn
   ·exact harg hx n (R0 hn)
   ·refine hd n (Ao (fun k hk=>aF (vaS (hmem hx)) (R0 hk)) hn)
  have hsub:∀ (l:List V),(∀ v∈l,∃ y∈(Op.call ⟨callee,args,ats⟩).operands.toList,∀ n∈FC v,n∈FC (ρ y))→Agree o o' (HC l++KY o (HC l)):=by
   intro l hl n hn;have h1:∀ k∈HC l,k∈HC ((Op.call ⟨callee,args,ats⟩).operands.toList.map ρ):=by
    intro k hk;obtain ⟨v,hv1,hv2⟩:=Ih hk;obtain ⟨y,hy1,hy2⟩:=hl v hv1;exact aF (vaS hy1) (hy2 k hv2)
   rcases AX.1 hn with hn | hn
   ·exact hv n (h1 n hn)
   ·exact hd n (Ao h1 hn)
  split
  ·split
   ·rename_i x t hx _;have hxm:x∈args.toList:=by rw [hx]; simp
    have:=hdp hxm
    unfold kK;split <;> try rfl
    ·rename_i n lo hi hr;rw [this.left n (by rw [hr]; simp [EV])]
    ·rename_i n c cap sz len hr;rw [this.left n (by rw [hr]; simp [EV])]
   ·rfl
  ·split
   ·rename_i s x t t' hx _;have hsm:s∈args.toList:=by rw [hx]; simp
    have hxm:x∈args.toList:=by rw [hx]; simp
    simp only [Tx (hdp hsm).left (hdp hxm),Tz (hdp hsm).left]
   ·rfl
  ·split
   ·rename_i x y t t' hx _;have hxm:x∈args.toList:=by rw [hx]; simp
    have hym:y∈args.toList:=by rw [hx]; simp
    unfold jG;split
    ·rename_i n c cap sz len n' c' cap' sz' len' h1 h2;rw [(hdp hxm).left n (by rw [h1]; simp [EV]),(hdp hym).left n' (by rw [h2]; simp [EV])];split
     ·rename_i cs cs' e ho ho' hde;rw [q9 (o:=o) (o':=o') (l:=cs') (fun m hm=>(hdp hym).right m (XH (by rw [h2]; simp [EV]) ho' hm))]
     ·rfl
    ·rfl
   ·rfl
  ·rfl
  ·rfl
  ·rename_i f d hcal;have hs:=hsub (args.toList.map ρ) (fun v hv=>by
    obtain ⟨y,hy,rfl⟩:=CJ.1 hv;exact ⟨y,hmem hy,fun n hn=>hn⟩)
   unfold nU;rw [fR];split
   ·rw [zcx hs.left]
   ·split
    ·rw [zL hs]
    ·rfl
  ·split
   ·rename_i f caps hx;split
    ·rename_i hok;rw [fR,zL (hsub _ (fun v hv=>by
      rcases AX.1 hv with hv | hv
      ·obtain ⟨y,hy,rfl⟩:=CJ.1 hv;exact ⟨y,hmem hy,fun n hn=>hn⟩
      ·refine ⟨_,by simp only [CU,Call.operands,vah,AX]; exact .inl (AN ..),fun n hn=>?_⟩;rw [hx];simp only [FC];exact zO hok hv hn))]
    ·rfl
   ·rfl
  ·rfl
 case makeFunc f a b=>cases f <;> rfl
 all_goals rfl
open Go Go.RowKit
theorem rE {ρ ρ':Operand→V}:∀ {l:List (Nat × Operand)},(∀ x∈l.map (·.2),ρ x=ρ' x)→LL ρ l=LL ρ' l
 | [],_=>rfl
 | (i,x) :: r,h=>by
  simp only [LL,h x (by simp),rE (l:=r) (fun y hy=>h y (AY _ hy))]
theorem qI {ρ ρ':Operand→V}:∀ {l:List Operand},(∀ x∈l,ρ x=ρ' x)→J7 ρ l=J7 ρ' l
 | [],_=>rfl
 | x :: r,h=>by simp only [J7,h x (AN ..),qI (l:=r) (fun y hy=>h y (AY _ hy))]
theorem Gd {ρ ρ':Operand→V} {x:Option Operand} (h:∀ y∈x.toArray.toList,ρ y=ρ' y):x.map ρ=x.map ρ':=by
 cases x with
 | none=>rfl
 | some x=>simp only [vat,h x (by simp)]
theorem Xr {E:Env} {o:Store} {ρ ρ':Operand→V} {d:Option Nat} {op:Op} (h:∀ x∈op.operands.toList,ρ x=ρ' x):EF E o ρ d op=EF E o ρ' d op:=by
 cases op
 case build t ps=>simp only [EF,rE (l:=ps.toList) (fun x hx=>h x (by simpa [CU] using hx))]
 case buildSlice t n ps=>simp only [EF,rE (l:=ps.toList) (fun x hx=>h x (by simpa [CU] using hx))]
 case makeFunc f first caps=>
  cases f <;> simp only [EF]
  rw [qI (l:=caps.toList) (fun x hx=>h x (by simp only [CU,vah,AX]; exact .inr hx))]
 case slice t x lo hi mx=>
  have h1:ρ x=ρ' x:=h x (by simp [CU]);have h2:lo.map ρ=lo.map ρ':=Gd (fun y hy=>h y (by simp only [CU,vah,AX]; exact .inl (.inl (.inr hy))));have h3:hi.map ρ=hi.map ρ':=Gd (fun y hy=>h y (by simp only [CU,vah,AX]; exact .inl (.inr hy)));simp only [EF,h1,h2,h3]
 case call c=>
  obtain ⟨callee,args,ats⟩:=c;have ha:∀ x∈args.toList,ρ x=ρ' x:=fun x hx=>h x (by simp only [CU,Call.operands,vah,AX]; exact .inr hx)
  have hm:J7 ρ args.toList=J7 ρ' args.toList:=qI ha;simp only [EF,S1];split
  ·split
   ·rename_i x t hx _;rw [ha x (by rw [hx]; simp)]
   ·rfl
  ·split
   ·rename_i s x t t' hx _;rw [ha s (by rw [hx]; simp),ha x (by rw [hx]; simp)]
   ·rfl
  ·split
   ·rename_i x y t t' hx _;rw [ha x (by rw [hx]; simp),ha y (by rw [hx]; simp)]
   ·rfl
  ·simp only [hm]
  ·simp only [hm]
  ·simp only [hm]
  ·rename_i x _ _;have hxx:ρ x=ρ' x:=h x (by simp [CU,Call.operands]);simp only [hm,hxx]
  ·rfl
 all_goals first
  | rfl
  | (simp only [CU] at h; simp only [EF]; simp (config:={decide:=false}) only [AO,BX,CO,forall_eq_or_imp,forall_eq] at h; simp only [h])
structure SEq (s s':St):Prop where
 t:∀ i,s.get i=s'.get i
 o:∀ n,DM s.o n=DM s'.o n
theorem SEq.refl (s:St):SEq s s:=⟨fun _=>rfl,fun _=>rfl⟩
theorem SEq.symm {s s':St} (h:SEq s s'):SEq s' s:=⟨fun i=>(h.t i).symm,fun n=>(h.o n).symm⟩
theorem SEq.trans {a b c:St} (h:SEq a b) (k:SEq b c):SEq a c:=⟨fun i=>(h.t i).trans (k.t i),fun n=>(h.o n).trans (k.o n)⟩
theorem SEq.opd {s s':St} (h:SEq s s'):opd s=opd s':=by
 funext x
 cases x <;> simp only [FM.opd,h.t]
theorem SEq.put {s s':St} (h:SEq s s') (d:Option Nat) (v:V):SEq (s.put d v) (s'.put d v):=by
 cases d with
 | none=>exact h
 | some d=>exact ⟨fun i=>by simp only [St.put,St.get,RO]; split <;> first | rfl | exact h.t i,h.o⟩
theorem zas (s:St) (d:Nat) (v:V) (i:Nat):(s.put (some d) v).get i=if d=i then v else s.get i:=by simp only [St.put,St.get,RO]
theorem SEq.up {s s':St} (h:SEq s s') (u:Upd):SEq (s.up u) (s'.up u):=by
 cases u with
 | new n ob=>exact ⟨fun i=>by rw [fC,fC,h.t],fun m=>by rw [GT,GT,h.o]⟩
 | set n ob=>exact ⟨h.t,fun m=>by simp only [St.up,EI,h.o]⟩
 | kill n=>exact ⟨h.t,fun m=>by simp only [St.up,EI,h.o]⟩
theorem SEq.ups:∀ {us:List Upd} {s s':St},SEq s s'→SEq (s.ups us) (s'.ups us)
 | [],_,_,h=>h
 | u :: r,_,_,h=>SEq.ups (us:=r) (h.up u)
theorem SEq.lit {s:St} {j:Nat} {b:Bool} (h:s.get j = .bool b):SEq s (NS s j b):=
 ⟨fun i=>by
  simp only [NS,St.get,RO];split
  ·rename_i e; subst e; exact h
  ·rfl,fun _=>rfl⟩
theorem mQ:∀ {us:List Upd} {o o':Store},(∀ n,DM o n=DM o' n)→∀ n,DM (JX us o) n=DM (JX us o') n
 | [],_,_,h=>h
 | .set m ob :: r,o,o',h=>mQ (us:=r) (fun n=>by rw [EI,EI,h])
 | .new m ob :: r,o,o',h=>mQ (us:=r) (fun n=>by rw [EI,EI,h])
 | .kill m :: r,o,o',h=>mQ (us:=r) (fun n=>by rw [EI,EI,h])
theorem VV:∀ {us:List Upd} {o:Store} {n:Nat},n ∉ I0 us→DM (JX us o) n=DM o n
 | [],_,_,_=>rfl
 | .set m ob :: r,o,n,h=>by
  simp only [I0,AO,not_or] at h;rw [JX,VV h.2,EI,BD (fun e=>h.1 e.symm)]
 | .new m ob :: r,o,n,h=>by
  simp only [I0,AO,not_or] at h;rw [JX,VV h.2,EI,BD (fun e=>h.1 e.symm)]
 | .kill m :: r,o,n,h=>by
  simp only [I0,AO,not_or] at h;rw [JX,VV h.2,EI,BD (fun e=>h.1 e.symm)]
theorem uZ:∀ {us:List Upd} {o o':Store} {n:Nat},n∈I0 us→DM (JX us o) n=DM (JX us o') n
 | [],_,_,_,h=>by simp [I0] at h
 | u :: r,o,o',n,h=>by
  by_cases hr:n∈I0 r
  ·cases u <;> simp only [JX] <;> exact uZ hr
  ·cases u <;> simp only [I0,AO,hr,CO] at h <;> subst h <;> simp only [JX] <;> rw [VV hr,VV hr,EI,EI,BP rfl,BP rfl]
theorem SEq.apD {s s':St} (h:SEq s s') (x:Dn):SEq (apD s x) (apD s' x):=⟨(h.put x.dst x.v).t,mQ h.o⟩
theorem SEq.apDs:∀ {l:List Dn} {s s':St},SEq s s'→SEq (apDs s l) (apDs s' l)
 | [],_,_,h=>h
 | x :: r,_,_,h=>SEq.apDs (l:=r) (h.apD x)
theorem nF:∀ (l l':List Dn) (s:St),apDs s (l++l')=apDs (apDs s l) l'
 | [],_,_=>rfl
 | x :: r,l',s=>nF r l' (apD s x)
theorem Dk {n:Nat} {v:V} (hc:ZI v=true) (hn:n ∉ EV v):F1.leaf n v=v:=by
 cases v <;> simp only [ZI] at hc <;> first | (cases hc; done) | rfl | skip
 ·simp only [EV,BL] at hn;simp only [F1.leaf,IR.2 (fun e=>hn e.symm)]
 ·simp only [EV,BL] at hn;simp only [F1.leaf,IR.2 (fun e=>hn e.symm)]
theorem kI {n:Nat}:∀ {l:List V},ZJ l=true→n ∉ FK l→l.map (F1.leaf n)=l
 | [],_,_=>rfl
 | v :: r,hc,hn=>by
  simp only [ZJ] at hc;split at hc
  ·rename_i h1;simp only [FK,AX,not_or] at hn;simp only [A0,Dk h1 hn.1,kI hc hn.2]
  ·cases hc
theorem qA {n:Nat}:∀ {l:List V},P6.go l=true→n ∉ FC.go l→l.map (F1.leaf2 n)=l
 | [],_,_=>rfl
 | v :: r,hc,hn=>by
  by_cases ha:∃ l,v = .agg l
  ·obtain ⟨l,rfl⟩:=ha;simp only [P6.go] at hc;split at hc
   ·rename_i h1;simp only [FC.go,AX,not_or] at hn;simp only [A0,F1.leaf2,kI h1 hn.1,qA hc hn.2]
   ·cases hc
  ·have h0:F1.leaf2 n v=F1.leaf n v:=by cases v <;> first | rfl | exact absurd ⟨_,rfl⟩ ha
   have h1:ZI v=true∧P6.go r=true:=by
    cases v <;> simp only [P6.go,ZI] at hc ⊢ <;> first | (simp at hc; done) | (simpa using hc) | (cases hc; done) | exact absurd ⟨_,rfl⟩ ha
   have h2:n ∉ EV v∧n ∉ FC.go r:=by
    cases v <;> simp only [FC.go,AX,not_or] at hn <;> first | exact hn | exact absurd ⟨_,rfl⟩ ha
   simp only [A0,h0,Dk h1.1 h2.1,qA h1.2 h2.2]
theorem Jt {n:Nat} {v:V} (hc:P6 v=true) (hn:n ∉ FC v):F1 n v=v:=by
 cases v <;> simp only [P6] at hc <;> first | rfl | skip
 case row a b c=>simp only [FC,EV,BL] at hn; simp only [F1,IR.2 (fun e=>hn e.symm)]
 case ptr a b c=>simp only [FC,EV,BL] at hn; simp only [F1,IR.2 (fun e=>hn e.symm)]
 case bview a b c d e=>simp only [FC,EV,BL] at hn; simp only [F1,IR.2 (fun e=>hn e.symm)]
 case agg l=>simp only [F1,kI hc hn]
 case tup l=>simp only [F1,qA hc hn]
 case clo f l=>
  have:n ∉ FK l:=fun h=>hn (gI h)
  simp only [F1,kI hc this]
theorem Ju {n:Nat}:∀ {l:List V},jD l=true→n ∉ HC l→l.map (F1 n)=l
 | [],_,_=>rfl
 | v :: r,hc,hn=>by
  simp only [jD] at hc;split at hc
  ·rename_i h1;simp only [HC,AX,not_or] at hn;simp only [A0,Jt h1 hn.1,Ju hc hn.2]
  ·cases hc
theorem lP {n:Nat} {ob:Ob} (hc:n7 ob=true) (hn:n ∉ gJ ob):HU n (some ob)=some ob:=by
 cases ob with
 | box cs=>simp only [HU,Ju hc hn]
 | row _ _ _ _ _=>rfl
 | bld _=>rfl
theorem Gg {p:Nat→Bool} {n:Nat} (hp:p n=true) (v:V):F1.leaf n (GY.leaf p v)=GY.leaf p v:=by
 cases v <;> simp only [GY.leaf] <;> first | rfl | skip
 all_goals
  rename_i m _ _;cases hm:p m with
  | true=>rfl
  | false=>
   simp only [F1.leaf];rw [IR.2 (fun e=>by subst e; rw [hp] at hm; cases hm)]
theorem lA {p:Nat→Bool} {n:Nat} (hp:p n=true):∀ (l:List V),(GY.go p l).map (F1.leaf n)=GY.go p l
 | []=>rfl
 | v :: r=>by simp only [GY.go,A0,Gg hp,lA hp r]
theorem zfU {p:Nat→Bool} {n:Nat} (hp:p n=true) (v:V):F1.leaf2 n (GY.leaf2 p v)=GY.leaf2 p v:=by
 by_cases ha:∃ l,v = .agg l
 ·obtain ⟨l,rfl⟩:=ha;simp only [GY.leaf2,F1.leaf2,lA hp]
 ·have h0:GY.leaf2 p v=GY.leaf p v:=by cases v <;> first | rfl | exact absurd ⟨_,rfl⟩ ha
  rw [h0]
  have:=Gg hp v
  cases hx:GY.leaf p v <;> rw [hx] at this <;> first | exact this | skip
  exfalso;cases v <;> simp only [GY.leaf] at hx <;> try (cases hx; done)
  all_goals (split at hx <;> cases hx)
theorem Gi {p:Nat→Bool} {n:Nat} (hp:p n=true):∀ (l:List V),(GY.go2 p l).map (F1.leaf2 n)=GY.go2 p l
 | []=>rfl
 | v :: r=>by simp only [GY.go2,A0,zfU hp,Gi hp r]
theorem Gk {p:Nat→Bool} {n:Nat} (hp:p n=true) (v:V):F1 n (GY p v)=GY p v:=by
 have key:∀ m,p m=false→BQ m n=false:=fun m hm=>IR.2 (fun e=>by subst e; rw [hp] at hm; cases hm)
 cases v <;> simp only [GY] <;> try rfl
 case row m _ _=>cases hm:p m <;> simp only [F1,key m,hm]
 case ptr m _ _=>cases hm:p m <;> simp only [F1,key m,hm]
 case bview m _ _ _ _=>cases hm:p m <;> simp only [F1,key m,hm]
 case agg l=>simp only [F1,lA hp]
 case tup l=>simp only [F1,Gi hp]
 case clo f l=>simp only [F1,lA hp]
theorem kP (f:V→V):∀ l,MG.mapV f l=l.map f
 | []=>rfl
 | v :: r=>by simp only [MG.mapV,A0,kP f r]
theorem zfW {p:Nat→Bool} {n:Nat} (hp:p n=true) (x:Option Ob):HU n (MG p x)=MG p x:=by
 match x with
 | none=>rfl
 | some (.row _ _ _ _ _)=>rfl
 | some (.bld _)=>rfl
 | some (.box cs)=>
  simp only [MG,HU,kP,vaY];congr 2;exact List.map_congr_left (fun v _=>Gk hp v)
structure Fr (n:Nat) (s:St):Prop where
 t:∀ i,F1 n (s.get i)=s.get i
 o:∀ m,HU n (DM s.o m)=DM s.o m
theorem Fr.congr {n:Nat} {s s':St} (h:Fr n s) (e:SEq s s'):Fr n s':=⟨fun i=>by rw [← e.t]; exact h.t i,fun m=>by rw [← e.o]; exact h.o m⟩
theorem fT {n:Nat} {l:List Nat}:KL n l=false↔n ∉ l:=by
 rw [← fS]; simp
theorem ZN:∀ {l l':List Nat},S5 l l'=true↔∀ n∈l,n ∉ l'
 | [],l'=>by simp [S5]
 | m :: r,l'=>by
  simp only [S5];cases hb:KL m l' with
  | true=>simp [fS.1 hb]
  | false=>simp [fT.1 hb,ZN (l:=r)]
theorem mR:∀ {us:List Upd} {s:St},(∀ n∈PK us,Fr n s)→PW us=true→SEq (s.ups us) ⟨s.t,JX us s.o⟩
 | [],s,_,_=>SEq.refl s
 | .kill m :: r,s,hf,ho=>by
  simp only [St.ups,JX];exact mR (us:=r) (s:=s.up (.kill m)) (fun n hn=>⟨(hf n hn).t,fun k=>by
   simp only [St.up,EI];split
   ·rfl
   ·exact (hf n hn).o k⟩) ho
 | .set m ob :: r,s,hf,ho=>by
  simp only [PW,AH] at ho;simp only [St.ups,JX];exact mR (us:=r) (s:=s.up (.set m ob)) (fun n hn=>⟨(hf n hn).t,fun k=>by
   simp only [St.up,EI];split
   ·exact lP ho.1 (ZN.1 ho.2.1 n hn)
   ·exact (hf n hn).o k⟩) ho.2.2
 | .new m ob :: r,s,hf,ho=>by
  simp only [PW,AH] at ho;simp only [St.ups,JX];have hm:Fr m s:=hf m (by simp [PK]);have e:SEq (s.up (.new m ob)) (s.up (.set m ob)):=⟨fun i=>by rw [fC,hm.t]; rfl,fun k=>by rw [GT,hm.o]; simp only [St.up,EI]⟩;refine (e.ups (us:=r)).trans ?_;exact mR (us:=r) (s:=s.up (.set m ob)) (fun n hn=>⟨(hf n (by simp [PK,hn])).t,fun k=>by
   simp only [St.up,EI];split
   ·exact lP ho.1 (ZN.1 ho.2.1 n hn)
   ·exact (hf n (by simp [PK,hn])).o k⟩) ho.2.2
open Go Go.RowKit
def CmpP (p:Nat→Bool) (γ:Nat→Value) (o:Store) (γ':Nat→Value) (o':Store):Prop:=
 ∀ n ob',p n=false→DM o' n=some ob'→γ' n=γ n∧∃ ob,DM o n=some ob∧ob.fits ob'
section
variable {γ γ':Nat→Value} {o o':Store} {w:World} {O:Nat→Prop} {p:Nat→Bool}
theorem CmpP.but (hc:CmpP p γ o γ' o') {n:Nat} (hn:p n=false) {v:V} (hv:v = .any∨(∃ lo hi,v = .row n lo hi)∨(∃ i c,v = .ptr n i c)∨∃ c cap sz len,v = .bview n c cap sz len) {x:Value} (h:VRel γ o w O v x):VRel γ' o' w O v x:=by
 let f:Nat→Value:=fun m=>if m=n then γ' n else γ m
 rcases hv with rfl | ⟨lo,hi,rfl⟩ | ⟨i,c,rfl⟩ | ⟨c,cap,sz,len,rfl⟩
 ·simp only [VRel]
 ·simp only [VRel] at h ⊢;cases h':DM o' n with
  | none=>trivial
  | some ob'=>
   obtain ⟨hg,ob,ho,hf⟩:=hc n ob' hn h';rw [ho] at h;rw [hg];cases ob <;> cases ob' <;> simp only [Ob.fits] at hf <;> try trivial
   obtain ⟨rfl,hl⟩:=hf;exact ⟨by rw [← hl]; exact h.1,h.2⟩
 ·simp only [VRel] at h ⊢;cases h':DM o' n with
  | none=>trivial
  | some ob'=>
   obtain ⟨hg,ob,ho,hf⟩:=hc n ob' hn h';rw [ho] at h;rw [hg];cases ob <;> cases ob' <;> simp only [Ob.fits] at hf
   ·exact h
   ·obtain ⟨rfl,hl⟩:=hf;exact ⟨by rw [← hl]; exact h.1,h.2⟩
   ·exact h
 ·simp only [VRel] at h ⊢;cases h':DM o' n with
  | none=>trivial
  | some ob'=>
   obtain ⟨hg,ob,ho,hf⟩:=hc n ob' hn h';rw [ho] at h;rw [hg];cases ob <;> cases ob' <;> simp only [Ob.fits] at hf <;> try trivial
   exact ⟨h.1,h.2.1,by rw [← hf]; exact h.2.2.1,h.2.2.2⟩
theorem Gh (hc:CmpP p γ o γ' o') {v:V} {x:Value} (h:VRel γ o w O v x):VRel γ' o' w O (GY.leaf p v) x:=by
 cases v <;> simp only [GY.leaf]
 case row n lo hi=>
  cases hb:p n with
  | true=>simp only [VRel]
  | false=>exact hc.but hb (.inr (.inl ⟨_,_,rfl⟩)) h
 case ptr n i c=>
  cases hb:p n with
  | true=>simp only [VRel]
  | false=>exact hc.but hb (.inr (.inr (.inl ⟨_,_,rfl⟩))) h
 all_goals first
  | (simp only [VRel] at h ⊢; exact h)
  | simp only [VRel]
theorem lB (hc:CmpP p γ o γ' o'):∀ {l:List V} {xs:List Value},VRels γ o w O l xs→VRels γ' o' w O (GY.go p l) xs
 | [],[],_=>by simp only [GY.go,VRels]
 | [],_ :: _,h=>by simp only [VRels] at h
 | _ :: _,[],h=>by simp only [VRels] at h
 | v :: vs,x :: xs,h=>by
  simp only [VRels,GY.go] at h ⊢;exact ⟨Gh hc h.1,lB hc h.2⟩
theorem zfV (hc:CmpP p γ o γ' o') {v:V} {x:Value} (h:VRel γ o w O v x):VRel γ' o' w O (GY.leaf2 p v) x:=by
 cases v <;> simp only [GY.leaf2] <;> try exact Gh hc h
 simp only [VRel] at h ⊢;obtain ⟨cs,hx,hr⟩:=h;exact ⟨cs,hx,lB hc hr⟩
theorem Gj (hc:CmpP p γ o γ' o'):∀ {l:List V} {xs:List Value},VRels γ o w O l xs→VRels γ' o' w O (GY.go2 p l) xs
 | [],[],_=>by simp only [GY.go2,VRels]
 | [],_ :: _,h=>by simp only [VRels] at h
 | _ :: _,[],h=>by simp only [VRels] at h
 | v :: vs,x :: xs,h=>by
  simp only [VRels,GY.go2] at h ⊢;exact ⟨zfV hc h.1,Gj hc h.2⟩
theorem Gl (hc:CmpP p γ o γ' o') {v:V} {x:Value} (h:VRel γ o w O v x):VRel γ' o' w O (GY p v) x:=by
 cases v <;> simp only [GY]
 case row n lo hi=>
  cases hb:p n with
  | true=>simp only [VRel]
  | false=>exact hc.but hb (.inr (.inl ⟨_,_,rfl⟩)) h
 case ptr n i c=>
  cases hb:p n with
  | true=>simp only [VRel]
  | false=>exact hc.but hb (.inr (.inr (.inl ⟨_,_,rfl⟩))) h
 case bview n c cap sz len=>
  cases hb:p n with
  | true=>simp only [VRel]
  | false=>exact hc.but hb (.inr (.inr (.inr ⟨_,_,_,_,rfl⟩))) h
 case agg l=>
  simp only [VRel] at h ⊢;obtain ⟨cs,hx,hr⟩:=h;exact ⟨cs,hx,lB hc hr⟩
 case tup l=>
  simp only [VRel] at h ⊢;obtain ⟨cs,hx,hr⟩:=h;exact ⟨cs,hx,Gj hc hr⟩
 case clo f l=>
  simp only [VRel] at h ⊢;obtain ⟨cs,hx,hr⟩:=h;exact ⟨cs,hx,lB hc hr⟩
 all_goals (simp only [VRel] at h ⊢; try exact h)
theorem Gm (hc:CmpP p γ o γ' o'):∀ {l:List V} {xs:List Value},VRels γ o w O l xs→VRels γ' o' w O (l.map (GY p)) xs
 | [],[],_=>by simp only [CA,VRels]
 | [],_ :: _,h=>by simp only [VRels] at h
 | _ :: _,[],h=>by simp only [VRels] at h
 | v :: vs,x :: xs,h=>by
  simp only [VRels,A0] at h ⊢;exact ⟨Gl hc h.1,Gm hc h.2⟩
end
theorem n8 (p:Nat→Bool):∀ (o:Store) (n:Nat),DM (ZK p o) n=match p n with | true=>none | false=>MG p (DM o n)
 | [],n=>by simp only [ZK,DM,E7]; cases p n <;> rfl
 | (m,x) :: r,n=>by
  simp only [ZK];by_cases e:m=n
  ·subst e;cases hp:p m <;> simp only [EI,CP]
  ·cases hp:p m <;> simp only [EI,BD e,n8 p r n]
theorem zhe {p:Nat→Bool} {x:Option Ob} {ob:Ob} (h:MG p x=some ob):∃ ob0,x=some ob0∧MG p (some ob0)=some ob:=by
 cases x with
 | none=>simp [MG] at h
 | some ob0=>exact ⟨ob0,rfl,h⟩
theorem gP {p:Nat→Bool} {ob0 ob:Ob} (h:MG p (some ob0)=some ob):ob0.fits ob∧∀ g b,FF g ob b↔FF g ob0 b:=by
 cases ob0 <;> simp only [MG,AC] at h <;> subst h
 ·exact ⟨by simp [Ob.fits,kP],fun _ _=>Iff.rfl⟩
 ·exact ⟨⟨rfl,rfl⟩,fun _ _=>Iff.rfl⟩
 ·exact ⟨trivial,fun _ _=>Iff.rfl⟩
section
variable {B:BT} {nt:Nat} {w0:World} {X:Zone} {γ:Nat→Value} {st st':St} {a:Act} {w:World} {P:Program} {E:Env}
theorem Rel.less (h:Rel B nt w0 X γ st a w) {st':St} (ht:∀ i,st'.get i=st.get i∨st'.get i = .any) (ho:∀ n ob,DM st'.o n=some ob→DM st.o n=some ob):Rel B nt w0 X γ st' a w:=by
 have hP:∀ b,FE γ st'.o b→FE γ st.o b:=fun b ⟨n,ob,h1,h2⟩=>⟨n,ob,ho n ob h1,h2⟩
 have hO:∀ b,b < w.heap.size→DR X γ st'.o b→DR X γ st.o b:=fun b _ hb=>hb.imp_left (hP b)
 have hc:Cmp γ st.o γ st'.o:=fun n ob hn=>⟨rfl,ob,ho n ob hn,ob.fits_refl⟩
 refine ⟨h.sz,h.df,fun i=>?_,fun n ob hn=>(h.ob n ob (ho n ob hn)).later (fun _ _=>rfl) (Keep.refl _ w) hO hc,fun b hb=>h.lt b (hP b hb),fun n m ob ob' b hne h1 h2=>h.dis n m ob ob' b hne (ho n ob h1) (ho m ob' h2),h.keep,fun b hb=>h.nr b (hP b hb),h.fl,fun p hp ob h1=>h.pn p hp ob (ho _ ob h1)⟩;rcases ht i with h1 | h1
 ·rw [h1];exact VRel.mono (Keep.refl _ w) hO (VRel.cmp hc (h.tm i))
 ·rw [h1];simp only [VRel]
theorem Rel.lit (h:Rel B nt w0 X γ st a w) {i:Nat} {v:V} (hv:st.get i=v):Rel B nt w0 X γ ⟨(i,v) :: st.t,st.o⟩ a w:=by
 refine h.less (fun j=>?_) (fun _ _ h=>h);simp only [St.get,RO];by_cases e:i=j
 ·subst e;simp only [CP];exact .inl hv.symm
 ·simp only [BD e];exact .inl trivial
theorem eU:∀ (ops:List Oper) (j d:Nat),PA ops j=some d→(ops[j]?).bind (·.dst)=some d
 | [],j,d,h=>by simp [PA] at h
 | o :: r,0,d,h=>by simpa [PA] using h
 | o :: r,j+1,d,h=>by simpa [PA] using eU r j d (by simpa [PA] using h)
theorem wS (h:Rel B nt w0 X γ st a w) {i:Nat} {c:Bool} (hv:st.get i = .bool c):a.tmps[i]?=some (.bool c):=by
 have:=h.tm i
 rw [hv] at this;simp only [VRel,vbq] at this;cases ht:a.tmps[i]? with
 | none=>rw [ht] at this; simp [undef] at this
 | some u=>rw [ht] at this; simp only [vad] at this; rw [this]
theorem Pl (h:Rel B nt w0 X γ st a w) {i:Nat} (hv:st.get i = .tup []):a.tmps[i]?=none∨a.tmps[i]?=some (.tuple #[]):=by
 have:=h.tm i
 rw [hv] at this;simp only [VRel,vbq] at this;obtain ⟨cs,h1,h2⟩:=this;cases hl:cs.toList with
 | nil=>
  have e:cs = #[]:=by simpa using hl
  rw [e] at h1;cases ht:a.tmps[i]? with
  | none=>exact .inl rfl
  | some u=>rw [ht] at h1; simp only [vad] at h1; rw [h1]; exact .inr rfl
 | cons x l=>rw [hl] at h2; simp only [VRels] at h2
theorem Rel.clear (h:Rel B nt w0 X γ st a w) (ds:List Nat):Rel B nt w0 X γ (NN ds st) a w:=by
 have hget:∀ n ob,DM (NN ds st).o n=some ob→PC ds n=false∧∃ ob0,DM st.o n=some ob0∧MG (PC ds) (some ob0)=some ob:=by
  intro n ob hn;simp only [NN,n8] at hn;split at hn
  ·cases hn
  ·rename_i hp;exact ⟨hp,zhe hn⟩
 have hP:∀ b,FE γ (NN ds st).o b→FE γ st.o b:=by
  rintro b ⟨n,ob,h1,h2⟩;obtain ⟨_,ob0,h3,h4⟩:=hget n ob h1;exact ⟨n,ob0,h3,((gP h4).2 _ _).1 h2⟩
 have hO:∀ b,b < w.heap.size→DR X γ (NN ds st).o b→DR X γ st.o b:=fun b _ hb=>hb.imp_left (hP b)
 have hc:CmpP (PC ds) γ st.o γ (NN ds st).o:=by
  intro n ob' _ hn;obtain ⟨_,ob0,h3,h4⟩:=hget n ob' hn;exact ⟨rfl,ob0,h3,(gP h4).1⟩
 refine ⟨h.sz,h.df,fun i=>?_,fun n ob hn=>?_,fun b hb=>h.lt b (hP b hb),fun n m ob ob' b hne h1 h2 hb1 hb2=>?_,h.keep,fun b hb=>h.nr b (hP b hb),h.fl,fun p hp ob h1=>?_⟩
 ·have:(NN ds st).get i=GY (PC ds) (st.get i):=by
   simp only [NN,St.get];exact fN _ _ rfl _ _
  rw [this];exact VRel.mono (Keep.refl _ w) hO (Gl hc (h.tm i))
 ·obtain ⟨_,ob0,h3,h4⟩:=hget n ob hn;have hor:=h.ob n ob0 h3;cases ob0 with
  | box l=>
   simp only [MG,AC] at h4;subst h4;simp only [ObRel] at hor ⊢;obtain ⟨b,c,T,hg,hh,hr⟩:=hor;rw [kP];exact ⟨b,c,T,hg,hh,VRels.mono (Keep.refl _ w) hO (Gm hc hr)⟩
  | row own e ag ks l=>
   simp only [MG,AC] at h4;subst h4;exact hor.later (fun _ _=>rfl) (Keep.refl _ w) hO (fun m ob1 hm=>by
    obtain ⟨_,ob0,h5,h6⟩:=hget m ob1 hm;exact ⟨rfl,ob0,h5,(gP h6).1⟩)
  | bld s=>
   simp only [MG,AC] at h4;subst h4;simpa only [ObRel] using hor
 ·obtain ⟨_,ob0,h3,h4⟩:=hget n ob h1;obtain ⟨_,ob1,h5,h6⟩:=hget m ob' h2;exact h.dis n m ob0 ob1 b hne h3 h5 (((gP h4).2 _ _).1 hb1) (((gP h6).2 _ _).1 hb2)
 ·obtain ⟨_,ob0,h3,_⟩:=hget _ ob h1;exact h.pn p hp ob0 h3
theorem Rel.seq (h:Rel B nt w0 X γ st a w) (e:SEq st st'):Rel B nt w0 X γ st' a w:=
 h.less (fun i=>.inl (e.t i).symm) (fun n ob hn=>by rw [e.o]; exact hn)
end
theorem Vy {ds:List Nat} {n:Nat} (hn:PC ds n=true) (s:St):Fr n (NN ds s):=by
 refine ⟨fun i=>?_,fun m=>?_⟩
 ·have:(NN ds s).get i=GY (PC ds) (s.get i):=by
   simp only [NN,St.get];exact fN _ _ rfl _ _
  rw [this];exact Gk hn _
 ·simp only [NN,n8];split
  ·rfl
  ·exact zfW hn _
def StepOK (E:Env) (all:List Oper) (o:Oper) (s:St) (D:Dn):Prop:=
 QH E o.dst=true∧D.dst=o.dst∧D.tm=MI all o ∧
 match o.guard with
 | none=>(EF E s.o (opd s) o.dst o.op).get=some (D.v,D.us)∧D.rd=NX E s.o (opd s) o.op
 | some (j,b)=>(∃ dj c,PA all j=some dj∧s.get dj = .bool c ∧
  ((c=b∧(EF E s.o (opd s) o.dst o.op).get=some (D.v,D.us)∧D.rd=NX E s.o (opd s) o.op)∨(c≠b∧D.v = .tup []∧D.us=[]))) ∨
  (∃ dj,PA all j=some dj∧s.get dj = .tup []∧D.v = .tup []∧D.us=[])
def Steps (E:Env) (all:List Oper):List Oper→St→List Dn→Prop
 | [],_,[]=>True
 | o :: r,s,D :: Ds=>StepOK E all o s D∧Steps E all r (apD s D) Ds
 | _,_,_=>False
theorem StepOK.congr {E:Env} {all:List Oper} {o:Oper} {s s':St} {D:Dn} (h:StepOK E all o s D) (e:SEq s s'):StepOK E all o s' D:=by
 have hag:∀ (ρ:Operand→V) d op,EF E s'.o ρ d op=EF E s.o ρ d op:=fun ρ d op=>Bf (fun n _=>(e.o n).symm)
 have hdp:∀ l,KY s'.o l=KY s.o l:=by
  intro l
  induction l with
  | nil=>rfl
  | cons n r ih=>simp only [KY,ih,e.o]
 have hrd:∀ (ρ:Operand→V) op,NX E s'.o ρ op=NX E s.o ρ op:=fun ρ op=>by unfold NX lF; rw [hdp]
 unfold StepOK at h ⊢;refine ⟨h.1,h.2.1,h.2.2.1,?_⟩;have h3:=h.2.2.2;rw [← e.opd];simp only [hag,hrd];split at h3
 ·exact h3
 ·rcases h3 with ⟨dj,c,h4,h5,h6⟩ | ⟨dj,h4,h5,h6⟩
  ·exact .inl ⟨dj,c,h4,by rw [← e.t]; exact h5,h6⟩
  ·exact .inr ⟨dj,h4,by rw [← e.t]; exact h5,h6⟩
theorem Steps.congr {E:Env} {all:List Oper}:∀ {l:List Oper} {s s':St} {Ds:List Dn},Steps E all l s Ds→SEq s s'→Steps E all l s' Ds
 | [],_,_,[],_,_=>trivial
 | [],_,_,_ :: _,h,_=>by simp [Steps] at h
 | _ :: _,_,_,[],h,_=>by simp [Steps] at h
 | o :: r,s,s',D :: Ds,h,e=>by
  simp only [Steps] at h ⊢;exact ⟨h.1.congr e,Steps.congr h.2 (e.apD D)⟩
theorem Be {E:Env} {all:List Oper} {res:V × List (List V)}:∀ (l:List Oper) {s:St} {acc:List Dn} {k:List Dn→St→DN},QC E all l s acc k=some res →
  ∃ Ds s',Steps E all l s Ds∧SEq s' (apDs s Ds)∧k (Ds.reverse++acc) s'=some res
 | [],s,acc,k,h=>⟨[],s,trivial,SEq.refl s,by simpa [QC] using h⟩
 | o :: r,s,acc,k,h=>by
  simp only [QC] at h;have hd:QH E o.dst=true:=by
   cases hd:QH E o.dst with
   | true=>rfl
   | false=>rw [hd] at h; cases h
  rw [hd] at h;simp only at h;have fin:∀ (s1:St) (D:Dn),SEq s s1→StepOK E all o s1 D→QC E all r (apD s1 D) (D :: acc) k=some res →
    ∃ Ds s',Steps E all (o :: r) s Ds∧SEq s' (apDs s Ds)∧k (Ds.reverse++acc) s'=some res:=by
   intro s1 D e hs he;obtain ⟨Ds,s',h1,h2,h3⟩:=Be r he;refine ⟨D :: Ds,s',⟨hs.congr e.symm,h1.congr (e.symm.apD D)⟩,h2.trans ((e.symm.apD D).apDs),?_⟩;simpa using h3
  split at h
  ·rename_i hg;obtain ⟨v,us,h1,h2⟩:=T.run_some h;exact fin s _ (SEq.refl s) ⟨hd,rfl,rfl,by rw [hg]; exact ⟨h1,rfl⟩⟩ h2
  ·rename_i j b hg;split at h
   ·rename_i dj hdj;split at h
    ·rename_i c hc;have hl:∀ c',(NS s dj c').get dj = .bool c':=fun c'=>by simp [NS,St.get,RO]
     cases c with
     | true=>
      have e:=SEq.lit hc;cases b with
      | true=>
       simp only at h;obtain ⟨v,us,h1,h2⟩:=T.run_some h;exact fin _ _ e ⟨hd,rfl,rfl,by rw [hg]; exact .inl ⟨dj,true,hdj,hl _,.inl ⟨rfl,h1,rfl⟩⟩⟩ h2
      | false=>exact fin _ _ e ⟨hd,rfl,rfl,by rw [hg]; exact .inl ⟨dj,true,hdj,hl _,.inr ⟨by simp,rfl,rfl⟩⟩⟩ h
     | false=>
      have e:=SEq.lit hc;cases b with
      | false=>
       simp only at h;obtain ⟨v,us,h1,h2⟩:=T.run_some h;exact fin _ _ e ⟨hd,rfl,rfl,by rw [hg]; exact .inl ⟨dj,false,hdj,hl _,.inl ⟨rfl,h1,rfl⟩⟩⟩ h2
      | true=>exact fin _ _ e ⟨hd,rfl,rfl,by rw [hg]; exact .inl ⟨dj,false,hdj,hl _,.inr ⟨by simp,rfl,rfl⟩⟩⟩ h
    ·rename_i hc;exact fin _ _ (SEq.refl s) ⟨hd,rfl,rfl,by rw [hg]; exact .inr ⟨dj,hdj,hc,rfl,rfl⟩⟩ h
    ·cases h
   ·cases h
theorem Steps.length {E:Env} {all:List Oper}:∀ {l:List Oper} {s:St} {Ds:List Dn},Steps E all l s Ds→Ds.length=l.length
 | [],_,[],_=>rfl
 | [],_,_ :: _,h=>by simp [Steps] at h
 | _ :: _,_,[],h=>by simp [Steps] at h
 | _ :: _,_,_ :: _,h=>by simp only [AM,Steps.length h.2]
theorem Steps.get {E:Env} {all:List Oper}:∀ {l:List Oper} {s:St} {Ds:List Dn} {i:Nat} {o:Oper} {D:Dn},Steps E all l s Ds→l[i]?=some o→Ds[i]?=some D→StepOK E all o (apDs s (Ds.take i)) D
 | [],_,_,_,_,_,_,h,_=>by simp at h
 | _ :: _,_,[],_,_,_,_,_,h=>by simp at h
 | o :: r,s,D :: Ds,0,_,_,h,h1,h2=>by
  simp only [BY,AC] at h1 h2;subst h1; subst h2;exact h.1
 | o :: r,s,D :: Ds,i+1,_,_,h,h1,h2=>by
  simp only [C6] at h1 h2;simp only [List.take_succ_cons,apDs];exact Steps.get h.2 h1 h2
def ES (L:Nat→Bool):Nat→List Dn→List Dn
 | _,[]=>[]
 | i,D :: r=>match L i with | true=>D :: ES L (i+1) r | false=>ES L (i+1) r
theorem aJ {L L':Nat→Bool}:∀ (l:List Dn) (i:Nat),(∀ j,i≤j→j < i+l.length→L j=L' j)→ES L i l=ES L' i l
 | [],_,_=>rfl
 | D :: r,i,h=>by
  simp only [ES];rw [h i (AZ i) (by simp),aJ r (i+1) (fun j h1 h2=>h j (by omega) (by simp only [AM]; omega))]
theorem gQ:∀ (l:List Dn) (i:Nat),ES (fun _=>false) i l=[]
 | [],_=>rfl
 | D :: r,i=>by simp only [ES,gQ r]
theorem Jx:∀ (l:List Dn) (i:Nat),ES (fun _=>true) i l=l
 | [],_=>rfl
 | D :: r,i=>by simp only [ES,Jx r]
theorem Jy (k:Nat):∀ (l:List Dn) (i:Nat),ES (fun j=>decide (j < i+k)) i l=l.take k
 | [],i=>by simp [ES]
 | D :: r,i=>by
  cases k with
  | zero=>
   rw [aJ (L':=fun _=>false) _ _ (fun j h1 h2=>by simp; omega),gQ];rfl
  | succ k=>
   simp only [ES];rw [show decide (i < i+(k+1))=true by simp];simp only [List.take_succ_cons,vas,vaz]
   have:=Jy k r (i+1)
   rw [show i+(k+1)=i+1+k by omega];exact this
theorem TO {L L':Nat→Bool} {n:Nat}:∀ (l:List Dn) (i:Nat) {s s':St},DM s.o n=DM s'.o n→(∀ j D,l[j]?=some D→n∈I0 D.us→L (i+j)=L' (i+j))→DM (apDs s (ES L i l)).o n=DM (apDs s' (ES L' i l)).o n
 | [],_,_,_,h,_=>h
 | D :: r,i,s,s',h,hl=>by
  have hr:∀ j E,r[j]?=some E→n∈I0 E.us→L (i+1+j)=L' (i+1+j):=fun j E hj hn=>by
   have:=hl (j+1) E (by simpa using hj) hn
   rwa [show i+(j+1)=i+1+j by omega] at this
  have one:∀ {s:St},n ∉ I0 D.us→DM (apD s D).o n=DM s.o n:=fun h=>VV h
  by_cases hn:n∈I0 D.us
  ·have h0:=hl 0 D rfl hn;simp only [DA] at h0;simp only [ES,h0];cases L' i with
   | true=>exact TO r (i+1) (uZ hn) hr
   | false=>exact TO r (i+1) h hr
  ·simp only [ES];cases L i <;> cases L' i <;> simp only [apDs]
   ·exact TO r (i+1) h hr
   ·exact TO r (i+1) (h.trans (one hn).symm) hr
   ·exact TO r (i+1) ((one hn).trans h) hr
   ·exact TO r (i+1) ((one hn).trans (h.trans (one hn).symm)) hr
theorem P5 (s:St) (D:Dn) (t:Nat):(apD s D).get t=if D.dst=some t then D.v else s.get t:=by
 unfold apD;cases hd:D.dst with
 | none=>simp [St.put,St.get]
 | some d=>
  have:=zas s d D.v t
  simp only [AC];exact this
theorem TN {L L':Nat→Bool} {t:Nat}:∀ (l:List Dn) (i:Nat) {s s':St},s.get t=s'.get t→(∀ j D,l[j]?=some D→D.dst=some t→L (i+j)=L' (i+j))→(apDs s (ES L i l)).get t=(apDs s' (ES L' i l)).get t
 | [],_,_,_,h,_=>h
 | D :: r,i,s,s',h,hl=>by
  have hr:∀ j E,r[j]?=some E→E.dst=some t→L (i+1+j)=L' (i+1+j):=fun j E hj hn=>by
   have:=hl (j+1) E (by simpa using hj) hn
   rwa [show i+(j+1)=i+1+j by omega] at this
  by_cases hn:D.dst=some t
  ·have h0:=hl 0 D rfl hn;simp only [DA] at h0;simp only [ES,h0];cases L' i with
   | true=>exact TN r (i+1) (by rw [P5,P5,BP hn,BP hn]) hr
   | false=>exact TN r (i+1) h hr
  ·simp only [ES];cases L i <;> cases L' i <;> simp only [apDs]
   ·exact TN r (i+1) h hr
   ·exact TN r (i+1) (by rw [P5,BD hn]; exact h) hr
   ·exact TN r (i+1) (by rw [P5,BD hn]; exact h) hr
   ·exact TN r (i+1) (by rw [P5,P5,BD hn,BD hn]; exact h) hr
theorem tB {L:Nat→Bool} {n:Nat}:∀ (l:List Dn) (i:Nat) {s:St},Fr n s→(∀ j D,l[j]?=some D→L (i+j)=true→P6 D.v=true∧n ∉ FC D.v∧∀ u∈D.us,∀ m ob,(u = .new m ob∨u = .set m ob)→HU n (some ob)=some ob)→Fr n (apDs s (ES L i l))
 | [],_,_,h,_=>h
 | D :: r,i,s,h,hl=>by
  have hr:∀ j E,r[j]?=some E→L (i+1+j)=true→P6 E.v=true∧n ∉ FC E.v∧∀ u∈E.us,∀ m ob,(u = .new m ob∨u = .set m ob)→HU n (some ob)=some ob:=fun j E hj hn=>by
   refine hl (j+1) E (by simpa using hj) ?_
   rwa [show i+(j+1)=i+1+j by omega]
  simp only [ES];cases hL:L i with
  | false=>exact tB r (i+1) h hr
  | true=>
   refine tB r (i+1) ?_ hr;obtain ⟨h1,h2,h3⟩:=hl 0 D rfl hL;refine ⟨fun t=>?_,?_⟩
   ·rw [P5];split
    ·exact Jt h1 h2
    ·exact h.t t
   ·have key:∀ (us:List Upd) (o:Store),(∀ u∈us,∀ m ob,(u = .new m ob∨u = .set m ob)→HU n (some ob)=some ob)→(∀ m,HU n (DM o m)=DM o m)→∀ m,HU n (DM (JX us o) m)=DM (JX us o) m:=by
     intro us
     induction us with
     | nil=>intro o _ h; exact h
     | cons u us ih=>
      intro o hu ho;have hu':=fun u' hu'=>hu u' (AY _ hu')
      cases u with
      | kill k=>exact ih _ hu' (fun m=>by rw [EI]; split <;> first | rfl | exact ho m)
      | set k ob=>exact ih _ hu' (fun m=>by rw [EI]; split <;> first | exact hu _ (AN ..) k ob (.inr rfl) | exact ho m)
      | new k ob=>exact ih _ hu' (fun m=>by rw [EI]; split <;> first | exact hu _ (AN ..) k ob (.inl rfl) | exact ho m)
    exact key D.us s.o h3 h.o
theorem tC {L:Nat→Bool}:∀ (l l':List Dn) (i:Nat),ES L i (l++l')=ES L i l++ES L (i+l.length) l'
 | [],l',i=>by simp [ES]
 | D :: r,l',i=>by
  simp only [CT,ES,AM];rw [show i+(r.length+1)=i+1+r.length by omega];cases L i <;> simp [tC r l' (i+1)]
open Go Go.RowKit
theorem Z5:∀ (l:List (List Nat)) (i:Nat),H1 l i=(l[i]?).getD []
 | [],i=>by simp [H1]
 | x :: r,0=>rfl
 | x :: r,i+1=>by simp only [H1,Z5 r i,C6]
theorem kR {acc:List (List Nat)} {j:Nat}:∀ {es:List Edge},j∈VI acc es→∃ e∈es,va0 .any e=true∧(j=e.on∨j∈H1 acc e.on)
 | [],h=>by simp [VI] at h
 | e :: r,h=>by
  simp only [VI] at h;split at h
  ·rename_i hb;simp only [AO,AX] at h;rcases h with h | h | h
   ·exact ⟨e,AN ..,hb,.inl h⟩
   ·exact ⟨e,AN ..,hb,.inr h⟩
   ·obtain ⟨e',h1,h2⟩:=kR h;exact ⟨e',AY _ h1,h2⟩
  ·obtain ⟨e',h1,h2⟩:=kR h;exact ⟨e',AY _ h1,h2⟩
def TH (acc:List Nat):List Nat→List Nat
 | []=>acc
 | n :: r=>match KL n acc with
  | true=>TH acc r
  | false=>TH (n :: acc) r
theorem XW (k:List Nat→List (List Nat)):∀ (l acc:List Nat),fV acc l k=k (TH acc l)
 | [],_=>rfl
 | n :: r,acc=>by
  simp only [fV,TH];cases KL n acc with
  | true=>exact XW k r acc
  | false=>exact XW k r (n :: acc)
theorem qN {j:Nat}:∀ {l acc:List Nat},j∈TH acc l→j∈acc∨j∈l
 | [],_,h=>.inl h
 | n :: r,acc,h=>by
  simp only [TH] at h;cases hb:KL n acc with
  | true=>
   rw [hb] at h;exact (qN h).imp_right (AY _)
  | false=>
   rw [hb] at h;rcases qN h with h1 | h1
   ·rcases AO.1 h1 with rfl | h1
    ·exact .inr (AN ..)
    ·exact .inl h1
   ·exact .inr (AY _ h1)
theorem Ej {j:Nat} {l:List Nat} (h:j∈TH [] l):j∈l:=(qN h).resolve_left (by simp)
theorem rV:∀ (l:List Oper) (acc:List (List Nat)) (i:Nat),i < acc.length→H1 (I6 acc l) i=H1 acc i
 | [],_,_,_=>rfl
 | o :: r,acc,i,h=>by
  simp only [I6,XW];rw [rV r _ i (by simp; omega),Z5,Z5,vbx h]
theorem rU:∀ (l:List Oper) (acc:List (List Nat)) (i:Nat) (o:Oper),l[i]?=some o →
  ∃ acc',acc'.length=acc.length+i∧H1 (I6 acc l) (acc.length+i)=TH [] (VI acc' o.after.toList)∧∀ k,k < acc'.length→H1 acc' k=H1 (I6 acc l) k
 | [],_,_,_,h=>by simp at h
 | o :: r,acc,0,o',h=>by
  simp only [BY,AC] at h;subst h;refine ⟨acc,rfl,?_,fun k hk=>?_⟩
  ·simp only [I6,XW,DA];rw [rV r _ acc.length (by simp),Z5];simp
  ·simp only [I6,XW];rw [rV r _ k (by simp; omega),Z5,Z5,vbx hk]
 | o :: r,acc,i+1,o',h=>by
  simp only [C6] at h;obtain ⟨acc',h1,h2,h3⟩:=rU r (acc++[TH [] (VI acc o.after.toList)]) i o' h;simp only [AT,AM,A7] at h1 h2;refine ⟨acc',by omega,?_,fun k hk=>by rw [I6,XW]; exact h3 k hk⟩;rw [show acc.length+(i+1)=acc.length+(0+1)+i by omega,I6,XW];exact h2
theorem jM:∀ {l:List Oper} {k i:Nat} {o:Oper} {e:Edge},S6 k l=true→l[i]?=some o→e∈o.after.toList→va0 .any e=true→e.on < k+i
 | [],_,_,_,_,_,h,_,_=>by simp at h
 | o :: r,k,0,o',e,hu,h,he,hb=>by
  simp only [BY,AC] at h;subst h;simp only [S6,AH] at hu;have key:∀ (es:List Edge),S6.go k es=true→e∈es→e.on < k:=by
   intro es
   induction es with
   | nil=>intro _ h; cases h
   | cons x es ih=>
    intro hg hm;simp only [S6.go] at hg;rcases AO.1 hm with h1 | h1
    ·subst h1;rw [hb] at hg;simp only [AH] at hg;exact AP hg.1
    ·split at hg
     ·simp only [AH] at hg;exact ih hg.2 h1
     ·exact ih hg h1
  exact key _ hu.1 he
 | o :: r,k,i+1,o',e,hu,h,he,hb=>by
  simp only [C6] at h;simp only [S6,AH] at hu
  have:=jM hu.2 h he hb
  omega
section
variable {ops:List Oper}
def vN (ops:List Oper) (L:Nat→Bool):Prop:=∀ i o,ops[i]?=some o→L i=true→∀ e∈o.after.toList,va0 .any e=true→L e.on=true
theorem Gy (hu:S6 0 ops=true):∀ (i:Nat) {o:Oper},ops[i]?=some o→∀ j∈H1 (I6 [] ops) i,j < i:=by
 intro i
 induction i using vbr with
 | _ i ih=>
  intro o ho j hj;obtain ⟨acc',h1,h2,h3⟩:=rU ops [] i o ho;simp only [A7,BI] at h1 h2;rw [h2] at hj;obtain ⟨e,he,hb,h4⟩:=kR (Ej hj);have hlt:=jM hu ho he hb;rw [BI] at hlt;rcases h4 with h4 | h4
  ·omega
  ·have hk:e.on < acc'.length:=by omega
   rw [h3 _ hk] at h4;have hlen:i < ops.length:=(BR.1 ho).1
   have:=ih e.on hlt (o:=ops[e.on]'(by omega)) (by simp [Nat.lt_trans hlt hlen]) j h4
   omega
theorem Gz {L:Nat→Bool} (hu:S6 0 ops=true) (hL:vN ops L):∀ (i:Nat) {o:Oper},ops[i]?=some o→(∀ e∈o.after.toList,va0 .any e=true→L e.on=true)→∀ j∈H1 (I6 [] ops) i,L j=true:=by
 intro i
 induction i using vbr with
 | _ i ih=>
  intro o ho hr j hj;obtain ⟨acc',h1,h2,h3⟩:=rU ops [] i o ho;simp only [A7,BI] at h1 h2;rw [h2] at hj;obtain ⟨e,he,hb,h4⟩:=kR (Ej hj);have hlt:=jM hu ho he hb;rw [BI] at hlt;rcases h4 with h4 | h4
  ·subst h4;exact hr e he hb
  ·have hk:e.on < acc'.length:=by omega
   rw [h3 _ hk] at h4;have hlen:i < ops.length:=(BR.1 ho).1;have hg:ops[e.on]?=some (ops[e.on]'(by omega)):=by simp [Nat.lt_trans hlt hlen]
   exact ih e.on hlt hg (hL e.on _ hg (hr e he hb)) j h4
end
theorem zfR {d:Option Nat} {l:List Nat} (h:Gc d l=false):∀ t,d=some t→t ∉ l:=by
 rintro t rfl;exact fT.1 h
theorem zfQ {d e:Option Nat} (h:rI d e=false):∀ t,d=some t→e≠some t:=by
 rintro t rfl h';subst h';simp only [rI] at h;exact IR.1 h rfl
theorem Gp {ps:List (List Nat)} {pi:List Nat} {i:Nat} {x:Dn}:∀ {l:List Dn} {k j:Nat} {y:Dn},Z9 ps pi i x k l=true→l[j]?=some y→i≠k+j→f5 pi (H1 ps (k+j)) i (k+j) x y=true
 | [],_,_,_,_,h,_=>by simp at h
 | z :: r,k,0,y,h,hy,hne=>by
  simp only [BY,AC] at hy;subst hy;simp only [Z9,AH,van] at h;rcases h.1 with h1 | h1
  ·exact absurd (F6.1 h1) hne
  ·exact h1
 | z :: r,k,j+1,y,h,hy,hne=>by
  simp only [C6] at hy;simp only [Z9,AH] at h
  have:=Gp (k:=k+1) h.2 hy (by omega)
  rw [show k+(j+1)=k+1+j by omega];exact this
theorem Gn {ps:List (List Nat)} {all:List Dn}:∀ {l:List Dn} {k i:Nat} {x:Dn},f7 ps all k l=true→l[i]?=some x→Z9 ps (H1 ps (k+i)) (k+i) x 0 all=true
 | [],_,_,_,_,h=>by simp at h
 | z :: r,k,0,x,h,hx=>by
  simp only [BY,AC] at hx;subst hx;simp only [f7,AH] at h;exact h.1
 | z :: r,k,i+1,x,h,hx=>by
  simp only [C6] at hx;simp only [f7,AH] at h
  have:=Gn (k:=k+1) h.2 hx
  rw [show k+(i+1)=k+1+i by omega];exact this
theorem vS {ds:List Nat}:∀ {l:List Nat},iP ds l=true→∀ n∈l,PC ds n=true
 | [],_,n,h=>by cases h
 | m :: r,h,n,hn=>by
  simp only [iP,AH] at h;rcases AO.1 hn with e | e
  ·subst e; exact h.1
  ·exact vS h.2 n e
theorem rD {ds:List Nat}:∀ {l:List Dn} {i:Nat} {x:Dn},fW ds l=true→l[i]?=some x→P6 x.v=true∧PW x.us=true∧∀ n∈PK x.us,PC ds n=true
 | [],_,_,_,h=>by simp at h
 | z :: r,0,x,h,hx=>by
  simp only [BY,AC] at hx;subst hx;simp only [fW,AH] at h;exact ⟨h.1,h.2.1,vS h.2.2.1⟩
 | z :: r,i+1,x,h,hx=>by
  simp only [C6] at hx;simp only [fW,AH] at h;exact rD h.2.2.2 hx
theorem Pm {n:Nat}:∀ {us:List Upd},PW us=true→n ∉ VC us→∀ u∈us,∀ m ob,(u = .new m ob∨u = .set m ob)→HU n (some ob)=some ob
 | [],_,_,u,hu,_,_,_=>by cases hu
 | u :: r,ho,hn,u',hu',m,ob,he=>by
  have h1:PW r=true∧n ∉ VC r∧(∀ m ob,(u = .new m ob∨u = .set m ob)→HU n (some ob)=some ob):=by
   cases u with
   | kill k=>exact ⟨ho,hn,fun m ob h=>by rcases h with h | h <;> cases h⟩
   | set k ob'=>
    simp only [PW,AH] at ho;simp only [VC,AX,not_or] at hn;refine ⟨ho.2.2,hn.2,fun m ob h=>?_⟩;rcases h with h | h <;> cases h
    exact lP ho.1 hn.1
   | new k ob'=>
    simp only [PW,AH] at ho;simp only [VC,AX,not_or] at hn;refine ⟨ho.2.2,hn.2,fun m ob h=>?_⟩;rcases h with h | h <;> cases h
    exact lP ho.1 hn.1
  rcases AO.1 hu' with h | h
  ·subst h;exact h1.2.2 m ob he
  ·exact Pm h1.1 h1.2.1 u' h m ob he
theorem uU {t:Nat}:∀ {l:List Operand},Operand.tmp t∈l→t∈YH l
 | x :: r,h=>by
  rcases AO.1 h with h1 | h1
  ·subst h1; exact AN ..
  ·cases x <;> simp only [YH,AO] <;> first | exact .inr (uU h1) | exact uU h1
theorem z8 {α:Type} {p q:α→Bool}:∀ {l:List α},(∀ x∈l,q x=true→p x=true)→(∃ x∈l,p x=true∧q x=false)→l.countP q < l.countP p
 | [],_,⟨_,h,_⟩=>by cases h
 | y :: r,h,⟨x,hx,h1,h2⟩=>by
  have hr:r.countP q≤r.countP p:=by
   clear hx;have h':∀ x∈r,q x=true→p x=true:=fun x hx=>h x (AY _ hx)
   exact List.countP_mono_left h'
  rcases AO.1 hx with e | e
  ·subst e;rw [vaR h1,vbl (by simp [h2])];omega
  ·have:=z8 (l:=r) (fun x hx=>h x (AY _ hx)) ⟨x,e,h1,h2⟩
   by_cases hq:q y=true
   ·rw [vaR (h y (AN ..) hq),vaR hq];omega
   ·rw [vbl hq];by_cases hp:p y=true
    ·rw [vaR hp]; omega
    ·rw [vbl hp]; omega
section
variable {B:BT} {nt:Nat} {w0:World} {X:Zone} {γ:Nat→Value} {st st':St} {a:Act} {w:World} {P:Program} {E:Env}
variable (hT:TiOK P B E) (hE:∀ t,t∈E.eqs→EqSnd P t (E.tyd t).ks) (hSp:SpOK P B E w0 X) (hB:BldOK P B E) (hnt:E.nt=nt) (hn9:nt≤900000)
include hT hE hSp hB hnt hn9
theorem Xg {Q:Exit→Act→World→Prop} {ops:Array Oper} {s0:St} {Ds:List Dn} (hs:Steps E ops.toList ops.toList s0 Ds) (hfree:pB ops.toList Ds=true)
  (hfr:∀ n,PC (XI ops.toList) n=true→Fr n s0) (hQ:∀ γ' a' w',Rel B nt w0 X γ' (apDs s0 Ds) a' w'→Q .normal a' w') :
  ∀ (fuel:Nat) (listed:Array Bool) {γ:Nat→Value} {a:Act} {w:World},listed.size=ops.size→vN ops.toList (fun i=>listed.getD i false) →
   (vaC ops.size).countP (fun i=>!listed.getD i false)≤fuel→Rel B nt w0 X γ (apDs s0 (ES (fun i=>listed.getD i false) 0 Ds)) a w→wpAny P .any ops Q fuel listed a w:=by
 have hlen:Ds.length=ops.size:=by simpa using hs.length
 simp only [pB,AH] at hfree;obtain ⟨hup,hone,hpairs⟩:=hfree;have hgd:∀ (listed:Array Bool) (i:Nat),listed.size=ops.size→i < ops.size→listed.getD i true=listed.getD i false:=fun listed i h1 h2=>by
  simp [Array.getD,h1,h2]
 have hready:∀ (listed:Array Bool) (i:Nat),listed.size=ops.size→(i∈vbG .any ops listed↔∃ o,ops.toList[i]?=some o∧listed.getD i false=false∧∀ e∈o.after.toList,va0 .any e=true→listed.getD e.on false=true):=by
  intro listed i hsz;simp only [vbG,List.mem_filter,va6,AH,B4];constructor
  ·rintro ⟨h1,h2,h3⟩;refine ⟨ops[i],by simp [h1],by rw [← hgd listed i hsz h1]; exact h2,fun e he hb=>?_⟩;simp only [Array.getElem?_eq_getElem h1,vat,vad,vbI,van,B4] at h3;rcases h3 e (by simpa using he) with h4 | h4
   ·rw [hb] at h4; cases h4
   ·exact h4
  ·rintro ⟨o,ho,h2,h3⟩;obtain ⟨h1,rfl⟩:=BR.1 ho;simp only [CK] at h1;refine ⟨h1,by rw [hgd listed i hsz h1]; exact h2,?_⟩;simp only [Array.getElem?_eq_getElem h1,vat,vad,vbI,van,B4];intro e he;cases hb:va0 .any e with
   | false=>exact .inl rfl
   | true=>exact .inr (h3 e (by simpa using he) hb)
 have hend:∀ (listed:Array Bool) {γ:Nat→Value} {a:Act} {w:World},(∀ i,i < ops.size→listed.getD i false=true)→Rel B nt w0 X γ (apDs s0 (ES (fun i=>listed.getD i false) 0 Ds)) a w→Q .normal a w:=by
  intro listed γ a w hall h;rw [aJ (L':=fun _=>true) _ _ (fun j _ h2=>hall j (by omega)),Jx] at h;exact hQ γ a w h
 have hnil:∀ (listed:Array Bool),listed.size=ops.size→vbG .any ops listed=[]→∀ i,i < ops.size→listed.getD i false=true:=by
  intro listed hsz hr i
  induction i using vbr with
  | _ i ih=>
   intro hi;cases hL:listed.getD i false with
   | true=>rfl
   | false=>
    exfalso;have hm:i∈vbG .any ops listed:=by
     refine (hready listed i hsz).2 ⟨ops[i],by simp [hi],hL,fun e he hb=>?_⟩
     have:=jM (i:=i) hup (by simp [hi]:ops.toList[i]?=some ops[i]) he hb
     exact ih e.on (by omega) (by omega)
    rw [hr] at hm;cases hm
 intro fuel
 induction fuel with
 | zero=>
  intro listed γ a w hsz hcl hcount h;have hall:∀ i,i < ops.size→listed.getD i false=true:=by
   intro i hi;have h0:(vaC ops.size).countP (fun i=>!listed.getD i false)=0:=by omega
   have:=(List.countP_eq_zero.1 h0) i (va6.2 hi)
   simpa using this
  refine ⟨?_,hend listed hall h⟩;refine List.eq_nil_iff_forall_not_mem.2 (fun i hi=>?_);obtain ⟨o,ho,h2,_⟩:=(hready listed i hsz).1 hi;have h1:i < ops.size:=by simpa using (BR.1 ho).1
  rw [hall i h1] at h2;cases h2
 | succ fuel ih=>
  intro listed γ a w hsz hcl hcount h;refine ⟨fun hr=>hend listed (hnil listed hsz hr) h,fun i hi=>?_⟩;obtain ⟨o,ho,hLi,hedges⟩:=(hready listed i hsz).1 hi;have hi':i < ops.size:=by simpa using (BR.1 ho).1
  have hoi:ops[i]?=some o:=by simpa using ho
  obtain ⟨D,hD⟩:∃ D,Ds[i]?=some D:=⟨Ds[i]'(by omega),by simp [hlen,hi']⟩;generalize hLdef:(fun i=>listed.getD i false)=L at *;have hL:∀ j,listed.getD j false=L j:=fun j=>congrFun hLdef j
  simp only [hL] at hLi hedges;have hin:∀ j∈H1 (I6 [] ops.toList) i,L j=true:=Gz hup hcl i ho hedges;have hout:∀ j D',Ds[j]?=some D'→L j=true→i ∉ H1 (I6 [] ops.toList) j:=by
   intro j D' hj hLj hm;have hj':j < ops.size:=by have:=(BR.1 hj).1; omega
   have hoj:ops.toList[j]?=some ops[j]:=by simp [hj']
   have:=Gz hup hcl j hoj (hcl j _ hoj hLj) i hm
   rw [hLi] at this;cases this
  have hlt:∀ j,j∈H1 (I6 [] ops.toList) i→j < i:=Gy hup i ho;have hltj:∀ j D',Ds[j]?=some D'→i∈H1 (I6 [] ops.toList) j→i < j:=by
   intro j D' hj hm;have hj':j < ops.size:=by have:=(BR.1 hj).1; omega
   exact Gy hup j (by simp [hj']:ops.toList[j]?=some ops[j]) i hm
  have hpair:∀ j D',Ds[j]?=some D'→i≠j→f5 (H1 (I6 [] ops.toList) i) (H1 (I6 [] ops.toList) j) i j D D'=true:=by
   intro j D' hj hne;have h1:=Gn (k:=0) hpairs hD;rw [BI] at h1;have h2:=Gp (k:=0) h1 hj (by omega)
   rwa [BI] at h2
  have hunord:∀ j D',Ds[j]?=some D'→i≠j→i ∉ H1 (I6 [] ops.toList) j→j ∉ H1 (I6 [] ops.toList) i →
    (∀ t,D'.dst=some t→t ∉ D.tm)∧(∀ t,D.dst=some t→D'.dst≠some t)∧(∀ n∈I0 D'.us,n ∉ D.rd)∧(∀ n∈I0 D.us,n ∉ I0 D'.us):=by
   intro j D' hj hne h1 h2;have hp:=hpair j D' hj hne;simp only [f5,fT.2 h1,fT.2 h2,AH,B4] at hp;exact ⟨zfR hp.2.1,zfQ hp.2.2.1,ZN.1 hp.2.2.2.1,ZN.1 hp.2.2.2.2⟩
  have hdiff:∀ j D',Ds[j]?=some D'→L j≠decide (j < i)→i≠j∧i ∉ H1 (I6 [] ops.toList) j∧j ∉ H1 (I6 [] ops.toList) i:=by
   intro j D' hj hne;cases hLj:L j with
   | true=>
    rw [hLj] at hne;have hji:¬ j < i:=fun h=>hne (by simp [h])
    have hij:i≠j:=fun e=>by subst e; rw [hLi] at hLj; cases hLj
    exact ⟨hij,hout j D' hj hLj,fun hm=>hji (hlt j hm)⟩
   | false=>
    rw [hLj] at hne;have hji:j < i:=by
     rcases DD j i with h | h
     ·exact h
     ·exact absurd (by simp; omega) hne
    refine ⟨by omega,fun hm=>?_,fun hm=>?_⟩
    ·have:=hltj j D' hj hm; omega
    ·have:=hin j hm; rw [hLj] at this; cases this
  have hstep:=Steps.get hs ho hD;have htake:apDs s0 (Ds.take i)=apDs s0 (ES (fun j=>decide (j < i)) 0 Ds):=by
   have:=Jy i Ds 0
   rw [BI] at this;rw [this]
  rw [htake] at hstep;have hobj:∀ n∈D.rd,DM (apDs s0 (ES L 0 Ds)).o n=DM (apDs s0 (ES (fun j=>decide (j < i)) 0 Ds)).o n:=by
   intro n hn;refine TO Ds 0 rfl (fun j D' hj hnm=>?_);rw [BI];refine vbN (fun hne=>?_);obtain ⟨h1,h2,h3⟩:=hdiff j D' hj hne;exact (hunord j D' hj h1 h2 h3).2.2.1 n hnm hn
  have htm:∀ t∈D.tm,(apDs s0 (ES L 0 Ds)).get t=(apDs s0 (ES (fun j=>decide (j < i)) 0 Ds)).get t:=by
   intro t ht;refine TN Ds 0 rfl (fun j D' hj hnm=>?_);rw [BI];refine vbN (fun hne=>?_);obtain ⟨h1,h2,h3⟩:=hdiff j D' hj hne;exact (hunord j D' hj h1 h2 h3).1 t hnm ht
  have hafter:SEq (apD (apDs s0 (ES L 0 Ds)) D) (apDs s0 (ES (fun j=>(listed.setIfInBounds i true).getD j false) 0 Ds)):=by
   have hset:∀ j,(listed.setIfInBounds i true).getD j false=(L j||BQ j i):=by
    intro j;rw [← hL j];simp only [vbq,Array.getElem?_setIfInBounds,hsz];by_cases e:i=j
    ·subst e;simp [hi',vbn]
    ·rw [BD e,IR.2 (fun h=>e h.symm),Bool.or_false]
   rw [show (fun j=>(listed.setIfInBounds i true).getD j false)=(fun j=>L j||BQ j i) from funext hset];have hsplit:Ds=Ds.take i++D :: Ds.drop (i+1):=by
    have hi2:i < Ds.length:=by omega
    have h1:Ds[i]=D:=by have:=BR.1 hD; exact this.2
    rw [← h1];simp
   have hlate:∀ j D',(Ds.drop (i+1))[j]?=some D'→L (i+1+j)=true→(∀ t,D.dst=some t→D'.dst≠some t)∧∀ n∈I0 D.us,n ∉ I0 D'.us:=by
    intro j D' hj hLj;have hj':Ds[i+1+j]?=some D':=by rw [← hj,vap]
    have h2:=hout _ D' hj' hLj;have h3:i+1+j ∉ H1 (I6 [] ops.toList) i:=fun hm=>by have:=hlt _ hm; omega
    exact ⟨(hunord _ D' hj' (by omega) h2 h3).2.1,(hunord _ D' hj' (by omega) h2 h3).2.2.2⟩
   have hli:(Ds.take i).length=i:=by simp; omega
   have hR:∀ s,apDs s (ES (fun j=>L j||BQ j i) 0 Ds)=apDs (apD (apDs s (ES L 0 (Ds.take i))) D) (ES L (i+1) (Ds.drop (i+1))):=by
    intro s;rw [show ES (fun j=>L j||BQ j i) 0 Ds=ES (fun j=>L j||BQ j i) 0 (Ds.take i++D :: Ds.drop (i+1)) by rw [← hsplit]];rw [tC,nF,hli,BI];simp only [ES,vbn,Bool.or_true,apDs];rw [aJ (L':=L) (Ds.take i) 0 (fun j _ h2=>by rw [IR.2 (by omega),Bool.or_false]),aJ (L':=L) (Ds.drop (i+1)) (i+1) (fun j h1 _=>by rw [IR.2 (by omega),Bool.or_false])]
   have hLs:∀ s,apDs s (ES L 0 Ds)=apDs (apDs s (ES L 0 (Ds.take i))) (ES L (i+1) (Ds.drop (i+1))):=by
    intro s;rw [show ES L 0 Ds=ES L 0 (Ds.take i++D :: Ds.drop (i+1)) by rw [← hsplit]];rw [tC,nF,hli,BI];simp only [ES,hLi]
   rw [hR,hLs];generalize apDs s0 (ES L 0 (Ds.take i))=s1;refine ⟨fun t=>?_,fun n=>?_⟩
   ·by_cases e:D.dst=some t
    ·rw [P5,BP e]
     have:(apDs (apD s1 D) (ES L (i+1) (Ds.drop (i+1)))).get t=(apDs (apD s1 D) (ES (fun _=>false) (i+1) (Ds.drop (i+1)))).get t:=by
      refine TN _ _ rfl (fun j D' hj hd=>?_);cases hLj:L (i+1+j) with
      | false=>rfl
      | true=>exact absurd hd ((hlate j D' hj hLj).1 t e)
     rw [this,gQ];simp only [apDs];rw [P5,BP e]
    ·rw [P5,BD e];exact TN _ _ (by rw [P5,BD e]) (fun _ _ _ _=>rfl)
   ·by_cases e:n∈I0 D.us
    ·have:DM (apDs (apD s1 D) (ES L (i+1) (Ds.drop (i+1)))).o n=DM (apDs (apD s1 D) (ES (fun _=>false) (i+1) (Ds.drop (i+1)))).o n:=by
      refine TO _ _ rfl (fun j D' hj hd=>?_);cases hLj:L (i+1+j) with
      | false=>rfl
      | true=>exact absurd hd ((hlate j D' hj hLj).2 n e)
     rw [this,gQ];exact uZ e
    ·have h1:DM (apD (apDs s1 (ES L (i+1) (Ds.drop (i+1)))) D).o n=DM (apDs s1 (ES L (i+1) (Ds.drop (i+1)))).o n:=VV e;rw [h1];exact TO _ _ (VV e).symm (fun _ _ _ _=>rfl)
  have hnext:∀ γ' a' w',Rel B nt w0 X γ' (apD (apDs s0 (ES L 0 Ds)) D) a' w'→wpAny P .any ops Q fuel (listed.setIfInBounds i true) a' w':=by
   intro γ' a' w' h';have hset:∀ j,(listed.setIfInBounds i true).getD j false=(L j||BQ j i):=by
    intro j;rw [← hL j];simp only [vbq,Array.getElem?_setIfInBounds,hsz];by_cases e:i=j
    ·subst e;simp [hi',vbn]
    ·rw [BD e,IR.2 (fun h=>e h.symm),Bool.or_false]
   refine ih (listed.setIfInBounds i true) (by simpa using hsz) ?_ ?_ (h'.seq hafter)
   ·intro j o' ho' hLj e he hb;simp only [hset] at hLj ⊢;by_cases e':j=i
    ·subst e';rw [ho] at ho';simp only [AC] at ho';subst ho';rw [hedges e he hb];rfl
    ·rw [IR.2 e',Bool.or_false] at hLj;rw [hcl j o' ho' hLj e he hb];rfl
   ·have:(vaC ops.size).countP (fun j=>!(listed.setIfInBounds i true).getD j false) < (vaC ops.size).countP (fun j=>!listed.getD j false):=by
     refine z8 (fun j _ hj=>?_) ⟨i,va6.2 hi',by rw [hL,hLi]; rfl,by rw [hset,vbn,Bool.or_true]; rfl⟩;rw [hset] at hj;rw [hL];cases hLj:L j <;> simp_all
    simp only [hL] at this hcount;omega
  obtain ⟨hok,hdst,htms,hguard⟩:=hstep;have hclean:=rD hone hD;have run:(EF E (apDs s0 (ES (fun j=>decide (j < i)) 0 Ds)).o (opd (apDs s0 (ES (fun j=>decide (j < i)) 0 Ds))) o.dst o.op).get=some (D.v,D.us)→D.rd=NX E (apDs s0 (ES (fun j=>decide (j < i)) 0 Ds)).o (opd (apDs s0 (ES (fun j=>decide (j < i)) 0 Ds))) o.op →
    (∀ x∈o.op.operands.toList,∀ t,x = .tmp t→t∈D.tm)→o.wp P a w (wpAny P .any ops Q fuel (listed.setIfInBounds i true)) Q:=by
   intro he hrd htmo;have h1:EF E (apDs s0 (ES L 0 Ds)).o (opd (apDs s0 (ES L 0 Ds))) o.dst o.op=EF E (apDs s0 (ES (fun j=>decide (j < i)) 0 Ds)).o (opd (apDs s0 (ES (fun j=>decide (j < i)) 0 Ds))) o.dst o.op:=by
    rw [Xr (ρ:=opd (apDs s0 (ES L 0 Ds))) (ρ':=opd (apDs s0 (ES (fun j=>decide (j < i)) 0 Ds))) (fun x hx=>?_)]
    ·exact Bf (fun n hn=>hobj n (by rw [hrd]; exact hn))
    ·cases x with
     | tmp t=>exact htm t (htmo _ hx t rfl)
     | _=>rfl
   rw [← h1] at he;have hn9':∀ d,o.dst=some d→d≠900000:=fun d hdd e=>by
    subst e;rw [hdd] at hok;simp only [QH] at hok;have h8:900000+1≤E.nt:=AP hok;omega
   refine Gb hT hE hSp hB h o hn9' he _ _ (fun γ' x w' h3 h4=>hnext γ' _ w' ?_);refine (h3.put hnt hok h4).seq ?_;have hfr':∀ n∈PK D.us,Fr n (apDs s0 (ES L 0 Ds)):=by
    intro n hn;refine tB Ds 0 (hfr n (hclean.2.2 n hn)) (fun j D' hj hLj=>?_);rw [BI] at hLj;have hne:i≠j:=fun e=>by subst e; rw [hLi] at hLj; cases hLj
    have hp:=hpair j D' hj hne;simp only [f5,fT.2 (hout j D' hj hLj),AH] at hp;have hdj:=ZN.1 hp.1 n hn;simp only [AX,not_or] at hdj;have hc':=rD hone hj;exact ⟨hc'.1,hdj.1,Pm hc'.2.1 hdj.2⟩
   have:=(mR hfr' hclean.2.1).put o.dst D.v
   refine this.trans ?_;rw [← hdst];cases hdd:D.dst <;> exact ⟨fun t=>by simp only [apD,hdd,St.put]; try rfl,fun n=>by simp only [apD,St.put]⟩
  unfold wpOp;rw [hoi];simp only;have htmo:∀ x∈o.op.operands.toList,∀ t,x = .tmp t→t∈D.tm:=by
   rintro x hx t rfl
   have:=uU hx
   rw [htms];unfold MI;split
   ·split
    ·exact AY _ this
    ·exact this
   ·exact this
  split at hguard
  ·rename_i hg;rw [BP (by simp [C4,hg])];exact .inl (run hguard.1 hguard.2 htmo)
  ·rename_i j b hg;have skip:D.v = .tup []→D.us=[]→C4 o (yielded ops a.tmps)=false→(if C4 o (yielded ops a.tmps)=true then o.wp P a w (wpAny P .any ops Q fuel (listed.setIfInBounds i true)) Q∨(o.asks P a w∧LetsOut Q) else wpAny P .any ops Q fuel (listed.setIfInBounds i true) (a.put o.dst undef) w):=by
    intro h1 h2 h3;rw [BD (by rw [h3]; simp)];refine hnext γ _ w ?_;refine (h.put hnt hok (v:=.tup []) (x:=undef) (by simp only [VRel]; exact ⟨#[],rfl,by simp only [VRels]⟩)).seq ?_;rw [← hdst,← h1];cases hdd:D.dst <;> exact ⟨fun t=>by simp only [apD,hdd,St.put]; try rfl,fun n=>by simp only [apD,St.put,h2,JX]⟩
   have hdjm0:∀ dj,PA ops.toList j=some dj→dj∈D.tm:=by
    intro dj hdj;rw [htms];unfold MI;rw [hg];simp only [hdj];exact AN ..
   rcases hguard with ⟨dj,c,hdj,hc,hcase⟩ | ⟨dj,hdj,hc,h1,h2⟩
   case inr=>
    rw [← htm dj (hdjm0 dj hdj)] at hc;have hy:yielded ops a.tmps j=none:=by
     unfold yielded;rw [show ops[j]?=ops.toList[j]? by simp,eU _ _ _ hdj];rcases Pl h hc with h0 | h0 <;> simp [h0]
    exact skip h1 h2 (by simp [C4,hg,hy])
   have hdjm:dj∈D.tm:=by
    rw [htms];unfold MI;rw [hg];simp only [hdj];exact AN ..
   rw [← htm dj hdjm] at hc;have hy:yielded ops a.tmps j=some c:=by
    unfold yielded;rw [show ops[j]?=ops.toList[j]? by simp,eU _ _ _ hdj];simp [wS h hc]
   rcases hcase with ⟨rfl,h1,h2⟩ | ⟨hne,h1,h2⟩
   ·rw [BP (by simp [C4,hg,hy])];exact .inl (run h1 h2 htmo)
   ·exact skip h1 h2 (by simp [C4,hg,hy,hne])
theorem Xp {Q:Exit→Act→World→Prop} (hm:P.follows .mixedOrders=true) {r:V × List (List V)} {id:Nat} {ops:Array Oper} {k:St→DN} {γ:Nat→Value} {st:St} {a:Act} {w:World}
  (he:oZ E ops.toList st k=some r) (h:Rel B nt w0 X γ st a w) (hk:∀ γ' st' a' w',Rel B nt w0 X γ' st' a' w'→k st'=some r→Q .normal a' w'):(Code.region id ops true).wp P Q a w:=by
 refine wp_region_any hm ?_;unfold oZ at he;obtain ⟨Ds,s',h1,h2,h3⟩:=Be ops.toList he;split at h3
 ·rename_i hf;simp only [DB,List.reverse_reverse] at hf;have h0:Rel B nt w0 X γ (NN (XI ops.toList) st) a { w with drawn:=w.drawn+1 }:=(h.clear (XI ops.toList)).world (Keep.drew _ w);refine Xg hT hE hSp hB hnt hn9 h1 hf (fun n hn=>Vy hn st) (fun γ' a' w' h'=>hk γ' s' a' w' (h'.seq h2.symm) h3) ops.size (Array.replicate ops.size false) (by simp) ?_ ?_ (γ:=γ) ?_
  ·intro i o ho hL;have hi:i < ops.size:=by simpa using (BR.1 ho).1
   simp [Array.getD,hi] at hL
  ·refine C2 (List.countP_le_length) ?_;simp
  ·rw [aJ (L':=fun _=>false) _ _ (fun j _ _=>by simp [Array.getD]),gQ];exact h0
 ·cases h3
end
open Go Go.RowKit
section
variable {B:BT} {nt:Nat} {w0:World} {X:Zone} {γ:Nat→Value} {st st':St} {a:Act} {w:World} {P:Program} {E:Env}
theorem kE (s:St):∀ (l:List Nat) (i:Nat),E7 .any (U8 s l) i=s.get i∨E7 .any (U8 s l) i = .any
 | [],i=>.inr rfl
 | j :: r,i=>by
  simp only [U8,RO];by_cases e:j=i
  ·subst e; simp
  ·simp only [BD e];exact kE s r i
theorem Cy (s:St):∀ (l:List Nat) (n:Nat) (ob:Ob),DM (fG s l) n=some ob→DM s.o n=some ob
 | [],n,ob,h=>by simp [fG,DM,E7] at h
 | j :: r,n,ob,h=>by
  simp only [fG,EI] at h;split at h
  ·rename_i e;subst e;exact h
  ·exact Cy s r n ob h
theorem Rel.prune (h:Rel B nt w0 X γ st a w) (kp:Option (List Nat)):Rel B nt w0 X γ (prune kp st) a w:=by
 cases kp with
 | none=>exact h
 | some l=>exact h.less (fun i=>kE st l i) (fun _ _ h=>h)
theorem VRels.putOne {γ:Nat→Value} {o:Store} {w:World} {O:Nat→Prop} {v:V} {x:Value} (hv:VRel γ o w O v x):∀ {cs:List V} {xs:List Value} {c:Nat},VRels γ o w O cs xs→xs[c]?=some x→VRels γ o w O (G4 cs c [v]) xs
 | [],[],_,_,h=>by simp at h
 | [],_ :: _,_,h,_=>by simp only [VRels] at h
 | _ :: _,[],_,h,_=>by simp only [VRels] at h
 | u :: cs,y :: xs,0,h,hx=>by
  simp only [VRels] at h;simp only [BY,AC] at hx;subst hx
  have:G4 cs 0 []=cs:=by cases cs <;> rfl
  simp only [G4,this,VRels];exact ⟨hv,h.2⟩
 | u :: cs,y :: xs,c+1,h,hx=>by
  simp only [VRels] at h;simp only [C6] at hx;simp only [G4,VRels];exact ⟨h.1,VRels.putOne hv h.2 hx⟩
def Tm (γ:Nat→Value) (o:Store) (w:World) (a:Act) (x:Value):Loc→Prop
 | .tmp t=>x=a.tmps.getD t undef
 | .cell b c=>∃ cs bb T cc,DM o b=some (.box cs)∧γ b = .pointer (some ⟨bb,0,none⟩)∧w.heap[bb]?=some (.cells cc T (0,0))∧cc.toList[c]?=some x
def m8 (γ:Nat→Value) (o:Store) (w:World) (a:Act) (x:Value):Loc→Prop
 | .tmp t=>x=a.tmps.getD t undef
 | .cell b c=>∀ cs,DM o b=some (.box cs)→∃ bb T cc,γ b = .pointer (some ⟨bb,0,none⟩)∧w.heap[bb]?=some (.cells cc T (0,0))∧cc.toList[c]?=some x
theorem Rel.at (h:Rel B nt w0 X γ st a w) (l:Loc) {v:V} (hv:qE st l=v) (hne:v≠.any):∃ x,VRel γ st.o w (DR X γ st.o) v x ∧
  Tm γ st.o w a x l:=by
 subst hv;cases l with
 | tmp t=>exact ⟨_,h.tm t,rfl⟩
 | cell b c=>
  simp only [qE] at hne ⊢;split at hne
  ·rename_i cs hob;have hor:=h.ob b _ hob;simp only [ObRel] at hor;obtain ⟨bb,cc,T,hg,hh,hr⟩:=hor;rw [fU] at hne ⊢;cases hc:cs[c]? with
   | none=>rw [hc] at hne; exact absurd rfl hne
   | some u=>
    obtain ⟨x,hx,hrx⟩:=hr.get hc;exact ⟨x,hrx,cs,bb,T,cc,hob,hg,hh,hx⟩
  ·exact absurd rfl hne
theorem Rel.putLoc {γ2:Nat→Value} {st2:St} (h2:Rel B nt w0 X γ2 st2 a w) (l:Loc) {v:V} {x:Value} (hv:VRel γ2 st2.o w (DR X γ2 st2.o) v x)
  (hx:m8 γ2 st2.o w a x l):Rel B nt w0 X γ2 (putLoc st2 v l) a w:=by
 cases l with
 | tmp t=>
  simp only [m8] at hx;subst hx;refine ⟨h2.sz,h2.df,fun i=>?_,h2.ob,h2.lt,h2.dis,h2.keep,h2.nr,h2.fl,h2.pn⟩;simp only [FM.putLoc,St.get,RO];split
  ·rename_i e;subst e;exact hv
  ·exact h2.tm i
 | cell b c=>
  simp only [FM.putLoc];split
  ·rename_i cs hob;simp only [m8] at hx;obtain ⟨bb,T,cc,hg,hh,hcx⟩:=hx cs hob;have hob':∀ m,DM ((b,some (.box (G4 cs c [v]))) :: st2.o) m=if b=m then some (.box (G4 cs c [v])) else DM st2.o m:=fun m=>EI ..
   have hlen:(G4 cs c [v]).length=cs.length:=by
    have key:∀ (cs:List V) (c:Nat),(G4 cs c [v]).length=cs.length:=by
     intro cs
     induction cs with
     | nil=>intro c; cases c <;> rfl
     | cons u r ih=>
      intro c;cases c with
      | zero=>
       have:G4 r 0 []=r:=by cases r <;> rfl
       simp [G4,this]
      | succ c=>simp [G4,ih]
    exact key cs c
   have hP:∀ b',FE γ2 ((b,some (.box (G4 cs c [v]))) :: st2.o) b'→FE γ2 st2.o b':=by
    rintro b' ⟨m,ob,hm,hb⟩;rw [hob'] at hm;split at hm
    ·rename_i e;subst e;simp only [AC] at hm;subst hm;exact ⟨_,_,hob,hb⟩
    ·exact ⟨m,ob,hm,hb⟩
   have hO:∀ b',b' < w.heap.size→DR X γ2 ((b,some (.box (G4 cs c [v]))) :: st2.o) b'→DR X γ2 st2.o b':=fun b' _ hb=>hb.imp_left (hP b')
   have hc:Cmp γ2 st2.o γ2 ((b,some (.box (G4 cs c [v]))) :: st2.o):=by
    intro m ob' hm;rw [hob'] at hm;split at hm
    ·rename_i e;subst e;simp only [AC] at hm;subst hm;exact ⟨rfl,_,hob,hlen.symm⟩
    ·exact ⟨rfl,ob',hm,ob'.fits_refl⟩
   refine ⟨h2.sz,h2.df,fun i=>VRel.mono (Keep.refl _ w) hO (VRel.cmp hc (h2.tm i)),fun m ob hm=>?_,fun b' hb=>h2.lt b' (hP b' hb),fun m1 m2 ob1 ob2 b' hne h3 h4 hb1 hb2=>?_,h2.keep,fun b' hb=>h2.nr b' (hP b' hb),h2.fl,fun p hp ob hm=>?_⟩
   ·simp only at hm ⊢;rw [hob'] at hm;split at hm
    ·rename_i e;subst e;simp only [AC] at hm;subst hm;have hor:=h2.ob _ _ hob;simp only [ObRel] at hor ⊢;obtain ⟨bb',cc',T',hg',hh',hr'⟩:=hor;rw [hg] at hg';simp only [C0,AC,DH,B7] at hg';subst hg';rw [hh] at hh';simp only [AC,Obj.cells.injEq] at hh';obtain ⟨rfl,rfl,_⟩:=hh';exact ⟨bb,cc,T,hg,hh,VRels.mono (Keep.refl _ w) hO (VRels.cmp hc (VRels.putOne hv hr' hcx))⟩
    ·exact (h2.ob m ob hm).later (fun _ _=>rfl) (Keep.refl _ w) hO hc
   ·have key:∀ m ob,DM ((b,some (.box (G4 cs c [v]))) :: st2.o) m=some ob→FF (γ2 m) ob b'→∃ ob0,DM st2.o m=some ob0∧FF (γ2 m) ob0 b':=by
     intro m ob hm hb;rw [hob'] at hm;split at hm
     ·rename_i e;subst e;simp only [AC] at hm;subst hm;exact ⟨_,hob,hb⟩
     ·exact ⟨ob,hm,hb⟩
    obtain ⟨o1,q1,q2⟩:=key m1 ob1 h3 hb1;obtain ⟨o2,q3,q4⟩:=key m2 ob2 h4 hb2;exact h2.dis m1 m2 o1 o2 b' hne q1 q3 q2 q4
   ·simp only at hm;rw [hob'] at hm;split at hm
    ·rename_i e;exact h2.pn p hp _ (e ▸ hob)
    ·exact h2.pn p hp ob hm
  ·exact h2
theorem Rel.canon1 (h:Rel B nt w0 X γ st a w) (c:Can):∃ γ',Rel B nt w0 X γ' (canon1 c st) a w:=by
 unfold FM.canon1;split
 ·exact ⟨γ,h⟩
 rename_i h9;have h9:=IR.1 h9;split
 ·rename_i hv;split
  ·rename_i hks;have hks':0 < c.ks.length:=AP hks;obtain ⟨x,hx,hat⟩:=h.at c.loc hv (by simp);simp only [VRel] at hx;have hadd:=h.add c.nm h9 (.row true c.e c.ag c.ks []) (.slice none 0 0) (fun b hb=>by simp [FF,CC] at hb) (fun O' hO'=>by
    simp only [ObRel];exact ⟨hks',by simp [strMax],[],⟨by simp,.inl ⟨rfl,rfl⟩⟩,fun i y hy=>by simp at hy⟩)
   have hadd:=hadd.shrink (F:=X.far) (fun b hb=>⟨hb,fun hb'=>by simp [FF,CC] at hb'⟩);refine ⟨_,hadd.putLoc c.loc (x:=x) ?_ ?_⟩
   ·simp only [VRel,GT,CP];subst hx;exact ⟨AZ _,none,0,0,none,rfl,rfl,AZ _,AZ _,AZ _,by simp [maxLen],.inl rfl,fun _=>rfl⟩
   ·revert hat;cases c.loc with
    | tmp t=>exact fun hat=>hat
    | cell b k=>
     intro hat;obtain ⟨cs,bb,T,cc,q1,q2,q3,q4⟩:=hat;intro cs2 hcs2;rw [GT] at hcs2;split at hcs2
     ·cases hcs2
     ·rename_i hne;exact ⟨bb,T,cc,by simp only [BD hne]; exact q2,q3,q4⟩
  ·exact ⟨γ,h⟩
 ·rename_i n lo hi hv;split
  ·rename_i e ag ks l hn hlo hob;have hn':=IR.1 hn;obtain rfl:=F6.1 hlo;obtain ⟨x,hx,hat⟩:=h.at c.loc hv (by simp);simp only [VRel,hob] at hx;have hk:=h.kill n;have hor:=h.ob n _ hob;have hkb:∀ b,FF (γ n) (.row true e ag ks l) b→E9 γ st.o n b:=fun b hb=>⟨_,hob,hb⟩
   have hadd:=hk.add c.nm h9 (.row true e ag ks l) (γ n) (fun b hb=>⟨.inr (hkb b hb),(h.lt b ⟨n,_,hob,hb⟩).2⟩) (fun O' hO'=>by
    simp only [ObRel] at hor ⊢;obtain ⟨k1,k2,xs,k3,k4⟩:=hor;refine ⟨k1,k2,xs,k3,fun i y hy=>Kd.RelAll.mono (Keep.refl _ w) (fun b _ hb=>?_) (fun _ _ hu=>hu) (k4 i y hy)⟩;rcases hO' b hb with h1 | h1 | h1
    ·obtain ⟨m,ob1,q1,q2⟩:=h1;simp only [St.up] at q1;rw [EI] at q1;split at q1
     ·cases q1
     ·exact .inl ⟨m,ob1,q1,q2⟩
    ·exact .inr h1
    ·obtain ⟨ob1,q1,q2⟩:=h1;exact .inl ⟨n,ob1,q1,q2⟩)
   have hadd:=hadd.shrink (F:=X.far) (fun b hb=>⟨.inl hb,fun hb'=>h.nr b ⟨n,_,hob,hb'⟩ hb⟩);refine ⟨_,hadd.putLoc c.loc (x:=x) ?_ ?_⟩
   ·simp only [VRel,GT,CP];exact hx
   ·revert hat;cases c.loc with
    | tmp t=>exact fun hat=>hat
    | cell b k=>
     intro hat;obtain ⟨cs,bb,T,cc,q1,q2,q3,q4⟩:=hat;intro cs2 hcs2;rw [GT] at hcs2;split at hcs2
     ·cases hcs2
     ·rename_i hne;exact ⟨bb,T,cc,by simp only [BD hne]; exact q2,q3,q4⟩
  ·exact ⟨γ,h⟩
 ·exact ⟨γ,h⟩
theorem Rel.canons:∀ (l:List Can) {γ:Nat→Value} {st:St},Rel B nt w0 X γ st a w→∃ γ',Rel B nt w0 X γ' (canons l st) a w
 | [],γ,st,h=>⟨γ,h⟩
 | c :: r,γ,st,h=>by
  obtain ⟨γ1,h1⟩:=h.canon1 c;exact Rel.canons r h1
theorem Rel.restrict (h:Rel B nt w0 X γ st a w) (kp:KP):∃ γ',Rel B nt w0 X γ' (restrict kp st) a w:=by
 have h1:Rel B nt w0 X γ ⟨U8 st kp.t,st.o⟩ a w:=h.less (fun i=>kE st kp.t i) (fun _ _ h=>h);obtain ⟨γ',h2⟩:=h1.canons kp.c;exact ⟨γ',h2.less (fun i=>kE _ kp.t i) (fun n ob=>Cy _ kp.o n ob)⟩
variable (hT:TiOK P B E) (hE:∀ t,t∈E.eqs→EqSnd P t (E.tyd t).ks) (hSp:SpOK P B E w0 X) (hB:BldOK P B E) (hnt:E.nt=nt) (hn9:nt≤900000)
include hT hE hSp hB hnt hn9
theorem o0 {Q:Exit→Act→World→Prop} {r:V × List (List V)} {ops:Array Oper} {k:St→DN} :
  ∀ (l:List Oper) (i:Nat) {γ:Nat→Value} {st:St} {a:Act} {w:World},ops.toList.drop i=l→PB E ops.toList l st k=some r→Rel B nt w0 X γ st a w →
   (∀ γ' st' a' w',Rel B nt w0 X γ' st' a' w'→k st'=some r→Q .normal a' w')→wpOps P ops Q (List.range' i l.length) a w
 | [],i,γ,st,a,w,hl,he,h,hk=>by
  simp only [PB] at he;exact hk _ _ _ _ h he
 | o :: l,i,γ,st,a,w,hl,he,h,hk=>by
  have hoi:ops[i]?=some o:=by
   rw [← vau]
   have:=congrArg (·[0]?) hl
   simpa using this
  have hl':ops.toList.drop (i+1)=l:=by
   have:=congrArg (AS 1) hl
   simpa using this
  simp only [AM,List.range'_succ,wpOps,hoi];simp only [PB] at he;have hd:QH E o.dst=true:=by
   cases hd:QH E o.dst with
   | true=>rfl
   | false=>rw [hd] at he; cases he
  rw [hd] at he;simp only at he;have go:∀ {st:St},Rel B nt w0 X γ st a w→C4 o (yielded ops a.tmps)=true→((EF E st.o (opd st) o.dst o.op).run fun v us=>PB E ops.toList l ((st.ups us).put o.dst v) k)=some r →
    (if C4 o (yielded ops a.tmps)=true then o.wp P a w (wpOps P ops Q (List.range' (i+1) l.length)) Q∨(o.asks P a w∧LetsOut Q) else wpOps P ops Q (List.range' (i+1) l.length) (a.put o.dst undef) w):=by
   intro st h hw he;rw [BP hw];obtain ⟨v,us,h1,h2⟩:=T.run_some he;refine .inl (Gb hT hE hSp hB h o (fun d hdd e=>by subst e; rw [hdd] at hd; simp only [QH] at hd; have h8:900000+1≤E.nt:=AP hd; omega) h1 _ _ (fun γ' x w' h3 h4=>?_));exact o0 l (i+1) hl' h2 (h3.put hnt hd h4) hk
  have no:∀ {st:St},Rel B nt w0 X γ st a w→C4 o (yielded ops a.tmps)=false→PB E ops.toList l (st.put o.dst (.tup [])) k=some r →
    (if C4 o (yielded ops a.tmps)=true then o.wp P a w (wpOps P ops Q (List.range' (i+1) l.length)) Q∨(o.asks P a w∧LetsOut Q) else wpOps P ops Q (List.range' (i+1) l.length) (a.put o.dst undef) w):=by
   intro st h hw he;rw [BD (by rw [hw]; simp)];exact o0 l (i+1) hl' he (h.put hnt hd (by simp only [VRel]; exact ⟨#[],rfl,by simp only [VRels]⟩)) hk
  split at he
  ·rename_i hg;exact go h (by simp [C4,hg]) he
  ·rename_i j b hg;split at he
   ·rename_i dj hdj;split at he
    ·rename_i c hc;have hy:yielded ops a.tmps j=some c:=by
      unfold yielded;rw [show ops[j]?=ops.toList[j]? by simp,eU _ _ _ hdj];simp [wS h hc]
     have hlit:=h.lit hc;cases c with
     | true=>
      simp only at he;cases b with
      | true=>exact go (st:=st.put (some dj) (.bool true)) hlit (by simp [C4,hg,hy]) he
      | false=>exact no (st:=st.put (some dj) (.bool true)) hlit (by simp [C4,hg,hy]) he
     | false=>
      simp only at he;cases b with
      | false=>exact go (st:=st.put (some dj) (.bool false)) hlit (by simp [C4,hg,hy]) he
      | true=>exact no (st:=st.put (some dj) (.bool false)) hlit (by simp [C4,hg,hy]) he
    ·rename_i hc;have hy:yielded ops a.tmps j=none:=by
      unfold yielded;rw [show ops[j]?=ops.toList[j]? by simp,eU _ _ _ hdj];rcases Pl h hc with h0 | h0 <;> simp [h0]
     exact no h (by simp [C4,hg,hy]) he
    ·cases he
   ·cases he
def o5:Out→Exit
 | .normal=>.normal
 | .exit i=>.exit i
 | .ret=>.ret
omit hT hE hSp hB hnt hn9 in
theorem Dl (J:Nat→Prop) (h:∃ n,J n):∃ n,J n∧∀ m,J m→n≤m:=by
 obtain ⟨n,hn⟩:=h
 induction n using Nat.strongRecOn with
 | _ n ih=>
  by_cases hm:∃ m,m < n∧J m
  ·obtain ⟨m,h1,h2⟩:=hm;exact ih m h1 h2
  ·exact ⟨n,hn,fun m hJ=>Nat.le_of_not_lt (fun hlt=>hm ⟨m,hlt,hJ⟩)⟩
theorem XJ (hm:P.follows .mixedOrders=true) {r:V × List (List V)}:∀ (c:Code) {k:Out→St→DN} {Q:Exit→Act→World→Prop} {γ:Nat→Value} {st:St} {a:Act} {w:World},QB E c st k=some r→Rel B nt w0 X γ st a w →
  (∀ o γ' st' a' w',Rel B nt w0 X γ' st' a' w'→k o st'=some r→Q (o5 o) a' w')→c.wp P Q a w
 | .skip,k,Q,γ,st,a,w,he,h,hk=>wp_skip (hk .normal γ st a w h he)
 | .exit id,k,Q,γ,st,a,w,he,h,hk=>wp_exit (hk (.exit id) γ st a w h he)
 | .ret,k,Q,γ,st,a,w,he,h,hk=>wp_ret (hk .ret γ st a w h he)
 | .label _,k,Q,γ,st,a,w,he,h,hk=>by simp [QB,J5] at he
 | .goto _,k,Q,γ,st,a,w,he,h,hk=>by simp [QB,J5] at he
 | .scope _,k,Q,γ,st,a,w,he,h,hk=>by simp [QB,J5] at he
 | .rangeFunc _ _ _ _,k,Q,γ,st,a,w,he,h,hk=>by simp [QB,J5] at he
 | .region id ops draw,k,Q,γ,st,a,w,he,h,hk=>by
  simp only [QB,J5] at he;cases draw with
  | true=>
   simp only at he;exact Xp hT hE hSp hB hnt hn9 hm he h (fun γ' st' a' w' h' hk'=>hk .normal γ' _ a' w' (h'.prune _) hk')
  | false=>
   simp only at he;refine wp_region ?_;rw [show ops.size=ops.toList.length by simp,List.range_eq_range'];exact o0 hT hE hSp hB hnt hn9 ops.toList 0 rfl he h (fun γ' st' a' w' h' hk'=>hk .normal γ' _ a' w' (h'.prune _) hk')
 | .seq x y,k,Q,γ,st,a,w,he,h,hk=>by
  simp only [QB,J5] at he;refine wp_seq (XJ hm x he h (fun o γ' st' a' w' h' hk'=>?_));cases o with
  | normal=>exact XJ hm y hk' h' hk
  | exit i=>exact hk (.exit i) γ' st' a' w' h' hk'
  | ret=>exact hk .ret γ' st' a' w' h' hk'
 | .cond c x y,k,Q,γ,st,a,w,he,h,hk=>by
  simp only [QB,J5] at he;split at he
  ·rename_i b hc;have hcr:=GD h c;rw [hc] at hcr;simp only [VRel] at hcr;have hlit:Rel B nt w0 X γ (kO st c b) a w:=by
    unfold kO;split
    ·exact h.lit hc
    ·exact h
   cases b with
   | true=>exact wp_cond_true hcr (XJ hm x he hlit hk)
   | false=>exact wp_cond_false hcr (XJ hm y he hlit hk)
  ·cases he
 | .block id c,k,Q,γ,st,a,w,he,h,hk=>by
  simp only [QB,J5] at he;refine wp_block (XJ hm c he h (fun o γ' st' a' w' h' hk'=>?_));cases o with
  | normal=>exact hk .normal γ' st' a' w' h' hk'
  | ret=>exact hk .ret γ' st' a' w' h' hk'
  | exit i=>
   simp only [o5,Exit.inBlock];simp only [DQ] at hk';cases hb:BQ i id with
   | true=>
    rw [hb] at hk';rw [BP (F6.1 hb)];exact hk .normal γ' st' a' w' h' hk'
   | false=>
    rw [hb] at hk';rw [BD (IR.1 hb)];exact hk (.exit i) γ' st' a' w' h' hk'
 | .loop c,k,Q,γ,st,a,w,he,h,hk=>by
  simp only [QB,J5] at he;generalize E7 ⟨[],[],[]⟩ E.lp (ZQ c)=kp at he
  let J:Act→World→Nat→Prop:=fun a w n=>∃ γ st,Rel B nt w0 X γ st a w∧RP c (J5 RP E c) kp n st k=some r
  obtain ⟨γr,hr⟩:=h.restrict kp;refine wp_loop (fun a w=>∃ n,J a w n) (fun a w=>(Classical.epsilon fun n=>J a w n∧∀ m,J a w m→n≤m)) ⟨_,γr,_,hr,he⟩ ?_;intro a w hI;have hleast:=Classical.epsilon_spec (Dl (J a w) hI);generalize (Classical.epsilon fun n=>J a w n∧∀ m,J a w m→n≤m)=n at hleast;obtain ⟨⟨γ1,st1,h1,he1⟩,_⟩:=hleast;cases n with
  | zero=>simp [RP] at he1
  | succ n=>
   simp only [RP] at he1;refine XJ hm c he1 h1 (fun o γ' st' a' w' h' hk'=>?_);obtain ⟨γr,hr⟩:=h'.restrict kp;cases o with
   | normal=>
    simp only [o5,Exit.then];have hJ:J a' w' n:=⟨γr,_,hr,hk'⟩;refine ⟨⟨n,hJ⟩,?_⟩
    have:=Classical.epsilon_spec (Dl (J a' w') ⟨n,hJ⟩)
    exact Nat.lt_succ_of_le (this.2 n hJ)
   | exit i=>exact hk (.exit i) γr _ a' w' hr hk'
   | ret=>exact hk .ret γr _ a' w' hr hk'
end
open Go Go.RowKit
theorem qR (o:Store) (bs:List V) (tk:Option Kd) (v:V):HP (J8 (EU o bs tk v))=true:=by
 cases v <;> simp only [EU] <;> repeat' split
 all_goals rfl
theorem qG (o:Store) (bs:List V):∀ (l:List V) (ks:List Kd),(MA (fun k v=>J8 (EU o bs k v)) ks l).all HP=true
 | [],ks=>by cases ks <;> rfl
 | v :: l,[]=>by simp [MA,qR,qG o bs l []]
 | v :: l,k :: ks=>by simp [MA,qR,qG o bs l ks]
theorem sO (o:Store) (ks:List Kd) (v:V):(match M4 o ks v with | .agg l=>l.all HP | v=>HP v)=true∧∀ l,M4 o ks v≠.tup l:=by
 by_cases hc:∃ l,v = .agg l
 ·obtain ⟨l,rfl⟩:=hc;simp only [M4];exact ⟨qG o [] l ks,fun l' h=>by cases h⟩
 ·have h1:M4 o ks v=J8 (EU o [] ks.head? v):=by cases v <;> first | rfl | exact absurd ⟨_,rfl⟩ hc
  have h2:=qR o [] ks.head? v;rw [h1];cases hx:J8 (EU o [] ks.head? v) <;> rw [hx] at h2 <;> simp only [HP] at h2 ⊢ <;> first | (cases h2; done) | (refine ⟨trivial,fun l h=>?_⟩; cases h)
theorem sQ (o:Store) (ks:List (List Kd)) (v:V):L6 (HM o ks v)=true:=by
 by_cases hc:∃ l,v = .tup l
 ·obtain ⟨l,rfl⟩:=hc;simp only [HM,L6];have key:∀ (l:List V) (ks:List (List Kd)),((HM.go o ks l).all fun v=>match v with | .agg l=>l.all HP | v=>HP v)=true:=by
   intro l
   induction l with
   | nil=>intro ks; cases ks <;> rfl
   | cons v l ih=>
    intro ks;cases ks with
    | nil=>simp only [HM.go,vax,AH]; exact ⟨(sO o [] v).1,ih []⟩
    | cons k ks=>simp only [HM.go,vax,AH]; exact ⟨(sO o k v).1,ih ks⟩
  exact key l ks
 ·have h1:HM o ks v=M4 o (ks.headD []) v:=by cases v <;> first | rfl | exact absurd ⟨_,rfl⟩ hc
  rw [h1];obtain ⟨h2,h3⟩:=sO o (ks.headD []) v;cases hx:M4 o (ks.headD []) v <;> rw [hx] at h2 <;> simp only [L6] at h2 ⊢ <;> first | exact h2 | exact absurd hx (h3 _)
theorem nW (o:Store) (all:List Nat) (cs:List V):(cs.map (FL o all)).all RW=true:=by
 refine CQ.2 (fun v hv=>?_);obtain ⟨u,_,rfl⟩:=CJ.1 hv;rcases eG o all u with ⟨_,_,_,_,_,_,_,_,_,h1⟩ | ⟨h1,_⟩
 ·rw [h1]; rfl
 ·cases hcc:FL o all u <;> first | rfl | (rw [hcc] at h1; cases h1)
section
variable {B:BT} {nt:Nat} {w0:World} {X:Zone} {γ:Nat→Value} {st st':St} {a:Act} {w:World} {P:Program} {E:Env}
theorem zfm (h:Rel B nt w0 X γ st a w) {n:Nat} {cs:List V} (ho:DM st.o n=some (.box cs)) {extra:List Nat} {m:Nat} (hm:m∈extra) {b:Nat} (hr:RowOf γ st.o m b) :
  ¬ (E9 γ st.o n b∨∃ m∈G6 st.o (EY cs++extra) cs,E9 γ st.o m b):=by
 intro hLb;obtain ⟨e,ag,ks,l,h5,h6⟩:=hr;rcases hLb with ⟨ob,h7,h8⟩ | ⟨m2,h9,ob,h7,h8⟩
 ·have hne:n≠m:=by
   rintro rfl;rw [ho] at h5;cases h5
  exact h.dis n m ob _ b hne h7 h5 h8 h6
 ·by_cases hne:m2=m
  ·subst hne;obtain ⟨hi2,e2,ag2,ks2,l2,k1,k2,k3⟩:=S9.1 h9;rw [VD] at k3;have q1:=VE (XU k1);have q2:=VE hm;omega
  ·exact h.dis m2 m ob _ b hne h7 h5 h8 h6
theorem zaf {p:Value} (h:Rel ⟨B.T,B.e,some p,B.ng,B.F⟩ nt w0 X γ st a w) {v:V} {x:Value} (hv:VRel γ st.o w (DR X γ st.o) v x) {ks:List (List Kd)} {vs:List V} {r:V} {out:List (List V)} (he:jT st.o ks (GN vs) v=some (r,out)) {g0:Value} (hp:p=SW g0) :
  ∃ γ',Rel B.base 0 w0 X γ' ⟨[],GS r out⟩ J3 w∧VRel γ' (GS r out) w (DR X γ' (GS r out)) (M5 r) x∧KV vs r out g0 (γ' 900000):=by
 have hfar:∀ b,X.far b→DR X γ st.o b∧∀ b',b'=b→¬ FE γ st.o b':=fun b hb=>⟨.inr hb,fun b' e hP=>h.nr b' hP (e ▸ hb)⟩
 have hbd:∀ {n:Nat} {cs:List V} (ho:DM st.o n=some (.box cs)) (extra:List Nat),∃ γb,Rel B.base 0 w0 X γb ⟨[],EP (cs.map (FL st.o (EY cs++extra)))⟩ J3 w∧γb 900000=γ n ∧
   ∀ b,FE γb (EP (cs.map (FL st.o (EY cs++extra)))) b→E9 γ st.o n b∨∃ m∈G6 st.o (EY cs++extra) cs,E9 γ st.o m b:=by
  intro n cs ho extra;exact h.bound ho extra (w1:=w0) (own1:=X.own) (F:=X.far) h.keep (fun b hb=>⟨.inr hb,fun ⟨ob,h1,h2⟩=>h.nr b ⟨n,ob,h1,h2⟩ hb,fun m _ ⟨ob,h1,h2⟩=>h.nr b ⟨m,ob,h1,h2⟩ hb,fun m _ ⟨ob,h1,h2⟩=>h.nr b ⟨m,ob,h1,h2⟩ hb⟩)
   (fun b hb=>by
    rcases hb with ⟨ob,h1,h2⟩ | ⟨m,_,ob,h1,h2⟩
    ·exact (h.lt b ⟨n,ob,h1,h2⟩).2
    ·exact (h.lt b ⟨m,ob,h1,h2⟩).2)
 have hbP:∀ {n b:Nat} {hs:List Nat},(E9 γ st.o n b∨∃ m∈hs,E9 γ st.o m b)→FE γ st.o b:=by
  rintro n b hs (⟨ob,h1,h2⟩ | ⟨m,_,ob,h1,h2⟩)
  ·exact ⟨n,ob,h1,h2⟩
  ·exact ⟨m,ob,h1,h2⟩
 unfold jT at he;split at he
 ·rename_i s0 hb;split at he
  ·rename_i s hob;simp only [AC,AU] at he;obtain ⟨rfl,rfl⟩:=he;obtain ⟨hR,hP⟩:=h.boundB hob (w1:=w0) (own1:=X.own) (F:=X.far) h.keep (fun b hb=>⟨.inr hb,fun ⟨ob,h1,h2⟩=>h.nr b ⟨_,ob,h1,h2⟩ hb⟩) (fun b ⟨ob,h1,h2⟩=>(h.lt b ⟨_,ob,h1,h2⟩).2);have hmo:GS (HM st.o ks v) [[.bld s]]=EP [.bld s]:=by cases HM st.o ks v <;> rfl
   have hf:=sQ st.o ks v;refine ⟨_,by rw [hmo]; exact hR,?_,?_⟩
   ·rw [hmo,VM hf];refine sR h hv (fun b _ hb=>?_) (fun m hm b hr hb=>?_) ks
    ·exact hb.imp_left (fun hb=>by obtain ⟨ob,h1,h2⟩:=hP b hb; exact ⟨_,ob,h1,h2⟩)
    ·obtain ⟨e,ag,ks',l,q1,q2⟩:=hr;rcases hb with hb | hb
     ·obtain ⟨ob,h1,h2⟩:=hP b hb;refine h.dis 900000 m ob _ b ?_ h1 q1 h2 q2;rintro rfl;rw [hob] at q1;cases q1
     ·exact h.nr b ⟨m,_,q1,q2⟩ hb
   ·simp only [KV,hb];exact ⟨hf,rfl,(h.pn p rfl _ hob).trans hp⟩
  ·cases he
 ·rename_i cs0 hnb hb;split at he
  ·rename_i cs hob;simp only [AC,AU] at he;obtain ⟨rfl,rfl⟩:=he;obtain ⟨γb,hR,hg,hP⟩:=hbd hob (K7 v);have hmo:GS (HM st.o ks v) [cs.map (FL st.o (EY cs++K7 v))]=EP (cs.map (FL st.o (EY cs++K7 v))):=by cases HM st.o ks v <;> rfl
   have hf:=sQ st.o ks v;refine ⟨γb,by rw [hmo]; exact hR,?_,?_⟩
   ·rw [hmo,VM hf];refine sR h hv (fun b _ hb=>hb.imp_left (fun hb=>hbP (hP b hb))) (fun m hm b hr hb=>?_) ks;rcases hb with hb | hb
    ·exact zfm h hob hm hr (hP b hb)
    ·obtain ⟨e,ag,ks',l,q1,q2⟩:=hr;exact h.nr b ⟨m,_,q1,q2⟩ hb
   ·simp only [KV,hb];refine ⟨hf,?_,?_⟩
    ·unfold sZ;split
     ·exact absurd rfl (hnb _)
     ·exact absurd rfl (hnb _)
     ·exact nW _ _ _
    ·rw [hg];exact (h.pn p rfl _ hob).trans hp
  ·cases he
 ·rename_i hb;have fin9:∀ v,VRel γ st.o w (DR X γ st.o) v x→∃ γ',Rel B.base 0 w0 X γ' ⟨[],GS (HM st.o ks v) []⟩ J3 w∧VRel γ' (GS (HM st.o ks v) []) w (DR X γ' (GS (HM st.o ks v) [])) (M5 (HM st.o ks v)) x∧KV vs (HM st.o ks v) [] g0 (γ' 900000):=by
   intro v hv;have hf:=sQ st.o ks v;have hmo:GS (HM st.o ks v) []=[]:=by
    cases hx:HM st.o ks v <;> first | rfl | (rw [hx] at hf; simp only [L6,HP] at hf; cases hf)
   refine ⟨γ,?_,?_,?_⟩
   ·rw [hmo];refine ⟨rfl,rfl,fun i=>by simp only [St.get,E7,VRel],fun n ob hn=>?_,?_,?_,h.keep,?_,h.fl,fun p hp=>by cases hp⟩
    ·simp only [DM,E7] at hn; cases hn
    ·rintro b ⟨n,ob,hn,_⟩; simp only [DM,E7] at hn; cases hn
    ·intro n m ob ob' b _ hn; simp only [DM,E7] at hn; cases hn
    ·rintro b ⟨n,ob,hn,_⟩; simp only [DM,E7] at hn; cases hn
   ·rw [hmo,VM hf];refine sR h hv (fun b _ hb=>?_) (fun m hm b hr hb=>?_) ks
    ·rcases hb with ⟨n,ob,hn,_⟩ | hb
     ·simp only [DM,E7] at hn; cases hn
     ·exact .inr hb
    ·rcases hb with ⟨n,ob,hn,_⟩ | hb
     ·simp only [DM,E7] at hn; cases hn
     ·obtain ⟨e,ag,ks',l,q1,q2⟩:=hr;exact h.nr b ⟨m,_,q1,q2⟩ hb
   ·simp only [KV,hb];cases hx:HM st.o ks v <;> first | (rw [hx] at hf; exact hf) | (rw [hx] at hf; simp only [L6,HP] at hf; cases hf)
  split at he
  ·rename_i n i c;split at he
   ·rename_i cs hob hc;simp only [AC,AU] at he;obtain ⟨rfl,rfl⟩:=he;obtain rfl:=F6.1 hc;obtain ⟨γb,hR,hg,hP⟩:=hbd hob [];refine ⟨γb,hR,?_,?_⟩
    ·simp only [VRel,hob] at hv;simp only [GS,M5,ER,VRel];rw [ZP (nW _ _ _),EI,BP rfl,hg];exact ⟨trivial,hv.2⟩
    ·simp only [KV,hb,Z6];exact nW _ _ _
   ·cases he
  ·rename_i n lo hi;split at he
   ·rename_i e ag ks' l hob;split at he
    ·rename_i hlo;simp only [AC,AU] at he;obtain ⟨rfl,rfl⟩:=he;obtain rfl:=F6.1 hlo;obtain ⟨hpr,hpb⟩:=rQ (γ':=fun m=>if m=900000 then x else γ m) (o':=[(900000,some (Ob.row true e ag ks' (l.take hi)))]) h hob hv;have hmo:GS (.vec e ag ks' (l.take hi)) []=[(900000,some (.row true e ag ks' (l.take hi)))]:=rfl;have obs:∀ m ob,DM [(900000,some (Ob.row true e ag ks' (l.take hi)))] m=some ob→m=900000∧ob = .row true e ag ks' (l.take hi):=fun m ob hn=>by
      rw [EI] at hn;split at hn
      ·rename_i h9;simp only [AC] at hn;exact ⟨h9.symm,hn.symm⟩
      ·simp [DM,E7] at hn
     have ownP:∀ b,FE (fun m=>if m=900000 then x else γ m) [(900000,some (Ob.row true e ag ks' (l.take hi)))] b→E9 γ st.o n b:=by
      rintro b ⟨m,ob,hn,hb⟩;obtain ⟨rfl,rfl⟩:=obs m ob hn;exact hpb b (by simpa only [CP] using hb)
     have hlt:∀ b,E9 γ st.o n b→FE γ st.o b:=fun b ⟨ob,h1,h2⟩=>⟨n,ob,h1,h2⟩
     have hO:∀ b,b < w.heap.size→DR X (fun m=>if m=900000 then x else γ m) [(900000,some (Ob.row true e ag ks' (l.take hi)))] b→DR X γ st.o b:=fun b _ hb=>hb.imp_left (fun hb=>hlt b (ownP b hb))
     rw [hmo];refine ⟨fun m=>if m=900000 then x else γ m,⟨rfl,rfl,fun i=>by simp only [St.get,E7,VRel],fun m ob hn=>?_,fun b hb=>h.lt b (hlt b (ownP b hb)),fun m m' ob ob' b hnm h1 h2=>?_,h.keep,fun b hb=>h.nr b (hlt b (ownP b hb)),h.fl,fun p hp=>by cases hp⟩,?_,?_⟩
     ·obtain ⟨rfl,rfl⟩:=obs m ob hn;simp only [ObRel,CP] at hpr ⊢;obtain ⟨k1,k2,xs,k3,k4⟩:=hpr;exact ⟨k1,k2,xs,k3,fun i y hy=>Kd.RelAll.mono (Keep.refl _ w) hO (fun _ _ hu=>hu) (k4 i y hy)⟩
     ·obtain ⟨rfl,rfl⟩:=obs m ob h1;obtain ⟨rfl,rfl⟩:=obs m' ob' h2;exact absurd rfl hnm
     ·simp only [M5,VRel,EI,CP];refine ⟨AZ _,?_⟩;simp only [VRel,hob] at hv;obtain ⟨hl,p,len,cap,p',hgm,hxx,_,h22,h33,hm4,_,h5⟩:=hv;have htl:(l.take hi).length=hi:=by rw [BB,vay hl]
      rw [htl];rw [vaD,vaD] at hxx;refine ⟨p',hi,cap,p',hxx,by rw [hxx]; simp,B5 _,AZ _,by omega,hm4,.inl ?_,fun _=>rfl⟩;cases p' <;> simp [Addr.add]
     ·simp only [KV,hb,Z6]
    ·cases he
   ·simp only [AC,AU] at he;obtain ⟨rfl,rfl⟩:=he;exact fin9 _ hv
  ·rename_i hnp;simp only [AC,AU] at he;obtain ⟨rfl,rfl⟩:=he;exact fin9 _ hv
theorem Ax:∀ (vs:List V) (i j:Nat),E7 .any (eY i vs) j=if i≤j∧j < i+vs.length then ER (vs.getD (j - i) .any) else .any
 | [],i,j=>by
  rw [BD (by simp only [A7]; omega)];rfl
 | v :: r,i,j=>by
  simp only [eY,RO,Ax r (i+1) j,AM];by_cases e:i=j
  ·subst e;simp
  ·rw [BD e];by_cases h:i+1≤j∧j < i+1+r.length
   ·rw [BP h,BP (by omega),show j - i=(j - (i+1))+1 by omega];simp
   ·rw [BD h,BD (by omega)]
theorem sP (hT:TiOK P B E) {w:World}:∀ {rs:List ResultVar} {l:List V},VK E st rs=some l→Rel B nt w0 X γ st a w →
  ∃ xs:List Value,(rs.mapM fun r=>match r with | .tmp t=>pure (a.tmps.getD t undef) | .cell ad t=>do loadVar t (← asAddr (a.tmps.getD ad undef)):Sem (List Value)).run P w = .ok xs w∧VRels γ st.o w (DR X γ st.o) l xs
 | [],l,h,hR=>by
  simp only [VK,AC] at h;subst h;exact ⟨[],by simp,by simp only [VRels]⟩
 | .tmp t :: r,l,h,hR=>by
  simp only [VK] at h;split at h
  ·rename_i l' hl';simp only [AC] at h;subst h;obtain ⟨xs,h1,h2⟩:=sP hT hl' hR;refine ⟨a.tmps.getD t undef :: xs,?_,?_⟩
   ·simp only [List.mapM_cons,CM,CN,CB,h1]
   ·simp only [VRels];exact ⟨hR.tm t,h2⟩
  ·cases h
 | .cell ad t :: r,l,h,hR=>by
  simp only [VK] at h;split at h
  ·rename_i n i c hop;split at h
   ·rename_i cs hob;split at h
    ·rename_i v l' hv hl';simp only [AC] at h;subst h;obtain ⟨xs,h1,h2⟩:=sP hT hl' hR;have hx:=hR.tm ad;rw [hop] at hx;simp only [VRel,hob] at hx;obtain ⟨_,b,hg,hx⟩:=hx;have hor:=hR.ob n _ hob;simp only [ObRel] at hor;obtain ⟨b',cs',T,hg',hh,hr⟩:=hor;rw [hg] at hg';simp only [C0,AC,DH,B7] at hg';subst hg';obtain ⟨y,hy,hr'⟩:=Dh (hT.known (Dg hv)) hv hh hr;refine ⟨y :: xs,?_,?_⟩
     ·have hy':(do loadVar t (← asAddr (a.tmps.getD ad undef)):Sem Value).run P w = .ok y w:=by
       rw [hx];exact hy
      simp only [CM] at hy';simp only [List.mapM_cons,CM,hy',CN,CB,h1]
     ·simp only [VRels];exact ⟨hr',h2⟩
    ·cases h
   ·cases h
  ·cases h
theorem Xq {f:FuncId} {fn:Func} {code:Code} (hf:P.funcs[f]?=some fn) (hn:(fn.name == "runtime.NumGoroutine")=false) (hb:fn.body=some code) (hnt:E.nt=fn.ntmps) (hn9:B6 fn.ntmps 900000=true) {rs:List ResultVar} (hrs:fn.results.toList=rs)
  (rks:List (List Kd)) (hm:P.follows .mixedOrders=true) (hT:TiOK P B E) (hE:∀ t,t∈E.eqs→EqSnd P t (E.tyd t).ks) (hSp:∀ f sp,lk E.sp f=some sp→Snd P B f (fun vs=>(sp vs).get)) (hIp:∀ f p,lk E.ip f=some p→SJ P f p) (hB:BldOK P B E):Snd P B f (DZ E code rs rks):=by
 intro w X γ vs xs r out hsp hgl hxo hR hV;unfold DZ at hsp;split at hsp
 case h_2=>cases hsp
 rename_i hle;have hle':=AP hle;have hlen:xs.length=vs.length:=by rw [← hV.length,BE]
 refine Does.enter hf hn (by rw [hb]; rfl) (calls_of_wp hf hb ?_)
 let B':BT:=⟨B.T,B.e,some (SW (γ 900000)),B.ng,B.F⟩
 have hT':TiOK P B' E:=fun t x ht=>⟨(hT t x ht).info,(hT t x ht).ks,(hT t x ht).by1,(hT t x ht).one,(hT t x ht).und⟩
 have hSp':SpOK P B' E w X:=⟨⟨hgl,hxo⟩,fun f sp hfs=>hSp f sp hfs,hIp⟩;have hB':BldOK P B' E:=hB;have hstart:Rel B' fn.ntmps w X γ ⟨eY 0 vs,IY vs⟩ { tmps:=xs.toArray++Array.replicate (fn.ntmps - xs.toArray.size) undef,defers:=[] } w:=by
  refine ⟨?_,rfl,fun i=>?_,fun n ob hnob=>?_,hR.lt,hR.dis,hR.keep,hR.nr,hR.fl,fun p hp ob _=>?_⟩
  ·simp;omega
  ·simp only [St.get,Ax];split
   ·rename_i hi;have hi':i < vs.length:=by omega
    have h1:(vs.map ER)[i]?=some (ER vs[i]):=by simp [hi']
    obtain ⟨x,hx,hvx⟩:=hV.get h1;have h2:vs.getD (i - 0) .any=vs[i]:=by simp [hi']
    rw [h2];have h3:(xs.toArray++Array.replicate (fn.ntmps - xs.toArray.size) undef).getD i undef=x:=by
     rw [vbq,Array.getElem?_append_left (by simp; omega)];simp [hx]
    simp only [h3];exact hvx
   ·simp only [VRel]
  ·have:=hR.ob n ob hnob
   cases ob with
   | box l=>simpa only [ObRel] using this
   | row own e ag ks l=>cases own <;> simpa only [ObRel] using this
   | bld s=>simpa only [ObRel,BT.base] using this
  ·simp only [B',AC] at hp;exact hp
 refine XJ hT' hE hSp' hB' hnt (AP hn9) hm code hsp hstart (fun o γ' st' a' w' h' hk'=>?_);have fin:∀ l,VK E st' rs=some l→jT st'.o rks (GN vs) (aH l)=some (r,out)→bodyPost P fn (fun e w'=>∃ x,e = .returned x∧∃ γ',Rel B.base 0 w X γ' ⟨[],GS r out⟩ J3 w'∧VRel γ' (GS r out) w' (DR X γ' (GS r out)) (M5 r) x∧KV vs r out (γ 900000) (γ' 900000)) .ret a' w':=by
  intro l hl he;obtain ⟨ys,hy1,hy2⟩:=sP (P:=P) hT' hl h';have hval:(results fn a'.tmps).run P w' = .ok (if h:ys.toArray.size=1 then ys.toArray[0] else .tuple ys.toArray) w':=by
   unfold results;rw [show fn.results=rs.toArray by rw [← hrs]];rw [Array.mapM_eq_mapM_toList];simp only [CM,Sem.run_map]
   erw [hy1]
   rfl
  have hrel:VRel γ' st'.o w' (DR X γ' st'.o) (aH l) (if h:ys.toArray.size=1 then ys.toArray[0] else .tuple ys.toArray):=by
   match l,ys,hy2 with
   | [],[],_=>simp only [aH,VRel]; exact ⟨#[],by simp,by simp only [VRels]⟩
   | [v],[y],h2=>simp only [VRels] at h2; simpa [aH] using h2.1
   | v :: v' :: l,y :: y' :: ys,h2=>simp only [aH,VRel]; exact ⟨(y :: y' :: ys).toArray,by simp,by simpa using h2⟩
  obtain ⟨γ2,q1,q2,q3⟩:=zaf (B:=B) h' hrel he rfl;exact ⟨h'.df,_,hval,_,rfl,γ2,q1,q2,q3⟩
 cases o with
 | exit i=>simp [DT] at hk'
 | normal=>
  simp only [DT] at hk';split at hk'
  ·rename_i l hl;exact fin l hl hk'
  ·cases hk'
 | ret=>
  simp only [DT] at hk';split at hk'
  ·rename_i l hl;exact fin l hl hk'
  ·cases hk'
end
open Go Go.RowKit
def zB:V→Value→Bool
 | .int k n,.int k' n'=>k==k'&&(n==n'&&ZU k n)
 | .bool b,.bool c=>b==c
 | .str s,.string s'=>s.size==0&&s'.size==0
 | .zs,.slice none 0 0=>true
 | .nilp,.pointer none=>true
 | .err true,.nilIface=>true
 | .any,_=>true
 | _,_=>false
def bA:List V→List Value→Bool
 | [],[]=>true
 | v :: vs,x :: xs=>zB v x&&bA vs xs
 | _,_=>false
def dB (P:Program) (T t:Nat) (ks:List Kd):TD→TypeDesc→Bool
 | .slice e,.slice e'=>e==e'
 | .struct fs,.struct fields=>fs==fields.toList.map (fun f=>(f.offset,f.type))&&fields.toList.all (fun f=>(P.info? f.type).isSome)
 | .array n e,.array n' e'=>n==n'&&e==e'
 | .ptr e,.pointer e'=>e==e'
 | .bld,_=>t==T
 | .iface,.interface _=>true
 | .leaf,d=>match ks with
  | [.int k]=>(match d with | .int k'=>k==k' | _=>false)
  | [.str]=>(match d with | .string=>true | _=>false)
  | [.bool]=>(match d with | .bool=>true | _=>false)
  | _=>true
 | _,_=>false
def mL (P:Program) (T t:Nat) (x:TI):Bool:=
 match P.info? t,P.underlying t with
 | some i,some d=>match i.zero with
  | some z=>i.size==x.size&&(i.bytes==x.bytes&&(z.cells.size==x.size&&(bA x.zero z.cells.toList&&(x.ks.length==x.size&&(B6 1 x.bytes&&((x.agg||x.size==1)&&(d.isRow==x.agg&&dB P T t x.ks x.d d)))))))
  | none=>false
 | _,_=>false
def gZ (P:Program) (T:Nat):List (Nat × TI)→Bool
 | []=>true
 | (t,x) :: r=>mL P T t x&&gZ P T r
theorem zj4 {γ:Nat→Value} {o:Store} {w:World} {O:Nat→Prop} {v:V} {x:Value} (h:zB v x=true):VRel γ o w O v x:=by
 unfold zB at h;split at h
 ·simp only [AH,B8,ZU,AQ] at h;obtain ⟨rfl,rfl,h1,h2⟩:=h;simp only [VRel];exact ⟨trivial,h1,h2⟩
 ·simp only [B8] at h;subst h;simp only [VRel]
 ·rename_i s s';simp only [AH,B8] at h;have e:∀ s:BA,s.size=0→s=CI:=fun s hs=>by
   obtain ⟨⟨l⟩⟩:=s;cases l with
   | nil=>rfl
   | cons a l=>simp [AG] at hs
  simp only [VRel];rw [e s h.1,e s' h.2];exact ⟨rfl,by simp [ByteArray.size_empty]⟩
 ·simp only [VRel]
 ·simp only [VRel]
 ·simp only [VRel]
 ·simp only [VRel]
 ·cases h
theorem Qi {γ:Nat→Value} {o:Store} {w:World} {O:Nat→Prop}:∀ {l:List V} {xs:List Value},bA l xs=true→VRels γ o w O l xs
 | [],[],_=>by simp only [VRels]
 | [],_ :: _,h=>by simp [bA] at h
 | _ :: _,[],h=>by simp [bA] at h
 | v :: vs,x :: xs,h=>by
  simp only [bA,AH] at h;simp only [VRels];exact ⟨zj4 h.1,Qi h.2⟩
theorem zjk {P:Program} {B:BT} {t:Nat} {x:TI} (h:mL P B.T t x=true):TISnd P B t x:=by
 unfold mL at h;split at h
 ·rename_i i d hi hd;split at h
  ·rename_i z hz;simp only [AH,B8,van] at h;obtain ⟨h1,h2,h3,h4,h5,h6,h7,h8,h9⟩:=h;refine ⟨⟨i,z,hi,h1,h2,hz,h3,fun γ o w O=>Qi h4⟩,h5,AP h6,fun ha=>by rw [ha] at h7; simpa using h7,⟨d,hd,h8,?_⟩⟩;cases hx:x.d with
   | slice e=>rw [hx] at h9; cases d <;> simp only [dB] at h9 <;> first | (cases h9; done) | (simp only [B8] at h9; subst h9; rfl)
   | struct fs=>
    rw [hx] at h9;cases d <;> simp only [dB] at h9 <;> first | (cases h9; done) | skip
    rename_i fields;simp only [AH,B8,CQ] at h9;exact ⟨fields,rfl,h9.1,h9.2⟩
   | array n e=>
    rw [hx] at h9;cases d <;> simp only [dB] at h9 <;> first | (cases h9; done) | skip
    simp only [AH,B8] at h9;obtain ⟨rfl,rfl⟩:=h9;rfl
   | ptr e=>rw [hx] at h9; cases d <;> simp only [dB] at h9 <;> first | (cases h9; done) | (simp only [B8] at h9; subst h9; rfl)
   | bld=>rw [hx] at h9; simp only [dB,B8] at h9; exact h9
   | iface=>rw [hx] at h9; cases d <;> simp only [dB] at h9 <;> first | (cases h9; done) | exact ⟨_,rfl⟩
   | leaf=>
    rw [hx] at h9;refine ⟨fun k hk=>?_,fun hk=>?_,fun hk=>?_⟩ <;> rw [hk] at h9 <;> cases d <;> simp only [dB] at h9 <;> first | (cases h9; done) | (simp only [B8] at h9; subst h9; rfl) | rfl
  ·cases h
 ·cases h
theorem Om {P:Program} {B:BT} {E:Env} {ti:List (Nat × TI)} (he:E.ti=ti) (h:gZ P B.T ti=true):TiOK P B E:=by
 subst he;have key:∀ (l:List (Nat × TI)),gZ P B.T l=true→∀ t x,lk l t=some x→mL P B.T t x=true:=by
  intro l
  induction l with
  | nil=>intro _ t x hx; simp [lk] at hx
  | cons p r ih=>
   obtain ⟨j,y⟩:=p;intro hl t x hx;simp only [gZ,AH] at hl;simp only [lk] at hx;split at hx
   ·rename_i hb;simp only [AC] at hx;subst hx;rw [← F6.1 hb];exact hl.1
   ·exact ih hl.2 t x hx
 exact fun t x ht=>zjk (key E.ti h t x ht)
def aL (P:Program) (t w:Nat):Bool:=match P.info? t with | some _=>P.cellsOf t==w | none=>false
def X6 (ks:List Kd):Nat→List Kd
 | 0=>[]
 | n+1=>ks++X6 ks n
def eZ (P:Program) (g:Nat→Option (List Kd)):List Field→Nat→Option (List Kd)
 | [],_=>some []
 | f :: r,o=>match g f.type with
  | some ks=>match f.name != "_"&&(f.offset==o&&aL P f.type ks.length) with
   | true=>match eZ P g r (o+ks.length) with
    | some ks'=>some (ks++ks')
    | none=>none
   | false=>none
  | none=>none
def S8 (P:Program):Nat→Nat→Option (List Kd)
 | 0,_=>none
 | d+1,t=>match P.underlying t with
  | some (.int k)=>some [.int k]
  | some .bool=>some [.bool]
  | some (.struct fs)=>match P.stoodInHeld t with
   | true=>none
   | false=>eZ P (S8 P d) fs.toList 0
  | some (.array n e)=>match S8 P d e with
   | some ks=>match aL P e ks.length with
    | true=>some (X6 ks n)
    | false=>none
   | none=>none
  | _=>none
def jS (P:Program) (ti:List (Nat × TI)):List Nat→Bool
 | []=>true
 | t :: r=>(!(P.eqGuardType P.depth t))&&((match P.underlying t with | some d=>d.isRow | none=>false)&&(match S8 P 10 t with | some ks=>JG.kdsEq (E7 TI.none ti t).ks ks | none=>false))&&jS P ti r
theorem fD:∀ {ks:List Kd} {l:List V},JT ks l=true→l.length=ks.length
 | [],[],_=>rfl
 | [],_ :: _,h=>by simp [JT] at h
 | k :: _,[],h=>by cases k <;> simp [JT] at h
 | k :: ks,v :: l,h=>by
  cases k <;> cases v <;> simp only [JT] at h <;> try (cases h; done)
  ·split at h
   ·simp [fD h]
   ·cases h
  ·simp [fD h]
theorem kB:∀ {ks ks':List Kd} {l:List V},JT (ks++ks') l=true→JT ks (l.take ks.length)=true∧JT ks' (l.drop ks.length)=true
 | [],_,_,h=>⟨rfl,h⟩
 | k :: ks,ks',[],h=>by cases k <;> simp [JT] at h
 | k :: ks,ks',v :: l,h=>by
  cases k <;> cases v <;> simp only [CT,JT] at h <;> try (cases h; done)
  ·split at h
   ·rename_i hk;obtain ⟨h1,h2⟩:=kB h;simp only [AM,List.take_succ_cons,List.drop_succ_cons,JT,hk];exact ⟨h1,h2⟩
   ·cases h
  ·obtain ⟨h1,h2⟩:=kB h;simp only [AM,List.take_succ_cons,List.drop_succ_cons,JT];exact ⟨h1,h2⟩
theorem jR:∀ {a a':List V} {b b':List V} {c:Bool},a.length=a'.length→J4 (a++b) (a'++b')=some c→∃ c1 c2,J4 a a'=some c1∧J4 b b'=some c2∧c=(c1&&c2)
 | [],[],b,b',c,_,h=>⟨true,c,rfl,h,by simp⟩
 | [],_ :: _,_,_,_,hl,_=>by simp at hl
 | _ :: _,[],_,_,_,hl,_=>by simp at hl
 | x :: a,y :: a',b,b',c,hl,h=>by
  have hl':a.length=a'.length:=by simpa using hl
  cases x <;> cases y <;> simp only [CT,J4] at h ⊢ <;> try (cases h; done)
  ·split at h
   ·rename_i hk;split at h
    ·rename_i c0 h0;simp only [AC] at h;obtain ⟨c1,c2,h1,h2,h3⟩:=jR hl' h0;rw [h1];exact ⟨_,c2,rfl,h2,by rw [← h,h3,Bool.and_assoc]⟩
    ·cases h
   ·cases h
  ·split at h
   ·rename_i c0 h0;simp only [AC] at h;obtain ⟨c1,c2,h1,h2,h3⟩:=jR hl' h0;rw [h1];exact ⟨_,c2,rfl,h2,by rw [← h,h3,Bool.and_assoc]⟩
   ·cases h
theorem jQ:∀ {a a':List V} {c:Bool},J4 a a'=some c→a.length=a'.length
 | [],[],_,_=>rfl
 | [],_ :: _,_,h=>by simp [J4] at h
 | x :: _,[],_,h=>by cases x <;> simp [J4] at h
 | x :: a,y :: a',c,h=>by
  cases x <;> cases y <;> simp only [J4] at h <;> try (cases h; done)
  ·split at h
   ·split at h
    ·rename_i h0;simp [jQ h0]
    ·cases h
   ·cases h
  ·split at h
   ·rename_i h0;simp [jQ h0]
   ·cases h
section
variable {P:Program} {γ:Nat→Value} {o:Store} {w:World} {O:Nat→Prop}
def UA (P:Program) (γ:Nat→Value) (o:Store) (w:World) (O:Nat→Prop) (t:Nat) (l:List V) (x:Value):Prop:=
 match P.underlying t with
 | some d=>match d.isRow with
  | true=>∃ xs,x = .agg xs∧VRels γ o w O l xs.toList
  | false=>∃ v,l=[v]∧VRel γ o w O v x
 | none=>False
theorem Ba {d t:Nat} {ks:List Kd} (h:S8 P d t=some ks):∃ k,P.underlying t=some k∧(k.isRow=false→ks.length=1):=by
 cases d with
 | zero=>simp [S8] at h
 | succ d=>
  simp only [S8] at h;split at h
  ·rename_i hu; simp only [AC] at h; exact ⟨_,hu,fun _=>by rw [← h]; rfl⟩
  ·rename_i hu; simp only [AC] at h; exact ⟨_,hu,fun _=>by rw [← h]; rfl⟩
  ·rename_i hu; exact ⟨_,hu,fun h=>by simp [vbp] at h⟩
  ·rename_i hu; exact ⟨_,hu,fun h=>by simp [vbp] at h⟩
  ·cases h
theorem jB {t n off:Nat} {l:List V} {xs:Array Value} (hu:∃ k,P.underlying t=some k∧(k.isRow=false→n=1)) (hs:aL P t n=true) (hr:VRels γ o w O l xs.toList) (hl:off+n≤l.length) (W:World) :
  ∃ y,(part t xs off).run P W = .ok y W∧UA P γ o w O t ((l.drop off).take n) y:=by
 obtain ⟨k,hu,hn⟩:=hu;unfold aL at hs;split at hs
 ·rename_i i hi;simp only [B8] at hs;cases hrow:k.isRow with
  | true=>
   refine ⟨.agg (xs.extract off (off+n)),?_,?_⟩
   ·cases k <;> simp [vbp] at hrow <;> simp [part,isAgg,BK hu,run_sizeOf W hi,hs]
   ·unfold UA;rw [hu];simp only [hrow];refine ⟨_,rfl,?_⟩
    have:(xs.extract off (off+n)).toList=(xs.toList.drop off).take n:=by
     simp [List.extract_eq_take_drop]
    rw [this];exact (hr.drop off).take n
  | false=>
   obtain rfl:=hn hrow;obtain ⟨v,hv⟩:∃ v,l[off]?=some v:=⟨l[off]'(by omega),A9 _⟩;obtain ⟨y,hy,hyr⟩:=hr.get hv;have hy':xs[off]?=some y:=by simpa using hy
   refine ⟨y,?_,?_⟩
   ·cases k <;> simp [vbp] at hrow <;> simp [part,isAgg,BK hu,hy']
   ·unfold UA;rw [hu];simp only [hrow];refine ⟨v,?_,hyr⟩;rw [List.take_one,List.head?_drop,hv];rfl
 ·cases hs
def m7 (P:Program) (γ:Nat→Value) (o:Store) (w:World) (O:Nat→Prop) (dd t:Nat) (ks:List Kd):Prop:=∀ (W:World) (x y:Value) (l l':List V) (c:Bool),JT ks l=true→UA P γ o w O t l x→UA P γ o w O t l' y→J4 l l'=some c→(vbs dd t x y).run P W = .ok c W
theorem mJ (l:List V) (off n:Nat):l.drop off=(l.drop off).take n++l.drop (off+n):=by
 rw [← List.drop_drop]; exact (List.take_append_drop n (l.drop off)).symm
theorem Ay {dd:Nat} {g:Nat→Option (List Kd)} (hg:∀ t ks,g t=some ks→m7 P γ o w O dd t ks∧∃ k,P.underlying t=some k∧(k.isRow=false→ks.length=1)) {xs ys:Array Value} {l l':List V} (hx:VRels γ o w O l xs.toList) (hy:VRels γ o w O l' ys.toList) (hll:l.length=l'.length) (W:World) :
  ∀ (fs:List Field) (off:Nat) {ks:List Kd} {c:Bool},off≤l.length→eZ P g fs off=some ks→JT ks (l.drop off)=true→J4 (l.drop off) (l'.drop off)=some c→(Op.eqFields dd xs ys fs).run P W = .ok c W
 | [],off,ks,c,hoff,hf,hk,he=>by
  simp only [eZ,AC] at hf;subst hf;have h0:=fD hk;have h1:l.drop off=[]:=List.length_eq_zero_iff.1 h0;have h2:l'.drop off=[]:=by
   have:=jQ he
   rw [h1] at this;exact List.length_eq_zero_iff.1 this.symm
  rw [h1,h2] at he;simp only [J4,AC] at he;subst he;simp [Op.eqFields]
 | f :: r,off,ks,c,hoff,hf,hk,he=>by
  simp only [eZ] at hf;split at hf
  ·rename_i ks1 hw;split at hf
   ·rename_i hb;split at hf
    ·rename_i ks2 hf2;simp only [AC] at hf;subst hf;simp only [AH,B8,bne_iff_ne,ne_eq] at hb;obtain ⟨hn,ho,hs⟩:=hb;obtain ⟨hrun,hu⟩:=hg _ _ hw;obtain ⟨hk1,hk2⟩:=kB hk;rw [List.drop_drop] at hk2;have hkl:=fD hk;simp only [CX,AT] at hkl;have hle:off+ks1.length≤l.length:=by omega
     rw [mJ l off ks1.length,mJ l' off ks1.length] at he;obtain ⟨c1,c2,h1,h2,h3⟩:=jR (by simp; omega) he;obtain ⟨a,ha,hac⟩:=jB (off:=off) hu hs hx hle W;obtain ⟨b,hb,hbc⟩:=jB (off:=off) hu hs hy (by omega) W;have he1:=hrun W a b _ _ c1 hk1 hac hbc h1;have ih:=Ay hg hx hy hll W r (off+ks1.length) hle hf2 hk2 h2;simp only [Op.eqFields,hn,ne_eq,not_false_eq_true,CP,CM,ho,ha,hb,he1,CB];subst h3;cases c1
     ·simp
     ·simpa using ih
    ·cases hf
   ·cases hf
  ·cases hf
theorem Az {dd e:Nat} {ks:List Kd} (hrun:m7 P γ o w O dd e ks) (hu:∃ k,P.underlying e=some k∧(k.isRow=false→ks.length=1)) (hs:aL P e ks.length=true) {xs ys:Array Value} {l l':List V} (hx:VRels γ o w O l xs.toList) (hy:VRels γ o w O l' ys.toList) (hll:l.length=l'.length) (W:World) :
  ∀ (m i:Nat) {c:Bool},i*ks.length+m*ks.length=l.length→JT (X6 ks m) (l.drop (i*ks.length))=true→J4 (l.drop (i*ks.length)) (l'.drop (i*ks.length))=some c→(Op.eqItems dd e ks.length xs ys (List.range' i m)).run P W = .ok c W
 | 0,i,c,hl,hk,he=>by
  rw [CS (by omega),CS (by omega)] at he;simp only [J4,AC] at he;subst he;simp [Op.eqItems]
 | m+1,i,c,hl,hk,he=>by
  rw [vak,vby] at hl;obtain ⟨hk1,hk2⟩:=kB (ks:=ks) (ks':=X6 ks m) hk;rw [List.drop_drop] at hk2;rw [mJ l (i*ks.length) ks.length,mJ l' (i*ks.length) ks.length] at he;obtain ⟨c1,c2,h1,h2,h3⟩:=jR (by simp; omega) he;obtain ⟨a,ha,hac⟩:=jB (off:=i*ks.length) hu hs hx (by omega) W;obtain ⟨b,hb,hbc⟩:=jB (off:=i*ks.length) hu hs hy (by omega) W;have he1:=hrun W a b _ _ c1 hk1 hac hbc h1;have ih:=Az hrun hu hs hx hy hll W m (i+1) (by rw [vak,vby]; omega) (by rw [vak,vby]; exact hk2) (by rw [vak,vby]; exact h2);simp only [List.range'_succ,Op.eqItems,CM,ha,hb,he1,CB];subst h3;cases c1
  ·simp
  ·simpa using ih
theorem Il (ks:List Kd):∀ n,(X6 ks n).length=n*ks.length
 | 0=>by simp [X6]
 | n+1=>by simp only [X6,AT,Il ks n,vak,vby]; omega
theorem oY (dd:Nat):∀ (d t:Nat) (ks:List Kd),S8 P d t=some ks→m7 P γ o w O (dd+d) t ks
 | 0,t,ks,h=>by simp [S8] at h
 | d+1,t,ks,h=>by
  intro W x y l l' c hk hx hy he;have hll:=jQ he;simp only [S8] at h;unfold UA at hx hy;split at h
  ·rename_i k hu;simp only [AC] at h;subst h;rw [hu] at hx hy;simp only at hx hy;obtain ⟨v,rfl,hx⟩:=hx;obtain ⟨v',rfl,hy⟩:=hy;cases v <;> simp only [JT] at hk <;> try (cases hk; done)
   cases v' <;> simp only [J4] at he <;> try (cases he; done)
   simp only [VRel] at hx hy;obtain ⟨rfl,_⟩:=hx;obtain ⟨rfl,_⟩:=hy;split at he
   ·rename_i hkk;simp only [AC,B1] at he;have hkk:=eq_of_beq hkk;subst hkk;rw [show dd+(d+1)=(dd+d)+1 from rfl,run_equalIn_int W _ t _ k _ _ hu,he]
   ·cases he
  ·rename_i hu;simp only [AC] at h;subst h;rw [hu] at hx hy;simp only at hx hy;obtain ⟨v,rfl,hx⟩:=hx;obtain ⟨v',rfl,hy⟩:=hy;cases v <;> simp only [JT] at hk <;> try (cases hk; done)
   cases v' <;> simp only [J4] at he <;> try (cases he; done)
   simp only [VRel] at hx hy;subst hx; subst hy;simp only [AC,B1] at he;rw [show dd+(d+1)=(dd+d)+1 from rfl,run_equalIn_bool W _ t _ _ hu,he]
  ·rename_i fs hu;rw [hu] at hx hy;simp only at hx hy;obtain ⟨xs,rfl,hx⟩:=hx;obtain ⟨ys,rfl,hy⟩:=hy;split at h
   ·cases h
   ·rename_i hst;have hfs:P.fieldsOf t=fs:=by simp [Program.fieldsOf,hu]
    rw [show dd+(d+1)=(dd+d)+1 from rfl,run_equalIn_struct W (dd+d) t xs ys (by rw [hfs]; exact hu) hst,hfs];exact Ay (fun t ks ht=>⟨oY dd d t ks ht,Ba ht⟩) hx hy hll W fs.toList 0 (B5 _) h hk he
  ·rename_i m e hu;rw [hu] at hx hy;simp only at hx hy;obtain ⟨xs,rfl,hx⟩:=hx;obtain ⟨ys,rfl,hy⟩:=hy;split at h
   ·rename_i ks1 hw;split at h
    ·rename_i hs;simp only [AC] at h;subst h;have hs':=hs;unfold aL at hs';split at hs'
     ·rename_i i hi;simp only [B8] at hs';have hkl:=fD hk;rw [Il] at hkl;rw [show dd+(d+1)=(dd+d)+1 from rfl,run_equalIn_array W (dd+d) xs ys hu hi,hs',List.range_eq_range'];exact Az (oY dd d e ks1 hw) (Ba hw) hs hx hy hll W m 0 (by omega) (by simpa using hk) (by simpa using he)
     ·cases hs'
    ·cases h
   ·cases h
  ·cases h
end
theorem Bc {P:Program} {E:Env} {ti:List (Nat × TI)} (hti:E.ti=ti) {l:List Nat} (h:jS P ti l=true):∀ t,t∈l→EqSnd P t (E.tyd t).ks:=by
 induction l with
 | nil=>intro t ht; cases ht
 | cons t r ih=>
  intro t' ht';simp only [jS,AH,B4] at h;rcases AO.1 ht' with e | e
  ·subst e;refine ⟨h.1.1,fun γ o w w' O l l' xs ys c hk hc hx hy=>?_⟩;obtain ⟨⟨_,h2,h3⟩,_⟩:=h;split at h3
   ·rename_i ks hn;have hks:(E.tyd t').ks=ks:=by
     unfold Env.tyd;rw [hti];exact pU h3
    rw [hks] at hk;split at h2
    ·rename_i k hk2;have hcx:∀ {l:List V} {xs:Array Value},VRels γ o w O l xs.toList→UA P γ o w O t' l (.agg xs):=fun hx=>by
      unfold UA;rw [hk2];simp only [h2];exact ⟨_,rfl,hx⟩
     exact oY (P:=P) (γ:=γ) (o:=o) (w:=w) (O:=O) 9990 10 t' ks hn w' (.agg xs) (.agg ys) l l' c hk (hcx hx) (hcx hy) hc
    ·cases h2
   ·cases h3
  ·exact ih h.2 t' e
open Go Go.RowKit
theorem Snd.mono {P:Program} {B:BT} {f:FuncId} {sp sp':UJ} (h:Snd P B f sp) (hs:∀ vs r,sp' vs=some r→sp vs=some r):Snd P B f sp':=
 fun w X γ vs xs r out hsp=>h w X γ vs xs r out (hs vs _ hsp)
def DX (P:Program) (B:BT) (f:FuncId) (sp:DV):Prop:=Snd P B f (fun vs=>(sp vs).get)
mutual
def YP:Kd→IV→Prop
 | .int k,x=>k.min≤x.toInt∧x.toInt≤k.max
 | .bool,_=>True
 | .str,x=>x.toStr.size≤strMax
 | .list ag ks,x=>x.toList.length≤strMax∧∀ y∈x.toList,YQ ks (GB ag y) 0
def YQ:List Kd→(Nat→IV)→Nat→Prop
 | [],_,_=>True
 | k :: ks,f,j=>YP k (f j)∧YQ ks f (j+1)
end
def wfL:V→Prop
 | .int k n=>k.min≤n∧n≤k.max
 | .str s=>s.size≤strMax
 | .list ag ks l=>l.length≤strMax∧∀ y∈l,YQ ks (GB ag y) 0
 | .vec _ ag ks l=>l.length≤strMax∧∀ y∈l,YQ ks (GB ag y) 0
 | .bld s=>s.size≤strMax
 | _=>True
def wfLs:List V→Prop
 | []=>True
 | v :: r=>wfL v∧wfLs r
def SA:V→Prop
 | .agg l=>wfLs l
 | .bor l=>wfLs l
 | v=>wfL v
def TZ:List V→Prop
 | []=>True
 | v :: r=>SA v∧TZ r
mutual
theorem Kd.Rel.wf {w:World} {O:Nat→Prop}:∀ {k:Kd} {x:IV} {v:Value},Kd.Rel w O k x v→YP k x
 | .int k,x,v,h=>by simp only [Kd.Rel] at h; simp only [YP]; exact h.2
 | .bool,x,v,h=>by simp only [YP]
 | .str,x,v,h=>by simp only [Kd.Rel] at h; simp only [YP]; exact h.2
 | .list ag ks,x,v,h=>by
  simp only [Kd.Rel] at h;obtain ⟨p,c,_,_,_,hl,hi⟩:=h;simp only [YP];refine ⟨hl,fun y hy=>?_⟩;obtain ⟨i,hi'⟩:=List.getElem?_of_mem hy;obtain ⟨b,o,_,_,_,hr⟩:=hi i y hi';exact Kd.RelAll.wf hr
theorem Kd.RelAll.wf {w:World} {O:Nat→Prop}:∀ {ks:List Kd} {f:Nat→IV} {j:Nat} {R:Nat→Value→Prop},Kd.RelAll w O ks f j R→YQ ks f j
 | [],_,_,_,_=>by simp only [YQ]
 | k :: ks,f,j,R,h=>by
  simp only [Kd.RelAll] at h;obtain ⟨⟨u,_,hr⟩,h2⟩:=h;simp only [YQ];exact ⟨Kd.Rel.wf hr,Kd.RelAll.wf h2⟩
end
theorem VRel.wfL {γ:Nat→Value} {o:Store} {w:World} {O:Nat→Prop} {v:V} {x:Value} (h:VRel γ o w O v x):wfL v:=by
 cases v <;> simp only [FM.wfL] <;> simp only [VRel] at h
 ·exact h.2
 ·exact h.2
 ·have:=Kd.Rel.wf h
  simp only [YP,IV.toList] at this;exact this
theorem VRels.wfLs {γ:Nat→Value} {o:Store} {w:World} {O:Nat→Prop}:∀ {l:List V} {xs:List Value},VRels γ o w O l xs→wfLs l
 | [],[],_=>by simp only [FM.wfLs]
 | [],_ :: _,h=>by simp only [VRels] at h
 | _ :: _,[],h=>by simp only [VRels] at h
 | v :: vs,x :: xs,h=>by
  simp only [VRels] at h;simp only [FM.wfLs];exact ⟨h.1.wfL,VRels.wfLs h.2⟩
theorem zgX {B:BT} {γ:Nat→Value} {o:Store} {w:World} {O:Nat→Prop} {g:Value} {e:Nat} {ag:Bool} {ks:List Kd} {l:LI} (h:ObRel B γ o w O g (.row true e ag ks l)):wfL (.vec e ag ks l):=by
 simp only [ObRel] at h;obtain ⟨_,hl,xs,_,hr⟩:=h;simp only [FM.wfL];refine ⟨hl,fun y hy=>?_⟩;obtain ⟨i,hi⟩:=List.getElem?_of_mem hy;exact Kd.RelAll.wf (hr i y hi)
theorem zcX {B:BT} {nt:Nat} {w0:World} {X:Zone} {γ:Nat→Value} {a:Act} {w:World} {cs:List V} (h:Rel B nt w0 X γ ⟨[],EP cs⟩ a w):wfLs cs:=by
 by_cases hb:∃ s,cs=[.bld s]
 ·obtain ⟨s,rfl⟩:=hb
  have:=h.ob 900000 (.bld s) (by simp [EP,EI])
  simp only [ObRel] at this;obtain ⟨b,v,p,_,_,_,_,_,hs⟩:=this;simp only [FM.wfLs,FM.wfL,B7];exact hs
 ·have he:EP cs=(900000,some (.box (GR 900001 cs))) :: K2 900001 cs:=oW (fun s e=>hb ⟨s,e⟩);have hbox:=h.ob 900000 (.box (GR 900001 cs)) (by rw [he,EI,BP rfl]);simp only [ObRel] at hbox;obtain ⟨b,c,T,_,_,hr⟩:=hbox;have hall:∀ (j:Nat) (v:V),cs[j]?=some v→FM.wfL v:=by
   intro j v hj;by_cases hv:∃ e ag ks l,v = .vec e ag ks l
   ·obtain ⟨e,ag,ks,l,rfl⟩:=hv;have hat:=gM (nr:=900001) hj
    have:=h.ob (900001+j) _ (show DM (EP cs) (900001+j)=_ by rw [he,EI,BD (by omega)]; exact hat)
    exact zgX this
   ·have hbk:(GR 900001 cs)[j]?=some v:=by
     rw [d8,hj];cases v <;> first | rfl | exact absurd ⟨_,_,_,_,rfl⟩ hv
    obtain ⟨x,_,hx⟩:=hr.get hbk;exact hx.wfL
  clear hr he hb h
  induction cs with
  | nil=>simp only [FM.wfLs]
  | cons v r ih=>
   simp only [FM.wfLs];exact ⟨hall 0 v rfl,ih (fun j u hj=>hall (j+1) u (by simpa using hj))⟩
theorem v8 {B:BT} {nt:Nat} {w0:World} {X:Zone} {γ:Nat→Value} {a:Act} {w:World} {O:Nat→Prop} {o:Store} {cs:Option (List V)} (hcs:∀ l,cs=some l→wfLs l):∀ {vs:List V} {xs:List Value},(∀ l,.bor l∈vs→cs=some l)→VRels γ o w O (vs.map ER) xs→TZ vs
 | [],_,_,_=>by simp only [TZ]
 | v :: r,[],_,h=>by simp only [A0,VRels] at h
 | v :: r,x :: xs,hb,h=>by
  simp only [A0,VRels] at h;simp only [TZ];refine ⟨?_,v8 (B:=B) (nt:=nt) (w0:=w0) (X:=X) (a:=a) hcs (fun l hl=>hb l (AY _ hl)) h.2⟩;have h1:=h.1;by_cases hbor:∃ l,v = .bor l
  ·obtain ⟨l,rfl⟩:=hbor;simp only [SA];exact hcs l (hb l (AN ..))
  ·by_cases hagg:∃ l,v = .agg l
   ·obtain ⟨l,rfl⟩:=hagg;simp only [ER,VRel] at h1;obtain ⟨cs',_,hr⟩:=h1;simp only [SA];exact hr.wfLs
   ·have:SA v=FM.wfL v:=by cases v <;> first | rfl | exact absurd ⟨_,rfl⟩ hbor | exact absurd ⟨_,rfl⟩ hagg
    rw [this];cases v <;> first | exact h1.wfL | exact absurd ⟨_,rfl⟩ hbor | exact absurd ⟨_,rfl⟩ hagg | (simp only [FM.wfL])
def MD:List V→Option (List V)→Prop
 | [],_=>True
 | .bor l :: r,c=>c=some l∧MD r c
 | _ :: r,c=>MD r c
theorem rC:∀ {vs:List V} {c:Option (List V)},MD vs c→∀ l,.bor l∈vs→c=some l
 | [],_,_,l,h=>by cases h
 | v :: r,c,ho,l,h=>by
  rcases AO.1 h with e | e
  ·subst e;exact ho.1
  ·cases v <;> simp only [MD] at ho <;> first | exact rC ho l e | exact rC ho.2 l e
theorem Ks {P:Program} {B:BT} {f:FuncId} {fn:Func} (E:Nat→Env) (sp:DV) (rks:List (List Kd)) (hf:P.funcs[f]?=some fn) {code:Code} {rs:List ResultVar} {nt:Nat}
  (hc:(fn.name == "runtime.NumGoroutine")=false∧fn.body=some code∧fn.ntmps=nt∧B6 nt 900000=true∧fn.results.toList=rs) (hnt:∀ N,(E N).nt=nt) (hm:P.follows .mixedOrders=true)
  (hT:∀ N,TiOK P B (E N)) (hE:∀ N t,t∈(E N).eqs→EqSnd P t ((E N).tyd t).ks) (hSp:∀ N f sp,lk (E N).sp f=some sp→DX P B f sp) (hIp:∀ N f p,lk (E N).ip f=some p→SJ P f p) (hB:∀ N,BldOK P B (E N))
  (h:∀ vs r,(MD vs (GN vs)→TZ vs)→(sp vs).get=some r→∃ N,DZ (E N) code rs rks vs=some r):DX P B f sp:=by
 intro w X γ vs xs r out hsp hg hx hR hV;have hwf:MD vs (GN vs)→TZ vs:=fun ho=>by
  refine v8 (B:=B.base) (nt:=0) (w0:=w) (X:=X) (a:=J3) (cs:=GN vs) (fun l hl=>?_) (rC ho) hV;have hm:IY vs=EP l:=by simp only [IY,hl]
  rw [hm] at hR;exact zcX hR
 obtain ⟨N,hN⟩:=h vs _ hwf hsp;exact Xq hf hc.1 hc.2.1 ((hnt N).trans hc.2.2.1.symm) (by rw [hc.2.2.1]; exact hc.2.2.2.1) hc.2.2.2.2 rks hm (hT N) (hE N) (hSp N) (hIp N) (hB N) w X γ vs xs r out hN hg hx hR hV
abbrev ic (n:Nat):Int:=n
abbrev DY (E:Env) (c:Code) (kp:KP) (n:Nat) (s:St) (k:Out→St→DN):DN:=RP c (J5 RP E c) kp n s k
abbrev DS (E:Env) (c:Code) (k:Out→St→DN):Out→St→DN:=Cx c (J5 RP E c) k
abbrev E2 (E:Env) (c:Code) (s:St) (k:Out→St→DN):DN:=J5 RP E c s k
theorem D5 (E:Env) (c:Code) (kp:KP) (n:Nat) (s:St) (k:Out→St→DN):DY E c kp (n+1) s k=E2 E c s (EQ (fun s'=>DY E c kp n s' k) kp k):=rfl
def D1 (fn:Func):Code:=match fn.body with | some c=>c | none=>.skip
def DK:Code→List Nat→Code
 | c,[]=>c
 | .seq a _,0 :: r=>DK a r
 | .seq _ b,_ :: r=>DK b r
 | .cond _ a _,0 :: r=>DK a r
 | .cond _ _ b,_ :: r=>DK b r
 | .block _ c,_ :: r=>DK c r
 | .loop c,_ :: r=>DK c r
 | .scope c,_ :: r=>DK c r
 | _,_=>.skip
open Go Go.RowKit
section
variable {P:Program} {B:BT} {f:FuncId}
theorem Does.of_calls {fn:Func} (hf:P.funcs[f]?=some fn) (hn:(fn.name == "runtime.NumGoroutine")=false) (hb:fn.body.isNone=false) {xs:List Value} {w:World} {R:Ending→World→Prop} (h:Calls P f xs.toArray w R):Does P f xs w R:=Does.enter hf hn hb h
theorem zde {r:V} (h:∀ cs,r≠.bor cs) (hv:∀ e ag ks l,r≠.vec e ag ks l):GS r []=[]:=by
 cases r <;> first | rfl | exact absurd rfl (h _) | exact absurd rfl (hv _ _ _ _)
theorem QQ {w:World} {X:Zone} {γ:Nat→Value} {vs:List V} {xs:List Value} {r:V} (hR:Rel B.base 0 w X γ ⟨[],IY vs⟩ J3 w) (hb:GN vs=none) (hr:L6 r=true)
  (h:Does P f xs w fun e w'=>∃ x,e = .returned x∧Keep (fun _=>False) w w'∧∀ O:Nat→Prop,(∀ b,O b→b < w.heap.size)→VRel γ [] w' O r x) :
  Does P f xs w fun e w'=>∃ x,e = .returned x∧∃ γ',Rel B.base 0 w X γ' ⟨[],GS r []⟩ J3 w'∧VRel γ' (GS r []) w' (DR X γ' (GS r [])) (M5 r) x∧KV vs r [] (γ 900000) (γ' 900000):=by
 have hm:IY vs=[]:=by simp only [IY,hb]
 rw [hm] at hR;have hnb:∀ cs,r≠.bor cs:=fun cs e=>by subst e; simp [L6,HP] at hr
 have hnv:∀ e ag ks l,r≠.vec e ag ks l:=fun e ag ks l h=>by subst h; simp [L6,HP] at hr
 rw [zde hnb hnv,VM hr];refine h.mono ?_;rintro e w' ⟨x,rfl,hk,hv⟩;refine ⟨x,rfl,γ,hR.world hk,hv _ (fun b hb=>?_),?_⟩
 ·rcases hb with ⟨n,ob,hn,_⟩ | hb
  ·simp [DM,E7] at hn
  ·exact hR.fl b hb
 ·simp only [KV,hb];cases r <;> first | exact hr | exact absurd rfl (hnb _) | exact absurd rfl (hnv _ _ _ _)
structure BldIs (B:BT) (w:World) (b:Nat) (p v:Value) (s:BA):Prop where
 self:p = .pointer none∨p = .pointer (some ⟨b,0,none⟩)
 heap:w.heap[b]?=some (.cells #[p,v] B.T (0,0))
 own:w.ownsRowF 0 B.e 1 v s.size (DC s)
 ne:v.ownBlock≠some b
 size:s.size≤strMax
theorem tO {w:World} {X:Zone} {γ:Nat→Value} {vs:List V} {xs:List Value} {r:V} {s s':BA} (hR:Rel B.base 0 w X γ ⟨[],IY vs⟩ J3 w) (hb:GN vs=some [.bld s]) (hr:L6 r=true) (hnl:∀ γ' o w' O x,VRel γ [] w O r x→VRel γ' o w' O r x)
  (h:∀ b v p,γ 900000 = .tuple #[.pointer (some ⟨b,0,none⟩),v]→BldIs B w b p v s→Does P f xs w fun e w'=>∃ x,e = .returned x∧(∃ p' v',BldIs B w' b p' v' s'∧Keep (fun k=>k=b∨v.ownBlock=some k) w w'∧∀ k,v'.ownBlock=some k→v.ownBlock=some k∨w.heap.size≤k)∧∀ O,VRel γ [] w O r x) :
  Does P f xs w fun e w'=>∃ x,e = .returned x∧∃ γ',Rel B.base 0 w X γ' ⟨[],GS r [[.bld s']]⟩ J3 w'∧VRel γ' (GS r [[.bld s']]) w' (DR X γ' (GS r [[.bld s']])) (M5 r) x∧KV vs r [[.bld s']] (γ 900000) (γ' 900000):=by
 have hm:IY vs=EP [.bld s]:=by simp only [IY,hb]
 have hmo:GS r [[.bld s']]=EP [.bld s']:=by cases r <;> rfl
 rw [hm] at hR;have hob:DM (EP [.bld s]) 900000=some (.bld s):=by simp [EP,EI]
 have hor:=hR.ob 900000 _ hob;simp only [ObRel,BT.base] at hor;obtain ⟨b,v,p,hg,hp,hh,how,hne,hsz⟩:=hor;rw [hmo,VM hr];refine (h b v p hg ⟨hp,hh,how,hne,hsz⟩).mono ?_;rintro e w' ⟨x,rfl,⟨p',v',hB,hk,hnew⟩,hx⟩;have hPb:∀ k,(k=b∨v.ownBlock=some k)→FE γ (EP [.bld s]) k:=by
  rintro k hk;refine ⟨900000,_,hob,⟨b,0,none⟩,v,hg,?_⟩;rcases hk with rfl | hk
  ·exact .inl rfl
  ·exact .inr hk
 have hXb:∀ k,(k=b∨v.ownBlock=some k)→k < w.heap.size∧X.own k∧¬ X.far k:=fun k hk=>by
  obtain ⟨h1,h2⟩:=hR.lt k (hPb k hk);exact ⟨h1,h2.resolve_left (by omega),hR.nr k (hPb k hk)⟩
 have hkX:Keep X.own w w':=hk.mono (fun k _ h=>(hXb k h).2.1);have hobs:∀ n ob,DM (EP [.bld s']) n=some ob→n=900000∧ob = .bld s':=by
  intro n ob hn;simp only [EP,EI] at hn;split at hn
  ·rename_i e;simp only [AC] at hn;exact ⟨e.symm,hn.symm⟩
  ·simp [DM,E7] at hn
 have hP':∀ k,FE (fun _=>.tuple #[.pointer (some ⟨b,0,none⟩),v']) (EP [.bld s']) k→k=b∨v'.ownBlock=some k:=by
  rintro k ⟨n,ob,hn,hbk⟩;obtain ⟨rfl,rfl⟩:=hobs n ob hn;obtain ⟨a,v2,h1,h2⟩:=hbk;simp only [Value.tuple.injEq] at h1;have e1:a=⟨b,0,none⟩∧v2=v':=by
   have:=congrArg Array.toList h1
   simp at this;exact ⟨this.1.symm,this.2.symm⟩
  obtain ⟨rfl,rfl⟩:=e1;rcases h2 with h2 | h2
  ·exact .inl h2.symm
  ·exact .inr h2
 have hlt':∀ k,v'.ownBlock=some k→k < w'.heap.size:=by
  intro k hk;rcases hB.own.2 with ⟨rfl,_⟩ | ⟨g,cap,cur,fz,rfl,_,hgh,_⟩
  ·simp [CC] at hk
  ·simp only [CC,AC] at hk;subst hk;exact (DF.1 hgh).1
 refine ⟨x,rfl,fun _=>.tuple #[.pointer (some ⟨b,0,none⟩),v'],⟨rfl,rfl,fun i=>by simp only [St.get,E7,VRel],fun n ob hn=>?_,fun k hk2=>?_,fun n m ob ob' k hnm h1 h2=>?_,hkX,fun k hk2 hf=>?_,fun k hf=>CW (hR.fl k hf) hk.size,fun q hq=>by cases hq⟩,hnl _ _ _ _ _ (hx _),?_⟩
 ·obtain ⟨rfl,rfl⟩:=hobs n ob hn;simp only [ObRel,BT.base];exact ⟨b,v',p',rfl,hB.self,hB.heap,hB.own,hB.ne,hB.size⟩
 ·rcases hP' k hk2 with rfl | h2
  ·obtain ⟨h3,h4,_⟩:=hXb k (.inl rfl);exact ⟨CW h3 hk.size,.inr h4⟩
  ·refine ⟨hlt' k h2,?_⟩;rcases hnew k h2 with h3 | h3
   ·exact .inr (hXb k (.inr h3)).2.1
   ·exact .inl h3
 ·obtain ⟨rfl,rfl⟩:=hobs n ob h1;obtain ⟨rfl,rfl⟩:=hobs m ob' h2;exact absurd rfl hnm
 ·rcases hP' k hk2 with rfl | h2
  ·exact (hXb k (.inl rfl)).2.2 hf
  ·rcases hnew k h2 with h3 | h3
   ·exact (hXb k (.inr h3)).2.2 hf
   ·have:=hR.fl k hf
    omega
 ·simp only [KV,hb];exact ⟨hr,rfl,by rw [hg]; rfl⟩
theorem nO {w:World} {γ:Nat→Value} {s:BA} {O:Nat→Prop} {x:Value} {b:Nat} {v:Value} (hg:γ 900000 = .tuple #[.pointer (some ⟨b,0,none⟩),v]) (h:VRel γ (EP [.bld s]) w O (.ptr 900000 0 0) x):x = .pointer (some ⟨b,0,none⟩):=by
 simp only [VRel,EP,EI,CP] at h;obtain ⟨_,b',v',h1,rfl⟩:=h;rw [hg] at h1;simp only [Value.tuple.injEq] at h1
 have:=congrArg Array.toList h1
 simp at this;rw [this.1]
theorem Kr {w:World} {X:Zone} {γ:Nat→Value} {vs:List V} {xs:List Value} {e:Nat} {ag:Bool} {ks:List Kd} {l:LI} (hR:Rel B.base 0 w X γ ⟨[],IY vs⟩ J3 w) (hb:GN vs=none) (he:e < 1000000) (hks:0 < ks.length) (hl:l.length≤strMax)
  (h:Does P f xs w fun e' w'=>∃ v ys,e' = .returned v∧Keep (fun _=>False) w w'∧w'.ownsRow w.heap.size e ks.length v l.length ys∧∀ (O:Nat→Prop) i y,l[i]?=some y→Kd.RelAll w' O ks (GB ag y) 0 (fun j u=>ys[i*ks.length+j]?=some u)) :
  Does P f xs w fun e' w'=>∃ x,e' = .returned x∧∃ γ',Rel B.base 0 w X γ' ⟨[],GS (.vec e ag ks l) []⟩ J3 w'∧VRel γ' (GS (.vec e ag ks l) []) w' (DR X γ' (GS (.vec e ag ks l) [])) (M5 (.vec e ag ks l)) x∧KV vs (.vec e ag ks l) [] (γ 900000) (γ' 900000):=by
 have hm:IY vs=[]:=by simp only [IY,hb]
 rw [hm] at hR;have hmo:GS (.vec e ag ks l) []=[(900000,some (.row true e ag ks l))]:=rfl;rw [hmo];refine h.mono ?_;rintro e' w' ⟨v,ys,rfl,hk,hown,hel⟩;have hown0:w'.ownsRow 0 e ks.length v l.length ys:=by
  refine ⟨hown.1,?_⟩;rcases hown.2 with h1 | ⟨g,cap,cur,h1,_,h2,h3,h4,h5,h6⟩
  ·exact .inl h1
  ·exact .inr ⟨g,cap,cur,h1,B5 _,h2,h3,h4,h5,h6⟩
 have obs:∀ n ob,DM [(900000,some (Ob.row true e ag ks l))] n=some ob→n=900000∧ob = .row true e ag ks l:=fun n ob hn=>by
  rw [EI] at hn;split at hn
  ·rename_i h9;simp only [AC] at hn;exact ⟨h9.symm,hn.symm⟩
  ·simp [DM,E7] at hn
 have hfresh:∀ b,v.ownBlock=some b→w.heap.size≤b∧b < w'.heap.size:=fun b hb=>hown.lt b hb
 have ownP:∀ b,FE (fun n=>if n=900000 then v else γ n) [(900000,some (Ob.row true e ag ks l))] b→v.ownBlock=some b:=by
  rintro b ⟨n,ob,hn,hb⟩;obtain ⟨rfl,rfl⟩:=obs n ob hn;simpa only [FF,CP] using hb
 refine ⟨v,rfl,fun n=>if n=900000 then v else γ n,⟨hR.sz,hR.df,fun i=>by simp only [St.get,E7,VRel],fun n ob hn=>?_,fun b hb=>?_,fun n m ob ob' b hnm h1 h2=>?_,hk.mono (fun _ _ h=>h.elim),fun b hb hf=>?_,fun b hf=>CW (hR.fl b hf) hk.size,fun p hp=>by cases hp⟩,?_,?_⟩
 ·obtain ⟨rfl,rfl⟩:=obs n ob hn;simp only [ObRel,CP];exact ⟨hks,hl,ys,OwnRow.of hown0 he,hel _⟩
 ·have:=hfresh b (ownP b hb)
  exact ⟨this.2,.inl this.1⟩
 ·obtain ⟨rfl,rfl⟩:=obs n ob h1;obtain ⟨rfl,rfl⟩:=obs m ob' h2;exact absurd rfl hnm
 ·have:=hfresh b (ownP b hb)
  have:=hR.fl b hf
  omega
 ·simp only [M5,VRel,EI,CP];refine ⟨AZ _,?_⟩;rcases hown.2 with ⟨rfl,h0⟩ | ⟨g,cap,cur,rfl,_,h2,h3,h4,h5,h6⟩
  ·exact ⟨none,0,0,none,rfl,by rw [h0],B5 _,by rw [h0]; exact AZ _,AZ _,B5 _,.inl rfl,fun _=>rfl⟩
  ·refine ⟨some ⟨g,0,none⟩,l.length,cap,some ⟨g,0,none⟩,rfl,by simp,B5 _,AZ _,h3,h4,.inl ?_,fun _=>rfl⟩;simp [Addr.add]
 ·simp only [KV,hb,Z6]
end
theorem zi6 {w w':World} {O:Nat→Prop} (hO:∀ b,O b→b < w.heap.size) {g:Nat} {T:TypeId} {l:List BA} {c:Nat} (hg:w.heap.size≤g) (hh:w'.heap[g]?=some (.cells (l.map Value.string).toArray T (0,0))) (hc:l.length≤c) (hcm:c≤maxLen) (hl:l.length≤strMax)
  (hs:∀ s∈l,s.size≤strMax):Kd.Rel w' O (.list false [.str]) (.list (l.map IV.str)) (.slice (some ⟨g,0,none⟩) l.length c):=by
 simp only [Kd.Rel,IV.toList,BE];refine ⟨_,c,rfl,hc,hcm,hl,fun i y hy=>⟨g,0,rfl,fun h=>by have:=hO g h; omega,(DF.1 hh).1,?_⟩⟩;simp only [B9,DE] at hy;obtain ⟨s,hs1,rfl⟩:=hy;simp only [Kd.RelAll,AM,A7,BI,Nat.mul_one,DA,B7];refine ⟨.string s,?_,?_⟩
 ·simp only [vaL,hh];simp [hs1]
 ·simp only [Kd.Rel,GB,IV.toStr];exact ⟨trivial,hs s (vag hs1)⟩
open Go Go.RowKit
theorem R.get_br (b:Bool) (x y:R):(R.br b x y).get=cond b x.get y.get:=by cases b <;> rfl
theorem R.get_ok (v:V) (o:List (List V)):(R.ok v o).get=some (v,o):=rfl
theorem R.get_no:R.no.get=none:=rfl
def DP (n:Int):BA:=⟨(vaj n).toArray⟩
def FJ (s:BA):Int:=match vbj s.data.toList with | .ok v=>v | .range=>Lib.atoiSat s.data.toList | _=>0
def KU (s:BA):Bool:=match vbj s.data.toList with | .ok _=>true | _=>false
def cutL (s sep:BA):BA:=⟨(vaO s.data.toList sep.data.toList).1.toArray⟩
def FU (s sep:BA):BA:=⟨(vaO s.data.toList sep.data.toList).2.1.toArray⟩
def Wi (s sep:BA):Bool:=(vaO s.data.toList sep.data.toList).2.2
def D2 (s sep:BA):List BA:=Lib.splitB sep 0 (Lib.countB s sep) s
def NI (c:Int):UInt8:=UInt8.ofNat c.toNat
def UH:DV
 | [.bor [.bld s],.str t]=>.br (decide (s.size+t.size≤strMax)) (.ok (.tup [.int .i64 (ic t.size),.err true]) [[.bld (s++t)]]) .no
 | _=>.no
def Y1:DV
 | [.bor [.bld s],.int .u8 c]=>.br (decide (s.size+1≤strMax)) (.ok (.err true) [[.bld (s.push (NI c))]]) .no
 | _=>.no
def UG:DV
 | [.bor [.bld s]]=>.ok (.str s) [[.bld s]]
 | _=>.no
def O3:DV
 | [.int .i64 n]=>.ok (.str (DP n)) []
 | _=>.no
def RC:DV
 | [.str s]=>.ok (.tup [.int .i64 (FJ s),.err (KU s)]) []
 | _=>.no
def UI:DV
 | [.str s,.str sep]=>.br (decide (s.size < 4294967281)) (.ok (.tup [.str (cutL s sep),.str (FU s sep),.bool (Wi s sep)]) []) .no
 | _=>.no
def NF:DV
 | [.str s,.str sep]=>.br (decide (s.size < 4294967281)&&decide (1≤sep.size)) (.ok (.list false [.str] ((D2 s sep).map IV.str)) []) .no
 | _=>.no
def FA (n:Int):BA:=⟨(BU n.toNat).toArray⟩
def GU (s:BA):Int:=match Lib.parseMag s.data.toList with | .ok v=>(v:Int) | .range=>18446744073709551615 | _=>0
def JH (s:BA):Bool:=match Lib.parseMag s.data.toList with | .ok _=>true | _=>false
def PV (s cs:BA):BA:=⟨(Lib.trimRightB s.data.toList (cs.data.toList.headD 0)).toArray⟩
def H3 (s:BA) (n:Nat):BA:=⟨(Lib.repeatL s.data.toList n).toArray⟩
def GG (s p:BA):BA:=⟨(Lib.trimPrefix s.data.toList p.data.toList).toArray⟩
def OH (s p:BA):Bool:=Lib.hasPrefix s.data.toList p.data.toList
def iK:DV
 | [.int .u64 n,.int .i64 b]=>.br (decide (b=10)) (.ok (.str (FA n)) []) .no
 | _=>.no
def iL:DV
 | [.str s,.int .i64 b,.int .i64 c]=>.br (decide (b=10)&&decide (c=64)) (.ok (.tup [.int .u64 (GU s),.err (JH s)]) []) .no
 | _=>.no
def iN:DV
 | [.str s,.str cs]=>.br (decide (cs.size=1)&&decide ((cs.data.toList.headD 0).toNat < 128)) (.ok (.str (PV s cs)) []) .no
 | _=>.no
def Y4:DV
 | [.str s,.int .i64 n]=>.br (decide (0≤n)&&decide (s.size*n.toNat≤strMax)) (.ok (.str (H3 s n.toNat)) []) .no
 | _=>.no
def Y2:DV
 | [.str s,.str p]=>.ok (.tup [.str (GG s p),.bool (OH s p)]) []
 | _=>.no
def GP (l:List BA) (sep:BA):BA:=⟨(Lib.join (l.map (·.data.toList)) sep.data.toList).toArray⟩
def Y3:DV
 | [.list false [.str] l,.str sep]=>.br (decide (l.length≤strMax)&&decide ((GP (l.map IV.toStr) sep).size≤strMax)) (.ok (.str (GP (l.map IV.toStr) sep)) []) .no
 | _=>.no
def F2:LI→BA→Int→Int
 | [],_,_ => -1
 | x :: l,s,i=>cond (s.toList==x.toStr.toList) i (F2 l s (i+1))
theorem Ul {l:List UInt8} {v:Int} (h:vbj l = .ok v):AB.min≤v∧v≤AB.max:=by
 have e1:AB.min = -9223372036854775808:=rfl;have e2:AB.max=9223372036854775807:=rfl;rw [e1,e2];unfold vbj at h;split at h
 ·cases h
 ·simp only at h;split at h
  ·cases h
  ·cases h
  ·rename_i u hu;split at h
   ·cases h
   ·split at h
    ·cases h
    ·simp only [Lib.NumEnd.ok.injEq] at h;subst h;split <;> omega
theorem wB (s:BA):AB.min≤FJ s∧FJ s≤AB.max:=by
 have e1:AB.min = -9223372036854775808:=rfl;have e2:AB.max=9223372036854775807:=rfl;unfold FJ;split
 ·rename_i v hv;exact Ul hv
 ·unfold Lib.atoiSat;rw [e1,e2];split <;> omega
 ·rw [e1,e2]; omega
theorem ZW {n:Int} (h0:AB.min≤n) (h1:n≤AB.max):(DP n).size≤21:=by
 have e1:AB.min = -9223372036854775808:=rfl;have e2:AB.max=9223372036854775807:=rfl;rw [e1] at h0;rw [e2] at h1
 have:=Lib.itoa_length_le n h0 h1
 simpa [DP,AG] using this
theorem sB (s:BA):AJ.min≤GU s∧GU s≤AJ.max:=by
 have e1:AJ.min=0:=rfl;have e2:AJ.max=18446744073709551615:=rfl;unfold GU;split
 ·rename_i v hv
  have:=Lib.parseMag_lt hv
  rw [e1,e2]; omega
 ·rw [e1,e2]; omega
 ·rw [e1,e2]; omega
theorem qY {n:Int} (h0:0≤n) (h1:n≤18446744073709551615):(FA n).size≤20:=by
 rcases Int.lt_or_le 0 n with h | h
 ·have hd:=Lib.numDigits_eq n.toNat (by omega) (by omega);have hl:=Lib.decDigits_length n.toNat;have hs:(FA n).size=(BU n.toNat).length:=by simp [FA,AG]
  rw [hs,hl];split at hd <;> omega
 ·have:n=0:=by omega
  subst this;have hd:BU (0:Int).toNat=[UInt8.ofNat (48+0)]:=by rw [show (0:Int).toNat=0 from rfl,BU]; rfl
  unfold FA;rw [hd];decide
theorem Ph (s cs:BA):(PV s cs).size≤s.size:=by
 have:∀ (l:List UInt8) c,(Lib.trimRightB l c).length≤l.length:=fun l c=>by
  unfold Lib.trimRightB;rw [List.length_reverse]
  have:=(List.dropWhile_sublist (·==c) (l:=l.reverse)).length_le
  simpa using this
 have h:=this s.data.toList (cs.data.toList.headD 0);simp only [PV,AG,C9];simpa using h
theorem Pg (s p:BA):(GG s p).size≤s.size:=by
 simp only [GG,AG,C9,Lib.trimPrefix];split
 ·simp
 ·simp
theorem sM (s:BA) (n:Nat):(H3 s n).size=s.size*n:=by
 have:∀ (l:List UInt8) n,(Lib.repeatL l n).length=l.length*n:=fun l n=>by rw [Lib.repeatL_length,Nat.mul_comm]
 show (Lib.repeatL s.data.toList n).toArray.size=s.size*n;rw [C9,this,CK];rfl
theorem jI (s sep:BA):(cutL s sep).size≤s.size∧(FU s sep).size≤s.size:=by
 unfold cutL FU vaO;split
 ·simp only [AG,C9,BB,CX,CK];omega
 ·simp only [AG,C9,CK,A7];omega
theorem YC (sep:BA):∀ (k:Nat) (s:BA),(Lib.splitB sep 0 k s).length≤k+1∧∀ p∈Lib.splitB sep 0 k s,p.size≤s.size
 | 0,s=>by simp [Lib.splitB]
 | k+1,s=>by
  unfold Lib.splitB;split
  ·simp
  ·obtain ⟨h1,h2⟩:=YC sep k (s.extract ((Lib.indexB s sep).toNat+sep.size) s.size);refine ⟨by simp only [AM]; omega,fun p hp=>?_⟩;rcases AO.1 hp with h | h
   ·subst h;simp only [vbf];omega
   ·have:=h2 p h
    simp only [vbf] at this;omega
open Go Go.Proofs
def g9:List (Nat × TI):=[
 (2,⟨1,8,false,[.z],[.int .i64 0],.leaf⟩),
 (3,⟨1,8,false,[.z],[.int .i64 0],.leaf⟩),
 (4,⟨1,1,false,[.bool],[.bool false],.leaf⟩),
 (5,⟨1,1,false,[.int .u8],[.int .u8 0],.leaf⟩),
 (6,⟨1,1,false,[.int .u8],[.int .u8 0],.leaf⟩),
 (7,⟨4,24,true,[.z,.z,.bool,.int .u8],[.int .i64 0,.int .i64 0,.bool false,.int .u8 0],.struct [(0,2),(1,3),(2,4),(3,6)]⟩),
 (8,⟨4,24,true,[.z,.z,.bool,.int .u8],[.int .i64 0,.int .i64 0,.bool false,.int .u8 0],.struct [(0,2),(1,3),(2,4),(3,6)]⟩),
 (9,⟨1,16,false,[.str],[.str ⟨#[]⟩],.leaf⟩),
 (22,⟨1,24,false,[.list false [.z]],[.zs],.slice 3⟩),
 (23,⟨1,24,false,[.list true [.z,.list false [.z],.list false [.z],.list false [.z],.list false [.z]]],[.zs],.slice 84⟩),
 (25,⟨4,64,true,[.z,.z,.list false [.z],.list true [.z,.list false [.z],.list false [.z],.list false [.z],.list false [.z]]],[.int .i64 0,.int .i64 0,.zs,.zs],.struct [(0,3),(1,3),(2,22),(3,23)]⟩),
 (26,⟨1,24,false,[.list true [.z,.z,.z,.z,.z,.z,.bool,.list false [.z]]],[.zs],.slice 40⟩),
 (27,⟨3,24,true,[.z,.z,.z],[.int .i64 0,.int .i64 0,.int .i64 0],.array 3 3⟩),
 (28,⟨1,24,false,[.list true [.z,.list false [.int .u64]]],[.zs],.slice 88⟩),
 (30,⟨6,64,true,[.z,.z,.z,.z,.z,.list true [.z,.list false [.int .u64]]],[.int .i64 0,.int .i64 0,.int .i64 0,.int .i64 0,.int .i64 0,.zs],.struct [(0,3),(1,3),(2,27),(5,28)]⟩),
 (32,⟨1,24,false,[.list true [.z,.z,.z,.z,.z,.z,.z,.z,.z,.z,.z,.z,.z,.z,.z,.bool,.z]],[.zs],.slice 38⟩),
 (34,⟨2,16,true,[.z,.z],[.int .i64 0,.int .i64 0],.struct [(0,3),(1,3)]⟩),
 (36,⟨10,80,true,[.z,.z,.z,.z,.z,.z,.z,.z,.z,.z],[.int .i64 0,.int .i64 0,.int .i64 0,.int .i64 0,.int .i64 0,.int .i64 0,.int .i64 0,.int .i64 0,.int .i64 0,.int .i64 0],.array 5 34⟩),
 (38,⟨17,136,true,[.z,.z,.z,.z,.z,.z,.z,.z,.z,.z,.z,.z,.z,.z,.z,.bool,.z],[.int .i64 0,.int .i64 0,.int .i64 0,.int .i64 0,.int .i64 0,.int .i64 0,.int .i64 0,.int .i64 0,.int .i64 0,.int .i64 0,.int .i64 0,.int .i64 0,.int .i64 0,.int .i64 0,.int .i64 0,.bool false,.int .i64 0],.struct [(0,3),(1,3),(2,36),(12,3),(13,3),(14,3),(15,4),(16,3)]⟩),
 (40,⟨8,80,true,[.z,.z,.z,.z,.z,.z,.bool,.list false [.z]],[.int .i64 0,.int .i64 0,.int .i64 0,.int .i64 0,.int .i64 0,.int .i64 0,.bool false,.zs],.struct [(0,3),(1,3),(2,3),(3,3),(4,3),(5,3),(6,4),(7,22)]⟩),
 (47,⟨1,24,false,[.list true [.z,.list true [.bool,.z,.z],.z,.z,.z,.z,.z,.z]],[.zs],.slice 55⟩),
 (51,⟨1,24,false,[.list true [.bool,.z,.z]],[.zs],.slice 127⟩),
 (53,⟨4,32,true,[.z,.z,.z,.z],[.int .i64 0,.int .i64 0,.int .i64 0,.int .i64 0],.array 4 3⟩),
 (55,⟨8,80,true,[.z,.list true [.bool,.z,.z],.z,.z,.z,.z,.z,.z],[.int .i64 0,.zs,.int .i64 0,.int .i64 0,.int .i64 0,.int .i64 0,.int .i64 0,.int .i64 0],.struct [(0,3),(1,51),(2,53),(6,3),(7,3)]⟩),
 (66,⟨1,24,false,[.list false [.str]],[.zs],.slice 9⟩),
 (69,⟨1,24,false,[.list false [.int .u8]],[.zs],.slice 5⟩),
 (84,⟨5,104,true,[.z,.list false [.z],.list false [.z],.list false [.z],.list false [.z]],[.int .i64 0,.zs,.zs,.zs,.zs],.struct [(0,3),(1,22),(2,22),(3,22),(4,22)]⟩),
 (85,⟨1,24,false,[.list false [.int .u64]],[.zs],.slice 103⟩),
 (88,⟨2,32,true,[.z,.list false [.int .u64]],[.int .i64 0,.zs],.struct [(0,3),(1,85)]⟩),
 (93,⟨1,24,false,[.list true [.z,.z]],[.zs],.slice 34⟩),
 (95,⟨1,8,false,[.list false []],[.nilp],.ptr 98⟩),
 (98,⟨1,24,true,[.list false [.str]],[.zs],.struct [(0,66)]⟩),
 (103,⟨1,8,false,[.int .u64],[.int .u64 0],.leaf⟩),
 (106,⟨1,8,false,[.list false []],[.nilp],.ptr 108⟩),
 (108,⟨2,32,true,[.list false [],.list false [.int .u8]],[.nilp,.zs],.bld⟩),
 (111,⟨6,48,true,[.bool,.z,.z,.z,.z,.z],[.bool false,.int .i64 0,.int .i64 0,.int .i64 0,.int .i64 0,.int .i64 0],.struct [(0,4),(1,3),(2,3),(3,3),(4,3),(5,3)]⟩),
 (120,⟨1,16,false,[.list false []],[.err true],.iface⟩),
 (127,⟨3,24,true,[.bool,.z,.z],[.bool false,.int .i64 0,.int .i64 0],.struct [(0,4),(1,3),(2,3)]⟩),
 (131,⟨1,24,false,[.list true [.z,.z,.z,.z,.z,.z,.z,.z,.z,.z]],[.zs],.slice 36⟩),
 (141,⟨1,8,false,[.list false []],[.nilp],.ptr 183⟩),
 (150,⟨1,24,false,[.list true [.bool,.z,.z,.z,.z,.z]],[.zs],.slice 111⟩),
 (152,⟨1,8,false,[.int .u64],[.int .u64 0],.leaf⟩),
 (183,⟨34,336,true,[.z,.z,.z,.z,.z,.list true [.z,.list false [.int .u64]],.z,.z,.z,.z,.z,.z,.z,.z,.z,.z,.z,.z,.z,.z,.z,.bool,.z,.list true [.z,.z,.z,.z,.z,.z,.z,.z,.z,.z],.list true [.bool,.z,.z],.z,.list true [.bool,.z,.z],.z,.z,.z,.z,.z,.z,.z],[.int .i64 0,.int .i64 0,.int .i64 0,.int .i64 0,.int .i64 0,.zs,.int .i64 0,.int .i64 0,.int .i64 0,.int .i64 0,.int .i64 0,.int .i64 0,.int .i64 0,.int .i64 0,.int .i64 0,.int .i64 0,.int .i64 0,.int .i64 0,.int .i64 0,.int .i64 0,.int .i64 0,.bool false,.int .i64 0,.zs,.zs,.int .i64 0,.zs,.int .i64 0,.int .i64 0,.int .i64 0,.int .i64 0,.int .i64 0,.int .i64 0,.int .i64 0],.struct [(0,30),(6,38),(23,131),(24,51),(25,55),(33,3)]⟩),
 (252,⟨11,88,true,[.z,.z,.z,.z,.z,.z,.z,.z,.z,.z,.z],[.int .i64 0,.int .i64 0,.int .i64 0,.int .i64 0,.int .i64 0,.int .i64 0,.int .i64 0,.int .i64 0,.int .i64 0,.int .i64 0,.int .i64 0],.struct [(0,3),(1,36)]⟩),
 (253,⟨1,24,false,[.list true [.z,.z,.z,.z,.z,.z,.z,.z,.z,.z,.z]],[.zs],.slice 252⟩),
 (272,⟨1,24,false,[.list true [.z,.z,.z,.z,.z,.z,.z,.z,.z,.z,.z]],[.zs],.slice 275⟩),
 (275,⟨11,88,true,[.z,.z,.z,.z,.z,.z,.z,.z,.z,.z,.z],[.int .i64 0,.int .i64 0,.int .i64 0,.int .i64 0,.int .i64 0,.int .i64 0,.int .i64 0,.int .i64 0,.int .i64 0,.int .i64 0,.int .i64 0],.struct [(0,36),(10,3)]⟩)]
def oX:List Nat:=[34,38,53,111,127]
noncomputable abbrev PR:Program:=Tryz.prog
theorem Ol:gZ PR 108 g9=true:=by kernel_rfl
theorem Bb:jS PR g9 oX=true:=by kernel_rfl
theorem Eo:PR.follows .mixedOrders=true:=by kernel_rfl
theorem Uy:∃ i,PR.info? 108=some i∧i.zero=some (.agg #[.pointer none,.slice none 0 0]):=by
 refine ⟨(PR.info? 108).getD default,by kernel_rfl,by kernel_rfl⟩
theorem wN (_h:(E7 TI.none g9 108).d = .bld):∃ i,PR.info? 108=some i∧i.zero=some (.agg #[.pointer none,.slice none 0 0]):=Uy
def D4 (sp:List (Nat × DV)) (lp:List (Nat × KP)) (nt N:Nat):Env:=⟨g9,sp,[],lp,nt,N,oX,[]⟩
def kS (sp:List (Nat × DV)) (ip:List (Nat × Ip)) (lp:List (Nat × KP)) (nt N:Nat):Env:=⟨g9,sp,[],lp,nt,N,oX,ip⟩
abbrev HF (fn:Func) (c:Code) (nt:Nat) (rs:List ResultVar):Prop:=(fn.name == "runtime.NumGoroutine")=false∧fn.body=some c∧fn.ntmps=nt∧B6 nt 900000=true∧fn.results.toList=rs
theorem D3 {fn:Func} {nt:Nat} {rs:List ResultVar} (h:(!(fn.name == "runtime.NumGoroutine")&&(fn.body.isSome&&(fn.ntmps==nt&&B6 nt 900000)))=true:=by kernel_rfl) (h2:fn.results.toList=rs:=by kernel_rfl):HF fn (D1 fn) nt rs:=by
 simp only [AH,B4,B8] at h;refine ⟨h.1,?_,h.2.2.1,h.2.2.2,h2⟩;unfold D1;cases hb:fn.body with
 | none=>rw [hb] at h; exact absurd h.2.1 (by decide)
 | some c=>rfl
noncomputable def O7:Code:=D1 Tryz.f3
theorem zbi:HF Tryz.f3 O7 133 [.tmp 6]:=D3
noncomputable def LB:Code:=D1 Tryz.f4
theorem zbj:HF Tryz.f4 LB 134 [.tmp 10]:=D3
noncomputable def W9:Code:=D1 Tryz.f12
theorem zbk:HF Tryz.f12 W9 72 [.tmp 6]:=D3
noncomputable def NJ:Code:=D1 Tryz.f15
theorem za9:HF Tryz.f15 NJ 63 [.cell 2 30]:=D3
noncomputable def xP:Code:=D1 Tryz.f16
theorem za8:HF Tryz.f16 xP 58 [.cell 4 38]:=D3
noncomputable def xO:Code:=D1 Tryz.f17
theorem za7:HF Tryz.f17 xO 24 [.tmp 6]:=D3
noncomputable def L0:Code:=D1 Tryz.f18
theorem zaw:HF Tryz.f18 L0 100 [.tmp 4]:=D3
noncomputable def JO:Code:=D1 Tryz.f19
theorem zce:HF Tryz.f19 JO 88 [.cell 2 30,.tmp 3]:=D3
noncomputable def KW:Code:=D1 Tryz.f20
theorem zcf:HF Tryz.f20 KW 94 [.tmp 2]:=D3
noncomputable def UR:Code:=D1 Tryz.f21
theorem zaD:HF Tryz.f21 UR 59 [.tmp 2,.tmp 3]:=D3
noncomputable def XA:Code:=D1 Tryz.f22
theorem zbx:HF Tryz.f22 XA 37 [.tmp 4]:=D3
noncomputable def xL:Code:=D1 Tryz.f23
theorem zaV:HF Tryz.f23 xL 17 [.cell 2 55,.tmp 3]:=D3
noncomputable def W7:Code:=D1 Tryz.f24
theorem zaW:HF Tryz.f24 W7 61 [.tmp 2]:=D3
noncomputable def xR:Code:=D1 Tryz.f25
theorem zbd:HF Tryz.f25 xR 38 [.tmp 4]:=D3
noncomputable def L3:Code:=D1 Tryz.f26
theorem za2:HF Tryz.f26 L3 59 [.tmp 6]:=D3
noncomputable def xW:Code:=D1 Tryz.f27
theorem zbl:HF Tryz.f27 xW 31 [.tmp 0]:=D3
noncomputable def xQ:Code:=D1 Tryz.f28
theorem zbb:HF Tryz.f28 xQ 14 [.cell 0 30]:=D3
noncomputable def UQ:Code:=D1 Tryz.f29
theorem zaC:HF Tryz.f29 UQ 54 [.tmp 6]:=D3
noncomputable def yH:Code:=D1 Tryz.f31
theorem zbw:HF Tryz.f31 yH 8 [.tmp 2]:=D3
noncomputable def yG:Code:=D1 Tryz.f32
theorem zbv:HF Tryz.f32 yG 46 [.cell 4 55]:=D3
noncomputable def U0:Code:=D1 Tryz.f35
theorem zb2:HF Tryz.f35 U0 13 [.cell 4 55]:=D3
noncomputable def xS:Code:=D1 Tryz.f38
theorem zbe:HF Tryz.f38 xS 15 [.tmp 4]:=D3
noncomputable def MT:Code:=D1 Tryz.f39
theorem zbc:HF Tryz.f39 MT 113 [.tmp 4]:=D3
noncomputable def UX:Code:=D1 Tryz.f40
theorem zba:HF Tryz.f40 UX 32 [.cell 4 36]:=D3
noncomputable def w8:Code:=D1 Tryz.f41
theorem zaB:HF Tryz.f41 w8 39 [.cell 4 38]:=D3
noncomputable def wZ:Code:=D1 Tryz.f42
theorem zaA:HF Tryz.f42 wZ 9 [.tmp 2]:=D3
noncomputable def yC:Code:=D1 Tryz.f44
theorem zbr:HF Tryz.f44 yC 38 [.tmp 2]:=D3
noncomputable def zD:Code:=D1 Tryz.f47
theorem zcd:HF Tryz.f47 zD 8 [.tmp 4]:=D3
noncomputable def zG:Code:=D1 Tryz.f48
theorem zci:HF Tryz.f48 zG 26 [.tmp 2]:=D3
noncomputable def zE:Code:=D1 Tryz.f49
theorem zcg:HF Tryz.f49 zE 24 [.tmp 4]:=D3
noncomputable def zJ:Code:=D1 Tryz.f50
theorem zcl:HF Tryz.f50 zJ 13 [.tmp 4]:=D3
noncomputable def zI:Code:=D1 Tryz.f51
theorem zck:HF Tryz.f51 zI 11 [.tmp 2]:=D3
noncomputable def zH:Code:=D1 Tryz.f52
theorem zcj:HF Tryz.f52 zH 28 [.tmp 2]:=D3
noncomputable def RE:Code:=D1 Tryz.f53
theorem zbH:HF Tryz.f53 RE 54 [.tmp 2]:=D3
noncomputable def zF:Code:=D1 Tryz.f54
theorem zch:HF Tryz.f54 zF 10 []:=D3
noncomputable def yR:Code:=D1 Tryz.f55
theorem zbN:HF Tryz.f55 yR 33 [.cell 2 111,.tmp 3]:=D3
noncomputable def US:Code:=D1 Tryz.f58
theorem zaF:HF Tryz.f58 US 29 [.tmp 4,.tmp 5,.tmp 6]:=D3
noncomputable def xA:Code:=D1 Tryz.f59
theorem zaG:HF Tryz.f59 xA 37 [.tmp 2]:=D3
noncomputable def H7:Code:=D1 Tryz.f61
theorem za0:HF Tryz.f61 H7 87 [.cell 2 55]:=D3
noncomputable def xM:Code:=D1 Tryz.f62
theorem zaX:HF Tryz.f62 xM 47 [.tmp 2]:=D3
noncomputable def W8:Code:=D1 Tryz.f63
theorem zaY:HF Tryz.f63 W8 26 []:=D3
noncomputable def UW:Code:=D1 Tryz.f64
theorem za6:HF Tryz.f64 UW 26 [.tmp 4]:=D3
noncomputable def yW:Code:=D1 Tryz.f65
theorem zbV:HF Tryz.f65 yW 41 [.tmp 4]:=D3
noncomputable def yY:Code:=D1 Tryz.f66
theorem zbX:HF Tryz.f66 yY 16 [.cell 2 36]:=D3
noncomputable def ZF:Code:=D1 Tryz.f67
theorem zbR:HF Tryz.f67 ZF 75 [.tmp 4,.tmp 5]:=D3
noncomputable def OB:Code:=D1 Tryz.f68
theorem za5:HF Tryz.f68 OB 94 [.tmp 6]:=D3
noncomputable def xJ:Code:=D1 Tryz.f69
theorem zaT:HF Tryz.f69 xJ 25 [.tmp 6]:=D3
noncomputable def OC:Code:=D1 Tryz.f70
theorem zbU:HF Tryz.f70 OC 75 [.tmp 8]:=D3
noncomputable def xU:Code:=D1 Tryz.f71
theorem zbg:HF Tryz.f71 xU 32 [.tmp 2]:=D3
noncomputable def w9:Code:=D1 Tryz.f72
theorem zaE:HF Tryz.f72 w9 66 [.tmp 6]:=D3
noncomputable def SY:Code:=D1 Tryz.f73
theorem zav:HF Tryz.f73 SY 82 [.cell 2 38,.tmp 3,.tmp 4]:=D3
noncomputable def y4:Code:=D1 Tryz.f74
theorem zb1:HF Tryz.f74 y4 26 [.tmp 4]:=D3
noncomputable def eD:Code:=D1 Tryz.f75
theorem zb3:HF Tryz.f75 eD 165 [.tmp 2]:=D3
noncomputable def eE:Code:=D1 Tryz.f76
theorem zb4:HF Tryz.f76 eE 22 [.cell 2 55]:=D3
noncomputable def xK:Code:=D1 Tryz.f81
theorem zaU:HF Tryz.f81 xK 16 [.cell 2 53]:=D3
noncomputable def yF:Code:=D1 Tryz.f84
theorem zbu:HF Tryz.f84 yF 8 [.tmp 0]:=D3
noncomputable def yM:Code:=D1 Tryz.f89
theorem zbE:HF Tryz.f89 yM 16 [.tmp 4]:=D3
noncomputable def yD:Code:=D1 Tryz.f91
theorem zbs:HF Tryz.f91 yD 76 [.tmp 2,.tmp 3]:=D3
noncomputable def yP:Code:=D1 Tryz.f92
theorem zbL:HF Tryz.f92 yP 32 [.tmp 2]:=D3
noncomputable def xB:Code:=D1 Tryz.f93
theorem zaH:HF Tryz.f93 xB 25 [.tmp 4]:=D3
noncomputable def y5:Code:=D1 Tryz.f94
theorem zb5:HF Tryz.f94 y5 9 [.tmp 4]:=D3
noncomputable def yO:Code:=D1 Tryz.f95
theorem zbI:HF Tryz.f95 yO 22 [.tmp 3]:=D3
noncomputable def L4:Code:=D1 Tryz.f96
theorem zcm:HF Tryz.f96 L4 94 [.tmp 4]:=D3
noncomputable def xE:Code:=D1 Tryz.f98
theorem zaK:HF Tryz.f98 xE 14 [.tmp 6]:=D3
noncomputable def xC:Code:=D1 Tryz.f99
theorem zaI:HF Tryz.f99 xC 18 [.tmp 6]:=D3
noncomputable def yS:Code:=D1 Tryz.f100
theorem zbO:HF Tryz.f100 yS 11 [.tmp 5]:=D3
noncomputable def xN:Code:=D1 Tryz.f105
theorem zaZ:HF Tryz.f105 xN 20 [.tmp 4]:=D3
noncomputable def UV:Code:=D1 Tryz.f106
theorem za1:HF Tryz.f106 UV 37 [.tmp 2]:=D3
noncomputable def y3:Code:=D1 Tryz.f107
theorem zb0:HF Tryz.f107 y3 35 [.tmp 4]:=D3
noncomputable def yZ:Code:=D1 Tryz.f108
theorem zbY:HF Tryz.f108 yZ 71 [.tmp 4]:=D3
noncomputable def y0:Code:=D1 Tryz.f109
theorem zbZ:HF Tryz.f109 y0 16 [.tmp 2]:=D3
noncomputable def yU:Code:=D1 Tryz.f110
theorem zbQ:HF Tryz.f110 yU 6 [.tmp 2]:=D3
noncomputable def Vk:Code:=D1 Tryz.f111
theorem zaR:HF Tryz.f111 Vk 32 [.cell 6 36,.cell 7 36]:=D3
noncomputable def xI:Code:=D1 Tryz.f112
theorem zaS:HF Tryz.f112 xI 12 [.tmp 2]:=D3
noncomputable def IT:Code:=D1 Tryz.f113
theorem za3:HF Tryz.f113 IT 66 [.tmp 6,.tmp 7]:=D3
noncomputable def y8:Code:=D1 Tryz.f114
theorem zca:HF Tryz.f114 y8 15 [.tmp 4]:=D3
noncomputable def yN:Code:=D1 Tryz.f115
theorem zbG:HF Tryz.f115 yN 24 [.tmp 6]:=D3
noncomputable def yX:Code:=D1 Tryz.f116
theorem zbW:HF Tryz.f116 yX 14 [.cell 6 53]:=D3
noncomputable def xV:Code:=D1 Tryz.f117
theorem zbh:HF Tryz.f117 xV 66 [.tmp 2]:=D3
noncomputable def U1:Code:=D1 Tryz.f118
theorem zb7:HF Tryz.f118 U1 19 [.tmp 4]:=D3
noncomputable def wX:Code:=D1 Tryz.f119
theorem zay:HF Tryz.f119 wX 46 [.cell 2 38]:=D3
noncomputable def wY:Code:=D1 Tryz.f120
theorem zaz:HF Tryz.f120 wY 11 [.tmp 2]:=D3
noncomputable def wW:Code:=D1 Tryz.f121
theorem zax:HF Tryz.f121 wW 11 [.tmp 2]:=D3
noncomputable def yI:Code:=D1 Tryz.f122
theorem zby:HF Tryz.f122 yI 86 [.tmp 6]:=D3
noncomputable def yJ:Code:=D1 Tryz.f123
theorem zbz:HF Tryz.f123 yJ 9 [.cell 2 53,.tmp 3]:=D3
noncomputable def SZ:Code:=D1 Tryz.f124
theorem zbA:HF Tryz.f124 SZ 31 [.tmp 6,.tmp 7,.tmp 8]:=D3
noncomputable def nT:Code:=D1 Tryz.f126
theorem zbB:HF Tryz.f126 nT 24 [.tmp 8]:=D3
noncomputable def yL:Code:=D1 Tryz.f141
theorem zbD:HF Tryz.f141 yL 21 [.tmp 4]:=D3
noncomputable def yE:Code:=D1 Tryz.f144
theorem zbt:HF Tryz.f144 yE 19 [.tmp 2,.tmp 3]:=D3
noncomputable def yQ:Code:=D1 Tryz.f145
theorem zbM:HF Tryz.f145 yQ 43 [.tmp 2]:=D3
noncomputable def xD:Code:=D1 Tryz.f146
theorem zaJ:HF Tryz.f146 xD 30 [.tmp 8]:=D3
noncomputable def S0:Code:=D1 Tryz.f147
theorem zb6:HF Tryz.f147 S0 19 [.tmp 4]:=D3
noncomputable def xF:Code:=D1 Tryz.f148
theorem zaL:HF Tryz.f148 xF 21 [.tmp 4]:=D3
noncomputable def xG:Code:=D1 Tryz.f149
theorem zaM:HF Tryz.f149 xG 21 [.tmp 4]:=D3
noncomputable def xH:Code:=D1 Tryz.f150
theorem zaN:HF Tryz.f150 xH 7 [.tmp 2]:=D3
noncomputable def y7:Code:=D1 Tryz.f155
theorem zb9:HF Tryz.f155 y7 8 [.tmp 2]:=D3
noncomputable def UZ:Code:=D1 Tryz.f156
theorem zbS:HF Tryz.f156 UZ 40 [.tmp 2]:=D3
noncomputable def y6:Code:=D1 Tryz.f157
theorem zb8:HF Tryz.f157 y6 29 [.cell 4 34,.cell 5 34]:=D3
noncomputable def ZE:Code:=D1 Tryz.f158
theorem za4:HF Tryz.f158 ZE 88 [.tmp 4,.tmp 5]:=D3
noncomputable def O9:Code:=D1 Tryz.f159
theorem zbK:HF Tryz.f159 O9 33 [.tmp 6]:=D3
noncomputable def xT:Code:=D1 Tryz.f160
theorem zbf:HF Tryz.f160 xT 27 [.tmp 4]:=D3
noncomputable def IS:Code:=D1 Tryz.f162
theorem zaP:HF Tryz.f162 IS 69 [.tmp 6,.tmp 7,.tmp 8]:=D3
noncomputable def UT:Code:=D1 Tryz.f163
theorem zaO:HF Tryz.f163 UT 62 [.tmp 6,.tmp 7]:=D3
noncomputable def xZ:Code:=D1 Tryz.f164
theorem zbo:HF Tryz.f164 xZ 23 [.tmp 4]:=D3
noncomputable def xX:Code:=D1 Tryz.f165
theorem zbm:HF Tryz.f165 xX 54 [.tmp 6,.tmp 7,.tmp 8]:=D3
noncomputable def yK:Code:=D1 Tryz.f166
theorem zbC:HF Tryz.f166 yK 23 [.tmp 4]:=D3
noncomputable def O8:Code:=D1 Tryz.f168
theorem zbJ:HF Tryz.f168 O8 54 [.tmp 4]:=D3
noncomputable def yT:Code:=D1 Tryz.f190
theorem zbP:HF Tryz.f190 yT 9 [.tmp 2]:=D3
noncomputable def yV:Code:=D1 Tryz.f192
theorem zbT:HF Tryz.f192 yV 16 [.tmp 2]:=D3
noncomputable def zC:Code:=D1 Tryz.f193
theorem zcc:HF Tryz.f193 zC 12 [.cell 4 34]:=D3
noncomputable def y9:Code:=D1 Tryz.f194
theorem zcb:HF Tryz.f194 y9 2 [.cell 0 34]:=D3
noncomputable def zK:Code:=D1 Tryz.f195
theorem zcn:HF Tryz.f195 zK 15 [.tmp 4]:=D3
noncomputable def UU:Code:=D1 Tryz.f196
theorem zaQ:HF Tryz.f196 UU 43 [.tmp 4,.tmp 5,.tmp 6]:=D3
noncomputable def yB:Code:=D1 Tryz.f197
theorem zbq:HF Tryz.f197 yB 16 [.tmp 2]:=D3
noncomputable def xY:Code:=D1 Tryz.f198
theorem zbn:HF Tryz.f198 xY 10 [.cell 4 36]:=D3
noncomputable def yA:Code:=D1 Tryz.f199
theorem zbp:HF Tryz.f199 yA 15 [.cell 4 36]:=D3
noncomputable def OD:Code:=D1 Tryz.f217
theorem zco:HF Tryz.f217 OD 46 [.tmp 4,.cell 5 111]:=D3
noncomputable def UY:Code:=D1 Tryz.f218
theorem zbF:HF Tryz.f218 UY 79 [.tmp 4]:=D3
open Go Go.Proofs Go.RowKit
theorem Keep.freeze {O:Nat→Prop} (w:World) (a:Addr) (n:Nat) (h:O a.block):Keep O w (w.freeze a n):=by
 unfold World.freeze;split
 ·exact Keep.refl _ _
 ·exact ⟨rfl,rfl,rfl,by simp,fun b _ hn=>by simp only [va3]; rw [BD (fun e:a.block=b=>hn (e ▸ h))]⟩
theorem Keep.setCell {O:Nat→Prop} (w:World) (a:Addr) (v:Value) (h:O a.block):Keep O w (w.setCell a v):=
 ⟨rfl,rfl,rfl,by simp [vbB],fun b _ hn=>Below.heap_setCell _ _ _ _ (fun e=>hn (e ▸ h))⟩
theorem fO {w:World} {b:Nat} {o:Obj} (h:w.heap[b]?=some o):b < w.heap.size:=(DF.1 h).1
theorem Ux:liesAt PR PR.depth 108 (2 / PR.cellsOf 108) 0 108 1=true:=by kernel_rfl
theorem wQ:(PR.info? 108).map (·.size)=some 2:=by kernel_rfl
theorem Pk:(PR.info? 5).map (fun i=>(i.zero,i.size,i.bytes))=some (some (.int .u8 0),1,1):=by kernel_rfl
set_option maxHeartbeats 1000000 in
theorem Uw (b:Nat) (w:World) (h0:w.cell? ⟨b,0,none⟩=some (.pointer (some ⟨b,0,none⟩))) :
  Calls Tryz.prog 103 #[.pointer (some ⟨b,0,none⟩)] w fun e w'=>e = .returned (.tuple #[])∧w'=w:=by
 obtain ⟨j,hj,_⟩:=Option.map_eq_some_iff.1 wQ
 go_enter Tryz.func103,Tryz.ntmps103
 go_wp2
 rw [Lib.run_neq_ptr_same w _ Tryz.underlying106 hj]
 go_wp2
 go_end0
 exact ⟨rfl,rfl⟩
set_option maxHeartbeats 1000000 in
theorem Uv (b:Nat) (w:World) (h0:w.cell? ⟨b,0,none⟩=some (.pointer none)) (hsh:w.shape? b=some (108,2)) (hfz:w.frozen? ⟨b,0,none⟩=false) :
  Calls Tryz.prog 103 #[.pointer (some ⟨b,0,none⟩)] w fun e w'=>e = .returned (.tuple #[])∧w'=w.setCell ⟨b,0,none⟩ (.pointer (some ⟨b,0,none⟩)):=by
 obtain ⟨j,hj,hjs⟩:=Option.map_eq_some_iff.1 wQ
 go_enter Tryz.func103,Tryz.ntmps103
 go_wp2
 rw [Lib.run_to_unsafe w ⟨b,0,none⟩ Tryz.underlying106 Tryz.underlying211 hj (by rw [hjs]; decide) hsh (Nat.zero_lt_succ 1)];simp only [Result.andThen];rw [Oper.upon_value]
 go_wp2
 rw [run_callFunc_extern Tryz.func153 (by kernel_rfl) (by kernel_rfl) (by kernel_rfl) (e:=Extern.AbiNoEscape.same) (by kernel_rfl)];rw [Lib.run_noEscape];simp only [Result.andThen];rw [Oper.upon_value]
 go_wp2
 rw [Lib.run_from_unsafe w ⟨b,0,none⟩ Tryz.underlying211 Tryz.underlying106 hj hsh Ux];simp only [Result.andThen];rw [Oper.upon_value]
 go_wp2
 go_end0
 exact ⟨rfl,rfl⟩
theorem wO (b:Nat) (p v:Value) (w:World) (hp:p = .pointer none∨p = .pointer (some ⟨b,0,none⟩)) (hbk:w.heap[b]?=some (.cells #[p,v] 108 (0,0))) :
  Calls Tryz.prog 103 #[.pointer (some ⟨b,0,none⟩)] w fun e w'=>e = .returned (.tuple #[])∧w'.heap[b]?=some (.cells #[.pointer (some ⟨b,0,none⟩),v] 108 (0,0))∧Keep (fun k=>k=b) w w'∧w'.heap.size=w.heap.size:=by
 have hc0:w.cell? ⟨b,0,none⟩=some p:=by rw [Lib.cell_of_heap hbk]; rfl
 rcases hp with rfl | rfl
 ·refine (Uv b w hc0 (by simp [World.shape?,hbk]) (Lib.frozen_of_heap hbk 0)).mono ?_;rintro e w' ⟨rfl,rfl⟩;exact ⟨rfl,by simp [vbB,va3,hbk],Keep.setCell w ⟨b,0,none⟩ _ rfl,by simp [vbB]⟩
 ·refine (Uw b w hc0).mono ?_;rintro e w' ⟨rfl,rfl⟩;exact ⟨rfl,hbk,Keep.refl _ _,rfl⟩
def bI (b:Nat) (v:Value) (bs:List Value) (w w':World):Prop:=
 ∃ v',w'.heap[b]?=some (.cells #[.pointer (some ⟨b,0,none⟩),v'] 108 (0,0))∧w'.ownsRowF 0 5 1 v' bs.length bs∧v'.ownBlock≠some b ∧
  Keep (fun k=>k=b∨v.ownBlock=some k) w w'∧∀ k,v'.ownBlock=some k→v.ownBlock=some k∨w.heap.size≤k
theorem wP {b:Nat} {v v':Value} {bs:List Value} {w w1 w2:World} (hs1:w1.heap.size=w.heap.size) (hk1:Keep (fun k=>k=b) w w1)
  (hb2:w2.heap[b]?=some (.cells #[.pointer (some ⟨b,0,none⟩),v] 108 (0,0))) (hown:w2.ownsRowF 0 5 1 v' bs.length bs) (hk2:Keep (fun k=>v.ownBlock=some k) w1 w2) (hv:∀ k,v'.ownBlock=some k→v.ownBlock=some k∨w1.heap.size≤k) :
  bI b v bs w (w2.setCell ⟨b,1,none⟩ v'):=by
 have hput:=Lib.BuilderAtF.put (T:=108) (e:=5) (B5 b) hb2 hown (by decide);obtain ⟨_,v2,q1,q2,q3⟩:=hput;have e2:v2=v':=by
  have:(w2.setCell ⟨b,1,none⟩ v').heap[b]?=some (.cells #[.pointer (some ⟨b,0,none⟩),v'] 108 (0,0)):=by simp [vbB,va3,hb2]
  rw [this] at q1;simp at q1;exact q1.symm
 subst e2;refine ⟨v2,q1,q2,q3,?_,fun k hk=>by rw [← hs1]; exact hv k hk⟩;have h3:Keep (fun k=>k=b) w2 (w2.setCell ⟨b,1,none⟩ v2):=Keep.setCell w2 ⟨b,1,none⟩ v2 rfl;refine (hk1.mono (fun _ _ h=>Or.inl h)).trans ((hk2.mono (O':=fun k=>k=b∨v.ownBlock=some k) (fun _ _ h=>Or.inr h)).trans h3 (fun _ _ h=>Or.inl h)) (fun _ _ h=>h)
theorem Cd {w w':World} {v:Value} (hg:w.grownBy w' v.ownBlock):Keep (fun k=>v.ownBlock=some k) w w':=
 ⟨hg.os,hg.tape,hg.output,hg.size,fun b hb hn=>hg.block b hb (fun h=>hn h.symm)⟩
theorem X2 {g n c k:Nat} (h:(Value.slice (some ⟨g,0,none⟩) n c).ownBlock=some k):k=g:=by
 simp only [CC,AC] at h;exact h.symm
theorem Ue {P:Program} (w:World) (t u ty e:TypeId) (i:TypeInfo) (ht:P.underlying t=some (.slice e)) (hu:P.underlying u=some .string) (hi:P.info? e=some i) (hz:i.zero=some (.int .u8 0)) (hsize:i.size=1) (hby:i.bytes=1)
  (v:Value) (n:Nat) (xs:List Value) (hown:w.ownsRowF 0 e 1 v n xs) (s:BA) (hbytes:n+s.size≤140737488355328) :
  ∃ v' w',(CZ #[t,u] ty #[v,.string s]).run P w = .ok v' w'∧w'.ownsRowF 0 e 1 v' (n+s.size) (xs++DC s)∧w.grownBy w' v.ownBlock∧∀ k,v'.ownBlock=some k→v.ownBlock=some k∨w.heap.size≤k:=by
 have h63:n+s.size≤maxLen:=by unfold maxLen; omega
 rcases hown.2 with ⟨rfl,rfl⟩ | ⟨g,cap,cur,fz,rfl,hbg,hg,hfz,hnc,hcm,hcs,htake⟩
 ·obtain ⟨v',w',h1,h2,h3,_⟩:=Lib.run_append_own_string (P:=P) w w.heap.size t u ty e i ht hu hi hz hsize hby (.slice none 0 0) 0 xs ⟨hown.1,.inl ⟨rfl,rfl⟩⟩ s h63 hbytes (AZ _);refine ⟨v',w',h1,⟨h2.1,?_⟩,h3,fun k hk=>.inr ?_⟩
  ·rcases h2.2 with q | ⟨g,cap,cur,q1,_,q2,q3,q4,q5,q6⟩
   ·exact .inl q
   ·exact .inr ⟨g,cap,cur,(0,0),q1,B5 _,q2,B5 _,q3,q4,q5,q6⟩
  ·rcases h2.2 with ⟨rfl,_⟩ | ⟨g,cap,cur,rfl,q1,_⟩
   ·simp [CC] at hk
   ·rw [X2 hk]; exact q1
 ·obtain ⟨v',w',h1,h2,h3,_⟩:=Lib.run_append_own_stringF (P:=P) w 0 t u ty e i ht hu hi hz hsize hby _ n xs hown s h63 hbytes (B5 _);refine ⟨v',w',h1,h2,h3,fun k hk=>?_⟩;have hsmall:n+s.size≤9223372036854775807:=by omega
  by_cases hroom:n+s.size≤cap
  ·have hr:=Lib.run_append_room_stringF (P:=P) w t u ty e i ht hu hi hsize g n cap cur fz hg (by simpa using hfz) s hroom (by simp at hcs; omega);rw [h1] at hr;simp only [vbk] at hr;obtain ⟨rfl,_⟩:=hr;exact .inl (by rw [X2 hk]; rfl)
  ·have hxl:xs.length=n:=by simpa using hown.1
   have hr:=Lib.run_append_grow_string (P:=P) w t u ty e i (.int .u8 0) ht hu hi hz ⟨g,0,none⟩ n cap xs (by rw [hsize]; simpa using hxl) (hown.cells (g:=g) rfl) s (by omega) (by omega) (by rw [hby]; exact growslice_fits (by omega) (by omega));rw [h1] at hr;simp only [vbk] at hr;obtain ⟨rfl,_⟩:=hr;exact .inr (by rw [X2 hk]; exact AZ _)
theorem zjT {P:Program} {w:World} {ops:Array Oper} {rest:List Oper} {o:Oper} {a:Act} {Q:Exit→Act→World→Prop} (hgd:o.guard=none) (sl x:Operand) (t u:TypeId)
  (ho:o.op = .call { callee:=.builtin .append,args:=#[sl,x],argTypes:=#[t,u] })
  (e:TypeId) (i:TypeInfo) (ht:P.underlying t=some (.slice e)) (hu:P.underlying u=some .string) (hi:P.info? e=some i) (hz:i.zero=some (.int .u8 0)) (hsize:i.size=1) (hby:i.bytes=1)
  (v:Value) (n:Nat) (xs:List Value) (hs:a.eval sl=v) (hown:w.ownsRowF 0 e 1 v n xs) (s:BA) (hx:a.eval x = .string s) (hbytes:n+s.size≤140737488355328)
  (h:∀ v' w',w'.ownsRowF 0 e 1 v' (n+s.size) (xs++DC s)→w.grownBy w' v.ownBlock→(∀ k,v'.ownBlock=some k→v.ownBlock=some k∨w.heap.size≤k)→wpList P ops Q rest (a.put o.dst v') w'):wpList P ops Q (o :: rest) a w:=by
 refine wpList_plain hgd fun K hK=>?_
 obtain ⟨v',w',hr,h2,h3,h4⟩:=Ue (P:=P) w t u o.type e i ht hu hi hz hsize hby v n xs hown s hbytes;unfold Oper.wp execOp;simp only [ho,resolve,invoke,builtin,CM,CN,CB,List.map_toArray,A0,CA,hs,hx,hr];exact hK _ _ (h v' w' h2 h3 h4)
theorem Ub {P:Program} (w:World) (t ty e:TypeId) (i:TypeInfo) (ht:P.underlying t=some (.slice e)) (hi:P.info? e=some i) (hz:i.zero=some (.int .u8 0)) (hsize:i.size=1) (hby:i.bytes=1)
  (v:Value) (n:Nat) (xs:List Value) (hown:w.ownsRowF 0 e 1 v n xs) (ad:Addr) (c:Nat) (x:Int) (hx:w.cell? ad=some (.int .u8 x)) (hbytes:n+1≤140737488355328) :
  ∃ v' w',(CZ #[t,t] ty #[v,.slice (some ad) 1 c]).run P w = .ok v' w'∧w'.ownsRowF 0 e 1 v' (n+1) (xs++[.int .u8 x])∧w.grownBy w' v.ownBlock∧∀ k,v'.ownBlock=some k→v.ownBlock=some k∨w.heap.size≤k:=by
 have h63:n+1≤maxLen:=by unfold maxLen; omega
 have hnews:∀ j u,[Value.int .u8 x][j]?=some u→w.cell? (ad.add j)=some u:=by
  intro j u hj
  match j,hj with
  | 0,hj=>simp at hj; subst hj; obtain ⟨b,o,p⟩:=ad; cases p <;> simpa [Addr.add] using hx
 have h1c:∀ u∈[Value.int .u8 x],u.oneCell'=true:=fun u hu=>by simp at hu; subst hu; rfl
 rcases hown.2 with ⟨rfl,rfl⟩ | ⟨g,cap,cur,fz,rfl,hbg,hg,hfz,hnc,hcm,hcs,htake⟩
 ·obtain ⟨v',w',h1,h2,h3,_⟩:=run_append_own (P:=P) w w.heap.size t ty e i (.int .u8 0) 1 1 ht hi hz hsize hby rfl (by decide) (.slice none 0 0) 0 xs ⟨hown.1,.inl ⟨rfl,rfl⟩⟩ ad 1 c [.int .u8 x] rfl hnews h1c h63 (by omega) (AZ _);refine ⟨v',w',h1,⟨h2.1,?_⟩,h3,fun k hk=>.inr ?_⟩
  ·rcases h2.2 with q | ⟨g,cap,cur,q1,_,q2,q3,q4,q5,q6⟩
   ·exact .inl q
   ·exact .inr ⟨g,cap,cur,(0,0),q1,B5 _,q2,B5 _,q3,q4,q5,q6⟩
  ·rcases h2.2 with ⟨rfl,_⟩ | ⟨g,cap,cur,rfl,q1,_⟩
   ·simp [CC] at hk
   ·rw [X2 hk]; exact q1
 ·obtain ⟨v',w',h1,h2,h3,_⟩:=run_append_ownF (P:=P) w 0 t ty e i (.int .u8 0) 1 1 ht hi hz hsize hby rfl (by decide) _ n xs hown ad 1 c [.int .u8 x] rfl hnews h1c h63 (by omega) (B5 _);refine ⟨v',w',h1,h2,h3,fun k hk=>?_⟩;by_cases hroom:n+1≤cap
  ·have hr:=run_append_roomF (P:=P) w t ty e i ht hi g n cap cur fz hg (by rw [hsize]; simpa using hfz) ad 1 c [.int .u8 x] (by rw [hsize]; rfl) hnews h1c hroom (by rw [hsize]; simp at hcs ⊢; omega);rw [h1] at hr;simp only [vbk] at hr;obtain ⟨rfl,_⟩:=hr;exact .inl (by rw [X2 hk]; rfl)
  ·have hxl:xs.length=n:=by simpa using hown.1
   have hr:=run_append_grow (P:=P) w t ty e i (.int .u8 0) ht hi hz ⟨g,0,none⟩ n cap xs (by rw [hsize]; simpa using hxl) (hown.cells (g:=g) rfl) ad 1 c [.int .u8 x] (by rw [hsize]; rfl) hnews (by omega) (by omega) (by rw [hby]; exact growslice_fits (by omega) (by omega));rw [h1] at hr;simp only [vbk] at hr;obtain ⟨rfl,_⟩:=hr;exact .inr (by rw [X2 hk]; exact AZ _)
theorem zjS {P:Program} {w:World} {ops:Array Oper} {rest:List Oper} {o:Oper} {a:Act} {Q:Exit→Act→World→Prop} (hgd:o.guard=none) (sl x:Operand) (t:TypeId)
  (ho:o.op = .call { callee:=.builtin .append,args:=#[sl,x],argTypes:=#[t,t] })
  (e:TypeId) (i:TypeInfo) (ht:P.underlying t=some (.slice e)) (hi:P.info? e=some i) (hz:i.zero=some (.int .u8 0)) (hsize:i.size=1) (hby:i.bytes=1)
  (v:Value) (n:Nat) (xs:List Value) (hs:a.eval sl=v) (hown:w.ownsRowF 0 e 1 v n xs) (ad:Addr) (c:Nat) (y:Int) (hx:a.eval x = .slice (some ad) 1 c) (hc:w.cell? ad=some (.int .u8 y)) (hbytes:n+1≤140737488355328)
  (h:∀ v' w',w'.ownsRowF 0 e 1 v' (n+1) (xs++[.int .u8 y])→w.grownBy w' v.ownBlock→(∀ k,v'.ownBlock=some k→v.ownBlock=some k∨w.heap.size≤k)→wpList P ops Q rest (a.put o.dst v') w'):wpList P ops Q (o :: rest) a w:=by
 refine wpList_plain hgd fun K hK=>?_
 obtain ⟨v',w',hr,h2,h3,h4⟩:=Ub (P:=P) w t o.type e i ht hi hz hsize hby v n xs hown ad c y hc hbytes;unfold Oper.wp execOp;simp only [ho,resolve,invoke,builtin,CM,CN,CB,List.map_toArray,A0,CA,hs,hx,hr];exact hK _ _ (h v' w' h2 h3 h4)
theorem rK {w:World} {e:Nat} {v:Value} {bs:List Value} {n k:Nat} (hown:w.ownsRowF 0 e 1 v n bs) (hk:v.ownBlock=some k):k < w.heap.size:=by
 rcases hown.2 with ⟨rfl,_⟩ | ⟨g,cap,cur,fz,rfl,_,hg,_⟩
 ·simp [CC] at hk
 ·rw [X2 hk];exact fO hg
set_option maxHeartbeats 2000000 in
theorem Vg (b:Nat) (p v:Value) (bs:List Value) (s:BA) (w:World) (hp:p = .pointer none∨p = .pointer (some ⟨b,0,none⟩)) (hbk:w.heap[b]?=some (.cells #[p,v] 108 (0,0)))
  (hown:w.ownsRowF 0 5 1 v bs.length bs) (hne:v.ownBlock≠some b) (hlen:bs.length+s.size≤140737488355328) :
  Calls Tryz.prog 60 #[.pointer (some ⟨b,0,none⟩),.string s] w fun e w'=>e = .returned (.tuple #[.int .i64 s.size,.nilIface])∧bI b v (bs++Lib.strCells s) w w':=by
 obtain ⟨i0,hi,hz0,hz1,hz2⟩:=info_parts Pk
 go_enter Tryz.func60,Tryz.ntmps60
 go_wp2_with (go_at_call 103; refine (wO b p v _ hp hbk).mono ?_)
 rintro e w1 ⟨rfl,hb1,hk1,hs1⟩;have HS:Hid (w1.heap.size=w.heap.size):=hs1;clear hs1;have hown1:w1.ownsRowF 0 5 1 v bs.length bs:=Z8 hown (fun k hk=>hk1.block k (rK hown hk) (fun e=>hne (e ▸ hk)));have c0:w1.cell? ⟨b,0,none⟩=some (.pointer (some ⟨b,0,none⟩)):=by rw [Lib.cell_of_heap hb1]; rfl
 have c1:w1.cell? ⟨b,1,none⟩=some v:=by rw [Lib.cell_of_heap hb1]; rfl
 go_wp2_with (at_builtin; refine zjT rfl _ _ 69 9 rfl 5 i0 Tryz.underlying69 Tryz.underlying9 hi hz0 hz1 hz2 _ _ _ rfl hown1 s rfl hlen ?_)
 intro v' w2 hown' hgrow hblk;have hlt:b < w1.heap.size:=fO hb1;have hb2:w2.heap[b]?=some (.cells #[.pointer (some ⟨b,0,none⟩),v] 108 (0,0)):=by
  rw [hgrow.block b hlt (fun e=>hne e.symm)];exact hb1
 have d0:w2.cell? ⟨b,0,none⟩=some (.pointer (some ⟨b,0,none⟩)):=by rw [Lib.cell_of_heap hb2]; rfl
 have d1:w2.cell? ⟨b,1,none⟩=some v:=by rw [Lib.cell_of_heap hb2]; rfl
 have f1:w2.frozen? ⟨b,1,none⟩=false:=Lib.frozen_of_heap hb2 1;have hX:Hid (bI b v (bs++Lib.strCells s) w (w2.setCell ⟨b,1,none⟩ v')):=wP HS hk1 hb2 (by simpa [Lib.strCells_length] using hown') (Cd hgrow) hblk;clear hblk HS;obtain ⟨ao,n',cap,rfl⟩:∃ ao n' cap,v' = .slice ao n' cap:=by
  rcases hown'.2 with ⟨hv,_⟩ | ⟨g,cap,cur,fz,hv,_⟩
  ·exact ⟨_,_,_,hv⟩
  ·exact ⟨_,_,_,hv⟩
 go_wp2
 go_ret2
 exact ⟨rfl,hX⟩
set_option maxHeartbeats 2000000 in
theorem Vf (b:Nat) (p v:Value) (bs:List Value) (c:Int) (w:World) (hp:p = .pointer none∨p = .pointer (some ⟨b,0,none⟩)) (hbk:w.heap[b]?=some (.cells #[p,v] 108 (0,0)))
  (hown:w.ownsRowF 0 5 1 v bs.length bs) (hne:v.ownBlock≠some b) (hlen:bs.length+1≤140737488355328) :
  Calls Tryz.prog 97 #[.pointer (some ⟨b,0,none⟩),.int .u8 c] w fun e w'=>e = .returned .nilIface∧bI b v (bs++[.int .u8 c]) w w':=by
 obtain ⟨i0,hi,hz0,hz1,hz2⟩:=info_parts Pk
 go_enter Tryz.func97,Tryz.ntmps97
 go_wp2_with (go_at_call 103; refine (wO b p v _ hp hbk).mono ?_)
 rintro e w1 ⟨rfl,hb1,hk1,hs1⟩;have HS:Hid (w1.heap.size=w.heap.size):=hs1;clear hs1;have hown1:w1.ownsRowF 0 5 1 v bs.length bs:=Z8 hown (fun k hk=>hk1.block k (rK hown hk) (fun e=>hne (e ▸ hk)));have c0:w1.cell? ⟨b,0,none⟩=some (.pointer (some ⟨b,0,none⟩)):=by rw [Lib.cell_of_heap hb1]; rfl
 have c1:w1.cell? ⟨b,1,none⟩=some v:=by rw [Lib.cell_of_heap hb1]; rfl
 have hlt:b < w1.heap.size:=fO hb1
 go_wp2_with (at_builtin; refine zjS rfl _ _ 69 rfl 5 i0 Tryz.underlying69 hi hz0 hz1 hz2 _ _ _ rfl (hown1.alloc _) ⟨w1.heap.size,0,none⟩ 1 c rfl (by rw [Lib.cell_of_heap (heap_alloc_new w1 _)]; rfl) hlen ?_)
 intro v' w2 hown' hgrow hblk;have hb2:w2.heap[b]?=some (.cells #[.pointer (some ⟨b,0,none⟩),v] 108 (0,0)):=by
  rw [hgrow.block b (by simp; omega) (fun e=>hne e.symm),Lib.alloc_old w1 _ b hlt];exact hb1
 have d0:w2.cell? ⟨b,0,none⟩=some (.pointer (some ⟨b,0,none⟩)):=by rw [Lib.cell_of_heap hb2]; rfl
 have d1:w2.cell? ⟨b,1,none⟩=some v:=by rw [Lib.cell_of_heap hb2]; rfl
 have f1:w2.frozen? ⟨b,1,none⟩=false:=Lib.frozen_of_heap hb2 1;have hX:Hid (bI b v (bs++[.int .u8 c]) w (w2.setCell ⟨b,1,none⟩ v')):=wP HS hk1 hb2 (by simpa using hown') (((Keep.alloc (fun k=>v.ownBlock=some k) w1 _)).trans (Cd hgrow) (fun _ _ h=>h)) (fun k hk=>(hblk k hk).imp_right (fun h=>by first | omega | (simp at h; omega)));clear hblk HS;obtain ⟨ao,n',cap,rfl⟩:∃ ao n' cap,v' = .slice ao n' cap:=by
  rcases hown'.2 with ⟨hv,_⟩ | ⟨g,cap,cur,fz,hv,_⟩
  ·exact ⟨_,_,_,hv⟩
  ·exact ⟨_,_,_,hv⟩
 go_wp2
 go_ret
 exact ⟨rfl,hX⟩
def O4 (b:Nat) (p v:Value) (n:Nat) (bs:List Value) (w w':World):Prop:=
 w'.heap[b]?=some (.cells #[p,v] 108 (0,0))∧w'.ownsRowF 0 5 1 v n bs∧Keep (fun k=>k=b∨v.ownBlock=some k) w w'
theorem zi4 {b g cap:Nat} {p:Value} {bs:List Value} {w:World} (hbk:w.heap[b]?=some (.cells #[p,.slice (some ⟨g,0,none⟩) bs.length cap] 108 (0,0))) (hown:w.ownsRowF 0 5 1 (.slice (some ⟨g,0,none⟩) bs.length cap) bs.length bs) (hne:(Value.slice (some ⟨g,0,none⟩) bs.length cap).ownBlock≠some b) :
  O4 b p (.slice (some ⟨g,0,none⟩) bs.length cap) bs.length bs w (w.drew.freeze ⟨g,0,none⟩ bs.length):=by
 have hA:Lib.BuilderAtF 108 5 0 b p bs w.drew:=⟨B5 _,_,hbk,hown,hne⟩;have c1:w.drew.cell? ⟨b,1,none⟩=some (.slice (some ⟨g,0,none⟩) bs.length cap):=by
  have:w.drew.heap[b]?=some (.cells #[p,.slice (some ⟨g,0,none⟩) bs.length cap] 108 (0,0)):=hbk
  rw [Lib.cell_of_heap this]; rfl
 obtain ⟨_,v',q1,q2,q3⟩:=hA.froze c1;have hk:Keep (fun k=>k=g) w (w.drew.freeze ⟨g,0,none⟩ bs.length):=(Keep.drew _ w).trans (Keep.freeze (O:=fun k=>k=g) w.drew ⟨g,0,none⟩ _ rfl) (fun _ _ h=>h);have hgb:b≠g:=fun e=>hne (by simp [CC,e])
 have hb2:(w.drew.freeze ⟨g,0,none⟩ bs.length).heap[b]?=some (.cells #[p,.slice (some ⟨g,0,none⟩) bs.length cap] 108 (0,0)):=(hk.block b (fO hbk) hgb).trans hbk;have e:v' = .slice (some ⟨g,0,none⟩) bs.length cap:=by
  rw [hb2] at q1;simp at q1;exact q1.symm
 subst e;exact ⟨hb2,q2,hk.mono (fun k _ h=>.inr (by rw [h]; rfl))⟩
set_option maxHeartbeats 1000000 in
theorem Ve (b g cap:Nat) (p:Value) (l:List UInt8) (w:World) (h0:l≠[]) (hbk:w.heap[b]?=some (.cells #[p,.slice (some ⟨g,0,none⟩) l.length cap] 108 (0,0)))
  (hown:w.ownsRowF 0 5 1 (.slice (some ⟨g,0,none⟩) l.length cap) l.length (Lib.byteCells l)) (hne:(Value.slice (some ⟨g,0,none⟩) l.length cap).ownBlock≠some b) :
  Calls Tryz.prog 56 #[.pointer (some ⟨b,0,none⟩)] w fun e w'=>e = .returned (.string ⟨l.toArray⟩)∧O4 b p (.slice (some ⟨g,0,none⟩) l.length cap) l.length (Lib.byteCells l) w w':=by
 have hl0:l.length≠0:=by simpa using h0
 obtain ⟨cur,fz,hg,hnc,hcm,hcs⟩:∃ cur fz,w.heap[g]?=some (.cells cur 5 fz)∧l.length≤cap∧cap≤maxLen∧cur.size=cap*1:=by
  rcases hown.2 with ⟨hv,_⟩ | ⟨g',cap',cur,fz,hv,_,q1,_,q2,q3,q4,_⟩
  ·cases hv
  ·injection hv with ha _ hc
   injection ha with ha
   injection ha with hgg
   subst hgg; subst hc;exact ⟨cur,fz,q1,q2,q3,q4⟩
 have c1:w.drew.cell? ⟨b,1,none⟩=some (.slice (some ⟨g,0,none⟩) l.length cap):=by
  have:w.drew.heap[b]?=some (.cells #[p,.slice (some ⟨g,0,none⟩) l.length cap] 108 (0,0)):=hbk
  rw [Lib.cell_of_heap this]; rfl
 have hSD:(Builtin.unsafeSliceData_ #[69] 165 #[.slice (some ⟨g,0,none⟩) l.length cap]).run Tryz.prog w.drew = .ok (.pointer (some ⟨g,0,none⟩)) w.drew:=
  Lib.run_unsafeSliceData_row _ _ _ _ _ _ (by omega)
 have hcells:PR.cellsOf 5=1:=by kernel_rfl
 have hUS:(Builtin.unsafeString_ #[165,3] 9 #[.pointer (some ⟨g,0,none⟩),.int .i64 l.length]).run Tryz.prog w.drew = .ok (.string ⟨l.toArray⟩) (w.drew.freeze ⟨g,0,none⟩ l.length):=by
  refine Lib.run_unsafeString_row w.drew 165 3 9 5 Tryz.underlying165 hcells g cur.size (by have hg':w.drew.heap[g]?=some (.cells cur 5 fz):=hg; simp [World.shape?,hg']) l h0 (by omega) (by unfold maxLen at hcm; omega) ?_;intro j x hx
  have:=hown.cells (g:=g) rfl j (.int .u8 x.toNat) (by simp [Lib.byteCells,hx])
  exact this
 have hP:Hid (O4 b p (.slice (some ⟨g,0,none⟩) l.length cap) l.length (Lib.byteCells l) w (w.drew.freeze ⟨g,0,none⟩ l.length)):=by
  have:=zi4 (bs:=Lib.byteCells l) (by rw [Lib.byteCells_length]; exact hbk) (by rw [Lib.byteCells_length]; exact hown) (by rw [Lib.byteCells_length]; exact hne)
  rw [Lib.byteCells_length] at this;exact this
 clear hcells hcs hg hnc hcm hl0
 go_enter Tryz.func56,Tryz.ntmps56
 go_wp2
 go_region
 all_goals (go_wp2; go_ret; exact ⟨rfl,hP⟩)
set_option maxHeartbeats 2000000 in
theorem Va (b:Nat) (p:Value) (w:World) (hbk:w.heap[b]?=some (.cells #[p,.slice none 0 0] 108 (0,0))) :
  Calls Tryz.prog 56 #[.pointer (some ⟨b,0,none⟩)] w fun e w'=>e = .returned (.string ⟨#[]⟩)∧O4 b p (.slice none 0 0) 0 [] w w':=by
 have hUS:∀ (W:World) (q:Option Addr),(Builtin.unsafeString_ #[165,3] 9 #[.pointer q,.int .i64 0]).run Tryz.prog W = .ok (.string .empty) W:=fun W q=>Lib.run_unsafeString_none W _ _ _ q
 have c1:w.drew.cell? ⟨b,1,none⟩=some (.slice none 0 0):=by
  have:w.drew.heap[b]?=some (.cells #[p,.slice none 0 0] 108 (0,0)):=hbk
  rw [Lib.cell_of_heap this]; rfl
 have hSD:(Builtin.unsafeSliceData_ #[69] 165 #[.slice none 0 0]).run Tryz.prog w.drew = .ok (.pointer none) w.drew:=rfl;have hP:Hid (O4 b p (.slice none 0 0) 0 [] w w.drew):=⟨hbk,⟨rfl,.inl ⟨rfl,rfl⟩⟩,Keep.drew _ w⟩
 go_enter Tryz.func56,Tryz.ntmps56
 go_wp2
 go_region
 all_goals (go_wp2; go_ret; exact ⟨rfl,hP⟩)
set_option maxHeartbeats 2000000 in
theorem Vb (b g:Nat) (p:Value) (cur:Array Value) (fz:Nat × Nat) (w:World) (hbk:w.heap[b]?=some (.cells #[p,.slice (some ⟨g,0,none⟩) 0 0] 108 (0,0))) (hg:w.heap[g]?=some (.cells cur 5 fz)) (hown:w.ownsRowF 0 5 1 (.slice (some ⟨g,0,none⟩) 0 0) 0 []) :
  Calls Tryz.prog 56 #[.pointer (some ⟨b,0,none⟩)] w fun e w'=>e = .returned (.string ⟨#[]⟩)∧O4 b p (.slice (some ⟨g,0,none⟩) 0 0) 0 [] w w':=by
 have hUS:∀ (W:World) (q:Option Addr),(Builtin.unsafeString_ #[165,3] 9 #[.pointer q,.int .i64 0]).run Tryz.prog W = .ok (.string .empty) W:=fun W q=>Lib.run_unsafeString_none W _ _ _ q
 have hlt:b < w.heap.size:=fO hbk;have c1:w.drew.cell? ⟨b,1,none⟩=some (.slice (some ⟨g,0,none⟩) 0 0):=by
  have:w.drew.heap[b]?=some (.cells #[p,.slice (some ⟨g,0,none⟩) 0 0] 108 (0,0)):=hbk
  rw [Lib.cell_of_heap this]; rfl
 have hSD:(Builtin.unsafeSliceData_ #[69] 165 #[.slice (some ⟨g,0,none⟩) 0 0]).run Tryz.prog w.drew = .ok (.pointer (some ⟨w.drew.heap.size,0,none⟩)) (w.drew.alloc (.view ⟨g,0,none⟩ 5)):=
  Lib.run_unsafeSliceData_zero w.drew _ _ 5 Tryz.underlying165 ⟨g,0,none⟩ 0 (5,cur.size) (by have hg':w.drew.heap[g]?=some (.cells cur 5 fz):=hg; simp [World.shape?,hg'])
 have c2:(w.drew.alloc (.view ⟨g,0,none⟩ 5)).cell? ⟨b,1,none⟩=some (.slice (some ⟨g,0,none⟩) 0 0):=by
  have:(w.drew.alloc (.view ⟨g,0,none⟩ 5)).heap[b]?=_:=(Lib.alloc_old w.drew _ b hlt).trans hbk
  rw [Lib.cell_of_heap this]; rfl
 have c3:(w.alloc (.view ⟨g,0,none⟩ 5)).drew.cell? ⟨b,1,none⟩=some (.slice (some ⟨g,0,none⟩) 0 0):=c2;have c0:w.cell? ⟨b,1,none⟩=some (.slice (some ⟨g,0,none⟩) 0 0):=c1;have hP:∀ W:World,W.heap=(w.drew.alloc (.view ⟨g,0,none⟩ 5)).heap→W.os=w.os→W.tape=w.tape→W.output=w.output→O4 b p (.slice (some ⟨g,0,none⟩) 0 0) 0 [] w W:=by
  intro W h1 h2 h3 h4;have hk:Keep (fun k=>k=b∨(Value.slice (some ⟨g,0,none⟩) 0 0).ownBlock=some k) w W:=by
   have:=Keep.alloc (fun _=>False) w.drew (.view ⟨g,0,none⟩ 5)
   exact ⟨h2,h3,h4,by rw [h1]; exact this.size,fun k hk _=>by rw [h1]; exact this.block k hk (fun h=>h)⟩
  have hblk:∀ k,k < w.heap.size→W.heap[k]?=w.heap[k]?:=fun k hk=>by
   rw [h1]; exact (Keep.alloc (fun _=>False) w.drew (.view ⟨g,0,none⟩ 5)).block k hk (fun h=>h)
  exact ⟨(hblk b hlt).trans hbk,Z8 hown (fun k hk=>hblk k (rK hown hk)),hk⟩
 have hP:Hid (∀ W:World,W.heap=(w.drew.alloc (.view ⟨g,0,none⟩ 5)).heap→W.os=w.os→W.tape=w.tape→W.output=w.output→O4 b p (.slice (some ⟨g,0,none⟩) 0 0) 0 [] w W):=hP
 go_enter Tryz.func56,Tryz.ntmps56
 go_wp2
 go_region
 all_goals (go_wp2; go_ret; exact ⟨rfl,hP _ rfl rfl rfl rfl⟩)
set_option maxHeartbeats 2000000 in
theorem Vc (b g cap:Nat) (p:Value) (w:World) (hc0:cap≠0) (hbk:w.heap[b]?=some (.cells #[p,.slice (some ⟨g,0,none⟩) 0 cap] 108 (0,0))) (hown:w.ownsRowF 0 5 1 (.slice (some ⟨g,0,none⟩) 0 cap) 0 []) :
  Calls Tryz.prog 56 #[.pointer (some ⟨b,0,none⟩)] w fun e w'=>e = .returned (.string ⟨#[]⟩)∧O4 b p (.slice (some ⟨g,0,none⟩) 0 cap) 0 [] w w':=by
 have hUS:∀ (W:World) (q:Option Addr),(Builtin.unsafeString_ #[165,3] 9 #[.pointer q,.int .i64 0]).run Tryz.prog W = .ok (.string .empty) W:=fun W q=>Lib.run_unsafeString_none W _ _ _ q
 have c1:w.drew.cell? ⟨b,1,none⟩=some (.slice (some ⟨g,0,none⟩) 0 cap):=by
  have:w.drew.heap[b]?=some (.cells #[p,.slice (some ⟨g,0,none⟩) 0 cap] 108 (0,0)):=hbk
  rw [Lib.cell_of_heap this]; rfl
 have hSD:(Builtin.unsafeSliceData_ #[69] 165 #[.slice (some ⟨g,0,none⟩) 0 cap]).run Tryz.prog w.drew = .ok (.pointer (some ⟨g,0,none⟩)) w.drew:=
  Lib.run_unsafeSliceData_row _ _ _ _ _ _ hc0
 clear hc0;have hP:Hid (O4 b p (.slice (some ⟨g,0,none⟩) 0 cap) 0 [] w w.drew):=⟨hbk,hown,Keep.drew _ w⟩
 go_enter Tryz.func56,Tryz.ntmps56
 go_wp2
 go_region
 all_goals (go_wp2; go_ret; exact ⟨rfl,hP⟩)
theorem zi3 (s:BA):DC s=vbE s.data.toList:=by
 simp [DC,vbE]
theorem Uz (b:Nat) (p v:Value) (s:BA) (w:World) (hbk:w.heap[b]?=some (.cells #[p,v] 108 (0,0))) (hown:w.ownsRowF 0 5 1 v s.size (DC s)) (hne:v.ownBlock≠some b) :
  Calls Tryz.prog 56 #[.pointer (some ⟨b,0,none⟩)] w fun e w'=>e = .returned (.string s)∧O4 b p v s.size (DC s) w w':=by
 obtain ⟨⟨l⟩⟩:=s;rw [zi3] at hown ⊢
 change w.ownsRowF 0 5 1 v l.length (vbE l) at hown
 change Calls Tryz.prog 56 #[.pointer (some ⟨b,0,none⟩)] w fun e w'=>e = .returned (.string ⟨l.toArray⟩)∧O4 b p v l.length (vbE l) w w'
 by_cases h0:l=[]
 ·subst h0;rcases hown.2 with ⟨rfl,_⟩ | ⟨g,cap,cur,fz,rfl,_,hg,_⟩
  ·exact Va b p w hbk
  ·by_cases hc:cap=0
   ·subst hc;exact Vb b g p cur fz w hbk hg hown
   ·exact Vc b g cap p w hc hbk hown
 ·rcases hown.2 with ⟨rfl,hz⟩ | ⟨g,cap,cur,fz,rfl,_⟩
  ·exact absurd (vaK hz) h0
  ·exact Ve b g cap p l w h0 hbk hown hne
end Go.FM
namespace Go.Proofs
open Go.Shelf
def Tryz.lays156_ren:Go.Shelf.Ren:=⟨fun | 156=>45 | 165=>87 | 166=>60 | 169=>56 | 240=>103 | 241=>137 | 276=>153 | 277=>179 | n=>n,fun | 31=>66 | 9=>9 | 3=>3 | 4=>4 | 0=>0 | 20=>20 | 72=>108 | 76=>121 | 70=>106 | 37=>69 | 75=>120 | 127=>165 | 164=>211 | 5=>5 | 80=>114 | n=>n,fun | n=>n⟩
theorem Tryz.lays156:Go.Proofs.Lays.n156 Tryz.prog Tryz.lays156_ren:= by constructor <;> first | kernel_rfl | (intro _; kernel_rfl)
theorem Tryz.Builder_Extra_156:Builder.Extra Tryz.prog Tryz.lays156_ren:={
 sizeBuilder:=by kernel_rfl
 liesBuilder:=by kernel_rfl
 t5:=Tryz.underlying5
 a5:=Tryz.isAgg5
 z5:=Tryz.sizeOf5
 v5:=Tryz.zeroValue5
 infoByte:=by kernel_rfl
 cellsByte:=by kernel_rfl
 sizeByte:=by kernel_rfl
 neB5:=by decide }
open Go.RowKit in
theorem Tryz.strings_Join_none (a:Option Addr) (c:Nat) (sep:BA) (w:World) :
 Calls Tryz.prog 45 #[.slice a 0 c,.string sep] w fun e w'=>e = .returned (.string ⟨#[]⟩)∧w'=w:=Any.strings_Join_none Tryz.lays156 Tryz.Builder_Extra_156 a c sep w
open Go.RowKit in
theorem Tryz.strings_Join (bk o c:Nat) (xs:List BA) (sep:BA) (w:World) (hcells:∀ (j:Nat) x,xs[j]?=some x→w.cell? ⟨bk,o+j,none⟩=some (.string x)) (hbk:bk < w.heap.size) (hN:xs.length≤140737488355328) (hcap:xs.length≤c) (hlen:(Lib.join (xs.map (·.data.toList)) sep.data.toList).length≤140737488355328) :
 Calls Tryz.prog 45 #[.slice (some ⟨bk,o,none⟩) xs.length c,.string sep] w fun e w'=>e = .returned (.string ⟨(Lib.join (xs.map (·.data.toList)) sep.data.toList).toArray⟩)∧Below w.heap.size w w':=Any.strings_Join Tryz.lays156 Tryz.Builder_Extra_156 bk o c xs sep w hcells hbk hN hcap hlen
def Tryz.lays162_ren:Go.Shelf.Ren:=⟨fun | 162=>85 | 232=>130 | 227=>131 | 234=>132 | 236=>133 | 228=>174 | 271=>175 | 151=>176 | 120=>208 | 197=>181 | 152=>209 | 260=>210 | 137=>102 | 119=>223 | 224=>212 | 225=>211 | 217=>152 | 266=>191 | n=>n,fun | 9=>9 | 4=>4 | 3=>3 | 5=>5 | 117=>195 | 116=>194 | 0=>0 | 124=>198 | 21=>21 | 105=>231 | 46=>152 | 119=>279 | 139=>282 | 138=>281 | n=>n,fun | 3=>4 | 4=>5 | n=>n⟩
theorem Tryz.lays162:Go.Proofs.Lays.n162 Tryz.prog Tryz.lays162_ren:={
 mixed:=by kernel_rfl
 f119:=Tryz.func223.trans (congrArg some (by kernel_rfl))
 f120:=Tryz.func208.trans (congrArg some (by kernel_rfl))
 f137:=Tryz.func102.trans (congrArg some (by kernel_rfl))
 f151:=Tryz.func176.trans (congrArg some (by kernel_rfl))
 f152:=Tryz.func209.trans (congrArg some (by kernel_rfl))
 f162:=Tryz.func85.trans (congrArg some (by kernel_rfl))
 f197:=Tryz.func181.trans (congrArg some (by kernel_rfl))
 f217:=Tryz.func152.trans (congrArg some (by kernel_rfl))
 f224:=Tryz.func212.trans (congrArg some (by kernel_rfl))
 f225:=Tryz.func211.trans (congrArg some (by kernel_rfl))
 f227:=Tryz.func131.trans (congrArg some (by kernel_rfl))
 f228:=Tryz.func174.trans (congrArg some (by kernel_rfl))
 f232:=Tryz.func130.trans (congrArg some (by kernel_rfl))
 f234:=Tryz.func132.trans (congrArg some (by kernel_rfl))
 f236:=Tryz.func133.trans (congrArg some (by kernel_rfl))
 f260:=Tryz.func210.trans (congrArg some (by kernel_rfl))
 f266:=Tryz.func191.trans (congrArg some (by kernel_rfl))
 f271:=Tryz.func175.trans (congrArg some (by kernel_rfl))
 t0:=Tryz.underlying0
 a0:=Tryz.isAgg0
 z0:=Tryz.sizeOf0
 v0:=Tryz.zeroValue0
 t3:=Tryz.underlying3
 a3:=Tryz.isAgg3
 z3:=Tryz.sizeOf3
 v3:=Tryz.zeroValue3
 t4:=Tryz.underlying4
 a4:=Tryz.isAgg4
 z4:=Tryz.sizeOf4
 v4:=Tryz.zeroValue4
 t5:=Tryz.underlying5
 a5:=Tryz.isAgg5
 z5:=Tryz.sizeOf5
 v5:=Tryz.zeroValue5
 t9:=Tryz.underlying9
 a9:=Tryz.isAgg9
 z9:=Tryz.sizeOf9
 v9:=Tryz.zeroValue9
 t21:=Tryz.underlying21
 a21:=Tryz.isAgg21
 z21:=Tryz.sizeOf21
 v21:=Tryz.zeroValue21
 t46:=Tryz.underlying152
 a46:=Tryz.isAgg152
 z46:=Tryz.sizeOf152
 v46:=Tryz.zeroValue152
 t105:=Tryz.underlying231
 a105:=Tryz.isAgg231
 z105:=Tryz.sizeOf231
 v105:=Tryz.zeroValue231
 t116:=Tryz.underlying194
 a116:=Tryz.isAgg194
 z116:=Tryz.sizeOf194
 t117:=Tryz.underlying195
 a117:=Tryz.isAgg195
 z117:=Tryz.sizeOf195
 v117:=Tryz.zeroValue195
 t119:=Tryz.underlying279
 a119:=Tryz.isAgg279
 z119:=Tryz.sizeOf279
 t124:=Tryz.underlying198
 a124:=Tryz.isAgg198
 z124:=Tryz.sizeOf198
 v124:=Tryz.zeroValue198
 t138:=Tryz.underlying281
 a138:=Tryz.isAgg281
 z138:=Tryz.sizeOf281
 v138:=Tryz.zeroValue281
 t139:=Tryz.underlying282
 a139:=Tryz.isAgg282
 z139:=Tryz.sizeOf282
 v139:=Tryz.zeroValue282
 g3:=by kernel_rfl
 g4:=by kernel_rfl }
open Go.RowKit in
theorem Tryz.strings_TrimRight_one (s:BA) (c:UInt8) (hc:c.toNat < 128) (w:World) (hs:s.size≤9223372036854775807) :
 Calls Tryz.prog 85 #[.string s,.string ⟨#[c]⟩] w fun e w'=>e = .returned (.string ⟨(Lib.trimRightB s.data.toList c).toArray⟩)∧w'=w:=Any.strings_TrimRight_one Tryz.lays162 s c hc w hs
def Tryz.lays137_ren:Go.Shelf.Ren:=⟨fun | 137=>102 | 217=>152 | 266=>191 | n=>n,fun | 9=>9 | 5=>5 | 3=>3 | n=>n,fun | n=>n⟩
theorem Tryz.lays137:Go.Proofs.Lays.n137 Tryz.prog Tryz.lays137_ren:= by constructor <;> first | kernel_rfl | (intro _; kernel_rfl)
open Go.RowKit in
theorem Tryz.strings_IndexByte (s:BA) (c:Int) (w:World) :
 Calls Tryz.prog 102 #[.string s,.int .u8 c] w fun e w'=>e = .returned (.int .i64 (Lib.indexByte s.data.toList c.toNat.toUInt8))∧w'=w:=Any.strings_IndexByte Tryz.lays137 s c w
def Tryz.lays103_ren:Go.Shelf.Ren:=⟨fun | 103=>57 | 210=>101 | 206=>151 | n=>n,fun | 9=>9 | 4=>4 | 24=>115 | 3=>3 | n=>n,fun | n=>n⟩
theorem Tryz.lays103:Go.Proofs.Lays.n103 Tryz.prog Tryz.lays103_ren:= by constructor <;> first | kernel_rfl | (intro _; kernel_rfl)
open Go.RowKit in
theorem Tryz.strings_CutPrefix (s p:BA) (w:World) :
 Calls Tryz.prog 57 #[.string s,.string p] w fun e w'=>e = .returned (.tuple #[.string ⟨(Lib.trimPrefix s.data.toList p.data.toList).toArray⟩,.bool (Lib.hasPrefix s.data.toList p.data.toList)])∧w'=w:=Any.strings_CutPrefix Tryz.lays103 s p w
def Tryz.lays283_ren:Go.Shelf.Ren:=⟨fun | 283=>170 | n=>n,fun | 3=>3 | 9=>9 | 4=>4 | n=>n,fun | n=>n⟩
theorem Tryz.lays283:Go.Proofs.Lays.n283 Tryz.prog Tryz.lays283_ren:= by constructor <;> first | kernel_rfl | (intro _; kernel_rfl)
open Go.Lib in
theorem Tryz.internal_strconv_small (i:Nat) (h:i < 100) (w:World) :
 Calls Tryz.prog 170 #[.int .i64 i] w fun e w'=>e = .returned (.string ⟨(Lib.decDigits i).toArray⟩)∧w'=w:=Any.internal_strconv_small Tryz.lays283 i h w
def Tryz.laysM284_ren:Go.Shelf.Ren:=⟨fun | 284=>171 | 129=>204 | 317=>203 | 318=>205 | n=>n,fun | 53=>103 | 3=>3 | 212=>262 | 0=>0 | 4=>4 | 46=>152 | 5=>5 | 9=>9 | n=>n,fun | 17=>0 | n=>n⟩
theorem Tryz.laysM284:Go.Proofs.LaysM.n284 Tryz.prog Tryz.laysM284_ren:={
 mixed:=by kernel_rfl
 f129:=Tryz.func204.trans (congrArg some (by kernel_rfl))
 f284:=Tryz.func171.trans (congrArg some (by kernel_rfl))
 f317:=Tryz.func203.trans (congrArg some (by kernel_rfl))
 f318:=Tryz.func205.trans (congrArg some (by kernel_rfl))
 t0:=Tryz.underlying0
 a0:=Tryz.isAgg0
 z0:=Tryz.sizeOf0
 v0:=Tryz.zeroValue0
 t3:=Tryz.underlying3
 a3:=Tryz.isAgg3
 z3:=Tryz.sizeOf3
 v3:=Tryz.zeroValue3
 t4:=Tryz.underlying4
 a4:=Tryz.isAgg4
 z4:=Tryz.sizeOf4
 v4:=Tryz.zeroValue4
 t5:=Tryz.underlying5
 a5:=Tryz.isAgg5
 z5:=Tryz.sizeOf5
 v5:=Tryz.zeroValue5
 t9:=Tryz.underlying9
 a9:=Tryz.isAgg9
 z9:=Tryz.sizeOf9
 v9:=Tryz.zeroValue9
 t46:=Tryz.underlying152
 a46:=Tryz.isAgg152
 z46:=Tryz.sizeOf152
 v46:=Tryz.zeroValue152
 t53:=Tryz.underlying103
 a53:=Tryz.isAgg103
 z53:=Tryz.sizeOf103
 v53:=Tryz.zeroValue103
 t212:=Tryz.underlying262
 a212:=Tryz.isAgg262
 z212:=Tryz.sizeOf262
 v212:=Tryz.zeroValue262
 g17:=by kernel_rfl
 i0:=by kernel_rfl
 i3:=by kernel_rfl
 i4:=by kernel_rfl
 i5:=by kernel_rfl
 i9:=by kernel_rfl
 i46:=by kernel_rfl
 i53:=by kernel_rfl
 i212:=by kernel_rfl
 m17:=by kernel_rfl }
open Go.Lib in
theorem Tryz.internal_strconv_numDigits (u:Nat) (h1:1≤u) (h2:u < 18446744073709551616) (w:World) (htab:Lib.TabIs Tryz.prog w "internal/strconv.uint64pow10" .u64 Lib.pow10Tab) :
 Calls Tryz.prog 171 #[.int .u64 u] w fun e w'=>e = .returned (.int .i64 (Lib.nDigits u))∧w'=w:=Any.internal_strconv_numDigits Tryz.laysM284 u h1 h2 w htab
def Tryz.lays285_ren:Go.Shelf.Ren:=⟨fun | 285=>172 | n=>n,fun | 37=>69 | 53=>103 | 3=>3 | 4=>4 | 51=>234 | 9=>9 | 5=>5 | 0=>0 | n=>n,fun | n=>n⟩
theorem Tryz.lays285:Go.Proofs.Lays.n285 Tryz.prog Tryz.lays285_ren:= by constructor <;> first | kernel_rfl | (intro _; kernel_rfl)
open Go.RowKit Go.Sort Go.Lib in
theorem Tryz.internal_strconv_formatBase10 (blk off cap:Nat) (u:Nat) (d:Array UInt8) (w:World) (hH:Holds (fun (b:UInt8)=>Value.int .u8 (b.toNat:Int)) w blk off d) (hu:u < 10 ^ d.size) (hu64:u < 18446744073709551616) (hsz:d.size < 4611686018427387904) :
 Calls Tryz.prog 172 #[.slice (some ⟨blk,off,none⟩) d.size cap,.int .u64 u] w fun e w'=>
  e = .returned (.tuple #[])∧∃ (n v':Nat) (dk:Array UInt8),w'=(putRow (fun (b:UInt8)=>Value.int .u8 (b.toNat:Int)) w blk off dk).drewN n∧FmtInv d.size u 0 v' dk:=Any.internal_strconv_formatBase10 Tryz.lays285 blk off cap u d w hH hu hu64 hsz
def Tryz.laysM171_ren:Go.Shelf.Ren:=⟨fun | 171=>43 | 243=>82 | 246=>128 | 283=>170 | 284=>171 | 285=>172 | 286=>173 | 129=>204 | 317=>203 | 318=>205 | 319=>206 | 320=>207 | 337=>221 | 338=>222 | n=>n,fun | 3=>3 | 9=>9 | 2=>2 | 4=>4 | 171=>225 | 0=>0 | 53=>103 | 37=>69 | 5=>5 | 173=>228 | 212=>262 | 51=>234 | 20=>20 | 213=>263 | 46=>152 | 232=>296 | 233=>297 | n=>n,fun | 17=>0 | 18=>6 | 19=>7 | n=>n⟩
theorem Tryz.laysM171:Go.Proofs.LaysM.n171 Tryz.prog Tryz.laysM171_ren:={
 mixed:=by kernel_rfl
 f129:=Tryz.func204.trans (congrArg some (by kernel_rfl))
 f171:=Tryz.func43.trans (congrArg some (by kernel_rfl))
 f243:=Tryz.func82.trans (congrArg some (by kernel_rfl))
 f246:=Tryz.func128.trans (congrArg some (by kernel_rfl))
 f283:=Tryz.func170.trans (congrArg some (by kernel_rfl))
 f284:=Tryz.func171.trans (congrArg some (by kernel_rfl))
 f285:=Tryz.func172.trans (congrArg some (by kernel_rfl))
 f286:=Tryz.func173.trans (congrArg some (by kernel_rfl))
 f317:=Tryz.func203.trans (congrArg some (by kernel_rfl))
 f318:=Tryz.func205.trans (congrArg some (by kernel_rfl))
 f319:=Tryz.func206.trans (congrArg some (by kernel_rfl))
 f320:=Tryz.func207.trans (congrArg some (by kernel_rfl))
 f337:=Tryz.func221.trans (congrArg some (by kernel_rfl))
 f338:=Tryz.func222.trans (congrArg some (by kernel_rfl))
 t0:=Tryz.underlying0
 a0:=Tryz.isAgg0
 z0:=Tryz.sizeOf0
 v0:=Tryz.zeroValue0
 t2:=Tryz.underlying2
 a2:=Tryz.isAgg2
 z2:=Tryz.sizeOf2
 v2:=Tryz.zeroValue2
 t3:=Tryz.underlying3
 a3:=Tryz.isAgg3
 z3:=Tryz.sizeOf3
 v3:=Tryz.zeroValue3
 t4:=Tryz.underlying4
 a4:=Tryz.isAgg4
 z4:=Tryz.sizeOf4
 v4:=Tryz.zeroValue4
 t5:=Tryz.underlying5
 a5:=Tryz.isAgg5
 z5:=Tryz.sizeOf5
 v5:=Tryz.zeroValue5
 t9:=Tryz.underlying9
 a9:=Tryz.isAgg9
 z9:=Tryz.sizeOf9
 v9:=Tryz.zeroValue9
 t20:=Tryz.underlying20
 a20:=Tryz.isAgg20
 z20:=Tryz.sizeOf20
 v20:=Tryz.zeroValue20
 t37:=Tryz.underlying69
 a37:=Tryz.isAgg69
 z37:=Tryz.sizeOf69
 v37:=Tryz.zeroValue69
 t46:=Tryz.underlying152
 a46:=Tryz.isAgg152
 z46:=Tryz.sizeOf152
 v46:=Tryz.zeroValue152
 t51:=Tryz.underlying234
 a51:=Tryz.isAgg234
 z51:=Tryz.sizeOf234
 v51:=Tryz.zeroValue234
 t53:=Tryz.underlying103
 a53:=Tryz.isAgg103
 z53:=Tryz.sizeOf103
 v53:=Tryz.zeroValue103
 t171:=Tryz.underlying225
 a171:=Tryz.isAgg225
 z171:=Tryz.sizeOf225
 v171:=Tryz.zeroValue225
 t173:=Tryz.underlying228
 a173:=Tryz.isAgg228
 z173:=Tryz.sizeOf228
 v173:=Tryz.zeroValue228
 t212:=Tryz.underlying262
 a212:=Tryz.isAgg262
 z212:=Tryz.sizeOf262
 v212:=Tryz.zeroValue262
 t213:=Tryz.underlying263
 a213:=Tryz.isAgg263
 z213:=Tryz.sizeOf263
 t232:=Tryz.underlying296
 a232:=Tryz.isAgg296
 z232:=Tryz.sizeOf296
 v232:=Tryz.zeroValue296
 t233:=Tryz.underlying297
 a233:=Tryz.isAgg297
 z233:=Tryz.sizeOf297
 v233:=Tryz.zeroValue297
 g17:=by kernel_rfl
 g18:=by kernel_rfl
 g19:=by kernel_rfl
 i0:=by kernel_rfl
 i2:=by kernel_rfl
 i3:=by kernel_rfl
 i4:=by kernel_rfl
 i5:=by kernel_rfl
 i9:=by kernel_rfl
 i20:=by kernel_rfl
 i37:=by kernel_rfl
 i46:=by kernel_rfl
 i51:=by kernel_rfl
 i53:=by kernel_rfl
 i171:=by kernel_rfl
 i173:=by kernel_rfl
 i212:=by kernel_rfl
 i232:=by kernel_rfl
 i233:=by kernel_rfl
 m17:=by kernel_rfl
 m18:=by kernel_rfl
 m19:=by kernel_rfl }
open Go.RowKit Go.Sort Go.Lib in
theorem Tryz.strconv_Itoa (n:Int) (h0 : -9223372036854775808≤n) (h1:n≤9223372036854775807) (w:World) (htab:Lib.TabIs Tryz.prog w "internal/strconv.uint64pow10" .u64 Lib.pow10Tab) :
 Calls Tryz.prog 43 #[.int .i64 n] w fun e w'=>e = .returned (.string ⟨(Lib.itoa n).toArray⟩)∧∃ k os,w'=grow (w.drewN k) os:=Any.strconv_Itoa Tryz.laysM171 n h0 h1 w htab
def Tryz.laysC172_ren:Go.Shelf.Ren:=⟨fun | 172=>90 | 244=>142 | 245=>143 | 247=>184 | 279=>185 | 280=>186 | 281=>187 | 282=>188 | 287=>214 | 316=>215 | 171=>43 | 205=>216 | 321=>225 | 322=>226 | 243=>82 | 246=>128 | 283=>170 | 284=>171 | 285=>172 | 286=>173 | 129=>204 | 317=>203 | 318=>205 | 319=>206 | 320=>207 | 337=>221 | 338=>222 | n=>n,fun | 9=>9 | 3=>3 | 75=>120 | 76=>121 | 4=>4 | 5=>5 | 167=>240 | 37=>69 | 0=>0 | 85=>241 | 2=>2 | 168=>243 | 53=>103 | 175=>246 | 46=>152 | 210=>268 | 127=>165 | 145=>288 | 143=>286 | 21=>21 | 171=>225 | 173=>228 | 212=>262 | 51=>234 | 20=>20 | 213=>263 | 232=>296 | 233=>297 | 80=>114 | n=>n,fun | 15=>2 | 16=>3 | 17=>0 | 18=>6 | 19=>7 | n=>n⟩
theorem Tryz.laysC172:Go.Proofs.LaysC.n172 Tryz.prog Tryz.laysC172_ren:={
 mixed:=by kernel_rfl
 f129:=Tryz.func204.trans (congrArg some (by kernel_rfl))
 f171:=Tryz.func43.trans (congrArg some (by kernel_rfl))
 f172:=Tryz.func90.trans (congrArg some (by kernel_rfl))
 f205:=Tryz.func216.trans (congrArg some (by kernel_rfl))
 f243:=Tryz.func82.trans (congrArg some (by kernel_rfl))
 f244:=Tryz.func142.trans (congrArg some (by kernel_rfl))
 f245:=Tryz.func143.trans (congrArg some (by kernel_rfl))
 f246:=Tryz.func128.trans (congrArg some (by kernel_rfl))
 f247:=Tryz.func184.trans (congrArg some (by kernel_rfl))
 f279:=Tryz.func185.trans (congrArg some (by kernel_rfl))
 f280:=Tryz.func186.trans (congrArg some (by kernel_rfl))
 f281:=Tryz.func187.trans (congrArg some (by kernel_rfl))
 f282:=Tryz.func188.trans (congrArg some (by kernel_rfl))
 f283:=Tryz.func170.trans (congrArg some (by kernel_rfl))
 f284:=Tryz.func171.trans (congrArg some (by kernel_rfl))
 f285:=Tryz.func172.trans (congrArg some (by kernel_rfl))
 f286:=Tryz.func173.trans (congrArg some (by kernel_rfl))
 f287:=Tryz.func214.trans (congrArg some (by kernel_rfl))
 f316:=Tryz.func215.trans (congrArg some (by kernel_rfl))
 f317:=Tryz.func203.trans (congrArg some (by kernel_rfl))
 f318:=Tryz.func205.trans (congrArg some (by kernel_rfl))
 f319:=Tryz.func206.trans (congrArg some (by kernel_rfl))
 f320:=Tryz.func207.trans (congrArg some (by kernel_rfl))
 f321:=Tryz.func225.trans (congrArg some (by kernel_rfl))
 f322:=Tryz.func226.trans (congrArg some (by kernel_rfl))
 f337:=Tryz.func221.trans (congrArg some (by kernel_rfl))
 f338:=Tryz.func222.trans (congrArg some (by kernel_rfl))
 t0:=Tryz.underlying0
 a0:=Tryz.isAgg0
 z0:=Tryz.sizeOf0
 v0:=Tryz.zeroValue0
 t2:=Tryz.underlying2
 a2:=Tryz.isAgg2
 z2:=Tryz.sizeOf2
 v2:=Tryz.zeroValue2
 t3:=Tryz.underlying3
 a3:=Tryz.isAgg3
 z3:=Tryz.sizeOf3
 v3:=Tryz.zeroValue3
 t4:=Tryz.underlying4
 a4:=Tryz.isAgg4
 z4:=Tryz.sizeOf4
 v4:=Tryz.zeroValue4
 t5:=Tryz.underlying5
 a5:=Tryz.isAgg5
 z5:=Tryz.sizeOf5
 v5:=Tryz.zeroValue5
 t9:=Tryz.underlying9
 a9:=Tryz.isAgg9
 z9:=Tryz.sizeOf9
 v9:=Tryz.zeroValue9
 t20:=Tryz.underlying20
 a20:=Tryz.isAgg20
 z20:=Tryz.sizeOf20
 v20:=Tryz.zeroValue20
 t21:=Tryz.underlying21
 a21:=Tryz.isAgg21
 z21:=Tryz.sizeOf21
 v21:=Tryz.zeroValue21
 t37:=Tryz.underlying69
 a37:=Tryz.isAgg69
 z37:=Tryz.sizeOf69
 v37:=Tryz.zeroValue69
 t46:=Tryz.underlying152
 a46:=Tryz.isAgg152
 z46:=Tryz.sizeOf152
 v46:=Tryz.zeroValue152
 t51:=Tryz.underlying234
 a51:=Tryz.isAgg234
 z51:=Tryz.sizeOf234
 v51:=Tryz.zeroValue234
 t53:=Tryz.underlying103
 a53:=Tryz.isAgg103
 z53:=Tryz.sizeOf103
 v53:=Tryz.zeroValue103
 t75:=Tryz.underlying120
 a75:=Tryz.isAgg120
 z75:=Tryz.sizeOf120
 v75:=Tryz.zeroValue120
 t76:=Tryz.underlying121
 a76:=Tryz.isAgg121
 z76:=Tryz.sizeOf121
 v76:=Tryz.zeroValue121
 t85:=Tryz.underlying241
 a85:=Tryz.isAgg241
 z85:=Tryz.sizeOf241
 v85:=Tryz.zeroValue241
 t127:=Tryz.underlying165
 a127:=Tryz.isAgg165
 z127:=Tryz.sizeOf165
 v127:=Tryz.zeroValue165
 t143:=Tryz.underlying286
 a143:=Tryz.isAgg286
 z143:=Tryz.sizeOf286
 v143:=Tryz.zeroValue286
 t145:=Tryz.underlying288
 a145:=Tryz.isAgg288
 z145:=Tryz.sizeOf288
 v145:=Tryz.zeroValue288
 t167:=Tryz.underlying240
 a167:=Tryz.isAgg240
 z167:=Tryz.sizeOf240
 v167:=Tryz.zeroValue240
 t168:=Tryz.underlying243
 a168:=Tryz.isAgg243
 z168:=Tryz.sizeOf243
 v168:=Tryz.zeroValue243
 t171:=Tryz.underlying225
 a171:=Tryz.isAgg225
 z171:=Tryz.sizeOf225
 v171:=Tryz.zeroValue225
 t173:=Tryz.underlying228
 a173:=Tryz.isAgg228
 z173:=Tryz.sizeOf228
 v173:=Tryz.zeroValue228
 t175:=Tryz.underlying246
 a175:=Tryz.isAgg246
 z175:=Tryz.sizeOf246
 v175:=Tryz.zeroValue246
 t210:=Tryz.underlying268
 a210:=Tryz.isAgg268
 z210:=Tryz.sizeOf268
 v210:=Tryz.zeroValue268
 t212:=Tryz.underlying262
 a212:=Tryz.isAgg262
 z212:=Tryz.sizeOf262
 v212:=Tryz.zeroValue262
 t213:=Tryz.underlying263
 a213:=Tryz.isAgg263
 z213:=Tryz.sizeOf263
 t232:=Tryz.underlying296
 a232:=Tryz.isAgg296
 z232:=Tryz.sizeOf296
 v232:=Tryz.zeroValue296
 t233:=Tryz.underlying297
 a233:=Tryz.isAgg297
 z233:=Tryz.sizeOf297
 v233:=Tryz.zeroValue297
 g15:=by kernel_rfl
 g16:=by kernel_rfl
 g17:=by kernel_rfl
 g18:=by kernel_rfl
 g19:=by kernel_rfl
 t80:=Tryz.underlying114
 a80:=Tryz.isAgg114
 z80:=Tryz.sizeOf114
 v80:=Tryz.zeroValue114
 i0:=by kernel_rfl
 i2:=by kernel_rfl
 i3:=by kernel_rfl
 i4:=by kernel_rfl
 i5:=by kernel_rfl
 i9:=by kernel_rfl
 i20:=by kernel_rfl
 i21:=by kernel_rfl
 i37:=by kernel_rfl
 i46:=by kernel_rfl
 i51:=by kernel_rfl
 i53:=by kernel_rfl
 i75:=by kernel_rfl
 i76:=by kernel_rfl
 i80:=by kernel_rfl
 i85:=by kernel_rfl
 i127:=by kernel_rfl
 i143:=by kernel_rfl
 i145:=by kernel_rfl
 i167:=by kernel_rfl
 i168:=by kernel_rfl
 i171:=by kernel_rfl
 i173:=by kernel_rfl
 i175:=by kernel_rfl
 i210:=by kernel_rfl
 i212:=by kernel_rfl
 i232:=by kernel_rfl
 i233:=by kernel_rfl
 m15:=by kernel_rfl
 m16:=by kernel_rfl
 m17:=by kernel_rfl
 m18:=by kernel_rfl
 m19:=by kernel_rfl
 c0:=by kernel_rfl
 c2:=by kernel_rfl
 c3:=by kernel_rfl
 c4:=by kernel_rfl
 c5:=by kernel_rfl
 c9:=by kernel_rfl
 c20:=by kernel_rfl
 c21:=by kernel_rfl
 c37:=by kernel_rfl
 c46:=by kernel_rfl
 c51:=by kernel_rfl
 c53:=by kernel_rfl
 c75:=by kernel_rfl
 c76:=by kernel_rfl
 c80:=by kernel_rfl
 c85:=by kernel_rfl
 c127:=by kernel_rfl
 c143:=by kernel_rfl
 c145:=by kernel_rfl
 c167:=by kernel_rfl
 c168:=by kernel_rfl
 c171:=by kernel_rfl
 c173:=by kernel_rfl
 c175:=by kernel_rfl
 c210:=by kernel_rfl
 c212:=by kernel_rfl
 c213:=by kernel_rfl
 c232:=by kernel_rfl
 c233:=by kernel_rfl }
open Go.RowKit in
theorem Tryz.strconv_Atoi_ok (s:BA) (hmax:s.size≤9223372036854775806) (v:Int) (h:Lib.atoiAll s.data.toList = .ok v) (w:World) :
 Calls Tryz.prog 90 #[.string s] w fun e w'=>e = .returned (.tuple #[.int .i64 v,.nilIface])∧(w'=w∨∃ t,w'=Lib.bytesWorld w 5 t):=Any.strconv_Atoi_ok Tryz.laysC172 s hmax v h w
open Go.RowKit in
theorem Tryz.strconv_Atoi_syntax (s:BA) (hlim:s.size≤281474976710656) (h:Lib.atoiAll s.data.toList=Lib.NumEnd.syntax) (ev:Value) (w:World) (hv:w.cell? ⟨2,0,none⟩=some ev) (hev:ev = .nilIface∨∃ te pe,ev = .iface te pe) :
 Calls Tryz.prog 90 #[.string s] w fun e w'=>∃ N,e = .returned (.tuple #[.int .i64 (0),.iface 243 (.pointer (some ⟨N,0,none⟩))])∧w.heap.size≤N∧w'.heap[N]?=some (.cells #[.string ⟨#[65,116,111,105]⟩,.string s,ev] 268 (0,0))∧Below w.heap.size w w':=Any.strconv_Atoi_syntax Tryz.laysC172 s hlim h ev w hv hev
open Go.RowKit in
theorem Tryz.strconv_Atoi_range (s:BA) (hlim:s.size≤281474976710656) (h:Lib.atoiAll s.data.toList = .range) (ev:Value) (w:World) (hv:w.cell? ⟨3,0,none⟩=some ev) (hev:ev = .nilIface∨∃ te pe,ev = .iface te pe) :
 Calls Tryz.prog 90 #[.string s] w fun e w'=>∃ N,e = .returned (.tuple #[.int .i64 (Lib.atoiSat s.data.toList),.iface 243 (.pointer (some ⟨N,0,none⟩))])∧w.heap.size≤N∧w'.heap[N]?=some (.cells #[.string ⟨#[65,116,111,105]⟩,.string s,ev] 268 (0,0))∧Below w.heap.size w w':=Any.strconv_Atoi_range Tryz.laysC172 s hlim h ev w hv hev
def Tryz.laysPu14_ren:Go.Shelf.Ren:=⟨fun | 14=>189 | 16=>214 | 17=>143 | 19=>225 | 20=>226 | 21=>185 | 22=>186 | 23=>187 | 24=>188 | 25=>215 | 27=>43 | 26=>216 | 28=>82 | 29=>128 | 30=>170 | 31=>171 | 32=>172 | 33=>173 | 35=>204 | 34=>203 | 36=>205 | 37=>206 | 38=>207 | 39=>221 | 40=>222 | n=>n,fun | 9=>9 | 3=>3 | 22=>103 | 24=>120 | 25=>246 | 4=>4 | 34=>240 | 5=>5 | 36=>152 | 37=>69 | 0=>0 | 39=>243 | 21=>21 | 44=>268 | 47=>165 | 50=>288 | 48=>286 | 2=>2 | 52=>225 | 55=>228 | 59=>262 | 60=>234 | 20=>20 | 61=>263 | 65=>296 | 66=>297 | 67=>114 | n=>n,fun | 0=>2 | 1=>3 | 2=>0 | 3=>6 | 4=>7 | n=>n⟩
theorem Tryz.laysPu14:Go.Proofs.LaysPu.n14 Tryz.prog Tryz.laysPu14_ren:={
 mixed:=by kernel_rfl
 f14:=Tryz.func189.trans (congrArg some (by kernel_rfl))
 f16:=Tryz.func214.trans (congrArg some (by kernel_rfl))
 f17:=Tryz.func143.trans (congrArg some (by kernel_rfl))
 f19:=Tryz.func225.trans (congrArg some (by kernel_rfl))
 f20:=Tryz.func226.trans (congrArg some (by kernel_rfl))
 f21:=Tryz.func185.trans (congrArg some (by kernel_rfl))
 f22:=Tryz.func186.trans (congrArg some (by kernel_rfl))
 f23:=Tryz.func187.trans (congrArg some (by kernel_rfl))
 f24:=Tryz.func188.trans (congrArg some (by kernel_rfl))
 f25:=Tryz.func215.trans (congrArg some (by kernel_rfl))
 f26:=Tryz.func216.trans (congrArg some (by kernel_rfl))
 f27:=Tryz.func43.trans (congrArg some (by kernel_rfl))
 f28:=Tryz.func82.trans (congrArg some (by kernel_rfl))
 f29:=Tryz.func128.trans (congrArg some (by kernel_rfl))
 f30:=Tryz.func170.trans (congrArg some (by kernel_rfl))
 f31:=Tryz.func171.trans (congrArg some (by kernel_rfl))
 f32:=Tryz.func172.trans (congrArg some (by kernel_rfl))
 f33:=Tryz.func173.trans (congrArg some (by kernel_rfl))
 f34:=Tryz.func203.trans (congrArg some (by kernel_rfl))
 f35:=Tryz.func204.trans (congrArg some (by kernel_rfl))
 f36:=Tryz.func205.trans (congrArg some (by kernel_rfl))
 f37:=Tryz.func206.trans (congrArg some (by kernel_rfl))
 f38:=Tryz.func207.trans (congrArg some (by kernel_rfl))
 f39:=Tryz.func221.trans (congrArg some (by kernel_rfl))
 f40:=Tryz.func222.trans (congrArg some (by kernel_rfl))
 t0:=Tryz.underlying0
 a0:=Tryz.isAgg0
 z0:=Tryz.sizeOf0
 v0:=Tryz.zeroValue0
 i0:=by kernel_rfl
 t2:=Tryz.underlying2
 a2:=Tryz.isAgg2
 z2:=Tryz.sizeOf2
 v2:=Tryz.zeroValue2
 i2:=by kernel_rfl
 t3:=Tryz.underlying3
 a3:=Tryz.isAgg3
 z3:=Tryz.sizeOf3
 v3:=Tryz.zeroValue3
 i3:=by kernel_rfl
 t4:=Tryz.underlying4
 a4:=Tryz.isAgg4
 z4:=Tryz.sizeOf4
 v4:=Tryz.zeroValue4
 i4:=by kernel_rfl
 t5:=Tryz.underlying5
 a5:=Tryz.isAgg5
 z5:=Tryz.sizeOf5
 v5:=Tryz.zeroValue5
 i5:=by kernel_rfl
 t9:=Tryz.underlying9
 a9:=Tryz.isAgg9
 z9:=Tryz.sizeOf9
 v9:=Tryz.zeroValue9
 i9:=by kernel_rfl
 t20:=Tryz.underlying20
 a20:=Tryz.isAgg20
 z20:=Tryz.sizeOf20
 v20:=Tryz.zeroValue20
 i20:=by kernel_rfl
 t21:=Tryz.underlying21
 a21:=Tryz.isAgg21
 z21:=Tryz.sizeOf21
 v21:=Tryz.zeroValue21
 i21:=by kernel_rfl
 t22:=Tryz.underlying103
 a22:=Tryz.isAgg103
 z22:=Tryz.sizeOf103
 v22:=Tryz.zeroValue103
 i22:=by kernel_rfl
 t24:=Tryz.underlying120
 a24:=Tryz.isAgg120
 z24:=Tryz.sizeOf120
 v24:=Tryz.zeroValue120
 i24:=by kernel_rfl
 t25:=Tryz.underlying246
 a25:=Tryz.isAgg246
 z25:=Tryz.sizeOf246
 v25:=Tryz.zeroValue246
 i25:=by kernel_rfl
 t34:=Tryz.underlying240
 a34:=Tryz.isAgg240
 z34:=Tryz.sizeOf240
 v34:=Tryz.zeroValue240
 i34:=by kernel_rfl
 c34:=by kernel_rfl
 t36:=Tryz.underlying152
 a36:=Tryz.isAgg152
 z36:=Tryz.sizeOf152
 v36:=Tryz.zeroValue152
 i36:=by kernel_rfl
 t37:=Tryz.underlying69
 a37:=Tryz.isAgg69
 z37:=Tryz.sizeOf69
 v37:=Tryz.zeroValue69
 i37:=by kernel_rfl
 t39:=Tryz.underlying243
 a39:=Tryz.isAgg243
 z39:=Tryz.sizeOf243
 v39:=Tryz.zeroValue243
 i39:=by kernel_rfl
 t44:=Tryz.underlying268
 a44:=Tryz.isAgg268
 z44:=Tryz.sizeOf268
 v44:=Tryz.zeroValue268
 i44:=by kernel_rfl
 t47:=Tryz.underlying165
 a47:=Tryz.isAgg165
 z47:=Tryz.sizeOf165
 v47:=Tryz.zeroValue165
 i47:=by kernel_rfl
 t48:=Tryz.underlying286
 a48:=Tryz.isAgg286
 z48:=Tryz.sizeOf286
 v48:=Tryz.zeroValue286
 i48:=by kernel_rfl
 t50:=Tryz.underlying288
 a50:=Tryz.isAgg288
 z50:=Tryz.sizeOf288
 v50:=Tryz.zeroValue288
 i50:=by kernel_rfl
 t52:=Tryz.underlying225
 a52:=Tryz.isAgg225
 z52:=Tryz.sizeOf225
 v52:=Tryz.zeroValue225
 i52:=by kernel_rfl
 t55:=Tryz.underlying228
 a55:=Tryz.isAgg228
 z55:=Tryz.sizeOf228
 v55:=Tryz.zeroValue228
 i55:=by kernel_rfl
 t59:=Tryz.underlying262
 a59:=Tryz.isAgg262
 z59:=Tryz.sizeOf262
 v59:=Tryz.zeroValue262
 i59:=by kernel_rfl
 t60:=Tryz.underlying234
 a60:=Tryz.isAgg234
 z60:=Tryz.sizeOf234
 v60:=Tryz.zeroValue234
 i60:=by kernel_rfl
 t61:=Tryz.underlying263
 a61:=Tryz.isAgg263
 z61:=Tryz.sizeOf263
 t65:=Tryz.underlying296
 a65:=Tryz.isAgg296
 z65:=Tryz.sizeOf296
 v65:=Tryz.zeroValue296
 i65:=by kernel_rfl
 t66:=Tryz.underlying297
 a66:=Tryz.isAgg297
 z66:=Tryz.sizeOf297
 v66:=Tryz.zeroValue297
 i66:=by kernel_rfl
 t67:=Tryz.underlying114
 a67:=Tryz.isAgg114
 z67:=Tryz.sizeOf114
 v67:=Tryz.zeroValue114
 i67:=by kernel_rfl
 g0:=by kernel_rfl
 m0:=by kernel_rfl
 g1:=by kernel_rfl
 m1:=by kernel_rfl
 g2:=by kernel_rfl
 m2:=by kernel_rfl
 g3:=by kernel_rfl
 m3:=by kernel_rfl
 g4:=by kernel_rfl
 m4:=by kernel_rfl }
open Go.RowKit in
theorem Tryz.strconv_ParseUint_10_at64_ok (s:BA) (hmax:s.size≤9223372036854775806) (u:Nat) (h:Lib.parseUintB 64 s.data.toList = .ok u) (w:World) :
 Calls Tryz.prog 189 #[.string s,.int .i64 10,.int .i64 64] w fun e w'=>e = .returned (.tuple #[.int .u64 u,.nilIface])∧(w'=w∨w'=Lib.bytesWorld w 5 s):=Any.strconv_ParseUint_10_at64_ok Tryz.laysPu14 s hmax u h w
open Go.RowKit in
theorem Tryz.strconv_ParseUint_10_at64_syntax (s:BA) (hlim:s.size≤281474976710656) (h:Lib.parseUintB 64 s.data.toList=Lib.NumEnd.syntax) (ev:Value) (w:World) (hv:w.cell? ⟨2,0,none⟩=some ev) (hev:ev = .nilIface∨∃ te pe,ev = .iface te pe) :
 Calls Tryz.prog 189 #[.string s,.int .i64 10,.int .i64 64] w fun e w'=>∃ N,e = .returned (.tuple #[.int .u64 0,.iface 243 (.pointer (some ⟨N,0,none⟩))])∧w.heap.size≤N∧w'.heap[N]?=some (.cells #[.string ⟨#[80,97,114,115,101,85,105,110,116]⟩,.string s,ev] 268 (0,0))∧Below w.heap.size w w':=Any.strconv_ParseUint_10_at64_syntax Tryz.laysPu14 s hlim h ev w hv hev
open Go.RowKit in
theorem Tryz.strconv_ParseUint_10_at64_range (s:BA) (hlim:s.size≤281474976710656) (h:Lib.parseUintB 64 s.data.toList = .range) (ev:Value) (w:World) (hv:w.cell? ⟨3,0,none⟩=some ev) (hev:ev = .nilIface∨∃ te pe,ev = .iface te pe) :
 Calls Tryz.prog 189 #[.string s,.int .i64 10,.int .i64 64] w fun e w'=>∃ N,e = .returned (.tuple #[.int .u64 18446744073709551615,.iface 243 (.pointer (some ⟨N,0,none⟩))])∧w.heap.size≤N∧w'.heap[N]?=some (.cells #[.string ⟨#[80,97,114,115,101,85,105,110,116]⟩,.string s,ev] 268 (0,0))∧Below w.heap.size w w':=Any.strconv_ParseUint_10_at64_range Tryz.laysPu14 s hlim h ev w hv hev
def Tryz.lays145_ren:Go.Shelf.Ren:=⟨fun | 145=>104 | 220=>154 | 219=>183 | 217=>152 | 225=>211 | 224=>212 | 267=>213 | 266=>191 | 314=>224 | n=>n,fun | 9=>9 | 4=>4 | 59=>117 | 3=>3 | 5=>5 | 46=>152 | 146=>235 | 51=>234 | n=>n,fun | 1=>1 | n=>n⟩
theorem Tryz.lays145:Go.Proofs.Lays.n145 Tryz.prog Tryz.lays145_ren:={
 mixed:=by kernel_rfl
 f145:=Tryz.func104.trans (congrArg some (by kernel_rfl))
 f217:=Tryz.func152.trans (congrArg some (by kernel_rfl))
 f219:=Tryz.func183.trans (congrArg some (by kernel_rfl))
 f220:=Tryz.func154.trans (congrArg some (by kernel_rfl))
 f224:=Tryz.func212.trans (congrArg some (by kernel_rfl))
 f225:=Tryz.func211.trans (congrArg some (by kernel_rfl))
 f266:=Tryz.func191.trans (congrArg some (by kernel_rfl))
 f267:=Tryz.func213.trans (congrArg some (by kernel_rfl))
 f314:=Tryz.func224.trans (congrArg some (by kernel_rfl))
 t3:=Tryz.underlying3
 a3:=Tryz.isAgg3
 z3:=Tryz.sizeOf3
 v3:=Tryz.zeroValue3
 t4:=Tryz.underlying4
 a4:=Tryz.isAgg4
 z4:=Tryz.sizeOf4
 v4:=Tryz.zeroValue4
 t5:=Tryz.underlying5
 a5:=Tryz.isAgg5
 z5:=Tryz.sizeOf5
 v5:=Tryz.zeroValue5
 t9:=Tryz.underlying9
 a9:=Tryz.isAgg9
 z9:=Tryz.sizeOf9
 v9:=Tryz.zeroValue9
 t46:=Tryz.underlying152
 a46:=Tryz.isAgg152
 z46:=Tryz.sizeOf152
 v46:=Tryz.zeroValue152
 t51:=Tryz.underlying234
 a51:=Tryz.isAgg234
 z51:=Tryz.sizeOf234
 v51:=Tryz.zeroValue234
 t59:=Tryz.underlying117
 a59:=Tryz.isAgg117
 z59:=Tryz.sizeOf117
 v59:=Tryz.zeroValue117
 t146:=Tryz.underlying235
 a146:=Tryz.isAgg235
 z146:=Tryz.sizeOf235
 v146:=Tryz.zeroValue235
 g1:=by kernel_rfl }
open Go.RowKit Go.Lib in
theorem Tryz.strings_Cut (s sep:BA) (m:Int) (w:World) (hs:s.size < 4294967281) (hm:w.cell? ⟨1,0,none⟩=some (.int .i64 m)) :
 Calls Tryz.prog 104 #[.string s,.string sep] w fun e w'=>e = .returned (.tuple #[.string ⟨(Lib.cut s.data.toList sep.data.toList).1.toArray⟩,.string ⟨(Lib.cut s.data.toList sep.data.toList).2.1.toArray⟩,.bool (Lib.cut s.data.toList sep.data.toList).2.2])∧∃ n,w'=w.drewN n:=Any.strings_Cut Tryz.lays145 s sep m w hs hm
def Tryz.lays189_ren:Go.Shelf.Ren:=⟨fun | 189=>201 | 125=>220 | 257=>219 | 128=>236 | 129=>204 | 294=>227 | 295=>228 | 296=>229 | 297=>230 | 298=>231 | 299=>232 | 216=>233 | 300=>234 | 301=>235 | 328=>237 | 329=>238 | 330=>239 | 331=>240 | 332=>241 | 215=>242 | 343=>243 | n=>n,fun | 28=>22 | 3=>3 | 46=>152 | 0=>0 | 51=>234 | 53=>103 | 4=>4 | 183=>291 | 182=>290 | 131=>144 | 5=>5 | 9=>9 | 218=>298 | 222=>301 | 228=>303 | 229=>174 | n=>n,fun | n=>n⟩
theorem Tryz.lays189:Go.Proofs.Lays.n189 Tryz.prog Tryz.lays189_ren:= by constructor <;> first | kernel_rfl | (intro _; kernel_rfl)
open Go.Sort Go.RowKit in
theorem Tryz.slices_Sort_int (blk off cap:Nat) (zs:List Int) (w:World) (hH:Holds (Value.int .i64) w blk off zs.toArray) (hblk:blk < w.heap.size) (hsz:zs.length < 4611686018427387904) :
 Calls Tryz.prog 201 #[.slice (some ⟨blk,off,none⟩) zs.length cap] w fun e w'=>
  e = .returned (.tuple #[])∧∃ n os,w'=grow (putRow (Value.int .i64) (Sort.ahead w n) blk off (zs.mergeSort fun x y=>decide (x≤y)).toArray) os:=Any.slices_Sort_int Tryz.lays189 blk off cap zs w hH hblk hsz
def Tryz.lays146_ren:Go.Shelf.Ren:=⟨fun | 146=>46 | 221=>88 | 268=>138 | 138=>139 | 143=>140 | 195=>180 | 197=>181 | 218=>182 | 219=>183 | 260=>210 | 217=>152 | 225=>211 | 224=>212 | 267=>213 | 266=>191 | 314=>224 | n=>n,fun | 9=>9 | 31=>66 | 3=>3 | 4=>4 | 0=>0 | 105=>231 | 21=>21 | 5=>5 | 46=>152 | 119=>279 | 139=>282 | 138=>281 | 146=>235 | 51=>234 | n=>n,fun | 1=>1 | 3=>4 | 4=>5 | n=>n⟩
theorem Tryz.lays146:Go.Proofs.Lays.n146 Tryz.prog Tryz.lays146_ren:={
 mixed:=by kernel_rfl
 f138:=Tryz.func139.trans (congrArg some (by kernel_rfl))
 f143:=Tryz.func140.trans (congrArg some (by kernel_rfl))
 f146:=Tryz.func46.trans (congrArg some (by kernel_rfl))
 f195:=Tryz.func180.trans (congrArg some (by kernel_rfl))
 f197:=Tryz.func181.trans (congrArg some (by kernel_rfl))
 f217:=Tryz.func152.trans (congrArg some (by kernel_rfl))
 f218:=Tryz.func182.trans (congrArg some (by kernel_rfl))
 f219:=Tryz.func183.trans (congrArg some (by kernel_rfl))
 f221:=Tryz.func88.trans (congrArg some (by kernel_rfl))
 f224:=Tryz.func212.trans (congrArg some (by kernel_rfl))
 f225:=Tryz.func211.trans (congrArg some (by kernel_rfl))
 f260:=Tryz.func210.trans (congrArg some (by kernel_rfl))
 f266:=Tryz.func191.trans (congrArg some (by kernel_rfl))
 f267:=Tryz.func213.trans (congrArg some (by kernel_rfl))
 f268:=Tryz.func138.trans (congrArg some (by kernel_rfl))
 f314:=Tryz.func224.trans (congrArg some (by kernel_rfl))
 t0:=Tryz.underlying0
 a0:=Tryz.isAgg0
 z0:=Tryz.sizeOf0
 v0:=Tryz.zeroValue0
 t3:=Tryz.underlying3
 a3:=Tryz.isAgg3
 z3:=Tryz.sizeOf3
 v3:=Tryz.zeroValue3
 t4:=Tryz.underlying4
 a4:=Tryz.isAgg4
 z4:=Tryz.sizeOf4
 v4:=Tryz.zeroValue4
 t5:=Tryz.underlying5
 a5:=Tryz.isAgg5
 z5:=Tryz.sizeOf5
 v5:=Tryz.zeroValue5
 t9:=Tryz.underlying9
 a9:=Tryz.isAgg9
 z9:=Tryz.sizeOf9
 v9:=Tryz.zeroValue9
 t21:=Tryz.underlying21
 a21:=Tryz.isAgg21
 z21:=Tryz.sizeOf21
 v21:=Tryz.zeroValue21
 t31:=Tryz.underlying66
 a31:=Tryz.isAgg66
 z31:=Tryz.sizeOf66
 v31:=Tryz.zeroValue66
 t46:=Tryz.underlying152
 a46:=Tryz.isAgg152
 z46:=Tryz.sizeOf152
 v46:=Tryz.zeroValue152
 t51:=Tryz.underlying234
 a51:=Tryz.isAgg234
 z51:=Tryz.sizeOf234
 v51:=Tryz.zeroValue234
 t105:=Tryz.underlying231
 a105:=Tryz.isAgg231
 z105:=Tryz.sizeOf231
 v105:=Tryz.zeroValue231
 t119:=Tryz.underlying279
 a119:=Tryz.isAgg279
 z119:=Tryz.sizeOf279
 t138:=Tryz.underlying281
 a138:=Tryz.isAgg281
 z138:=Tryz.sizeOf281
 v138:=Tryz.zeroValue281
 t139:=Tryz.underlying282
 a139:=Tryz.isAgg282
 z139:=Tryz.sizeOf282
 v139:=Tryz.zeroValue282
 t146:=Tryz.underlying235
 a146:=Tryz.isAgg235
 z146:=Tryz.sizeOf235
 v146:=Tryz.zeroValue235
 g1:=by kernel_rfl
 g3:=by kernel_rfl
 g4:=by kernel_rfl }
open Go.RowKit Go.Lib in
theorem Tryz.strings_Split (s sep:BA) (m:Int) (w:World) (hs:s.size < 4294967281) (hm:w.cell? ⟨1,0,none⟩=some (.int .i64 m)) (h1:1≤sep.size) :
 Calls Tryz.prog 46 #[.string s,.string sep] w fun e w'=>
  e = .returned (.slice (some ⟨w.heap.size,0,none⟩) (Lib.countB s sep+1) (Lib.countB s sep+1))∧w'=w.alloc (.cells ((Lib.splitB sep 0 (Lib.countB s sep) s).map Value.string).toArray 9):=Any.strings_Split Tryz.lays146 (by kernel_rfl) s sep m w hs hm h1
def Tryz.lays105_ren:Go.Shelf.Ren:=⟨fun | 105=>86 | 212=>134 | 99=>135 | 165=>87 | 166=>60 | 170=>136 | 169=>56 | 263=>177 | 264=>178 | 206=>151 | 240=>103 | 241=>137 | 276=>153 | 277=>179 | n=>n,fun | 9=>9 | 3=>3 | 4=>4 | 20=>20 | 0=>0 | 46=>152 | 109=>199 | 5=>5 | 72=>108 | 76=>121 | 51=>234 | 146=>235 | 53=>103 | 148=>237 | 70=>106 | 37=>69 | 75=>120 | 127=>165 | 164=>211 | 80=>114 | n=>n,fun | n=>n⟩
theorem Tryz.lays105:Go.Proofs.Lays.n105 Tryz.prog Tryz.lays105_ren:= by constructor <;> first | kernel_rfl | (intro _; kernel_rfl)
theorem Tryz.Builder_Extra_105:Builder.Extra Tryz.prog Tryz.lays105_ren:={
 sizeBuilder:=by kernel_rfl
 liesBuilder:=by kernel_rfl
 t5:=Tryz.underlying5
 a5:=Tryz.isAgg5
 z5:=Tryz.sizeOf5
 v5:=Tryz.zeroValue5
 infoByte:=by kernel_rfl
 cellsByte:=by kernel_rfl
 sizeByte:=by kernel_rfl
 neB5:=by decide }
open Go.RowKit Go.Lib in
theorem Tryz.strings_Repeat (s:BA) (c:Nat) (w:World) (hc:c≤9223372036854775807) (hlen:s.size*c≤140737488355328) :
 Calls Tryz.prog 86 #[.string s,.int .i64 c] w fun e w'=>e = .returned (.string ⟨(Lib.repeatL s.data.toList c).toArray⟩)∧Below w.heap.size w w':=Any.strings_Repeat Tryz.lays105 Tryz.Builder_Extra_105 s c w hc hlen
def Tryz.laysNm220_ren:Go.Shelf.Ren:=⟨fun | 20=>202 | n=>n,fun | 22=>22 | 3=>3 | 4=>4 | 0=>0 | n=>n,fun | n=>n⟩
theorem Tryz.laysNm220:Go.Proofs.Lays2.n20 Tryz.prog Tryz.laysNm220_ren:={
 mixed:=by kernel_rfl
 f20:=Tryz.func202.trans (congrArg some (by kernel_rfl))
 t0:=Tryz.underlying0
 a0:=Tryz.isAgg0
 z0:=Tryz.sizeOf0
 v0:=Tryz.zeroValue0
 t3:=Tryz.underlying3
 a3:=Tryz.isAgg3
 z3:=Tryz.sizeOf3
 v3:=Tryz.zeroValue3
 t4:=Tryz.underlying4
 a4:=Tryz.isAgg4
 z4:=Tryz.sizeOf4
 v4:=Tryz.zeroValue4
 t22:=Tryz.underlying22
 a22:=Tryz.isAgg22
 z22:=Tryz.sizeOf22
 v22:=Tryz.zeroValue22
 i3:=by kernel_rfl }
open Go.RowKit Go.Lib Go.Sort in
theorem Tryz.slices_Compact_int (blk off cap:Nat) (zs:List Int) (w:World) (hH:Holds (Value.int .i64) w blk off zs.toArray) (hsz:zs.length≤9223372036854775807) (hcap:zs.length≤cap) :
 Calls Tryz.prog 202 #[.slice (some ⟨blk,off,none⟩) zs.length cap] w fun e w'=>e = .returned (.slice (some ⟨blk,off,none⟩) (Lib.compact zs).length cap)∧∃ q,w'=putRow (Value.int .i64) (Sort.ahead w q) blk off (Lib.compact zs++List.replicate (zs.length - (Lib.compact zs).length) 0).toArray:=Any.slices_Compact_int Tryz.laysNm220 blk off cap zs w hH hsz hcap
open Go.RowKit Go.Lib Go.Sort in
theorem Tryz.slices_Compact_int_empty (a:Option Addr) (cap:Nat) (w:World) :
 Calls Tryz.prog 202 #[.slice a 0 cap] w fun e w'=>e = .returned (.slice a 0 cap)∧w'=w:=Any.slices_Compact_int_empty Tryz.laysNm220 a cap w
open Go.RowKit Go.Sort in
theorem Tryz.slices_Sort_int_none (p:Option Addr) (cap:Nat) (w:World) :
 Calls Tryz.prog 201 #[.slice p 0 cap] w fun e w'=>e = .returned (.tuple #[])∧w'=w:=Any.slices_Sort_int_none Tryz.lays189 p cap w
def Tryz.laysSlH6_f200_ren:Go.Shelf.Ren:=⟨fun | 6=>200 | n=>n,fun | 22=>22 | 23=>3 | 25=>91 | 3=>3 | 0=>0 | 4=>4 | n=>n,fun | n=>n⟩
theorem Tryz.laysSlH6_f200:Go.Proofs.SlLaysH.n6 Tryz.prog Tryz.laysSlH6_f200_ren:={
 mixed:=by kernel_rfl
 f6:=⟨Tryz.f200.name,by decide,Tryz.func200.trans (congrArg some (by kernel_rfl))⟩
 t0:=Tryz.underlying0
 a0:=Tryz.isAgg0
 z0:=Tryz.sizeOf0
 v0:=Tryz.zeroValue0
 t3:=Tryz.underlying3
 a3:=Tryz.isAgg3
 z3:=Tryz.sizeOf3
 v3:=Tryz.zeroValue3
 t4:=Tryz.underlying4
 a4:=Tryz.isAgg4
 z4:=Tryz.sizeOf4
 v4:=Tryz.zeroValue4
 t22:=Tryz.underlying22
 a22:=Tryz.isAgg22
 z22:=Tryz.sizeOf22
 v22:=Tryz.zeroValue22
 a23:=Tryz.isAgg3
 z23:=Tryz.sizeOf3
 t25:=Tryz.underlying91
 a25:=Tryz.isAgg91
 z25:=Tryz.sizeOf91
 v25:=Tryz.zeroValue91 }
open Go.RowKit Go.Lib in
theorem Tryz.slices_IndexFunc_empty {α:Type} [Inhabited α] (a:Option Addr) (c:Nat) (fv:Value) (w:World) :
 Calls Tryz.prog 200 #[.slice a 0 c,fv] w fun e w'=>e = .returned (.int .i64 (-1))∧w'=w:=AnyE.slices_IndexFunc_empty Tryz.laysSlH6_f200 a c fv w
def Tryz.laysSlH10_f167_ren:Go.Shelf.Ren:=⟨fun | 10=>167 | 6=>200 | n=>n,fun | 22=>22 | 23=>3 | 25=>91 | 3=>3 | 4=>4 | 0=>0 | n=>n,fun | n=>n⟩
theorem Tryz.laysSlH10_f167:Go.Proofs.SlLaysH.n10 Tryz.prog Tryz.laysSlH10_f167_ren:={
 mixed:=by kernel_rfl
 f6:=⟨Tryz.f200.name,by decide,Tryz.func200.trans (congrArg some (by kernel_rfl))⟩
 f10:=⟨Tryz.f167.name,by decide,Tryz.func167.trans (congrArg some (by kernel_rfl))⟩
 t0:=Tryz.underlying0
 a0:=Tryz.isAgg0
 z0:=Tryz.sizeOf0
 v0:=Tryz.zeroValue0
 t3:=Tryz.underlying3
 a3:=Tryz.isAgg3
 z3:=Tryz.sizeOf3
 v3:=Tryz.zeroValue3
 t4:=Tryz.underlying4
 a4:=Tryz.isAgg4
 z4:=Tryz.sizeOf4
 v4:=Tryz.zeroValue4
 t22:=Tryz.underlying22
 a22:=Tryz.isAgg22
 z22:=Tryz.sizeOf22
 v22:=Tryz.zeroValue22
 a23:=Tryz.isAgg3
 z23:=Tryz.sizeOf3
 t25:=Tryz.underlying91
 a25:=Tryz.isAgg91
 z25:=Tryz.sizeOf91
 v25:=Tryz.zeroValue91 }
open Go.RowKit Go.Lib Go.Sort in
theorem Tryz.slices_DeleteFunc {α:Type} [Inhabited α] (enc:α→Value) (hO:OneCell enc) (p:α→Bool) (g:Nat) (lb:Array Value) (eg:∀ args w,(callFunc g args).run Tryz.prog w = .ok (.enter g args) w) (zr:α) (v23:∀ w,(zeroValue 3).run Tryz.prog w = .ok (enc zr) w) (blk off cap:Nat) (d:Array α) (w:World) (hp:PredAt Tryz.prog g lb enc p w) (hpo:PredOver Tryz.prog g lb enc p blk off d.size w) (hH:Holds enc w blk off d) (hsz:d.size≤9223372036854775807) (hcap:d.size≤cap) :
 Calls Tryz.prog 167 #[.slice (some ⟨blk,off,none⟩) d.size cap,.func (.func g) #[] lb] w fun e w'=>e = .returned (.slice (some ⟨blk,off,none⟩) (d.toList.filter fun x=>!p x).length cap)∧∃ q,w'=putRow enc (Sort.ahead w q) blk off ((d.toList.filter fun x=>!p x)++List.replicate (d.size - (d.toList.filter fun x=>!p x).length) zr).toArray:=AnyE.slices_DeleteFunc Tryz.laysSlH10_f167 enc hO p g lb eg zr v23 blk off cap d w hp hpo hH hsz hcap
end Go.Proofs
