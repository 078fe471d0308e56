/-
  A small machine that reckons what a call comes to; the functions of the program, one by one. (THE SMALL MACHINE (24): a call., THE SMALL MACHINE (25): a call that lends a variable., THE SMALL MACHINE (26): a call, as an operation., and so on.)
-/
import Derived.Test.YtehhekmihbaghaaGreatDoorVa
import Derived.Lib.ItoaLen
import Derived.Test.YtehhekmihbaghaaGreatDoorProg
import Derived.Shelf.Strings.BuilderK
import Derived.Shelf.Strings.OnBuilder
import Derived.Shelf.Strings.Trim
import Derived.Shelf.Small.Wraps
import Derived.Shelf.Utf8.RuneCount
import Derived.Shelf.Strconv.Itoa3
import Derived.Shelf.Strconv.ErrVarAll
import Derived.Shelf.Strconv.ParseUint10b64
import Derived.Shelf.Pu.ErrVarParseUint
import Derived.Shelf.Strings.Shaped
import Derived.Shelf.Sort.Plain
import Derived.Shelf.Strings.SplitShaped
import Derived.Shelf.Strings.Runes
import Derived.Shelf.Strings.AsciiSet
import Derived.Shelf.Strings.Explode
import Derived.Shelf.Strings.Repeat
import Derived.Shelf.Unicode.DecodeLast
import Derived.Shelf.Slices.Turned
import Derived.Shelf.Slices.Clone
import Derived.Shelf.Slices.SearchI
import Derived.Shelf.Slices.Cells
import Derived.Shelf.Slices.In.SortNone
import Derived.Shelf.SlicesE.Clone
import Derived.Shelf.SlicesE.DeleteFunc
set_option linter.all false
set_option maxRecDepth 100000
open Array renaming length_toList→CL,getElem?_eq_some_iff→DF,toList_append→vai,getElem?_toList→vax,getElem?_modify→va6,getD_eq_getD_getElem?→vbq,all_eq_true_iff_forall_mem→vbI
open Bool renaming and_eq_true→AI,and_true→B2,not_eq_true'→B3,or_eq_true→vap
open ByteArray renaming size→AG,empty→CK,size_extract→vbf
open Decidable renaming byContradiction→vbO
open Go.Addr.mk renaming injEq→DH
open Go.Builtin renaming append_→CZ
open Go.IntKind renaming i64→AB,u64→AJ,bits→AR,signed→vaj
open Go.Lib renaming decDigits→BU,strCells→DC,itoa→vam,bytesWorld→vaO,cut→vaP,atoiAll→vbj,byteCells→vbE,splitB→vbK
open Go.Op renaming operands→CU,equalIn→vbs
open Go.Region renaming wanted→C3,binds→va1,ready→vbG
open Go.Result renaming andThen_ok→CB
open Go.Result.ok renaming injEq→vbk
open Go.Sem renaming run_bind→CN,run_pure→CO
open Go.TypeDesc renaming isRow→vbp
open Go.Value renaming ownBlock→CC
open Go.Value.pointer renaming injEq→C0
open Go.Value.slice renaming injEq→CJ
open Go.World renaming cell?→vaN,setCell→vbB
open List renaming length_cons→AM,mem_cons_self→AO,mem_cons→AP,drop→AS,length_append→AT,mem_append→AX,mem_cons_of_mem→AY,map_cons→A0,length_nil→A6,getElem?_eq_getElem→A8,length_take→BB,length_map→BG,mem_singleton→BM,getElem?_eq_some_iff→BR,not_mem_nil→BX,getElem?_cons_zero→BZ,getElem?_eq_none→B1,getElem?_map→B9,map_nil→CA,drop_of_length_le→CD,mem_map→CI,all_eq_true→CR,cons_append→CT,take_of_length_le→CV,length_drop→CY,getElem?_cons_succ→C5,size_toArray→C8,append_nil→DB,length_reverse→vae,mem_of_getElem?→vah,getElem?_drop→var,range→vau,all_cons→vaA,mem_append_right→vaH,map_map→vaJ,mem_of_mem_take→vaK,mem_append_left→vaL,eq_nil_of_length_eq_zero→vaM,mem_range→vaR,countP_cons_of_pos→vaT,mem_map_of_mem→vaU,mem_of_mem_drop→va8,countP_cons_of_neg→vbl,getElem?_append_left→vbx
open List.cons renaming injEq→vav
open Nat renaming le_of_ble_eq_true→AN,le_refl→AZ,zero_add→BI,beq→BQ,zero_le→B5,ble→B6,lt_of_lt_of_le→CW,le_trans→C1,add_zero→C9,lt_or_ge→DD,add_mul→van,min_eq_left→vaB,sub_zero→va5,beq_refl→vbn,strongRecOn→vbr,one_mul→vby
open Option renaming map_eq_some_iff→DE,getD_some→vak,map_some→vaw
open Option.some renaming injEq→AC
open Prod.mk renaming injEq→AV
namespace Go.FM
open Go Go.RowKit
section
variable {B:BT} {nt:Nat} {w0:World} {X:Zone} {γ:Nat→Value} {st st':St} {a:Act} {w:World} {P:Program} {E:Env}
theorem eG (h:Rel B nt w0 X γ st a w) (ns:List Nat) {b:Nat} (hb:DR X γ (st.ups (EJ st.o ns)).o b):DR X γ st.o b∧∀ m∈ns,¬ RowOf γ st.o m b:=by
 obtain ⟨h1,h2,h3,h4,h5⟩:=NC st.o ns (FrzLe.refl _) h;refine ⟨h2.owned hb,?_⟩;rintro m hm ⟨e,ag,ks,l,ho,hob⟩;rcases hb with ⟨m',ob',hm',hb'⟩ | hb
 ·by_cases e1:m=m'
  ·subst e1;rcases h2 m with h6 | ⟨e',ag',ks',l',h6,h7⟩
   ·rw [h6,ho] at hm'
    have:=h4 m hm true e ag ks l (by rw [h6,ho])
    cases this
   ·rw [h7,AC] at hm';subst hm';exact hb'.elim
  ·rcases h2 m' with h6 | ⟨e',ag',ks',l',h6,h7⟩
   ·rw [h6] at hm';exact h.dis m m' _ ob' b e1 ho hm' hob hb'
   ·rw [h7,AC] at hm';subst hm';exact hb'.elim
 ·exact h.near ⟨m,_,ho,hob⟩ hb
theorem nB (h:Rel B nt w0 X γ st a w) (hg:GX B w0 X) {f:FuncId} {sp:T5} (hS:Snd P B f sp) {vs:List V} {xs:List Value} (hv:VRels γ st.o w (DR X γ st.o) vs xs) (hl:FS vs=[]) {tks:List (List Kd)} {v:V} {out:List (List V)}
  (hsp:sp (GB st.o [] tks vs)=some (v,out)) :
  Does P f xs w fun e w'=>∃ x,e = .returned x∧∃ γ',Rel B.base 0 w ⟨fun _=>False,fun b=>DR X γ st.o b∧∀ m∈EU vs,¬ RowOf γ st.o m b⟩ γ' ⟨[],GM v out⟩ JV w' ∧
   VRel γ' (GM v out) w' (DR ⟨fun _=>False,fun b=>DR X γ st.o b∧∀ m∈EU vs,¬ RowOf γ st.o m b⟩ γ' (GM v out)) (MV v) x∧ZQ v=true∧out=[]:=by
 have hb:GG (GB st.o [] tks vs)=none:=iO.2 hl;have hm:IU (GB st.o [] tks vs)=[]:=by simp only [IU,hb]
 have hR:Rel B.base 0 w ⟨fun _=>False,fun b=>DR X γ st.o b∧∀ m∈EU vs,¬ RowOf γ st.o m b⟩ γ ⟨[],[]⟩ JV w:=by
  refine ⟨rfl,rfl,fun i=>by simp only [St.get,E3,VRel],fun n ob hn=>?_,?_,?_,Keep.refl _ w,?_,?_,fun p hp=>by cases hp⟩
  ·simp only [DN,E3] at hn; cases hn
  ·rintro b ⟨n,ob,hn,_⟩; simp only [DN,E3] at hn; cases hn
  ·intro n m ob ob' b _ hn; simp only [DN,E3] at hn; cases hn
  ·rintro b ⟨n,ob,hn,_⟩; simp only [DN,E3] at hn; cases hn
  ·rintro b ⟨hb | hb,_⟩
   ·exact (h.lt b hb).1
   ·exact h.fl b hb
 have:=hS w ⟨fun _=>False,fun b=>DR X γ st.o b∧∀ m∈EU vs,¬ RowOf γ st.o m b⟩ γ (GB st.o [] tks vs) xs v out hsp (h.glob hg) (fun _ hf=>hf.elim) (by rw [hm]; exact hR) (by
  rw [hm];refine iK h (fun b _ hb=>?_) [] hv (fun m hm b hr hb=>?_) (fun m hm=>by rw [hl] at hm; cases hm)
  ·rcases hb with ⟨n,ob,hn,_⟩ | hb
   ·simp only [DN,E3] at hn; cases hn
   ·exact hb.1
  ·rcases hb with ⟨n,ob,hn,_⟩ | hb
   ·simp only [DN,E3] at hn; cases hn
   ·exact hb.2 m hm hr)
 refine this.mono ?_;rintro e w' ⟨x,he,γ',h1,h2,h3⟩;refine ⟨x,he,γ',h1,h2,?_⟩;simp only [KN,hb] at h3;cases out with
 | nil=>exact ⟨h3,rfl⟩
 | cons _ _=>exact h3.elim
theorem qW (h:Rel B nt w0 X γ st a w) {w':World} {X':Zone} (hX:∀ b,¬ X'.own b) {γ':Nat→Value} {st':St} {a':Act} (hc:Rel B.base 0 w X' γ' st' a' w') (F:Nat→Prop) (hF:∀ b,F b→X.far b∨(w.heap.size≤b∧b < w'.heap.size)):Rel B nt w0 ⟨X.own,F⟩ γ st a w':=
 (h.fresh (hc.keep) (fun b _ hb=>(hX b hb).elim)).shrink hF
theorem ZB {cs:List V} (h:cs.all RM=true):EM cs=(900000,some (.box (GL 900001 cs))) :: KW 900001 cs:=by
 refine oB (fun s he=>?_);subst he;simp [RM,HP] at h
theorem yU {w':World} {X':Zone} {γ':Nat→Value} {cs:List V} (hok:cs.all RM=true) (_:Rel B.base 0 w X' γ' ⟨[],EM cs⟩ JV w') {c:Array Value}
  (hr:VRels γ' (EM cs) w' (DR X' γ' (EM cs)) (GL 900001 cs) c.toList) {γf:Nat→Value} {of:Store} {nm:Nat}
  (hrow:∀ j e ag ks l,cs[j]?=some (.vec e ag ks l)→γf (nm+j)=γ' (900001+j)∧DN of (nm+j)=some (.row true e ag ks l)) {O':Nat→Prop} (hO:IC cs=true→∀ b,b < w'.heap.size→O' b→DR X' γ' (EM cs) b) :
  VRels γf of w' O' (GL nm cs) c.toList:=by
 have hl:=hr.length;rw [YU] at hl;refine VRels.of_get (by rw [YU,hl]) (fun j v x hv hx=>?_);rw [dR] at hv;cases hcj:cs[j]? with
 | none=>rw [hcj] at hv; cases hv
 | some u=>
  rw [hcj] at hv;simp only [vaw,AC] at hv;have hb:(GL 900001 cs)[j]?=some (match (generalizing:=false) u with | .vec _ _ _ l=>.row (900001+j) 0 l.length | v=>v):=by rw [dR,hcj]; rfl
  have hux:=hr.get' hb hx;have huok:RM u=true:=CR.1 hok u (vah hcj);by_cases hvec:∃ e ag ks l,u = .vec e ag ks l
  ·obtain ⟨e,ag,ks,l,rfl⟩:=hvec;simp only at hv hux;subst hv;obtain ⟨h1,h2⟩:=hrow j e ag ks l hcj;have hat:=f8 (nr:=900001) hcj;have hat':DN (EM cs) (900001+j)=some (.row true e ag ks l):=by
    rw [ZB hok,EG,BD (by omega)];exact hat
   simp only [VRel,hat'] at hux;simp only [VRel,h2,h1];exact hux
  ·have hf:HP u=true:=by cases u <;> first | exact huok | exact absurd ⟨_,_,_,_,rfl⟩ hvec
   have hvu:v=u:=by cases u <;> first | exact hv.symm | exact absurd ⟨_,_,_,_,rfl⟩ hvec
   have hux':VRel γ' (EM cs) w' (DR X' γ' (EM cs)) u x:=by cases u <;> first | exact hux | exact absurd ⟨_,_,_,_,rfl⟩ hvec
   subst hvu;exact jM hf (fun hv=>hO (iH (vah hcj) hv)) hux'
theorem vJ {w':World} {X':Zone} {γ':Nat→Value} {cs:List V} (hok:cs.all RM=true) (hc:Rel B.base 0 w X' γ' ⟨[],EM cs⟩ JV w') :
  (∀ (γ:Nat→Value) j e ag ks l,cs[j]?=some (.vec e ag ks l)→ObRel B.base γ [] w' (fun b=>IC cs=true→DR X' γ' (EM cs) b) (γ' (900001+j)) (.row true e ag ks l)∧∀ b,(γ' (900001+j)).ownBlock=some b→FA γ' (EM cs) b) ∧
  (∀ i j e ag ks l e' ag' ks' l' b,i≠j→cs[i]?=some (.vec e ag ks l)→cs[j]?=some (.vec e' ag' ks' l')→(γ' (900001+i)).ownBlock=some b→(γ' (900001+j)).ownBlock=some b→False) ∧
  (∀ j e ag ks l b,cs[j]?=some (.vec e ag ks l)→(γ' (900001+j)).ownBlock=some b→E4 γ' (EM cs) 900000 b→False):=by
 have hat:∀ {j e ag ks l},cs[j]?=some (V.vec e ag ks l)→DN (EM cs) (900001+j)=some (.row true e ag ks l):=by
  intro j e ag ks l hj;rw [ZB hok,EG,BD (by omega)];exact f8 hj
 refine ⟨fun γ j e ag ks l hj=>⟨?_,fun b hb=>⟨_,_,hat hj,hb⟩⟩,?_,?_⟩
 ·have hr:=hc.ob _ _ (hat hj);simp only [ObRel] at hr ⊢;obtain ⟨k1,k2,xs,k3,k4⟩:=hr;refine ⟨k1,k2,xs,k3,fun i y hy=>Kd.RelAll.mono (Keep.refl _ w') (fun b _ hb=>?_) (fun _ _ hu=>hu) (k4 i y hy)⟩;exact hb (iH (vah hj) rfl)
 ·intro i j e ag ks l e' ag' ks' l' b hij h1 h2 hb1 hb2;exact hc.dis _ _ _ _ b (by omega) (hat h1) (hat h2) hb1 hb2
 ·rintro j e ag ks l b hj hb ⟨ob,h1,h2⟩;exact hc.dis _ _ _ _ b (by omega) (hat hj) h1 hb h2
theorem Uf (h:Rel B nt w0 X γ st a w) (hg:GX B w0 X) {f:FuncId} {sp:T5} (hS:Snd P B f sp) {vs:List V} {xs:List Value} (hv:VRels γ st.o w (DR X γ st.o) vs xs) (hl:FS vs=[]) {tks:List (List Kd)} {v:V} {out:List (List V)}
  (hsp:sp (GB st.o [] tks vs)=some (v,out)) (hnb:∀ cs,v≠.bor cs) (hnv:∀ e ag ks l,v≠.vec e ag ks l) :
  Does P f xs w fun e w'=>∃ x,e = .returned x∧∃ γ',Rel B nt w0 X γ' (st.ups (EJ st.o (match IG v with | true=>EU vs | false=>[]))) a w' ∧
   VRel γ' (st.ups (EJ st.o (match IG v with | true=>EU vs | false=>[]))).o w' (DR X γ' (st.ups (EJ st.o (match IG v with | true=>EU vs | false=>[]))).o) v x:=by
 refine (nB h hg hS hv hl hsp).mono ?_;rintro e w' ⟨x,he,γ',h1,h2,h3,rfl⟩;have hf:LY v=true:=by cases v <;> first | exact h3 | exact absurd rfl (hnb _) | exact absurd rfl (hnv _ _ _ _)
 have hmo:GM v []=[]:=by cases v <;> first | rfl | exact absurd rfl (hnb _) | exact absurd rfl (hnv _ _ _ _)
 rw [hmo] at h1 h2;rw [U7 hf] at h2;have hz:=(NC st.o (match IG v with | true=>EU vs | false=>[]) (FrzLe.refl _) h).1;have hp:=qW hz (fun b hb=>hb) h1 X.far (fun b hb=>.inl hb);refine ⟨x,he,γ,hp,oP hf (fun hhl b _ hb=>?_) h2⟩
 have:=eG h _ hb
 rw [hhl] at this;exact .inr this
theorem Ue (h:Rel B nt w0 X γ st a w) (hg:GX B w0 X) {f:FuncId} {sp:T5} (hS:Snd P B f sp) {vs:List V} {xs:List Value} (hv:VRels γ st.o w (DR X γ st.o) vs xs) (hl:FS vs=[]) {tks:List (List Kd)} {cs:List V} {out:List (List V)}
  (hsp:sp (GB st.o [] tks vs)=some (.bor cs,out)) (d:Nat) (hd9:d≠900000) (hn9:1000*(d+1)+cs.length≤900000) :
  Does P f xs w fun e w'=>∃ x,e = .returned x∧∃ γ',Rel B nt w0 X γ' (st.ups (EJ st.o (match IC cs with | true=>EU vs | false=>[])++(J9 (1000*(d+1)) cs++[.new d (.box (GL (1000*(d+1)) cs))]))) a w' ∧
   VRel γ' (st.ups (EJ st.o (match IC cs with | true=>EU vs | false=>[])++(J9 (1000*(d+1)) cs++[.new d (.box (GL (1000*(d+1)) cs))]))).o w'
    (DR X γ' (st.ups (EJ st.o (match IC cs with | true=>EU vs | false=>[])++(J9 (1000*(d+1)) cs++[.new d (.box (GL (1000*(d+1)) cs))]))).o) (.ptr d 0 0) x:=by
 refine (nB h hg hS hv hl hsp).mono ?_;rintro e w' ⟨x,he,γ',h1,h2,h3,rfl⟩;simp only [ZQ] at h3;have hmo:GM (.bor cs) []=EM cs:=rfl;rw [hmo] at h1 h2;generalize hX':(⟨fun _=>False,fun b=>DR X γ st.o b∧∀ m∈EU vs,¬ RowOf γ st.o m b⟩:Zone)=X' at h1 h2;have hXo:∀ b,¬ X'.own b:=fun b hb=>by rw [← hX'] at hb; exact hb
 have hz:=(NC st.o (match IC cs with | true=>EU vs | false=>[]) (FrzLe.refl _) h).1;have hPf:∀ b,FA γ' (EM cs) b→w.heap.size≤b∧b < w'.heap.size:=fun b hb=>by
  obtain ⟨q1,q2⟩:=h1.lt b hb;exact ⟨q2.resolve_right (hXo b),q1⟩
 have hp:=qW hz hXo h1 (fun b=>X.far b∨FA γ' (EM cs) b) (fun b hb=>hb.imp_right (hPf b));obtain ⟨br1,br2,br3⟩:=vJ h3 h1;have hO1:∀ b,DR ⟨X.own,fun b=>X.far b∨FA γ' (EM cs) b⟩ γ (st.ups (EJ st.o (match IC cs with | true=>EU vs | false=>[]))).o b→(IC cs=true→DR X' γ' (EM cs) b):=by
  intro b hb hal;rw [hal] at hb;have key:DR X γ (st.ups (EJ st.o (EU vs))).o b∨FA γ' (EM cs) b:=by
   rcases hb with hb | hb | hb
   ·exact .inl (.inl hb)
   ·exact .inl (.inr hb)
   ·exact .inr hb
  rcases key with hb | hb
  ·have:=eG h _ hb
   exact .inr (by rw [← hX']; exact this)
  ·exact .inl hb
 obtain ⟨γd,F',r1,r2,r3,r4,r5,r6⟩:=iE (B':=B.base) (g:=fun j=>γ' (900001+j)) (1000*(d+1)) cs 0 (by omega) hp hO1 (fun j e ag ks l hj=>by
   rw [BI];obtain ⟨q1,q2⟩:=br1 γ j e ag ks l hj;exact ⟨q1,fun b hb=>⟨.inr (q2 b hb),.inl (C1 h.keep.size (hPf b (q2 b hb)).1)⟩⟩)
  (fun i j e ag ks l e' ag' ks' l' b hij q1 q2 q3 q4=>by
   rw [BI] at q3 q4;exact br2 i j e ag ks l e' ag' ks' l' b hij q1 q2 q3 q4)
 simp only [C9,BI] at r1 r3 r4 r5 r6;have hob0:DN (EM cs) 900000=some (.box (GL 900001 cs)):=by rw [ZB h3,EG,BP rfl]
 have hor:=h1.ob _ _ hob0;simp only [ObRel] at hor;obtain ⟨b0,c,T,hg,hh,hr⟩:=hor;have hb0P:FA γ' (EM cs) b0:=⟨900000,_,hob0,⟨_,hg,rfl⟩⟩;have hadd:=r1.add d hd9 (.box (GL (1000*(d+1)) cs)) (γ' 900000) (fun b hb=>by
   obtain ⟨ad,q1,q2⟩:=hb;rw [hg] at q1;simp only [C0,AC] at q1;subst q1;simp only at q2;subst q2;exact ⟨r3 b0 (.inr hb0P) (fun j e ag ks l hj hb=>br3 j e ag ks l b0 hj hb ⟨_,hob0,_,hg,rfl⟩),.inl (C1 h.keep.size (hPf b0 hb0P).1)⟩)
  (fun O' hO'=>by
   simp only [ObRel];refine ⟨b0,c,T,hg,hh,yU h3 h1 hr (fun j e ag ks l hj=>?_) (fun hal b _ hb=>hO1 b (r4 b (hO' b hb)) hal)⟩;obtain ⟨q1,q2⟩:=r5 j e ag ks l hj;refine ⟨by rw [BD (by omega)]; exact q1,?_⟩;rw [GN,BD (by omega),q2];rfl)
 have hfin:=hadd.shrink (F:=X.far) (fun b hb=>by
   have hlt:=h.fl b hb;refine ⟨r3 b (.inl hb) (fun j e ag ks l hj hbj=>?_),fun hbb=>?_⟩
   ·have:=hPf b ((br1 γ j e ag ks l hj).2 b hbj)
    omega
   ·obtain ⟨ad,q1,q2⟩:=hbb;rw [hg] at q1;simp only [C0,AC] at q1;subst q1;simp only at q2;subst q2
    have:=hPf b0 hb0P
    omega)
 refine ⟨x,he,_,by rw [LL,LL]; exact hfin,?_⟩;rw [LL,LL];simp only [St.ups,VRel,GN,CQ];simp only [MV,EQ,VRel,hob0] at h2;exact h2
theorem Ug (h:Rel B nt w0 X γ st a w) (hg:GX B w0 X) {f:FuncId} {sp:T5} (hS:Snd P B f sp) {vs:List V} {xs:List Value} (hv:VRels γ st.o w (DR X γ st.o) vs xs) (hl:FS vs=[]) {tks:List (List Kd)} {e:Nat} {ag:Bool} {ks:List Kd} {l:LI} {out:List (List V)}
  (hsp:sp (GB st.o [] tks vs)=some (.vec e ag ks l,out)) (d:Nat) (hd9:d≠900000) :
  Does P f xs w fun e' w'=>∃ x,e' = .returned x∧∃ γ',Rel B nt w0 X γ' (st.ups (EJ st.o (EU vs)++[.new d (.row true e ag ks l)])) a w' ∧
   VRel γ' (st.ups (EJ st.o (EU vs)++[.new d (.row true e ag ks l)])).o w' (DR X γ' (st.ups (EJ st.o (EU vs)++[.new d (.row true e ag ks l)])).o) (.row d 0 l.length) x:=by
 refine (nB h hg hS hv hl hsp).mono ?_;rintro e' w' ⟨x,he,γ',h1,h2,h3,rfl⟩;have hmo:GM (.vec e ag ks l) []=[(900000,some (.row true e ag ks l))]:=rfl;rw [hmo] at h1 h2;generalize hX':(⟨fun _=>False,fun b=>DR X γ st.o b∧∀ m∈EU vs,¬ RowOf γ st.o m b⟩:Zone)=X' at h1 h2;have hXo:∀ b,¬ X'.own b:=fun b hb=>by rw [← hX'] at hb; exact hb
 have hz:=(NC st.o (EU vs) (FrzLe.refl _) h).1;have hPf:∀ b,FA γ' [(900000,some (.row true e ag ks l))] b→w.heap.size≤b∧b < w'.heap.size:=fun b hb=>by
  obtain ⟨q1,q2⟩:=h1.lt b hb;exact ⟨q2.resolve_right (hXo b),q1⟩
 have hp:=qW hz hXo h1 (fun b=>X.far b∨FA γ' [(900000,some (.row true e ag ks l))] b) (fun b hb=>hb.imp_right (hPf b));have hO1:∀ b,DR ⟨X.own,fun b=>X.far b∨FA γ' [(900000,some (.row true e ag ks l))] b⟩ γ (st.ups (EJ st.o (EU vs))).o b→DR X' γ' [(900000,some (.row true e ag ks l))] b:=by
  intro b hb;have key:DR X γ (st.ups (EJ st.o (EU vs))).o b∨FA γ' [(900000,some (.row true e ag ks l))] b:=by
   rcases hb with hb | hb | hb
   ·exact .inl (.inl hb)
   ·exact .inl (.inr hb)
   ·exact .inr hb
  rcases key with hb | hb
  ·have:=eG h _ hb
   exact .inr (by rw [← hX']; exact this)
  ·exact .inl hb
 have hob0:DN [(900000,some (.row true e ag ks l))] 900000=some (.row true e ag ks l):=by rw [EG,BP rfl]
 have hor:=h1.ob _ _ hob0;simp only [ObRel] at hor;obtain ⟨k1,k2,ys,k3,k4⟩:=hor;have hg0:∀ b,FC (γ' 900000) (.row true e ag ks l) b→FA γ' [(900000,some (.row true e ag ks l))] b:=fun b hb=>⟨900000,_,hob0,hb⟩
 have hadd:=hp.add d hd9 (.row true e ag ks l) (γ' 900000) (fun b hb=>⟨.inr (hg0 b hb),.inl (C1 h.keep.size (hPf b (hg0 b hb)).1)⟩)
  (fun O' hO'=>by
   simp only [ObRel];exact ⟨k1,k2,ys,k3,fun i y hy=>Kd.RelAll.mono (Keep.refl _ w') (fun b _ hb=>hO1 b (hO' b hb)) (fun _ _ hu=>hu) (k4 i y hy)⟩)
 have hfin:=hadd.shrink (F:=X.far) (fun b hb=>by
   have hlt:=h.fl b hb;refine ⟨.inl hb,fun hbb=>?_⟩
   have:=hPf b (hg0 b hbb)
   omega)
 refine ⟨x,he,_,by rw [LL]; exact hfin,?_⟩;rw [LL];simp only [St.ups,VRel,GN,CQ];simp only [MV,VRel,hob0] at h2;exact h2
end
open Go Go.RowKit
mutual
theorem VRel.leaves {γ γ':Nat→Value} {o o':Store} {w:World} {O:Nat→Prop} (h1:∀ n lo hi x,VRel γ o w O (.row n lo hi) x→VRel γ' o' w O (.row n lo hi) x) (h2:∀ n i c x,VRel γ o w O (.ptr n i c) x→VRel γ' o' w O (.ptr n i c) x)
  (h3:∀ n c cap sz len x,VRel γ o w O (.bview n c cap sz len) x→VRel γ' o' w O (.bview n c cap sz len) x):∀ {v:V} {x:Value},VRel γ o w O v x→VRel γ' o' w O v x
 | .any,_,_=>by simp only [VRel]
 | .int _ _,_,h=>by simpa only [VRel] using h
 | .bool _,_,h=>by simpa only [VRel] using h
 | .str _,_,h=>by simpa only [VRel] using h
 | .list _ _ _,_,h=>by simpa only [VRel] using h
 | .zs,_,h=>by simpa only [VRel] using h
 | .row _ _ _,_,h=>h1 _ _ _ _ h
 | .ptr _ _ _,_,h=>h2 _ _ _ _ h
 | .iptr _ _ _,_,h=>by simpa only [VRel] using h
 | .bview _ _ _ _ _,_,h=>h3 _ _ _ _ _ _ h
 | .agg l,x,h=>by
  simp only [VRel] at h ⊢;obtain ⟨cs,hx,hr⟩:=h;exact ⟨cs,hx,VRels.leaves h1 h2 h3 hr⟩
 | .tup l,x,h=>by
  simp only [VRel] at h ⊢;obtain ⟨cs,hx,hr⟩:=h;exact ⟨cs,hx,VRels.leaves h1 h2 h3 hr⟩
 | .err _,_,h=>by simpa only [VRel] using h
 | .nilp,_,h=>by simpa only [VRel] using h
 | .clo _ l,x,h=>by
  simp only [VRel] at h ⊢;obtain ⟨cs,hx,hr⟩:=h;exact ⟨cs,hx,VRels.leaves h1 h2 h3 hr⟩
 | .bor _,_,h=>by simp only [VRel] at h
 | .vec _ _ _ _,_,h=>by simp only [VRel] at h
 | .bld _,_,h=>by simp only [VRel] at h
theorem VRels.leaves {γ γ':Nat→Value} {o o':Store} {w:World} {O:Nat→Prop} (h1:∀ n lo hi x,VRel γ o w O (.row n lo hi) x→VRel γ' o' w O (.row n lo hi) x) (h2:∀ n i c x,VRel γ o w O (.ptr n i c) x→VRel γ' o' w O (.ptr n i c) x)
  (h3:∀ n c cap sz len x,VRel γ o w O (.bview n c cap sz len) x→VRel γ' o' w O (.bview n c cap sz len) x):∀ {l:List V} {xs:List Value},VRels γ o w O l xs→VRels γ' o' w O l xs
 | [],[],_=>by simp only [VRels]
 | [],_ :: _,h=>by simp only [VRels] at h
 | _ :: _,[],h=>by simp only [VRels] at h
 | v :: vs,x :: xs,h=>by
  simp only [VRels] at h ⊢;exact ⟨VRel.leaves h1 h2 h3 h.1,VRels.leaves h1 h2 h3 h.2⟩
end
section
variable {B:BT} {nt:Nat} {w0:World} {X:Zone} {γ:Nat→Value} {st st':St} {a:Act} {w:World} {P:Program} {E:Env}
theorem Bs:∀ (hs:List Nat) {st:St} {X:Zone},Rel B nt w0 X γ st a w →
  Rel B nt w0 ⟨X.own,fun b=>X.far b∨∃ m∈hs,E4 γ st.o m b⟩ γ (st.ups (LZ hs)) a w∧(st.ups (LZ hs)).t=st.t∧∀ m,DN (st.ups (LZ hs)).o m=if m∈hs then none else DN st.o m
 | [],st,X,h=>⟨h.shrink (fun b hb=>by simpa using hb),rfl,fun m=>by simp [LZ,St.ups]⟩
 | n :: r,st,X,h=>by
  obtain ⟨h1,h2,h3⟩:=Bs r (h.kill n);have hob:∀ m,DN (st.up (.kill n)).o m=if n=m then none else DN st.o m:=fun m=>by simp only [St.up,EG]
  refine ⟨?_,h2,fun m=>?_⟩
  ·simp only [LZ,St.ups];refine h1.shrink (fun b hb=>?_);rcases hb with hb | ⟨m,hm,hb⟩
   ·exact .inl (.inl hb)
   ·by_cases e:n=m
    ·subst e;exact .inl (.inr hb)
    ·rcases AP.1 hm with h4 | h4
     ·exact absurd h4.symm e
     ·obtain ⟨ob,p1,p2⟩:=hb;exact .inr ⟨m,h4,ob,by rw [hob,BD e]; exact p1,p2⟩
  ·simp only [LZ,St.ups];rw [h3,hob];by_cases h4:m∈r
   ·simp [h4]
   ·by_cases h5:n=m
    ·subst h5;simp
    ·have:¬ m=n:=fun e=>h5 e.symm
     simp [h4,h5,this]
theorem Ar (h:Rel B nt w0 X γ st a w) (ns:List Nat) {n:Nat} {ob:Ob} (ho:DN st.o n=some ob) (hb:∀ e ag ks l,ob≠.row true e ag ks l):DN (st.ups (EJ st.o ns)).o n=some ob:=by
 obtain ⟨_,h2,_⟩:=NC st.o ns (FrzLe.refl _) h;rcases h2 n with h3 | ⟨e,ag,ks,l,h3,_⟩
 ·rw [h3,ho]
 ·rw [ho,AC] at h3;exact absurd h3 (hb _ _ _ _)
theorem Rel.boundB (h:Rel B nt w0 X γ st a w) {n:Nat} {s:BA} (ho:DN st.o n=some (.bld s)) {w1:World} {own1 F:Nat→Prop} (hk:Keep own1 w1 w)
  (hF:∀ b,F b→DR X γ st.o b∧¬ E4 γ st.o n b) (hown:∀ b,E4 γ st.o n b→w1.heap.size≤b∨own1 b) :
  Rel B.base 0 w1 ⟨own1,F⟩ (fun _=>γ n) ⟨[],EM [.bld s]⟩ JV w∧∀ b,FA (fun _=>γ n) (EM [.bld s]) b→E4 γ st.o n b:=by
 have hP:∀ b,FA (fun _=>γ n) (EM [.bld s]) b→E4 γ st.o n b:=by
  rintro b ⟨m,ob,hm,hb⟩;simp only [EM] at hm;rw [EG] at hm;split at hm
  ·simp only [AC] at hm;subst hm;exact ⟨_,ho,hb⟩
  ·simp only [DN,E3] at hm; cases hm
 refine ⟨⟨rfl,rfl,fun i=>by simp only [St.get,E3,VRel],fun m ob hm=>?_,fun b hb=>?_,?_,hk,?_,?_,fun p hp=>by cases hp⟩,hP⟩
 ·simp only [EM] at hm;rw [EG] at hm;split at hm
  ·simp only [AC] at hm;subst hm
   have:=h.ob n _ ho
   simpa only [ObRel,BT.base] using this
  ·simp only [DN,E3] at hm; cases hm
 ·obtain ⟨ob,h1,h2⟩:=hP b hb;exact ⟨(h.lt b ⟨n,ob,h1,h2⟩).1,hown b (hP b hb)⟩
 ·intro m1 m2 ob1 ob2 b hne h1 h2 _ _;simp only [EM] at h1 h2;rw [EG] at h1 h2;split at h1
  ·split at h2
   ·omega
   ·simp only [DN,E3] at h2; cases h2
  ·simp only [DN,E3] at h1; cases h1
 ·intro b hb hf;exact (hF b hf).2 (hP b hb)
 ·intro b hb;rcases (hF b hb).1 with h1 | h1
  ·exact (h.lt b h1).1
  ·exact h.fl b h1
theorem Uc (h:Rel B nt w0 X γ st a w) (hg:GX B w0 X) {f:FuncId} {sp:T5} (hS:Snd P B f sp) {vs:List V} {xs:List Value} (hv:VRels γ st.o w (DR X γ st.o) vs xs) {n:Nat} (hl:FS vs=[n]) {s s':BA} (ho:DN st.o n=some (.bld s))
  {tks:List (List Kd)} {v:V} (hsp:sp (GB st.o [.bld s] tks vs)=some (v,[[.bld s']])) (hib:jT (GG (GB st.o [.bld s] tks vs))=true) :
  Does P f xs w fun e w'=>∃ x,e = .returned x∧∃ γ',Rel B nt w0 X γ' (st.ups (EJ st.o (match IG v with | true=>EU vs | false=>[])++[.set n (.bld s')])) a w' ∧
   VRel γ' (st.ups (EJ st.o (match IG v with | true=>EU vs | false=>[])++[.set n (.bld s')])).o w' (DR X γ' (st.ups (EJ st.o (match IG v with | true=>EU vs | false=>[])++[.set n (.bld s')])).o) v x:=by
 have hL:∀ b,E4 γ st.o n b→w.heap.size≤b∨E4 γ st.o n b:=fun b hb=>.inr hb
 obtain ⟨hR,hP⟩:=h.boundB ho (w1:=w) (own1:=E4 γ st.o n) (F:=fun b=>DR X γ st.o b∧¬ E4 γ st.o n b∧∀ m∈EU vs,¬ RowOf γ st.o m b) (Keep.refl _ w) (fun b hb=>⟨hb.1,hb.2.1⟩) hL;generalize hX':(⟨E4 γ st.o n,fun b=>DR X γ st.o b∧¬ E4 γ st.o n b∧∀ m∈EU vs,¬ RowOf γ st.o m b⟩:Zone)=X' at hR;have hXf:∀ b,X'.far b↔(DR X γ st.o b∧¬ E4 γ st.o n b∧∀ m∈EU vs,¬ RowOf γ st.o m b):=fun b=>by rw [← hX']
 have hXo:∀ b,X'.own b↔E4 γ st.o n b:=fun b=>by rw [← hX']
 have hnP:∀ b,E4 γ st.o n b→FA γ st.o b:=fun b ⟨ob,h1,h2⟩=>⟨n,ob,h1,h2⟩
 rcases (iO (o:=st.o) (bs:=[.bld s]) (l:=vs) (tks:=tks)).1 with hb | hb
 ·rw [hb] at hib;cases hib
 ·have hm:IU (GB st.o [.bld s] tks vs)=EM [.bld s]:=by simp only [IU,hb]
  have hcall:=hS w X' (fun _=>γ n) (GB st.o [.bld s] tks vs) xs v [[.bld s']] hsp (h.glob hg) (fun b hb=>h.high hg (hnP b ((hXo b).1 hb))) (by rw [hm]; exact hR) (by
   rw [hm];refine iK h (fun b _ hb=>?_) [.bld s] hv (fun m hm b hr hb=>?_) (fun m hm=>?_)
   ·rcases hb with hb | hb
    ·exact .inl (hnP b (hP b hb))
    ·exact ((hXf b).1 hb).1
   ·rcases hb with hb | hb
    ·obtain ⟨e,ag,ks,l,h5,h6⟩:=hr;obtain ⟨ob,h7,h8⟩:=hP b hb;have hne:n≠m:=by
      rintro rfl;rw [ho] at h5;cases h5
     exact h.dis n m ob _ b hne h7 h5 h8 h6
    ·exact ((hXf b).1 hb).2.2 m hm hr
   ·rw [hl] at hm;simp only [BM] at hm;subst hm;exact ⟨rfl,.inr ⟨s,s,ho,by simp [EM,EG]⟩⟩)
  refine hcall.mono ?_;rintro e w' ⟨x,he,γ',h1,h2,h3⟩;simp only [KN,hb] at h3;obtain ⟨hf,_,had⟩:=h3;have hmo:GM v [[.bld s']]=EM [.bld s']:=by cases v <;> rfl
  rw [hmo] at h1 h2;rw [U7 hf] at h2;refine ⟨x,he,?_⟩;generalize hF0:(match IG v with | true=>EU vs | false=>[])=F0;have hz:=(NC st.o F0 (FrzLe.refl _) h).1;have hon:=Ar h F0 ho (fun _ _ _ _=>by simp);have hob0:DN (EM [.bld s']) 900000=some (.bld s'):=by simp [EM,EG]
  have hor:=h1.ob _ _ hob0;have hor0:=h.ob _ _ ho;simp only [ObRel] at hor hor0;obtain ⟨b1,v1,p1,hg1,_⟩:=hor;obtain ⟨b0,v0,p0,hg0,_⟩:=hor0;have hbb:b1=b0:=by
   rw [hg1,hg0] at had;simpa [SI] using had
  subst hbb;have hbl:∀ b,E4 γ (st.ups (EJ st.o F0)).o n b↔E4 γ st.o n b:=fun b=>by simp only [E4,hon,ho]
  have hOP:∀ b,FC (γ' 900000) (.bld s') b→FA γ' (EM [.bld s']) b:=fun b hb=>⟨_,_,hob0,hb⟩
  have hsz:=h1.keep.size;have hlend:=hz.lend (n:=n) (ob':=.bld s') (g':=γ' 900000) hon had h1.keep (K:=X'.own) (fun b _ hb=>.inl ((hbl b).2 ((hXo b).1 hb)))
   (fun b hb=>by
    obtain ⟨q1,q2⟩:=h1.lt b (hOP b hb);exact ⟨q1,q2.elim .inr (fun hb=>.inl ((hbl b).2 ((hXo b).1 hb)))⟩)
   (fun O v x hvx=>VRel.leaves (fun m lo hi x hx=>by
     simp only [VRel] at hx ⊢;rw [EG];by_cases e:n=m
     ·subst e; simp only [CQ]
     ·simp only [BD e]; exact hx) (fun m i c x hx=>by
     simp only [VRel] at hx ⊢;rw [EG];by_cases e:n=m
     ·subst e;simp only [CQ];rw [hon] at hx;obtain ⟨rfl,b,v',hg,hxx⟩:=hx;rw [hg0] at hg;simp only [Value.tuple.injEq,Array.mk.injEq,vav,C0,AC,DH,B7] at hg;refine ⟨rfl,b1,v1,hg1,?_⟩;rw [hxx,hg.1]
     ·simp only [BD e]; exact hx) (fun m c cap sz len x hx=>by
     simp only [VRel] at hx ⊢;rw [EG];by_cases e:n=m
     ·subst e; simp only [CQ]
     ·simp only [BD e]; exact hx) hvx)
   (by
    have hor:=h1.ob _ _ hob0;simpa only [ObRel,BT.base] using hor)
  have hfin:=hlend.shrink (F:=X.far) (fun b hb=>⟨.inl hb,fun hbb=>by
   obtain ⟨q1,q2⟩:=h1.lt b (hOP b hbb)
   have:=h.fl b hb
   rcases q2 with q2 | q2
   ·omega
   ·exact h.nr b (hnP b ((hXo b).1 q2)) hb⟩)
  refine ⟨_,by rw [LL]; exact hfin,?_⟩;rw [LL];refine oP hf (fun hhl b hlt hb=>?_) h2;rw [hhl] at hF0;simp only at hF0;rcases hb with ⟨m,ob,hm,hbm⟩ | hb
  ·simp only [St.ups,St.up] at hm;rw [EG] at hm;by_cases e:n=m
   ·subst e;simp only [CQ,AC] at hm hbm;subst hm;exact .inl (hOP b hbm)
   ·simp only [BD e] at hm hbm;obtain ⟨q1,q2⟩:=eG h F0 (b:=b) (.inl ⟨m,ob,hm,hbm⟩);refine .inr ((hXf b).2 ⟨q1,fun hbn=>?_,by rw [hF0]; exact q2⟩);obtain ⟨ob2,q3,q4⟩:=(hbl b).2 hbn;exact hz.dis n m ob2 ob b e q3 hm q4 hbm
  ·refine .inr ((hXf b).2 ⟨.inr hb,fun hbn=>h.nr b (hnP b hbn) hb,fun m _ ⟨e,ag,ks,l,q1,q2⟩=>h.nr b ⟨m,_,q1,q2⟩ hb⟩)
theorem lC {o:Store} {all:List Nat} {n:Nat}:∀ {cs:List V},n∈H2 o all cs→∃ lo hi own e ag ks l,.row n lo hi∈cs∧DN o n=some (.row own e ag ks l)∧(own&&(BQ lo 0&&BQ (H0 n all) 1))=false
 | [],h=>by simp [H2] at h
 | v :: r,h=>by
  have up:n∈H2 o all r→∃ lo hi own e ag ks l,.row n lo hi∈v :: r∧DN o n=some (.row own e ag ks l)∧(own&&(BQ lo 0&&BQ (H0 n all) 1))=false:=fun h'=>by
   obtain ⟨lo,hi,own,e,ag,ks,l,h1,h2,h3⟩:=lC h';exact ⟨lo,hi,own,e,ag,ks,l,AY _ h1,h2,h3⟩
  cases v
  case row m lo hi=>
   simp only [H2] at h;split at h
   ·rename_i own e ag ks l hob;split at h
    ·exact up h
    ·rename_i hb;rcases AP.1 h with h1 | h1
     ·subst h1;exact ⟨lo,hi,own,e,ag,ks,l,AO ..,hob,hb⟩
     ·exact up h1
   ·exact up h
  all_goals exact up h
theorem Ud (h:Rel B nt w0 X γ st a w) (hg:GX B w0 X) {f:FuncId} {sp:T5} (hS:Snd P B f sp) {vs:List V} {xs:List Value} (hv:VRels γ st.o w (DR X γ st.o) vs xs) {n:Nat} (hl:FS vs=[n]) {cs:List V} (ho:DN st.o n=some (.box cs)) {all:List Nat} (hall:EV cs++EU vs=all)
  {tks:List (List Kd)} {v:V} {out:List V} (hsp:sp (GB st.o (cs.map (FJ st.o all)) tks vs)=some (v,[out])) (hib:jT (GG (GB st.o (cs.map (FJ st.o all)) tks vs))=true) {nm:Nat} (hlen:out.length=cs.length) (hnm:n < nm∨nm+out.length≤n) (hn9:nm+out.length≤900000) :
  Does P f xs w fun e w'=>∃ x,e = .returned x∧∃ γ',Rel B nt w0 X γ' (st.ups (EJ st.o (H2 st.o all cs++(match IG v||IC out with | true=>EU vs | false=>[])) ++
     (LZ (G3 st.o all cs)++(.set n (.box (NX cs)) :: (J9 nm out++[.set n (.box (GL nm out))]))))) a w' ∧
   VRel γ' (st.ups (EJ st.o (H2 st.o all cs++(match IG v||IC out with | true=>EU vs | false=>[])) ++
     (LZ (G3 st.o all cs)++(.set n (.box (NX cs)) :: (J9 nm out++[.set n (.box (GL nm out))]))))).o w' (DR X γ' (st.ups (EJ st.o (H2 st.o all cs++(match IG v||IC out with | true=>EU vs | false=>[])) ++
     (LZ (G3 st.o all cs)++(.set n (.box (NX cs)) :: (J9 nm out++[.set n (.box (GL nm out))]))))).o) v x:=by
 let L:Nat→Prop:=fun b=>E4 γ st.o n b∨∃ m∈G3 st.o all cs,E4 γ st.o m b
 have hLP:∀ b,L b→FA γ st.o b:=by
  rintro b (⟨ob,h1,h2⟩ | ⟨m,_,ob,h1,h2⟩)
  ·exact ⟨n,ob,h1,h2⟩
  ·exact ⟨m,ob,h1,h2⟩
 have hbound:=h.bound ho (EU vs) (w1:=w) (own1:=L) (F:=fun b=>DR X γ st.o b∧¬ L b∧(∀ m∈H2 st.o all cs,¬ E4 γ st.o m b)∧∀ m∈EU vs,¬ RowOf γ st.o m b) (Keep.refl _ w)
  (fun b hb=>⟨hb.1,fun h1=>hb.2.1 (.inl h1),fun m hm h1=>hb.2.1 (.inr ⟨m,by rw [← hall]; exact hm,h1⟩),by rw [hall]; exact hb.2.2.1⟩) (fun b hb=>.inr (by rw [hall] at hb; exact hb))
 rw [hall] at hbound;obtain ⟨γb,hR,hg0,hP⟩:=hbound;generalize hX':(⟨L,fun b=>DR X γ st.o b∧¬ L b∧(∀ m∈H2 st.o all cs,¬ E4 γ st.o m b)∧∀ m∈EU vs,¬ RowOf γ st.o m b⟩:Zone)=X' at hR;have hXf:∀ b,X'.far b↔(DR X γ st.o b∧¬ L b∧(∀ m∈H2 st.o all cs,¬ E4 γ st.o m b)∧∀ m∈EU vs,¬ RowOf γ st.o m b):=fun b=>by rw [← hX']
 have hXo:∀ b,X'.own b↔L b:=fun b=>by rw [← hX']
 have hb:GG (GB st.o (cs.map (FJ st.o all)) tks vs)=some (cs.map (FJ st.o all)):=by
  rcases (iO (o:=st.o) (bs:=cs.map (FJ st.o all)) (l:=vs) (tks:=tks)).1 with hb | hb
  ·rw [hb] at hib; cases hib
  ·exact hb
 have hm:IU (GB st.o (cs.map (FJ st.o all)) tks vs)=EM (cs.map (FJ st.o all)):=by simp only [IU,hb]
 have hargs:∀ m∈EU vs,∀ b,RowOf γ st.o m b→¬ L b:=by
  intro m hm b hr hLb;obtain ⟨e,ag,ks,l,h5,h6⟩:=hr;rcases hLb with ⟨ob,h7,h8⟩ | ⟨m2,h9,ob,h7,h8⟩
  ·have hne:n≠m:=by
    rintro rfl;rw [ho] at h5;cases h5
   exact h.dis n m ob _ b hne h7 h5 h8 h6
  ·by_cases hne:m2=m
   ·subst hne;obtain ⟨hi2,e2,ag2,ks2,l2,k1,k2,k3⟩:=SV.1 h9;rw [← hall,UX] at k3;have q1:=UY (XH k1);have q2:=UY hm;omega
   ·exact h.dis m2 m ob _ b hne h7 h5 h8 h6
 have hok0:∀ v,RM (FJ st.o all v)=true:=by
  intro v;rcases dW st.o all v with ⟨_,_,_,_,_,_,_,_,_,h1⟩ | ⟨h1,_⟩
  ·rw [h1]; rfl
  ·cases hcc:FJ st.o all v <;> first | rfl | (rw [hcc] at h1; cases h1)
 have hcall:=hS w X' γb (GB st.o (cs.map (FJ st.o all)) tks vs) xs v [out] hsp (h.glob hg) (fun b hb=>h.high hg (hLP b ((hXo b).1 hb))) (by rw [hm]; exact hR) (by
  rw [hm];refine iK h (fun b _ hb=>?_) _ hv (fun m hm b hr hb=>?_) (fun m hm=>?_)
  ·rcases hb with hb | hb
   ·exact .inl (hLP b (hP b hb))
   ·exact ((hXf b).1 hb).1
  ·rcases hb with hb | hb
   ·exact hargs m hm b hr (hP b hb)
   ·exact ((hXf b).1 hb).2.2.2 m hm hr
  ·rw [hl] at hm;simp only [BM] at hm;subst hm;exact ⟨hg0,.inl ⟨cs,_,ho,by rw [ZB (CR.2 (fun v hv=>by obtain ⟨u,_,rfl⟩:=CI.1 hv; exact hok0 u)),EG,BP rfl]⟩⟩)
 refine hcall.mono ?_;rintro e w' ⟨x,he,γ',h1,h2,h3⟩;simp only [KN,hb] at h3;obtain ⟨hf,hsk,had⟩:=h3;have hok:out.all RM=true:=by
  unfold r9 at hsk;split at hsk
  ·rename_i s s' hcs;cases cs with
   | nil=>simp at hcs
   | cons u r=>
    simp only [A0,vav] at hcs
    have:=hok0 u
    rw [hcs.1] at this;cases this
  ·cases hsk
  ·exact hsk
 have hmo:GM v [out]=EM out:=by cases v <;> rfl
 rw [hmo] at h1 h2;rw [U7 hf] at h2;refine ⟨x,he,?_⟩;generalize hF0:H2 st.o all cs++(match IG v||IC out with | true=>EU vs | false=>[])=F0;have hz:=(NC st.o F0 (FrzLe.refl _) h).1;have hzf:=(NC st.o F0 (FrzLe.refl _) h).2.1;have hon:=Ar h F0 ho (fun _ _ _ _=>by simp);obtain ⟨hk,hkt,hko⟩:=Bs (G3 st.o all cs) hz;have hnh:n ∉ G3 st.o all cs:=by
  intro hn;obtain ⟨_,_,_,_,_,_,q,_⟩:=SV.1 hn;rw [ho] at q;cases q
 have hon2:DN ((st.ups (EJ st.o F0)).ups (LZ (G3 st.o all cs))).o n=some (.box cs):=by rw [hko,BD hnh]; exact hon
 have hor0:=h.ob _ _ ho;simp only [ObRel] at hor0;obtain ⟨b0,c0,T0,hgn,hh0,hr0⟩:=hor0;have hob0:DN (EM out) 900000=some (.box (GL 900001 out)):=by rw [ZB hok,EG,BP rfl]
 have hor:=h1.ob _ _ hob0;simp only [ObRel] at hor;obtain ⟨b1,c,T,hg,hh,hr⟩:=hor;have hbb:b1=b0:=by
  rw [hg,hg0,hgn] at had;simpa [SI] using had
 subst hbb;have hg':γ' 900000=γ n:=by rw [hg,hgn]
 have hsz:=h1.keep.size;have hbn:∀ b,E4 γ st.o n b↔b=b1:=by
  intro b;constructor
  ·rintro ⟨ob,h5,h6⟩;rw [ho] at h5;cases h5;obtain ⟨ad,h7,h8⟩:=h6;rw [hgn] at h7;cases h7;exact h8.symm
  ·rintro rfl;exact ⟨_,ho,_,hgn,rfl⟩
 have hbn2:∀ b,E4 γ ((st.ups (EJ st.o F0)).ups (LZ (G3 st.o all cs))).o n b↔b=b1:=by
  intro b;rw [← hbn b];simp only [E4,hon2,ho]
 have hbx:∀ l b,FC (γ n) (.box l) b↔b=b1:=by
  intro l b;rw [← hbn b];simp only [E4,ho,AC,exists_eq_left',FC]
 have hhb:∀ m∈G3 st.o all cs,∀ b,E4 γ st.o m b→E4 γ (st.ups (EJ st.o F0)).o m b:=by
  rintro m hm b ⟨ob,h5,h6⟩;obtain ⟨hi2,e2,ag2,ks2,l2,k1,k2,k3⟩:=SV.1 hm;refine ⟨ob,?_,h6⟩;rw [(NC st.o F0 (FrzLe.refl _) h).2.2.2.2 m ?_]
  ·exact h5
  ·intro hmF;rw [← hF0] at hmF;rcases AX.1 hmF with h7 | h7
   ·obtain ⟨lo3,hi3,own3,e3,ag3,ks3,l3,q1,q2,q3⟩:=lC h7;obtain ⟨i1,hi1⟩:=List.mem_iff_getElem?.1 k1;obtain ⟨i2,hi2⟩:=List.mem_iff_getElem?.1 q1;rw [← hall,UX] at k3;rcases Nat.lt_trichotomy i1 i2 with hlt | hlt | hlt
    ·have:=XL hlt hi1 hi2
     omega
    ·subst hlt;rw [hi1] at hi2;simp only [AC,V.row.injEq,vaC] at hi2;obtain ⟨rfl,rfl⟩:=hi2;rw [k2] at q2;simp only [AC,Ob.row.injEq] at q2;obtain ⟨rfl,_⟩:=q2;rw [← hall,UX,k3] at q3;simp at q3
    ·have:=XL hlt hi2 hi1
     omega
   ·have q1:m∈EU vs:=by
     split at h7
     ·exact h7
     ·cases h7
    rw [← hall,UX] at k3
    have:=UY (XH k1)
    have:=UY q1
    omega
 have hlend:=hk.lend (n:=n) (ob':=.box (NX cs)) (g':=γ n) hon2 rfl h1.keep (K:=X'.own)
  (fun b hlt hb=>by
   have hLb:=(hXo b).1 hb;rcases hLb with h5 | ⟨m,h6,h7⟩
   ·exact .inl ((hbn2 b).2 ((hbn b).1 h5))
   ·refine .inr ⟨.inr ⟨m,h6,hhb m h6 b h7⟩,?_⟩;exact (h.lt b (hLP b (.inr ⟨m,h6,h7⟩))).2)
  (fun b hb=>by
   have:=(hbx _ b).1 hb
   subst this;exact ⟨CW (h.lt _ ⟨n,_,ho,(hbx _ _).2 rfl⟩).1 hsz,.inl ((hbn2 _).2 rfl)⟩)
  (fun O v x hvx=>by
   refine VRel.cmp ?_ hvx;intro m ob1 hm;refine ⟨by by_cases e:n=m <;> simp [e],?_⟩;rw [EG] at hm;by_cases e:n=m
   ·subst e;simp only [CQ,AC] at hm;subst hm;exact ⟨_,hon2,by simp [Ob.fits,YS]⟩
   ·rw [BD e] at hm;exact ⟨ob1,hm,ob1.fits_refl⟩)
  (by
   simp only [ObRel];refine ⟨b1,c,T,hgn,hh,?_⟩;have hcl:=hr.length;rw [YU,hlen] at hcl;refine VRels.of_get (by rw [YS,BG,hcl]) (fun j v x hv hx=>?_);rw [YS,B9] at hv;cases hcj:cs[j]? with
   | none=>rw [hcj] at hv; cases hv
   | some u=>
    rw [hcj] at hv;simp only [vaw,AC] at hv;subst hv;simp only [VRel])
 obtain ⟨br1,br2,br3⟩:=vJ hok h1;have hPf:∀ b,FA γ' (EM out) b→(w.heap.size≤b∧b < w'.heap.size)∨L b:=fun b hb=>by
  obtain ⟨q1,q2⟩:=h1.lt b hb;rcases q2 with q2 | q2
  ·exact .inl ⟨q2,q1⟩
  ·exact .inr ((hXo b).1 q2)
 have hb1P:FA γ' (EM out) b1:=⟨900000,_,hob0,⟨_,hg,rfl⟩⟩;have hLb1:L b1:=.inl ((hbn b1).2 rfl);have hsh:=hlend.shrink (F:=fun b=>(X.far b∨FA γ' (EM out) b)∧b≠b1) (fun b hb=>by
  refine ⟨?_,fun hbb=>hb.2 ((hbx _ b).1 hbb)⟩;rcases hb.1 with h5 | h5
  ·exact .inl (.inl h5)
  ·rcases hPf b h5 with h6 | h6 | ⟨m,h6,h7⟩
   ·exact .inr h6
   ·exact absurd ((hbn b).1 h6) hb.2
   ·exact .inl (.inr ⟨m,h6,hhb m h6 b h7⟩))
 have hfarX:∀ b,X.far b→X'.far b:=fun b hb=>(hXf b).2 ⟨.inr hb,fun hL=>h.nr b (hLP b hL) hb,fun m _ ⟨ob,q1,q2⟩=>h.nr b ⟨m,ob,q1,q2⟩ hb,fun m _ ⟨e,ag,ks,l,q1,q2⟩=>h.nr b ⟨m,_,q1,q2⟩ hb⟩
 have hO1:∀ b,DR ⟨X.own,fun b=>(X.far b∨FA γ' (EM out) b)∧b≠b1⟩ (fun m=>if n=m then γ n else γ m) (((st.ups (EJ st.o F0)).ups (LZ (G3 st.o all cs))).up (.set n (.box (NX cs)))).o b →
   ((IG v||IC out)=true→DR X' γ' (EM out) b):=by
  intro b hb hflag;rcases hb with ⟨m,ob,hm,hbm⟩ | ⟨hb | hb,_⟩
  ·simp only [St.up] at hm;rw [EG] at hm;by_cases e:n=m
   ·subst e;simp only [CQ,AC] at hm hbm;subst hm
    have:=(hbx _ b).1 hbm
    subst this;exact .inl hb1P
   ·simp only [BD e] at hm hbm;rw [hko] at hm;split at hm
    ·cases hm
    rename_i hmh;obtain ⟨q1,q2⟩:=eG h F0 (b:=b) (.inl ⟨m,ob,hm,hbm⟩);refine .inr ((hXf b).2 ⟨q1,fun hL=>?_,fun m' hm' hbl=>?_,fun m' hm'=>?_⟩)
    ·rcases hL with h5 | ⟨m2,h5,h6⟩
     ·obtain ⟨ob2,q3,q4⟩:E4 γ (st.ups (EJ st.o F0)).o n b:=⟨_,hon,(hbx _ b).2 ((hbn b).1 h5)⟩;exact hz.dis n m ob2 ob b e q3 hm q4 hbm
     ·obtain ⟨ob2,q3,q4⟩:=hhb m2 h5 b h6;exact hz.dis m2 m ob2 ob b (fun e=>hmh (e ▸ h5)) q3 hm q4 hbm
    ·obtain ⟨lo3,hi3,own3,e3,ag3,ks3,l3,p1,p2,p3⟩:=lC hm';obtain ⟨ob2,q3,q4⟩:=hbl;rw [p2,AC] at q3;subst q3;cases own3 with
     | false=>exact q4.elim
     | true=>exact q2 m' (by rw [← hF0]; exact vaL _ hm') ⟨e3,ag3,ks3,l3,p2,q4⟩
    ·refine q2 m' ?_;rw [← hF0,hflag];exact vaH _ hm'
  ·exact .inr (hfarX b hb)
  ·exact .inl hb
 have hrows:=iE (B':=B.base) (O1:=fun b=>IC out=true→DR X' γ' (EM out) b) (g:=fun j=>γ' (900001+j)) nm out 0 (by omega) hsh (fun b hb hal=>hO1 b hb (by simp [hal])) (fun j e ag ks l hj=>by
   rw [BI];obtain ⟨q1,q2⟩:=br1 (fun m=>if n=m then γ n else γ m) j e ag ks l hj;refine ⟨q1,fun b hb=>⟨⟨.inr (q2 b hb),?_⟩,?_⟩⟩
   ·rintro rfl;exact br3 j e ag ks l _ hj hb ⟨_,hob0,_,hg,rfl⟩
   ·rcases hPf b (q2 b hb) with h5 | h5
    ·exact .inl (C1 h.keep.size h5.1)
    ·exact (h.lt b (hLP b h5)).2)
  (fun i j e ag ks l e' ag' ks' l' b hij q1 q2 q3 q4=>by
   rw [BI] at q3 q4;exact br2 i j e ag ks l e' ag' ks' l' b hij q1 q2 q3 q4)
 obtain ⟨γ4,F4,r1,r2,r3,r4,r5,r6⟩:=hrows;simp only [C9,BI] at r1 r3 r4 r5 r6;obtain ⟨hγn,hobn,_⟩:=r6 n hnm;have hon4:=hobn cs (by simp only [St.up,EG,CQ]);simp only [CQ] at hγn;have hset:=r1.set (n:=n) (ob':=.box (GL nm out)) hon4 (by simp only [Ob.fits,YS,BG,YU,hlen]) (Keep.refl _ w') (fun b hb=>hb) (fun hown hcmp=>by
  simp only [ObRel];refine ⟨b1,c,T,by rw [hγn,hgn],hh,yU hok h1 hr (fun j e ag ks l hj=>?_) (fun hal b _ hb=>hO1 b (r4 b (hown b hb)) (by simp [hal]))⟩;obtain ⟨q1,q2⟩:=r5 j e ag ks l hj;refine ⟨q1,?_⟩;have hjl:j < out.length:=by
   rcases DD j out.length with h' | h'
   ·exact h'
   ·rw [B1 h'] at hj; cases hj
  rw [EG,BD (by omega)];exact q2)
 have hfin:=hset.shrink (F:=X.far) (fun b hb=>by
  refine r3 b ⟨.inl hb,fun e=>h.nr b (hLP b (e ▸ hLb1)) hb⟩ (fun j e ag ks l hj hbj=>?_);rcases hPf b ((br1 γ j e ag ks l hj).2 b hbj) with h5 | h5
  ·have:=h.fl b hb
   omega
  ·exact h.nr b (hLP b h5) hb)
 have hst:(st.ups (EJ st.o F0++(LZ (G3 st.o all cs)++(.set n (.box (NX cs)) :: (J9 nm out++[.set n (.box (GL nm out))]))))) =
   (((((st.ups (EJ st.o F0)).ups (LZ (G3 st.o all cs))).up (.set n (.box (NX cs)))).ups (J9 nm out)).up (.set n (.box (GL nm out)))):=by
  rw [LL,LL];simp only [St.ups];rw [LL];rfl
 rw [hst];refine ⟨_,hfin,oP hf (fun hhl b _ hb=>?_) h2⟩;rcases hb with ⟨m,ob,hm,hbm⟩ | hb
 ·simp only [St.up] at hm;rw [EG] at hm;refine hO1 b (r4 b (.inl ?_)) (by simp [hhl]);by_cases e:n=m
  ·subst e;simp only [CQ,AC] at hm;subst hm;exact ⟨n,_,hon4,hbm⟩
  ·rw [BD e] at hm;exact ⟨m,ob,hm,hbm⟩
 ·exact .inr (hfarX b hb)
end
open Go Go.RowKit
section
variable {B:BT} {nt:Nat} {w0:World} {X:Zone} {γ:Nat→Value} {st st':St} {a:Act} {w:World} {P:Program} {E:Env}
theorem yP (h:Rel B nt w0 X γ st a w) (hg:GX B w0 X) {f:FuncId} {sp:DV} (hS:Snd P B f (fun vs=>(sp vs).get)) {vs:List V} {xs:List Value} (hv:VRels γ st.o w (DR X γ st.o) vs xs) {d:Nat} (hd9:d≠900000) {tks:List (List Kd)} {v:V} {us:List Upd} (he:(UM st.o d tks sp vs).get=some (v,us)) :
  Does P f xs w fun e w'=>∃ x,e = .returned x∧∃ γ',Rel B nt w0 X γ' (st.ups us) a w'∧VRel γ' (st.ups us).o w' (DR X γ' (st.ups us).o) v x:=by
 unfold UM at he;split at he
 ·rename_i hl;obtain ⟨r,out,hsp,he⟩:=R.toT_get he;unfold dO at he;split at he
  ·split at he
   ·rename_i cs;split at he
    ·rename_i hc;simp only [T.get,AC,AV] at he;obtain ⟨rfl,rfl⟩:=he;exact Ue h hg hS hv hl hsp d hd9 (AN hc)
    ·simp [T.get] at he
   ·simp only [T.get,AC,AV] at he;obtain ⟨rfl,rfl⟩:=he;exact Ug h hg hS hv hl hsp d hd9
   ·rename_i hnb hnv;simp only [T.get,AC,AV] at he;obtain ⟨rfl,rfl⟩:=he;exact Uf h hg hS hv hl hsp hnb hnv
  ·simp [T.get] at he
 ·rename_i n hl;split at he
  ·rename_i cs ho;split at he
   ·rename_i hib;obtain ⟨r,outs,hsp,he⟩:=R.toT_get he;unfold dN at he;split at he
    ·split at he
     ·rename_i hc;simp only [T.get,AC,AV] at he;obtain ⟨rfl,rfl⟩:=he;simp only [AI,vap] at hc;refine Ud h hg hS hv hl ho rfl hsp hib (F1.1 hc.1) (hc.2.1.imp (fun h=>AN h) (fun h=>AN h)) (AN hc.2.2)
     ·simp [T.get] at he
    ·simp [T.get] at he
   ·simp [T.get] at he
  ·rename_i s ho;split at he
   ·rename_i hib;obtain ⟨r,outs,hsp,he⟩:=R.toT_get he;unfold dM at he;split at he
    ·simp only [T.get,AC,AV] at he;obtain ⟨rfl,rfl⟩:=he;exact Uc h hg hS hv hl ho hsp hib
    ·simp [T.get] at he
   ·simp [T.get] at he
  ·simp [T.get] at he
 ·simp [T.get] at he
def MK (l:LI):List Value:=l.map fun x=>Value.int .i64 x.toInt
def yT:V→Value
 | .int k n=>.int k n
 | _=>undef
def U6 (w:World) (v:Value):List V→List Value→Prop
 | [],[]=>True
 | [.clo f [.bor cs]],[y]=>∃ b c T,y = .func (.func f) #[] #[.pointer (some ⟨b,0,none⟩)]∧w.heap[b]?=some (.cells c T (0,0))∧c.toList=cs.map yT∧v.ownBlock≠some b
 | _,_=>False
def R7 (P:Program) (f:FuncId) (p:Ip):Prop:=
 ∀ (w:World) (v:Value) (l l':LI) (rs:List V) (ys:List Value),w.ownsRow 0 p.e 1 v l.length (MK l)→(∀ x∈l,AB.min≤x.toInt∧x.toInt≤AB.max)→l.length≤strMax →
  U6 w v rs ys→p.g rs l=some l' →
  Does P f (v :: ys) w fun e w'=>∃ x,e = .returned x∧w.grownBy w' v.ownBlock∧(∀ x∈l',AB.min≤x.toInt∧x.toInt≤AB.max) ∧
   (p.ret=true→w'.ownsRow 0 p.e 1 x l'.length (MK l')∧∀ b,x.ownBlock=some b→v.ownBlock=some b∨w.heap.size≤b) ∧
   (p.ret=false→w'.ownsRow 0 p.e 1 v l'.length (MK l'))
theorem Uo {w:World} {O:Nat→Prop} {l:LI} {xs:List Value} (hl:xs.length=l.length*1)
  (h:∀ i y,l[i]?=some y→Kd.RelAll w O [.z] (F6 false y) 0 (fun j u=>xs[i*1+j]?=some u)):xs=MK l∧∀ x∈l,AB.min≤x.toInt∧x.toInt≤AB.max:=by
 have one:∀ (i:Nat) (y:IV),l[i]?=some y→xs[i]?=some (.int .i64 y.toInt)∧AB.min≤y.toInt∧y.toInt≤AB.max:=fun i y hy=>by
  have:=h i y hy
  simp only [Kd.RelAll,F6,B7,Nat.mul_one,C9] at this;obtain ⟨u,hu,hk⟩:=this;simp only [Kd.Rel] at hk;rw [hu,hk.1];exact ⟨rfl,hk.2⟩
 constructor
 ·apply List.ext_getElem?;intro i;unfold MK;rw [B9];cases hy:l[i]? with
  | none=>
   rw [List.getElem?_eq_none_iff] at hy;rw [B1 (by omega)];rfl
  | some y=>rw [(one i y hy).1]; rfl
 ·intro x hx;obtain ⟨i,hi⟩:=List.getElem?_of_mem hx;exact (one i x hi).2
theorem o4 {w:World} {O:Nat→Prop} {l:LI} (h:∀ x∈l,AB.min≤x.toInt∧x.toInt≤AB.max) (i:Nat) (y:IV) (hy:l[i]?=some y) :
  Kd.RelAll w O [.z] (F6 false y) 0 (fun j u=>(MK l)[i*1+j]?=some u):=by
 simp only [Kd.RelAll,F6,B7,Nat.mul_one,C9];refine ⟨.int .i64 y.toInt,?_,?_⟩
 ·unfold MK;rw [B9,hy];rfl
 ·simp only [Kd.Rel];exact ⟨trivial,h y (vah hy)⟩
theorem Bl {γ:Nat→Value} {o:Store} {w:World} {O:Nat→Prop}:∀ {cs:List V} {xs:List Value},jP cs=true→VRels γ o w O cs xs→xs=cs.map yT
 | [],[],_,_=>rfl
 | [],_ :: _,_,h=>by simp only [VRels] at h
 | v :: cs,[],h,h'=>by simp only [VRels] at h'
 | v :: cs,x :: xs,h,h'=>by
  simp only [VRels] at h';unfold jP at h;split at h
  ·rename_i h0; cases h0
  ·rename_i n r h0;injection h0 with h1 h2
   subst h1 h2;have h3:=h'.1;simp only [VRel] at h3;rw [A0,← Bl h h'.2,h3.1];rfl
  ·cases h
theorem Hj (h:Rel B nt w0 X γ st a w) {v:Value} (hv:∀ m cs b,DN st.o m=some (.box cs)→FC (γ m) (.box cs) b→v.ownBlock≠some b) {rest rs:List V} {ys:List Value} (hr:VRels γ st.o w (DR X γ st.o) rest ys) (he:XA st.o rest=some rs):U6 w v rs ys:=by
 unfold XA at he;split at he
 ·simp only [AC] at he;subst he;cases ys with
  | nil=>trivial
  | cons y ys=>simp only [VRels] at hr
 ·rename_i f m i c;split at he
  ·rename_i cs hic ho;split at he
   ·rename_i hi;simp only [AC] at he;subst he;simp only [AI] at hic;obtain rfl:=F1.1 hic.1;obtain rfl:=F1.1 hic.2
    match ys,hr with
    | [y],hr=>
     simp only [VRels,B7] at hr;simp only [VRel] at hr;obtain ⟨cs',rfl,hc⟩:=hr;obtain ⟨b,c,T,hg,hh,hcs⟩:=h.ob m _ ho;have hc1:∃ x0,cs' = #[x0]∧x0 = .pointer (some ⟨b,0,none⟩):=by
      obtain ⟨l⟩:=cs'
      match l,hc with
      | [x0],hc=>
       simp only [VRels,B7,VRel,ho] at hc;obtain ⟨_,b',hb',rfl⟩:=hc;rw [hg] at hb';simp only [C0,AC,DH,B7] at hb';subst hb';exact ⟨_,rfl,rfl⟩
      | [],hc=>simp only [VRels] at hc
      | _ :: _ :: _,hc=>simp only [VRels,and_false] at hc
     obtain ⟨x0,rfl,rfl⟩:=hc1;exact ⟨b,c,T,rfl,hh,Bl hi hcs,hv m cs b ho ⟨_,hg,rfl⟩⟩
    | [],hr=>simp only [VRels] at hr
    | _ :: _ :: _,hr=>simp only [VRels,and_false] at hr
   ·cases he
  ·cases he
 ·cases he
theorem zb3 (h:Rel B nt w0 X γ st a w) {f:FuncId} {p:Ip} (hI:R7 P f p) {vs:List V} {xs:List Value} (hv:VRels γ st.o w (DR X γ st.o) vs xs) {d:Option Nat} (hd9:∀ d',d=some d'→d'≠900000) {v:V} {us:List Upd} (he:(ZH st.o d p vs).get=some (v,us)) :
  Does P f xs w fun e w'=>∃ x,e = .returned x∧∃ γ',Rel B nt w0 X γ' (st.ups us) a w'∧VRel γ' (st.ups us).o w' (DR X γ' (st.ups us).o) v x:=by
 unfold ZH at he;split at he
 ·rename_i n lo hi rest;cases xs with
  | nil=>simp only [VRels] at hv
  | cons sv ys=>
  simp only [VRels] at hv;obtain ⟨hs,hrest⟩:=hv;split at he
  ·rename_i e l rs hob hra;split at he
   ·rename_i hc;simp only [AI] at hc;obtain ⟨hc1,hc3,hc4⟩:=hc;have he2:=T.get_when he;clear he;obtain ⟨hc2,he⟩:=he2;obtain rfl:=F1.1 hc1;obtain rfl:=F1.1 hc2;obtain rfl:=F1.1 hc3;have he6:p.e < 1000000:=AN hc4;simp only [VRel,hob] at hs;obtain ⟨hlen,q,len,cap,q',hg,hvv,_,h2,h3,hm,_,h5⟩:=hs;rw [h5 rfl,va5,va5] at hvv;have hor:=h.ob n _ hob;simp only [ObRel] at hor;obtain ⟨hkp,hstr,xs,hx,hrx⟩:=hor;have hx':=hx.plain he6;have hlen':len=l.length:=by
     rcases hx'.2 with ⟨h6,h7⟩ | ⟨g,cap',cur,h6,_⟩
     ·rw [hg] at h6; simp only [CJ] at h6; omega
     ·rw [hg] at h6; simp only [CJ] at h6; exact h6.2.1
    subst hlen';have hsv:sv=γ n:=by rw [hvv,hg]
    subst hsv;obtain ⟨rfl,hrng⟩:=Uo hx.1 hrx;split at he
    ·rename_i l' hgl;have hrok:=Hj h (v:=γ n) (fun m cs b hm hb hne=>by
      have hnm:n≠m:=fun e=>by subst e; rw [hob] at hm; cases hm
      exact h.dis n m _ _ b hnm hob hm (by simp only [FC]; exact hne) hb) hrest hra
     have hdoes:=hI w (γ n) l l' rs ys hx' hrng hstr hrok hgl;split at he
     ·rename_i d' hret;obtain ⟨hk,he⟩:=T.get_when he;simp only [T.get,AC,AV] at he;obtain ⟨rfl,rfl⟩:=he;have hk:=AN hk;refine hdoes.mono ?_;rintro e w' ⟨x,rfl,hgrow,hrng',hr1,_⟩;obtain ⟨hown,hblk⟩:=hr1 hret;refine ⟨x,rfl,fun m=>if d'=m then x else γ m,?_,?_⟩
      ·refine Rel.new h [n] d' (hd9 d' rfl) (.row true p.e false [.z] l') x (Keep.grown hgrow (fun g hg'=>⟨n,by simp,_,hob,hg'⟩)) (fun b hb=>⟨(hown.lt b hb).2,?_⟩) (fun O' hO hcmp=>?_)
       ·rcases hblk b hb with h1 | h1
        ·exact .inr ⟨n,by simp,_,hob,h1⟩
        ·exact .inl h1
       ·simp only [ObRel];exact ⟨by simp,by omega,MK l',OwnRow.of hown he6,fun i y hy=>o4 hrng' i y hy⟩
      ·simp only [St.ups,St.up,VRel,EG,CQ];refine ⟨AZ _,?_⟩;rcases hown.2 with ⟨h6,h7⟩ | ⟨g,cap',cur,h6,_,_,h8,h9,_⟩
       ·refine ⟨none,0,0,none,h6,?_,B5 _,by omega,AZ _,by simp [maxLen],.inr rfl,fun _=>rfl⟩;rw [h6,h7]
       ·refine ⟨some ⟨g,0,none⟩,l'.length,cap',some ⟨g,0,none⟩,h6,by rw [h6]; simp,B5 _,AZ _,h8,h9,.inl ?_,fun _=>rfl⟩;simp [Addr.add]
     ·rename_i hret;obtain ⟨hk,he⟩:=T.get_when he;simp only [T.get,AC,AV] at he;obtain ⟨rfl,rfl⟩:=he;have hk:=F1.1 hk;refine hdoes.mono ?_;rintro e w' ⟨x,rfl,hgrow,hrng',_,hr2⟩;have hown:=hr2 hret;refine ⟨x,rfl,γ,?_,by simp only [VRel]⟩;refine Rel.set h (ob':=.row true p.e false [.z] l') hob ⟨rfl,hk.symm⟩ (Keep.grown hgrow (fun g hg'=>hg')) (fun b hb=>hb) (fun hO hcmp=>?_);simp only [ObRel];exact ⟨by simp,by omega,MK l',OwnRow.of hown he6,fun i y hy=>o4 hrng' i y hy⟩
     ·simp [T.get] at he
    ·simp [T.get] at he
   ·simp [T.get] at he
  ·simp [T.get] at he
 ·rename_i rest;cases xs with
  | nil=>simp only [VRels] at hv
  | cons sv ys=>
  simp only [VRels] at hv;obtain ⟨hs,hrest⟩:=hv;simp only [VRel] at hs;subst hs;split at he
  ·rename_i rs hra;split at he
   ·rename_i hgl;have hrok:=Hj h (v:=.slice none 0 0) (fun m cs b _ _ hne=>by simp [CC] at hne) hrest hra;have hdoes:=hI w (.slice none 0 0) [] [] rs ys (World.ownsRow_nil w 0 p.e _) (fun x hx=>by cases hx) (by simp) hrok hgl;split at he
    ·rename_i d' hret;obtain ⟨hk,he⟩:=T.get_when he;simp only [T.get,AC,AV] at he;obtain ⟨rfl,rfl⟩:=he;have he6:p.e < 1000000:=AN hk;refine hdoes.mono ?_;rintro e w' ⟨x,rfl,hgrow,hrng',hr1,_⟩;obtain ⟨hown,hblk⟩:=hr1 hret;refine ⟨x,rfl,fun m=>if d'=m then x else γ m,?_,?_⟩
     ·refine Rel.new h [] d' (hd9 d' rfl) (.row true p.e false [.z] []) x (Keep.grown hgrow (fun g hg'=>by simp [CC] at hg')) (fun b hb=>⟨(hown.lt b hb).2,?_⟩) (fun O' hO hcmp=>?_)
      ·rcases hblk b hb with h1 | h1
       ·simp [CC] at h1
       ·exact .inl h1
      ·simp only [ObRel];exact ⟨by simp,by simp,MK [],OwnRow.of hown he6,fun i y hy=>o4 hrng' i y hy⟩
     ·simp only [St.ups,St.up,VRel,EG,CQ];refine ⟨AZ _,?_⟩;rcases hown.2 with ⟨h6,h7⟩ | ⟨g,cap',cur,h6,_,_,h8,h9,_⟩
      ·refine ⟨none,0,0,none,h6,?_,B5 _,by omega,AZ _,by simp [maxLen],.inr rfl,fun _=>rfl⟩;rw [h6]
      ·refine ⟨some ⟨g,0,none⟩,0,cap',some ⟨g,0,none⟩,h6,by rw [h6]; simp,B5 _,AZ _,B5 _,h9,.inl ?_,fun _=>rfl⟩;simp [Addr.add]
    ·rename_i hret;simp only [T.get,AC,AV] at he;obtain ⟨rfl,rfl⟩:=he;refine hdoes.mono ?_;rintro e w' ⟨x,rfl,hgrow,_,_,_⟩;refine ⟨x,rfl,γ,Rel.world h (Keep.grown hgrow (fun g hg'=>by simp [CC] at hg')),by simp only [VRel]⟩
    ·simp [T.get] at he
   ·simp [T.get] at he
  ·simp [T.get] at he
 ·simp [T.get] at he
def SpOK (P:Program) (B:BT) (E:Env) (w0:World) (X:Zone):Prop:=GX B w0 X∧(∀ f sp,lk E.sp f=some sp→Snd P B f (fun vs=>(sp vs).get))∧∀ f p,lk E.ip f=some p→R7 P f p
theorem SpOK.get (h:SpOK P B E w0 X) (f:FuncId):Snd P B f (fun vs=>(E3 (fun _=>R.no) E.sp f vs).get):=by
 rw [ZN];cases hf:lk E.sp f with
 | none=>
  intro w X γ vs xs r out hsp;simp [R.get] at hsp
 | some sp=>exact h.2.1 f sp hf
theorem kP (h:Rel B nt w0 X γ st a w):∀ l:List Operand,VRels γ st.o w (DR X γ st.o) (JZ (opd st) l) (l.map a.eval)
 | []=>by simp only [JZ,CA,VRels]
 | x :: r=>by
  simp only [JZ,A0,VRels];exact ⟨F8 h x,kP h r⟩
theorem qK (o:Oper) {f:FuncId} {xs:List Value} {v:V} {us:List Upd} (hr:(execOp a.eval o).run P w=(callFunc f xs.toArray).run P w)
  (hd:Does P f xs w fun e w'=>∃ x,e = .returned x∧∃ γ',Rel B nt w0 X γ' (st.ups us) a w'∧VRel γ' (st.ups us).o w' (DR X γ' (st.ups us).o) v x):OpWp P B nt w0 X a w o st v us:=by
 intro K Q hK;unfold Oper.wp;rw [hr];unfold Does at hd;split at hd
 ·rename_i g args w' hc;rw [hc,Oper.upon_enter];refine hd.mono ?_;rintro e w'' ⟨x,rfl,γ',h1,h2⟩;exact hK γ' x w'' h1 h2
 ·rename_i x w' hc;rw [hc,Oper.upon_value];obtain ⟨x',he,γ',h1,h2⟩:=hd;cases he;exact hK γ' x w' h1 h2
 ·rename_i row args w' hc;rw [hc,Oper.upon_row];refine Rows.mono hd ?_;rintro x w'' ⟨x',he,γ',h1,h2⟩;cases he;exact hK γ' x w'' h1 h2
 ·exact hd.elim
theorem ze5 (hT:TiOK P B E) (hSp:SpOK P B E w0 X) (h:Rel B nt w0 X γ st a w) (o:Oper) (hd9:∀ d,o.dst=some d→d≠900000) {c:Call} (ho:o.op = .call c) {v:V} {us:List Upd}
  (he:(EF E st.o (opd st) o.dst o.op).get=some (v,us)):OpWp P B nt w0 X a w o st v us:=by
 obtain ⟨callee,args,ats⟩:=c;cases callee with
 | builtin b=>exact ze4 hT h o hd9 ho he
 | invoke recv name=>
  rw [ho] at he;simp only [EF,SN] at he;simp [T.get] at he
 | value x=>
  rw [ho] at he;obtain ⟨args⟩:=args;have clo:∀ (x:Operand),o.op = .call ⟨.value x,⟨args⟩,ats⟩→∀ d,o.dst=some d→(match opd st x with
    | .clo f caps=>match WX caps with
     | true=>UM st.o d (lV E ats.toList) (E3 (fun _=>R.no) E.sp f) (JZ (opd st) args++caps)
     | false=>.no
    | _=>.no).get=some (v,us)→OpWp P B nt w0 X a w o st v us:=by
   intro x ho d hd he;split at he
   ·rename_i f caps hclo;split at he
    case h_2=>simp [T.get] at he
    have hx:=F8 h x;rw [hclo] at hx;simp only [VRel] at hx;obtain ⟨cs,hx1,hx2⟩:=hx;have hrel:=yP h hSp.1 (hSp.get f) ((kP h args).append hx2) (hd9 d hd) he;refine qK o (xs:=args.map a.eval++cs.toList) ?_ hrel;obtain ⟨dst,op,type,pos,after,guard⟩:=o;simp only at ho;subst ho
    have:execOp a.eval { dst,op:=.call { callee:=.value x,args:=⟨args⟩,argTypes:=ats },type,pos,after,guard }=(do let d ← Deferred.ofValue (a.eval x) ((⟨args⟩:Array Operand).map a.eval); invoke d.target d.args):=rfl
    rw [this,hx1];have hla:(args.map a.eval).toArray++cs=(args.map a.eval++cs.toList).toArray:=by
     apply Array.ext';simp
    simp [Deferred.ofValue,invoke,hla]
   ·simp [T.get] at he
  cases x with
  | func f=>
   simp only [EF,SN,nA] at he;have hrun:∀ {f:Nat},o.op = .call ⟨.value (.func f),⟨args⟩,ats⟩→(execOp a.eval o).run P w=(callFunc f (args.map a.eval).toArray).run P w:=fun {f} ho=>by
    obtain ⟨dst,op,type,pos,after,guard⟩:=o;simp only at ho;subst ho
    have:execOp a.eval { dst,op:=.call { callee:=.value (.func f),args:=⟨args⟩,argTypes:=ats },type,pos,after,guard }=callFunc f (#[]++(⟨args⟩:Array Operand).map a.eval++#[]):=rfl
    rw [this];simp
   split at he
   ·rename_i p hp;exact qK o (xs:=args.map a.eval) (hrun ho) (zb3 h (hSp.2.2 f p hp) (kP h args) hd9 he)
   ·split at he
    ·rename_i d hd;exact qK o (xs:=args.map a.eval) (hrun ho) (yP h hSp.1 (hSp.get f) (kP h args) (hd9 d hd) he)
    ·simp [T.get] at he
  | tmp t=>
   simp only [EF,SN] at he;cases hd:o.dst with
   | none=>rw [hd] at he; simp [T.get] at he
   | some d=>rw [hd] at he; exact clo _ ho d hd he
  | const t=>
   simp only [EF,SN] at he;cases hd:o.dst with
   | none=>rw [hd] at he; simp [T.get] at he
   | some d=>rw [hd] at he; exact clo _ ho d hd he
  | global t=>
   simp only [EF,SN] at he;cases hd:o.dst with
   | none=>rw [hd] at he; simp [T.get] at he
   | some d=>rw [hd] at he; exact clo _ ho d hd he
theorem ze7 (hT:TiOK P B E) (h:Rel B nt w0 X γ st a w) (o:Oper) (hd9:∀ d,o.dst=some d→d≠900000) {s t:Nat} {x:Operand} (ho:o.op = .convert s t x) {v:V} {u:Upd} {us:List Upd}
  (he:(EF E st.o (opd st) o.dst o.op).get=some (v,u :: us)):OpWp P B nt w0 X a w o st v (u :: us):=by
 have hx:=F8 h x;rw [ho] at he;simp only [EF] at he;split at he
 ·split at he
  ·simp [T.get] at he
  ·simp [T.get] at he
 ·rename_i b hop;rw [hop] at hx;simp only [VRel] at hx;split at he
  ·simp [T.get] at he
  ·rename_i e k1 kss hd hks hkss;split at he
   ·rename_i d hdst hde hkse;simp only [T.get,AC,AV,vav] at he;obtain ⟨rfl,rfl,rfl⟩:=he;have hu1:=VA hT hd;obtain ⟨d',hd1',_,_⟩:=(hT.kinds (t:=s) (by rw [hkss]; simp)).und;obtain ⟨d'',hd1'',_,hd2''⟩:=(hT.kinds (t:=e) (by rw [hkse]; simp)).und;rw [hde] at hd2'';obtain rfl:=hd2''.1 _ hkse;have hrun:(execOp a.eval o).run P w = .ok (.value (.slice (some ⟨w.heap.size,0,none⟩) b.size (grownCap w b.size 0 e))) (vaO w e b):=by
     unfold execOp;simp only [ho,hx.1,CN,Lib.run_convert_string_bytes w s t e b hd1' hu1 hd1'',CB,CO]
    have hsm:=lO;have hcg:=grownCap_ge w b.size 0 e;have hcm:grownCap w b.size 0 e≤maxLen:=grownCap_le_maxLen w b.size 0 e (C1 hx.2 hsm);have hcs:(Lib.bytesCells w e b).size=grownCap w b.size 0 e:=by
     have:b.data.size=b.size:=rfl
     simp only [Lib.bytesCells,Array.size_append,Array.size_map,Array.size_replicate,this];omega
    have hkp:Keep (fun _=>False) w (vaO w e b):=by
     refine ⟨?_,?_,?_,by rw [Lib.bytesWorld_size]; omega,fun j hj _=>Lib.bytesWorld_at_old w e b j hj⟩
     ·simp [vaO,World.freeze]; rfl
     ·simp [vaO,World.freeze]
     ·simp [vaO,World.freeze]; rfl
    have hn:=Rel.new h [] d (hd9 d hdst) (.row true (e+1000000) false [.int .u8] (b.data.toList.map fun b=>.int (b.toNat:Int))) (.slice (some ⟨w.heap.size,0,none⟩) b.size (grownCap w b.size 0 e)) (w':=vaO w e b) (hkp.mono (fun _ _ h=>h.elim))
     (by
      intro b1 hb;simp only [FC,CC,AC] at hb;subst hb;rw [Lib.bytesWorld_size];exact ⟨by omega,.inl (AZ _)⟩)
     (by
      intro O' hO hcmp;simp only [ObRel];have hln:(b.data.toList.map fun b=>IV.int (b.toNat:Int)).length=b.size:=by simp
      refine ⟨by simp,by rw [hln]; exact hx.2,b.data.toList.map fun b=>.int .u8 b.toNat,?_,fun i y hy=>?_⟩
      ·rw [hln];refine ⟨by simp,.inr ⟨w.heap.size,grownCap w b.size 0 e,_,_,_,rfl,Lib.bytesWorld_at_new w e b,hcg,hcm,by rw [hcs]; simp,?_,.inr ⟨by omega,AZ _⟩⟩⟩;simp only [Lib.bytesCells,vai,AM,A6];rw [List.take_append_of_le_length (by simp)];rw [CV (by simp)];simp
      ·rw [B9] at hy;cases hbi:b.data.toList[i]? with
       | none=>rw [hbi] at hy; cases hy
       | some c=>
        rw [hbi] at hy;simp only [vaw,AC] at hy;subst hy;simp only [Kd.RelAll,F6,Kd.Rel,IV.toInt,AM,A6];refine ⟨⟨.int .u8 c.toNat,by simp [hbi],rfl,?_,?_⟩,trivial⟩
        ·simp [IntKind.min,vaj]
        ·have:=c.toNat_lt
         simp [IntKind.max,vaj,AR];omega)
    refine OpWp.value hrun hn ?_;simp only [St.ups,VRel,GN,CQ];refine ⟨by simp,some ⟨w.heap.size,0,none⟩,b.size,grownCap w b.size 0 e,some ⟨w.heap.size,0,none⟩,rfl,by simp,B5 _,AZ _,hcg,hcm,.inl ?_,fun _=>rfl⟩;simp [Addr.add]
   ·simp [T.get] at he
  ·simp [T.get] at he
 ·split at he
  ·split at he
   ·simp [T.get] at he
   ·simp [T.get] at he
  ·simp [T.get] at he
def BldOK (P:Program) (B:BT) (E:Env):Prop:=(E.tyd B.T).d = .bld→∃ i,P.info? B.T=some i∧i.zero=some (.agg #[.pointer none,.slice none 0 0])
theorem Eu (hT:TiOK P B E) (hE:∀ t,t∈E.eqs→EqSnd P t (E.tyd t).ks) (hSp:SpOK P B E w0 X) (hB:BldOK P B E) (h:Rel B nt w0 X γ st a w) (o:Oper) (hd9:∀ d,o.dst=some d→d≠900000) {v:V} {us:List Upd}
  (he:(EF E st.o (opd st) o.dst o.op).get=some (v,us)):OpWp P B nt w0 X a w o st v us:=by
 cases ho:o.op with
 | move x=>exact Et h o (.inl ho) he
 | assign x=>exact Et h o (.inr ho) he
 | pick c x y=>exact zfh h o ho he
 | alloc t=>exact zeZ hT h o hd9 ho hB he
 | box t x=>exact ze1 h o hd9 ho he
 | build t parts=>exact ze2 hT h o ho he
 | buildSlice t len parts=>exact ze3 hT h o hd9 ho he
 | load t x=>exact zfd hT h o ho he
 | store t p x=>exact zfj hT h o ho he
 | nilCheck x=>exact zfg h o ho he
 | binOp op t x y t'=>exact ze0 hT hE h o ho he
 | unOp op t x=>exact zfk h o ho he
 | convert s t x=>
  cases us with
  | nil=>exact ze6 hT h o ho he
  | cons u us=>exact ze7 hT h o hd9 ho he
 | makeFunc f first caps=>exact zfe h o ho he
 | makeSlice t n m=>exact zff hT h o hd9 ho he
 | slice t x lo hi mx=>exact zfi hT h o ho he
 | fieldAddr s x f=>exact zfa hT h o ho he
 | field t x f=>exact ze9 hT h o ho he
 | indexAddr t x ix=>exact zfc hT h o ho he
 | index t x ix=>exact zfb hT h o ho he
 | extract x i=>exact ze8 h o ho he
 | call c=>exact ze5 hT hSp h o hd9 ho he
 | _=>rw [ho] at he; simp [EF,T.get] at he
end
open Go Go.RowKit
theorem fZ:∀ {l:List V} {n:Nat},n∈FI l→n∈E7.go l
 | v :: r,n,h=>by
  simp only [FI,AX] at h;rcases h with h | h
  ·cases v <;> simp only [ET] at h <;> first | (cases h; done) | (simp only [E7.go,AX]; exact .inl h)
  ·cases v <;> simp only [E7.go,AX] <;> exact .inr (fZ h)
def Agree (o o':Store) (l:List Nat):Prop:=∀ n∈l,DN o' n=DN o n
theorem Agree.left {o o':Store} {l l':List Nat} (h:Agree o o' (l++l')):Agree o o' l:=fun n hn=>h n (vaL _ hn)
theorem Agree.right {o o':Store} {l l':List Nat} (h:Agree o o' (l++l')):Agree o o' l':=fun n hn=>h n (vaH _ hn)
theorem Em {o o':Store} {v:V} (h:Agree o o' (ET v)):LA o' v=LA o v:=by
 cases v <;> simp only [LA]
 all_goals rw [h _ (by simp [ET])]
theorem qE {o o':Store} {v:V} (h:Agree o o' (ET v)):RN o' v=RN o v:=by
 cases v <;> simp only [RN] <;> exact Em h
theorem qC {o o':Store}:∀ {l:List V},Agree o o' (FI l)→S3 o' l=S3 o l
 | [],_=>rfl
 | v :: r,h=>by simp only [S3,Em h.left,qC (l:=r) h.right]
theorem zU {o o':Store} {v:V} (h:Agree o o' (ET v)):ST o' v=ST o v:=by
 cases v <;> simp only [ST]
 rw [h _ (by simp [ET])]
theorem Iw {o o':Store} {v:V} (h:Agree o o' (ET v)):QD o' v=QD o v:=by
 cases v <;> simp only [QD]
 rw [h _ (by simp [ET])]
theorem zck {o o':Store} {k:Kd} {v:V} (h:Agree o o' (ET v)):RC o' k v=RC o k v:=by
 cases k <;> cases v <;> simp only [RC]
 rw [h _ (by simp [ET])]
theorem eY {o o':Store}:∀ {ks:List Kd} {l:List V},Agree o o' (FI l)→KC o' ks l=KC o ks l
 | [],[],_=>rfl
 | [],_ :: _,_=>rfl
 | _ :: _,[],_=>rfl
 | k :: ks,v :: r,h=>by simp only [KC,zck h.left,eY (l:=r) h.right]
theorem RQ {v:V} {n:Nat} (h:n∈ET v):n∈E7 v:=by
 cases v <;> simp only [ET] at h <;> first | exact h | cases h
theorem Vy {o o':Store} {ag:Bool} {ks:List Kd} {v:V} (h:Agree o o' (E7 v)):PY o' ag ks v=PY o ag ks v:=by
 cases ag with
 | false=>
  simp only [PY];rw [eY (o:=o) (o':=o') (fun n hn=>h n (RQ (by simpa [FI] using hn)))]
 | true=>
  cases v <;> simp only [PY]
  rw [eY h]
theorem Gz:∀ (a b:List V),FI (a++b)=FI a++FI b
 | [],b=>rfl
 | v :: r,b=>by simp [FI,Gz r b]
theorem Ha {l:List V} {v:V} {n:Nat} (hv:v∈l) (hn:n∈ET v):n∈FI l:=by
 induction l with
 | nil=>cases hv
 | cons u r ih=>
  simp only [FI,AX];rcases AP.1 hv with h | h
  ·subst h; exact .inl hn
  ·exact .inr (ih h)
theorem rN {l l':List V} (h:∀ v∈l,v∈l') {n:Nat} (hn:n∈FI l):n∈FI l':=by
 induction l with
 | nil=>simp [FI] at hn
 | cons u r ih=>
  simp only [FI,AX] at hn;rcases hn with hn | hn
  ·exact Ha (h u (AO ..)) hn
  ·exact ih (fun v hv=>h v (AY _ hv)) hn
theorem iT {o o':Store} {ag:Bool} {ks:List Kd} {sz:Nat}:∀ {n:Nat} {cs:List V},Agree o o' (FI cs)→M8 ag ks o' cs sz n=M8 ag ks o cs sz n
 | 0,cs,_=>rfl
 | n+1,cs,h=>by
  simp only [M8];rw [iT (n:=n) (cs:=MM cs sz) (fun m hm=>h m (by rw [Q6] at hm; exact rN (fun v hv=>va8 hv) hm))];cases ag with
  | true=>
   rw [Vy];intro m hm;simp only [E7,X3] at hm;exact h m (rN (fun v hv=>vaK hv) hm)
  | false=>
   simp only [PY];rw [eY (o:=o) (o':=o')];intro m hm;rw [fI] at hm;cases hc:cs[0]? with
   | none=>rw [hc] at hm; simp [FI,ET] at hm
   | some u=>
    rw [hc] at hm;simp only [vak,FI,DB] at hm;exact h m (Ha (vah hc) hm)
theorem XV {l:List V} {n:Nat} (h:n∈EV l):n∈FI l:=by
 induction l with
 | nil=>simp [EV] at h
 | cons v r ih=>
  simp only [FI,AX];cases v <;> simp only [EV,AP] at h <;> first | exact .inr (ih h) | skip
  rcases h with h | h
  ·exact .inl (by simp [ET,h])
  ·exact .inr (ih h)
theorem eE {o o':Store}:∀ {l:List Nat},Agree o o' l→EJ o' l=EJ o l
 | [],_=>rfl
 | n :: r,h=>by
  simp only [EJ];rw [h n (AO ..),eE (l:=r) (fun m hm=>h m (AY _ hm))]
theorem oJ {o o':Store} {place:Nat→Option (Nat × Nat)}:∀ {cs:List V} {l:List (Nat × V)},(∀ i v,(i,v)∈l→Agree o o' (E7 v))→LX o' place cs l=LX o place cs l
 | cs,[],_=>rfl
 | cs,(i,v) :: r,h=>by
  simp only [LX];have h1:RN o' v=RN o v:=qE (fun n hn=>h i v (AO ..) n (RQ hn));rw [h1];split
  ·split
   ·exact oJ (fun i v hv=>h i v (AY _ hv))
   ·rfl
  ·rfl
theorem iI {o o':Store} {d e:Nat} {ag:Bool} {ks:List Kd} {bytes:Nat} {s:V} {l:LI} (h:Agree o o' (ET s)):OQ o' d e ag ks bytes s l=OQ o d e ag ks bytes s l:=by
 cases s <;> simp only [OQ]
 rw [h _ (by simp [ET])]
theorem W4 {o:Store} {n m:Nat} {cs:List V}:∀ {l:List Nat},n∈l→DN o n=some (.box cs)→m∈FI cs→m∈KR o l
 | x :: r,hn,ho,hm=>by
  simp only [KR];rcases AP.1 hn with h | h
  ·subst h;rw [ho];exact vaL _ hm
  ·have:=W4 h ho hm
   split
   ·exact vaH _ this
   ·exact this
theorem So {o o':Store} {d et:Nat} {e:TI} {tk:List Kd} {s x:V} (h:Agree o o' (ET s)):YT o' d et e tk s x=YT o d et e tk s x:=by
 unfold YT;simp only [iI h]
theorem Sm {o o':Store} {d et:Nat} {e:TI} {s x:V} (h:Agree o o' (ET s)) (h':Agree o o' (ET x++KR o (ET x))):WR o' d et e s x=WR o d et e s x:=by
 have gen:(match ST o' x,QD o' x with
   | some l,some (ag,ks)=>match JA (.list e.agg e.ks) (.list ag ks) with
    | true=>OQ o' d et e.agg e.ks e.bytes s l
    | false=>.no
   | _,_=>.no)=(match ST o x,QD o x with
   | some l,some (ag,ks)=>match JA (.list e.agg e.ks) (.list ag ks) with
    | true=>OQ o d et e.agg e.ks e.bytes s l
    | false=>.no
   | _,_=>.no):=by
  simp only [zU h'.left,Iw h'.left,iI h]
 cases x
 case bview n c cap sz len=>
  simp only [WR];rw [h' n (by simp [ET])];split
  ·rename_i cs ho;simp only [iI h];split
   ·congr 1
    funext m
    rw [iT (o:=o) (o':=o')];intro k hk;rw [Q6] at hk;exact h' k (vaH _ (W4 (by simp [ET]) ho (rN (fun v hv=>va8 hv) hk)))
   ·rfl
  ·rfl
 case zs=>simp only [WR,iI h]
 all_goals exact gen
theorem iJ {o o':Store} {bs:List V} {tk:Option Kd} {v:V} (h:Agree o o' (ET v)):ES o' bs tk v=ES o bs tk v:=by
 cases v <;> simp only [ES]
 all_goals rw [h _ (by simp [ET])]
theorem pK {o o':Store} {bs:List V}:∀ {l:List V} {ks:List Kd},Agree o o' (FI l)→L4 (fun k v=>J0 (ES o' bs k v)) ks l=L4 (fun k v=>J0 (ES o bs k v)) ks l
 | [],ks,_=>by cases ks <;> rfl
 | v :: l,[],h=>by simp only [L4,iJ h.left,pK (l:=l) h.right]
 | v :: l,k :: ks,h=>by simp only [L4,iJ h.left,pK (l:=l) h.right]
theorem Cv {o o':Store} {bs:List V} {tk:Option Kd}:∀ {l:List V},Agree o o' (FI l)→l.map (ES o' bs tk)=l.map (ES o bs tk)
 | [],_=>rfl
 | v :: l,h=>by simp only [A0,iJ h.left,Cv (l:=l) h.right]
theorem vB {o o':Store} {bs:List V} {ks:List Kd} {v:V} (h:Agree o o' (E7 v)):LP o' bs ks v=LP o bs ks v:=by
 by_cases ha:∃ l,v = .agg l
 ·obtain ⟨l,rfl⟩:=ha;simp only [LP,pK (o:=o) (o':=o') h]
 by_cases hc:∃ f l,v = .clo f l
 ·obtain ⟨f,l,rfl⟩:=hc;simp only [LP,Cv (o:=o) (o':=o') (l:=l) (fun n hn=>h n (fZ hn))]
 have h1:∀ o,LP o bs ks v=ES o bs ks.head? v:=by
  intro o;cases v <;> first | rfl | exact absurd ⟨_,rfl⟩ ha | exact absurd ⟨_,_,rfl⟩ hc
 rw [h1,h1];exact iJ (fun n hn=>h n (RQ hn))
theorem mQ {o o':Store} {bs:List V}:∀ {l:List V} {tks:List (List Kd)},Agree o o' (HB l)→GB o' bs tks l=GB o bs tks l
 | [],tks,_=>by cases tks <;> rfl
 | v :: l,[],h=>by simp only [GB,vB h.left,mQ (l:=l) h.right]
 | v :: l,t :: ts,h=>by simp only [GB,vB h.left,mQ (l:=l) h.right]
theorem Uk {o o':Store} {all:List Nat} {v:V} (h:Agree o o' (ET v)):FJ o' all v=FJ o all v:=by
 cases v <;> simp only [FJ]
 rw [h _ (by simp [ET])]
theorem Cw {o o':Store} {all:List Nat}:∀ {l:List V},Agree o o' (FI l)→l.map (FJ o' all)=l.map (FJ o all)
 | [],_=>rfl
 | v :: l,h=>by simp only [A0,Uk h.left,Cw (l:=l) h.right]
theorem Az {o o':Store} {all:List Nat}:∀ {l:List V},Agree o o' (FI l)→G3 o' all l=G3 o all l
 | [],_=>rfl
 | v :: l,h=>by
  have ih:=Az (all:=all) (l:=l) h.right;cases v <;> simp only [G3,ih]
  rw [h.left _ (by simp [ET])]
theorem Ix {o o':Store} {all:List Nat}:∀ {l:List V},Agree o o' (FI l)→H2 o' all l=H2 o all l
 | [],_=>rfl
 | v :: l,h=>by
  have ih:=Ix (all:=all) (l:=l) h.right;cases v <;> simp only [H2,ih]
  rw [h.left _ (by simp [ET])]
theorem zjb {v:V} {n:Nat} (h:n∈K0 v):n∈E7 v:=by
 cases v <;> simp only [K0] at h <;> try (cases h; done)
 case row=>simpa [E7,ET] using h
 case agg=>exact XV h
 case clo=>exact fZ (XV h)
 case tup l=>
  simp only [E7]
  induction l with
  | nil=>simp [K0.go] at h
  | cons v r ih=>
   cases v <;> simp only [K0.go,E7.go,AP,AX] at h ⊢ <;> first | exact .inr (ih h) | skip
   ·rcases h with h | h
    ·exact .inl (by simp [ET,h])
    ·exact .inr (ih h)
   ·rcases h with h | h
    ·exact .inl (XV h)
    ·exact .inr (ih h)
theorem uB:∀ {l:List V} {n:Nat},n∈EU l→n∈HB l
 | v :: l,n,h=>by
  simp only [EU,HB,AX] at h ⊢;exact h.imp zjb uB
theorem eZ:∀ {l:List V} {n:Nat},n∈FS l→n∈HB l
 | v :: l,n,h=>by
  simp only [HB,AX];cases v <;> simp only [FS,AP,AX] at h <;> first | exact .inr (eZ h) | skip
  ·rcases h with h | h
   ·exact .inl (by simp [E7,ET,h])
   ·exact .inr (eZ h)
  ·rename_i f caps;rcases h with h | h
   ·refine .inl ?_;simp only [E7];refine fZ ?_;clear eZ
    induction caps with
    | nil=>simp [FS.lentC] at h
    | cons v r ih=>
     simp only [FI,AX];cases v <;> simp only [FS.lentC,AP] at h <;> first | exact .inr (ih h) | skip
     rcases h with h | h
     ·exact .inl (by simp [ET,h])
     ·exact .inr (ih h)
   ·exact .inr (eZ h)
theorem yO {o o':Store} {d:Nat} {tks:List (List Kd)} {sp:DV} {vs:List V} (h:Agree o o' (HB vs++KR o (HB vs))):UM o' d tks sp vs=UM o d tks sp vs:=by
 have hA:∀ bs,GB o' bs tks vs=GB o bs tks vs:=fun bs=>mQ h.left
 have hF:∀ l,(∀ n∈l,n∈HB vs++KR o (HB vs))→EJ o' l=EJ o l:=fun l hl=>eE (fun n hn=>h n (hl n hn))
 have hFv:EJ o' (EU vs)=EJ o (EU vs):=hF _ (fun n hn=>vaL _ (uB hn));have hF0:EJ o' []=EJ o []:=rfl;have hPl:dO o' d vs=dO o d vs:=by
  funext v out
  unfold dO;split
  ·split
   ·rename_i cs;cases IC cs <;> simp only [hFv,hF0]
   ·simp only [hFv]
   ·cases IG v <;> simp only [hFv,hF0]
  ·rfl
 unfold UM;simp only [hA,hPl];split
 ·rfl
 ·rename_i n hl;have hn:n∈HB vs:=eZ (by rw [hl]; exact AO ..);rw [h n (vaL _ hn)];split
  ·rename_i cs ho;have hcs:Agree o o' (FI cs):=fun m hm=>h m (vaH _ (W4 hn ho hm))
   have hsh:∀ m∈H2 o (EV cs++EU vs) cs,m∈HB vs++KR o (HB vs):=by
    intro m hm;obtain ⟨lo,hi,_,_,_,_,_,h1,_⟩:=lC hm;exact vaH _ (W4 hn ho (XV (XH h1)))
   have hBx:dN o' d n cs vs=dN o d n cs vs:=by
    funext v outs
    unfold dN;rw [Az hcs,Ix hcs];split
    ·rename_i out;have h1:EJ o' (H2 o (EV cs++EU vs) cs++EU vs)=EJ o (H2 o (EV cs++EU vs) cs++EU vs):=hF _ (fun m hm=>(AX.1 hm).elim (hsh m) (fun hm=>vaL _ (uB hm)));have h2:EJ o' (H2 o (EV cs++EU vs) cs++[])=EJ o (H2 o (EV cs++EU vs) cs++[]):=hF _ (fun m hm=>hsh m (by simpa using hm));cases (IG v||IC out) <;> simp only [h1,h2]
    ·rfl
   rw [Cw hcs,hBx]
  ·have hBd:dM o' n vs=dM o n vs:=by
    funext v outs
    unfold dM;split
    ·cases IG v <;> simp only [hFv,hF0]
    ·rfl
   rw [hBd]
  ·rfl
 ·rfl
theorem Bm {o o':Store} {l:List V} (h:Agree o o' (HB l)):XA o' l=XA o l:=by
 unfold XA;split
 ·rfl
 ·rename_i f m i c;rw [h m (by simp [HB,E7,E7.go,ET])]
 ·rfl
theorem zb2 {o o':Store} {d:Option Nat} {p:Ip} {vs:List V} (h:Agree o o' (HB vs)):ZH o' d p vs=ZH o d p vs:=by
 unfold ZH;split
 ·rename_i n lo hi rest;rw [h n (by simp [HB,E7,ET]),Bm (fun k hk=>h k (by simp only [HB,AX]; exact .inr hk))]
 ·rename_i rest;rw [Bm (fun k hk=>h k (by simp only [HB,AX]; exact .inr hk))]
 ·rfl
theorem rI:∀ (cs:List V) (n:Nat) (vs:List V) {m:Nat},m∈FI (GZ cs n vs)→m∈FI cs∨m∈FI vs
 | cs,n,[],m,h=>by cases cs <;> cases n <;> exact .inl h
 | [],n,v :: vs,m,h=>by cases n <;> simp [GZ,FI] at h
 | c :: r,0,v :: vs,m,h=>by
  simp only [GZ,FI,AX] at h ⊢;rcases h with h | h
  ·exact .inr (.inl h)
  ·rcases rI r 0 vs h with h | h
   ·exact .inl (.inr h)
   ·exact .inr (.inr h)
 | c :: r,n+1,v :: vs,m,h=>by
  simp only [GZ,FI,AX] at h ⊢;rcases h with h | h
  ·exact .inl (.inl h)
  ·rcases rI r n (v :: vs) h with h | h
   ·exact .inl (.inr h)
   ·exact .inr (by simpa [FI] using h)
theorem yV {v:V} {m:Nat} (h:m∈FI (cells v)):m∈E7 v:=by
 by_cases ha:∃ l,v = .agg l
 ·obtain ⟨l,rfl⟩:=ha;exact h
 ·have:cells v=[v]:=by cases v <;> first | rfl | exact absurd ⟨_,rfl⟩ ha
  rw [this] at h;exact RQ (by simpa [FI] using h)
theorem ZZ {l:List V} {v:V} {n:Nat} (hv:v∈l) (hn:n∈E7 v):n∈HB l:=by
 induction l with
 | nil=>cases hv
 | cons u r ih=>
  simp only [HB,AX];rcases AP.1 hv with h | h
  ·subst h; exact .inl hn
  ·exact .inr (ih h)
theorem Ai {o:Store} {place:Nat→Option (Nat × Nat)}:∀ {l:List (Nat × V)} {cs cs':List V},LX o place cs l=some cs'→∀ m∈FI cs',m∈FI cs∨∃ i v,(i,v)∈l∧m∈E7 v
 | [],cs,cs',h,m,hm=>by
  simp only [LX,AC] at h;subst h;exact .inl hm
 | (i,v) :: r,cs,cs',h,m,hm=>by
  simp only [LX] at h;split at h
  ·split at h
   ·rcases Ai h m hm with h1 | ⟨j,u,h1,h2⟩
    ·rcases rI _ _ _ h1 with h2 | h2
     ·exact .inl h2
     ·exact .inr ⟨i,v,AO ..,yV h2⟩
    ·exact .inr ⟨j,u,AY _ h1,h2⟩
   ·cases h
  ·cases h
theorem Hh {z:List V}:∀ {n m:Nat},m∈FI (QA z n)→m∈FI z
 | 0,m,h=>by simp [QA,FI] at h
 | n+1,m,h=>by
  simp only [QA,Gz,AX] at h;exact h.elim id (Hh (n:=n))
theorem qJ (ρ:Operand→V):∀ {l:List (Nat × Operand)} {i:Nat} {v:V},(i,v)∈LC ρ l→v∈(l.map (·.2)).map ρ
 | (j,x) :: r,i,v,h=>by
  simp only [LC,AP,AV] at h;simp only [A0,AP];rcases h with ⟨_,rfl⟩ | h
  ·exact .inl rfl
  ·exact .inr (qJ ρ h)
theorem Hb:∀ {l:List V} {n:Nat},n∈HB l→∃ v∈l,n∈E7 v
 | v :: r,n,h=>by
  simp only [HB,AX] at h;rcases h with h | h
  ·exact ⟨v,AO ..,h⟩
  ·obtain ⟨u,h1,h2⟩:=Hb h;exact ⟨u,AY _ h1,h2⟩
theorem nW {o:Store} {m:Nat}:∀ {l:List Nat},m∈KR o l→∃ n∈l,∃ cs,DN o n=some (.box cs)∧m∈FI cs
 | n :: r,h=>by
  simp only [KR] at h;split at h
  ·rename_i cs ho;rcases AX.1 h with h | h
   ·exact ⟨n,AO ..,cs,ho,h⟩
   ·obtain ⟨k,h1,h2⟩:=nW h;exact ⟨k,AY _ h1,h2⟩
  ·obtain ⟨k,h1,h2⟩:=nW h;exact ⟨k,AY _ h1,h2⟩
theorem zO {o:Store} {l l':List Nat} (hs:∀ k∈l,k∈l') {n:Nat} (h:n∈KR o l):n∈KR o l':=by
 obtain ⟨k,h1,cs,h2,h3⟩:=nW h;exact W4 (hs k h1) h2 h3
theorem yR {v:V} {n:Nat}:∀ {l:List V},WX l=true→v∈l→n∈E7 v→n∈E7.go l
 | u :: r,hok,hv,hn=>by
  rcases AP.1 hv with h | h
  ·subst h;cases v <;> simp only [WX] at hok <;> first | (cases hok; done) | (simp only [E7,ET] at hn; simp only [E7.go,ET,AX]; first | exact .inl hn | (cases hn; done))
  ·have hr:WX r=true:=by cases u <;> simp only [WX] at hok <;> first | exact hok | (cases hok; done)
   have:=yR hr h hn
   cases u <;> simp only [E7.go,AX] <;> exact .inr this
theorem Ab {E:Env} {o o':Store} {ρ:Operand→V} {d:Option Nat} {op:Op} (h:Agree o o' (NK E o ρ op)):EF E o' ρ d op=EF E o ρ d op:=by
 cases hq:Gs op with
 | true=>cases op <;> first | rfl | cases hq
 | false=>
 unfold NK at h;rw [hq] at h;replace h:Agree o o' (kV E o ρ op):=h;unfold kV at h;have hz:=h.left.right;have hd:=h.right;have hv:=h.left.left;clear h;have one:∀ {x:Operand} {n:Nat},x∈op.operands.toList→n∈E7 (ρ x)→DN o' n=DN o n:=fun hx hn=>hv _ (ZZ (vaU hx) hn)
 have two:∀ {x:Operand} {n:Nat} {cs:List V},x∈op.operands.toList→n∈E7 (ρ x)→DN o n=some (.box cs)→Agree o o' (FI cs):=fun hx hn ho m hm=>hd _ (W4 (ZZ (vaU hx) hn) ho hm)
 cases op
 case box t x=>
  simp only [EF];rw [qE (fun n hn=>one (x:=x) (by simp [CU]) (RQ hn))]
 case build t parts=>
  have hp:∀ i v,(i,v)∈LC ρ parts.toList→Agree o o' (E7 v):=fun i v hm n hn=>hv _ (ZZ (by have:=qJ ρ hm; simpa [CU] using this) hn)
  simp only [EF,oJ hp]
 case buildSlice t len parts=>
  have hp:∀ i v,(i,v)∈LC ρ parts.toList→Agree o o' (E7 v):=fun i v hm n hn=>hv _ (ZZ (by have:=qJ ρ hm; simpa [CU] using this) hn)
  simp only [EF];split
  ·rename_i d e hd1;simp only [uN,hd1] at hz;rw [oJ hp];split
   ·rename_i cs hf;have hcs:Agree o o' (FI cs):=by
     intro m hm;rcases Ai hf m hm with h1 | ⟨i,v,h1,h2⟩
     ·exact hz m (Hh h1)
     ·exact hp i v h1 m h2
    rw [iT hcs,eE (fun m hm=>hcs m (XV hm))]
   ·rfl
  ·rfl
 case load t x=>
  simp only [EF];split
  ·rename_i n i c hx;rw [one (x:=x) (by simp [CU]) (by rw [hx]; simp [E7,ET])]
  ·rfl
  ·rfl
 case nilCheck x=>
  simp only [EF];split
  ·rename_i n i c hx;rw [one (x:=x) (by simp [CU]) (by rw [hx]; simp [E7,ET])]
  ·rfl
 case fieldAddr s x f=>
  simp only [EF];split
  ·split
   ·split
    ·rename_i n i c hx;rw [one (x:=x) (by simp [CU]) (by rw [hx]; simp [E7,ET])]
    ·rfl
    ·rfl
   ·rfl
  ·rfl
 case binOp op t x y t'=>
  simp only [EF];unfold iM;split <;> try rfl
  rename_i n i c hx hy;rw [one (x:=x) (by simp [CU]) (by rw [hx]; simp [E7,ET])]
 case convert s t x=>
  simp only [EF];split <;> try rfl
  rw [zU (fun n hn=>one (x:=x) (by simp [CU]) (RQ hn)),Iw (fun n hn=>one (x:=x) (by simp [CU]) (RQ hn))]
 case slice t x lo hi mx=>
  simp only [EF];split <;> try rfl
  ·rename_i n a b hx;rw [one (x:=x) (by simp [CU]) (by rw [hx]; simp [E7,ET])]
  ·rename_i n a c hx;rw [one (x:=x) (by simp [CU]) (by rw [hx]; simp [E7,ET])]
 case indexAddr t x ix=>
  simp only [EF];split
  ·split
   ·rfl
   ·rename_i n lo hi hx;rw [one (x:=x) (by simp [CU]) (by rw [hx]; simp [E7,ET])]
   ·rename_i n c cap sz len hx;rw [one (x:=x) (by simp [CU]) (by rw [hx]; simp [E7,ET])]
   ·rfl
  ·split
   ·rename_i n i0 c hx;rw [one (x:=x) (by simp [CU]) (by rw [hx]; simp [E7,ET])]
   ·rfl
   ·rfl
  ·rfl
 case store t p x=>
  simp only [EF];have hx:Agree o o' (E7 (ρ x)):=fun n hn=>one (x:=x) (by simp [CU]) hn
  have hc:Agree o o' (FI (cells (ρ x))):=fun n hn=>hx n (yV hn)
  unfold QG;split
  ·rename_i n i c hp;rw [one (x:=p) (by simp [CU]) (by rw [hp]; simp [E7,ET]),qE (fun n hn=>hx n (RQ hn)),qC hc,eE (fun m hm=>hc m (XV hm))];simp only [eY hc]
  ·rfl
 case makeSlice t n m=>
  simp only [EF];split
  ·rename_i d e k1 n1 k2 m1 hd1 _ _;simp only [uN,hd1] at hz;rw [iT hz];split
   ·rw [eE (fun m hm=>hz m (XV hm))]
   ·rfl
  ·rfl
 case call c=>
  obtain ⟨callee,args,ats⟩:=c;simp only [EF,SN];have hmem:∀ {x:Operand},x∈args.toList→x∈(Op.call ⟨callee,args,ats⟩).operands.toList:=fun {x} hx=>by
   simp only [CU,Call.operands,vai,AX];exact .inr hx
  have harg:∀ {x:Operand},x∈args.toList→Agree o o' (E7 (ρ x)):=fun {x} hx n hn=>one (x:=x) (hmem hx) hn
  have hdp:∀ {x:Operand},x∈args.toList→Agree o o' (ET (ρ x)++KR o (ET (ρ x))):=fun {x} hx n hn=>by
   rcases AX.1 hn with hn | hn
   ·exact harg hx n (RQ hn)
   ·refine hd n (zO (fun k hk=>ZZ (vaU (hmem hx)) (RQ hk)) hn)
  have hsub:∀ (l:List V),(∀ v∈l,∃ y∈(Op.call ⟨callee,args,ats⟩).operands.toList,∀ n∈E7 v,n∈E7 (ρ y))→Agree o o' (HB l++KR o (HB l)):=by
   intro l hl n hn;have h1:∀ k∈HB l,k∈HB ((Op.call ⟨callee,args,ats⟩).operands.toList.map ρ):=by
    intro k hk;obtain ⟨v,hv1,hv2⟩:=Hb hk;obtain ⟨y,hy1,hy2⟩:=hl v hv1;exact ZZ (vaU hy1) (hy2 k hv2)
   rcases AX.1 hn with hn | hn
   ·exact hv n (h1 n hn)
   ·exact hd n (zO h1 hn)
  split
  ·split
   ·rename_i x t hx _;have hxm:x∈args.toList:=by rw [hx]; simp
    have:=hdp hxm
    unfold j9;split <;> try rfl
    ·rename_i n lo hi hr;rw [this.left n (by rw [hr]; simp [ET])]
    ·rename_i n c cap sz len hr;rw [this.left n (by rw [hr]; simp [ET])]
   ·rfl
  ·split
   ·rename_i s x t t' hx _;have hsm:s∈args.toList:=by rw [hx]; simp
    have hxm:x∈args.toList:=by rw [hx]; simp
    simp only [Sm (hdp hsm).left (hdp hxm),So (hdp hsm).left]
   ·rfl
  ·split
   ·rename_i x y t t' hx _;have hxm:x∈args.toList:=by rw [hx]; simp
    have hym:y∈args.toList:=by rw [hx]; simp
    unfold iX;split
    ·rename_i n c cap sz len n' c' cap' sz' len' h1 h2;rw [(hdp hxm).left n (by rw [h1]; simp [ET]),(hdp hym).left n' (by rw [h2]; simp [ET])];split
     ·rename_i cs cs' e ho ho' hde;rw [qC (o:=o) (o':=o') (l:=cs') (fun m hm=>(hdp hym).right m (W4 (by rw [h2]; simp [ET]) ho' hm))]
     ·rfl
    ·rfl
   ·rfl
  ·rfl
  ·rfl
  ·rename_i f d hcal;have hs:=hsub (args.toList.map ρ) (fun v hv=>by
    obtain ⟨y,hy,rfl⟩:=CI.1 hv;exact ⟨y,hmem hy,fun n hn=>hn⟩)
   unfold nA;rw [fF];split
   ·rw [zb2 hs.left]
   ·split
    ·rw [yO hs]
    ·rfl
  ·split
   ·rename_i f caps hx;split
    ·rename_i hok;rw [fF,yO (hsub _ (fun v hv=>by
      rcases AX.1 hv with hv | hv
      ·obtain ⟨y,hy,rfl⟩:=CI.1 hv;exact ⟨y,hmem hy,fun n hn=>hn⟩
      ·refine ⟨_,by simp only [CU,Call.operands,vai,AX]; exact .inl (AO ..),fun n hn=>?_⟩;rw [hx];simp only [E7];exact yR hok hv hn))]
    ·rfl
   ·rfl
  ·rfl
 case makeFunc f a b=>cases f <;> rfl
 all_goals rfl
open Go Go.RowKit
theorem qH {ρ ρ':Operand→V}:∀ {l:List (Nat × Operand)},(∀ x∈l.map (·.2),ρ x=ρ' x)→LC ρ l=LC ρ' l
 | [],_=>rfl
 | (i,x) :: r,h=>by
  simp only [LC,h x (by simp),qH (l:=r) (fun y hy=>h y (AY _ hy))]
theorem pN {ρ ρ':Operand→V}:∀ {l:List Operand},(∀ x∈l,ρ x=ρ' x)→JZ ρ l=JZ ρ' l
 | [],_=>rfl
 | x :: r,h=>by simp only [JZ,h x (AO ..),pN (l:=r) (fun y hy=>h y (AY _ hy))]
theorem Ew {ρ ρ':Operand→V} {x:Option Operand} (h:∀ y∈x.toArray.toList,ρ y=ρ' y):x.map ρ=x.map ρ':=by
 cases x with
 | none=>rfl
 | some x=>simp only [vaw,h x (by simp)]
theorem Wi {E:Env} {o:Store} {ρ ρ':Operand→V} {d:Option Nat} {op:Op} (h:∀ x∈op.operands.toList,ρ x=ρ' x):EF E o ρ d op=EF E o ρ' d op:=by
 cases op
 case build t ps=>simp only [EF,qH (l:=ps.toList) (fun x hx=>h x (by simpa [CU] using hx))]
 case buildSlice t n ps=>simp only [EF,qH (l:=ps.toList) (fun x hx=>h x (by simpa [CU] using hx))]
 case makeFunc f first caps=>
  cases f <;> simp only [EF]
  rw [pN (l:=caps.toList) (fun x hx=>h x (by simp only [CU,vai,AX]; exact .inr hx))]
 case slice t x lo hi mx=>
  have h1:ρ x=ρ' x:=h x (by simp [CU]);have h2:lo.map ρ=lo.map ρ':=Ew (fun y hy=>h y (by simp only [CU,vai,AX]; exact .inl (.inl (.inr hy))));have h3:hi.map ρ=hi.map ρ':=Ew (fun y hy=>h y (by simp only [CU,vai,AX]; exact .inl (.inr hy)));simp only [EF,h1,h2,h3]
 case call c=>
  obtain ⟨callee,args,ats⟩:=c;have ha:∀ x∈args.toList,ρ x=ρ' x:=fun x hx=>h x (by simp only [CU,Call.operands,vai,AX]; exact .inr hx)
  have hm:JZ ρ args.toList=JZ ρ' args.toList:=pN ha;simp only [EF,SN];split
  ·split
   ·rename_i x t hx _;rw [ha x (by rw [hx]; simp)]
   ·rfl
  ·split
   ·rename_i s x t t' hx _;rw [ha s (by rw [hx]; simp),ha x (by rw [hx]; simp)]
   ·rfl
  ·split
   ·rename_i x y t t' hx _;rw [ha x (by rw [hx]; simp),ha y (by rw [hx]; simp)]
   ·rfl
  ·simp only [hm]
  ·simp only [hm]
  ·simp only [hm]
  ·rename_i x _ _;have hxx:ρ x=ρ' x:=h x (by simp [CU,Call.operands]);simp only [hm,hxx]
  ·rfl
 all_goals first
  | rfl
  | (simp only [CU] at h; simp only [EF]; simp (config:={decide:=false}) only [AP,BX,CP,forall_eq_or_imp,forall_eq] at h; simp only [h])
structure SEq (s s':St):Prop where
 t:∀ i,s.get i=s'.get i
 o:∀ n,DN s.o n=DN s'.o n
theorem SEq.refl (s:St):SEq s s:=⟨fun _=>rfl,fun _=>rfl⟩
theorem SEq.symm {s s':St} (h:SEq s s'):SEq s' s:=⟨fun i=>(h.t i).symm,fun n=>(h.o n).symm⟩
theorem SEq.trans {a b c:St} (h:SEq a b) (k:SEq b c):SEq a c:=⟨fun i=>(h.t i).trans (k.t i),fun n=>(h.o n).trans (k.o n)⟩
theorem SEq.opd {s s':St} (h:SEq s s'):opd s=opd s':=by
 funext x
 cases x <;> simp only [FM.opd,h.t]
theorem SEq.put {s s':St} (h:SEq s s') (d:Option Nat) (v:V):SEq (s.put d v) (s'.put d v):=by
 cases d with
 | none=>exact h
 | some d=>exact ⟨fun i=>by simp only [St.put,St.get,RD]; split <;> first | rfl | exact h.t i,h.o⟩
theorem Zl (s:St) (d:Nat) (v:V) (i:Nat):(s.put (some d) v).get i=if d=i then v else s.get i:=by simp only [St.put,St.get,RD]
theorem SEq.up {s s':St} (h:SEq s s') (u:Upd):SEq (s.up u) (s'.up u):=by
 cases u with
 | new n ob=>exact ⟨fun i=>by rw [eJ,eJ,h.t],fun m=>by rw [GN,GN,h.o]⟩
 | set n ob=>exact ⟨h.t,fun m=>by simp only [St.up,EG,h.o]⟩
 | kill n=>exact ⟨h.t,fun m=>by simp only [St.up,EG,h.o]⟩
theorem SEq.ups:∀ {us:List Upd} {s s':St},SEq s s'→SEq (s.ups us) (s'.ups us)
 | [],_,_,h=>h
 | u :: r,_,_,h=>SEq.ups (us:=r) (h.up u)
theorem SEq.lit {s:St} {j:Nat} {b:Bool} (h:s.get j = .bool b):SEq s (NE s j b):=
 ⟨fun i=>by
  simp only [NE,St.get,RD];split
  ·rename_i e; subst e; exact h
  ·rfl,fun _=>rfl⟩
theorem lX:∀ {us:List Upd} {o o':Store},(∀ n,DN o n=DN o' n)→∀ n,DN (JQ us o) n=DN (JQ us o') n
 | [],_,_,h=>h
 | .set m ob :: r,o,o',h=>lX (us:=r) (fun n=>by rw [EG,EG,h])
 | .new m ob :: r,o,o',h=>lX (us:=r) (fun n=>by rw [EG,EG,h])
 | .kill m :: r,o,o',h=>lX (us:=r) (fun n=>by rw [EG,EG,h])
theorem VF:∀ {us:List Upd} {o:Store} {n:Nat},n ∉ IX us→DN (JQ us o) n=DN o n
 | [],_,_,_=>rfl
 | .set m ob :: r,o,n,h=>by
  simp only [IX,AP,not_or] at h;rw [JQ,VF h.2,EG,BD (fun e=>h.1 e.symm)]
 | .new m ob :: r,o,n,h=>by
  simp only [IX,AP,not_or] at h;rw [JQ,VF h.2,EG,BD (fun e=>h.1 e.symm)]
 | .kill m :: r,o,n,h=>by
  simp only [IX,AP,not_or] at h;rw [JQ,VF h.2,EG,BD (fun e=>h.1 e.symm)]
theorem tX:∀ {us:List Upd} {o o':Store} {n:Nat},n∈IX us→DN (JQ us o) n=DN (JQ us o') n
 | [],_,_,_,h=>by simp [IX] at h
 | u :: r,o,o',n,h=>by
  by_cases hr:n∈IX r
  ·cases u <;> simp only [JQ] <;> exact tX hr
  ·cases u <;> simp only [IX,AP,hr,CP] at h <;> subst h <;> simp only [JQ] <;> rw [VF hr,VF hr,EG,EG,BP rfl,BP rfl]
theorem SEq.apD {s s':St} (h:SEq s s') (x:Dn):SEq (apD s x) (apD s' x):=⟨(h.put x.dst x.v).t,lX h.o⟩
theorem SEq.apDs:∀ {l:List Dn} {s s':St},SEq s s'→SEq (apDs s l) (apDs s' l)
 | [],_,_,h=>h
 | x :: r,_,_,h=>SEq.apDs (l:=r) (h.apD x)
theorem mN:∀ (l l':List Dn) (s:St),apDs s (l++l')=apDs (apDs s l) l'
 | [],_,_=>rfl
 | x :: r,l',s=>mN r l' (apD s x)
theorem Cg {n:Nat} {v:V} (hc:Y4 v=true) (hn:n ∉ ET v):FX.leaf n v=v:=by
 cases v <;> simp only [Y4] at hc <;> first | (cases hc; done) | rfl | skip
 ·simp only [ET,BM] at hn;simp only [FX.leaf,IN.2 (fun e=>hn e.symm)]
 ·simp only [ET,BM] at hn;simp only [FX.leaf,IN.2 (fun e=>hn e.symm)]
theorem j7 {n:Nat}:∀ {l:List V},Y5 l=true→n ∉ FI l→l.map (FX.leaf n)=l
 | [],_,_=>rfl
 | v :: r,hc,hn=>by
  simp only [Y5] at hc;split at hc
  ·rename_i h1;simp only [FI,AX,not_or] at hn;simp only [A0,Cg h1 hn.1,j7 hc hn.2]
  ·cases hc
theorem pG {n:Nat}:∀ {l:List V},PV.go l=true→n ∉ E7.go l→l.map (FX.leaf2 n)=l
 | [],_,_=>rfl
 | v :: r,hc,hn=>by
  by_cases ha:∃ l,v = .agg l
  ·obtain ⟨l,rfl⟩:=ha;simp only [PV.go] at hc;split at hc
   ·rename_i h1;simp only [E7.go,AX,not_or] at hn;simp only [A0,FX.leaf2,j7 h1 hn.1,pG hc hn.2]
   ·cases hc
  ·have h0:FX.leaf2 n v=FX.leaf n v:=by cases v <;> first | rfl | exact absurd ⟨_,rfl⟩ ha
   have h1:Y4 v=true∧PV.go r=true:=by
    cases v <;> simp only [PV.go,Y4] at hc ⊢ <;> first | (simp at hc; done) | (simpa using hc) | (cases hc; done) | exact absurd ⟨_,rfl⟩ ha
   have h2:n ∉ ET v∧n ∉ E7.go r:=by
    cases v <;> simp only [E7.go,AX,not_or] at hn <;> first | exact hn | exact absurd ⟨_,rfl⟩ ha
   simp only [A0,h0,Cg h1.1 h2.1,pG h1.2 h2.2]
theorem Il {n:Nat} {v:V} (hc:PV v=true) (hn:n ∉ E7 v):FX n v=v:=by
 cases v <;> simp only [PV] at hc <;> first | rfl | skip
 case row a b c=>simp only [E7,ET,BM] at hn; simp only [FX,IN.2 (fun e=>hn e.symm)]
 case ptr a b c=>simp only [E7,ET,BM] at hn; simp only [FX,IN.2 (fun e=>hn e.symm)]
 case bview a b c d e=>simp only [E7,ET,BM] at hn; simp only [FX,IN.2 (fun e=>hn e.symm)]
 case agg l=>simp only [FX,j7 hc hn]
 case tup l=>simp only [FX,pG hc hn]
 case clo f l=>
  have:n ∉ FI l:=fun h=>hn (fZ h)
  simp only [FX,j7 hc this]
theorem Im {n:Nat}:∀ {l:List V},iU l=true→n ∉ HB l→l.map (FX n)=l
 | [],_,_=>rfl
 | v :: r,hc,hn=>by
  simp only [iU] at hc;split at hc
  ·rename_i h1;simp only [HB,AX,not_or] at hn;simp only [A0,Il h1 hn.1,Im hc hn.2]
  ·cases hc
theorem lA {n:Nat} {ob:Ob} (hc:nH ob=true) (hn:n ∉ f3 ob):HT n (some ob)=some ob:=by
 cases ob with
 | box cs=>simp only [HT,Im hc hn]
 | row _ _ _ _ _=>rfl
 | bld _=>rfl
theorem Fb {p:Nat→Bool} {n:Nat} (hp:p n=true) (v:V):FX.leaf n (GR.leaf p v)=GR.leaf p v:=by
 cases v <;> simp only [GR.leaf] <;> first | rfl | skip
 all_goals
  rename_i m _ _;cases hm:p m with
  | true=>rfl
  | false=>
   simp only [FX.leaf];rw [IN.2 (fun e=>by subst e; rw [hp] at hm; cases hm)]
theorem kR {p:Nat→Bool} {n:Nat} (hp:p n=true):∀ (l:List V),(GR.go p l).map (FX.leaf n)=GR.go p l
 | []=>rfl
 | v :: r=>by simp only [GR.go,A0,Fb hp,kR hp r]
theorem zfp {p:Nat→Bool} {n:Nat} (hp:p n=true) (v:V):FX.leaf2 n (GR.leaf2 p v)=GR.leaf2 p v:=by
 by_cases ha:∃ l,v = .agg l
 ·obtain ⟨l,rfl⟩:=ha;simp only [GR.leaf2,FX.leaf2,kR hp]
 ·have h0:GR.leaf2 p v=GR.leaf p v:=by cases v <;> first | rfl | exact absurd ⟨_,rfl⟩ ha
  rw [h0]
  have:=Fb hp v
  cases hx:GR.leaf p v <;> rw [hx] at this <;> first | exact this | skip
  exfalso;cases v <;> simp only [GR.leaf] at hx <;> try (cases hx; done)
  all_goals (split at hx <;> cases hx)
theorem Fd {p:Nat→Bool} {n:Nat} (hp:p n=true):∀ (l:List V),(GR.go2 p l).map (FX.leaf2 n)=GR.go2 p l
 | []=>rfl
 | v :: r=>by simp only [GR.go2,A0,zfp hp,Fd hp r]
theorem Ff {p:Nat→Bool} {n:Nat} (hp:p n=true) (v:V):FX n (GR p v)=GR p v:=by
 have key:∀ m,p m=false→BQ m n=false:=fun m hm=>IN.2 (fun e=>by subst e; rw [hp] at hm; cases hm)
 cases v <;> simp only [GR] <;> try rfl
 case row m _ _=>cases hm:p m <;> simp only [FX,key m,hm]
 case ptr m _ _=>cases hm:p m <;> simp only [FX,key m,hm]
 case bview m _ _ _ _=>cases hm:p m <;> simp only [FX,key m,hm]
 case agg l=>simp only [FX,kR hp]
 case tup l=>simp only [FX,Fd hp]
 case clo f l=>simp only [FX,kR hp]
theorem kD (f:V→V):∀ l,L8.mapV f l=l.map f
 | []=>rfl
 | v :: r=>by simp only [L8.mapV,A0,kD f r]
theorem zfr {p:Nat→Bool} {n:Nat} (hp:p n=true) (x:Option Ob):HT n (L8 p x)=L8 p x:=by
 match x with
 | none=>rfl
 | some (.row _ _ _ _ _)=>rfl
 | some (.bld _)=>rfl
 | some (.box cs)=>
  simp only [L8,HT,kD,vaJ];congr 2;exact List.map_congr_left (fun v _=>Ff hp v)
structure Fr (n:Nat) (s:St):Prop where
 t:∀ i,FX n (s.get i)=s.get i
 o:∀ m,HT n (DN s.o m)=DN s.o m
theorem Fr.congr {n:Nat} {s s':St} (h:Fr n s) (e:SEq s s'):Fr n s':=⟨fun i=>by rw [← e.t]; exact h.t i,fun m=>by rw [← e.o]; exact h.o m⟩
theorem fH {n:Nat} {l:List Nat}:KE n l=false↔n ∉ l:=by
 rw [← fG]; simp
theorem Y9:∀ {l l':List Nat},SR l l'=true↔∀ n∈l,n ∉ l'
 | [],l'=>by simp [SR]
 | m :: r,l'=>by
  simp only [SR];cases hb:KE m l' with
  | true=>simp [fG.1 hb]
  | false=>simp [fH.1 hb,Y9 (l:=r)]
theorem lY:∀ {us:List Upd} {s:St},(∀ n∈O6 us,Fr n s)→PK us=true→SEq (s.ups us) ⟨s.t,JQ us s.o⟩
 | [],s,_,_=>SEq.refl s
 | .kill m :: r,s,hf,ho=>by
  simp only [St.ups,JQ];exact lY (us:=r) (s:=s.up (.kill m)) (fun n hn=>⟨(hf n hn).t,fun k=>by
   simp only [St.up,EG];split
   ·rfl
   ·exact (hf n hn).o k⟩) ho
 | .set m ob :: r,s,hf,ho=>by
  simp only [PK,AI] at ho;simp only [St.ups,JQ];exact lY (us:=r) (s:=s.up (.set m ob)) (fun n hn=>⟨(hf n hn).t,fun k=>by
   simp only [St.up,EG];split
   ·exact lA ho.1 (Y9.1 ho.2.1 n hn)
   ·exact (hf n hn).o k⟩) ho.2.2
 | .new m ob :: r,s,hf,ho=>by
  simp only [PK,AI] at ho;simp only [St.ups,JQ];have hm:Fr m s:=hf m (by simp [O6]);have e:SEq (s.up (.new m ob)) (s.up (.set m ob)):=⟨fun i=>by rw [eJ,hm.t]; rfl,fun k=>by rw [GN,hm.o]; simp only [St.up,EG]⟩;refine (e.ups (us:=r)).trans ?_;exact lY (us:=r) (s:=s.up (.set m ob)) (fun n hn=>⟨(hf n (by simp [O6,hn])).t,fun k=>by
   simp only [St.up,EG];split
   ·exact lA ho.1 (Y9.1 ho.2.1 n hn)
   ·exact (hf n (by simp [O6,hn])).o k⟩) ho.2.2
open Go Go.RowKit
def CmpP (p:Nat→Bool) (γ:Nat→Value) (o:Store) (γ':Nat→Value) (o':Store):Prop:=
 ∀ n ob',p n=false→DN o' n=some ob'→γ' n=γ n∧∃ ob,DN o n=some ob∧ob.fits ob'
section
variable {γ γ':Nat→Value} {o o':Store} {w:World} {O:Nat→Prop} {p:Nat→Bool}
theorem CmpP.but (hc:CmpP p γ o γ' o') {n:Nat} (hn:p n=false) {v:V} (hv:v = .any∨(∃ lo hi,v = .row n lo hi)∨(∃ i c,v = .ptr n i c)∨∃ c cap sz len,v = .bview n c cap sz len) {x:Value} (h:VRel γ o w O v x):VRel γ' o' w O v x:=by
 let f:Nat→Value:=fun m=>if m=n then γ' n else γ m
 rcases hv with rfl | ⟨lo,hi,rfl⟩ | ⟨i,c,rfl⟩ | ⟨c,cap,sz,len,rfl⟩
 ·simp only [VRel]
 ·simp only [VRel] at h ⊢;cases h':DN o' n with
  | none=>trivial
  | some ob'=>
   obtain ⟨hg,ob,ho,hf⟩:=hc n ob' hn h';rw [ho] at h;rw [hg];cases ob <;> cases ob' <;> simp only [Ob.fits] at hf <;> try trivial
   obtain ⟨rfl,hl⟩:=hf;exact ⟨by rw [← hl]; exact h.1,h.2⟩
 ·simp only [VRel] at h ⊢;cases h':DN o' n with
  | none=>trivial
  | some ob'=>
   obtain ⟨hg,ob,ho,hf⟩:=hc n ob' hn h';rw [ho] at h;rw [hg];cases ob <;> cases ob' <;> simp only [Ob.fits] at hf
   ·exact h
   ·obtain ⟨rfl,hl⟩:=hf;exact ⟨by rw [← hl]; exact h.1,h.2⟩
   ·exact h
 ·simp only [VRel] at h ⊢;cases h':DN o' n with
  | none=>trivial
  | some ob'=>
   obtain ⟨hg,ob,ho,hf⟩:=hc n ob' hn h';rw [ho] at h;rw [hg];cases ob <;> cases ob' <;> simp only [Ob.fits] at hf <;> try trivial
   exact ⟨h.1,h.2.1,by rw [← hf]; exact h.2.2.1,h.2.2.2⟩
theorem Fc (hc:CmpP p γ o γ' o') {v:V} {x:Value} (h:VRel γ o w O v x):VRel γ' o' w O (GR.leaf p v) x:=by
 cases v <;> simp only [GR.leaf]
 case row n lo hi=>
  cases hb:p n with
  | true=>simp only [VRel]
  | false=>exact hc.but hb (.inr (.inl ⟨_,_,rfl⟩)) h
 case ptr n i c=>
  cases hb:p n with
  | true=>simp only [VRel]
  | false=>exact hc.but hb (.inr (.inr (.inl ⟨_,_,rfl⟩))) h
 all_goals first
  | (simp only [VRel] at h ⊢; exact h)
  | simp only [VRel]
theorem kS (hc:CmpP p γ o γ' o'):∀ {l:List V} {xs:List Value},VRels γ o w O l xs→VRels γ' o' w O (GR.go p l) xs
 | [],[],_=>by simp only [GR.go,VRels]
 | [],_ :: _,h=>by simp only [VRels] at h
 | _ :: _,[],h=>by simp only [VRels] at h
 | v :: vs,x :: xs,h=>by
  simp only [VRels,GR.go] at h ⊢;exact ⟨Fc hc h.1,kS hc h.2⟩
theorem zfq (hc:CmpP p γ o γ' o') {v:V} {x:Value} (h:VRel γ o w O v x):VRel γ' o' w O (GR.leaf2 p v) x:=by
 cases v <;> simp only [GR.leaf2] <;> try exact Fc hc h
 simp only [VRel] at h ⊢;obtain ⟨cs,hx,hr⟩:=h;exact ⟨cs,hx,kS hc hr⟩
theorem Fe (hc:CmpP p γ o γ' o'):∀ {l:List V} {xs:List Value},VRels γ o w O l xs→VRels γ' o' w O (GR.go2 p l) xs
 | [],[],_=>by simp only [GR.go2,VRels]
 | [],_ :: _,h=>by simp only [VRels] at h
 | _ :: _,[],h=>by simp only [VRels] at h
 | v :: vs,x :: xs,h=>by
  simp only [VRels,GR.go2] at h ⊢;exact ⟨zfq hc h.1,Fe hc h.2⟩
theorem Fg (hc:CmpP p γ o γ' o') {v:V} {x:Value} (h:VRel γ o w O v x):VRel γ' o' w O (GR p v) x:=by
 cases v <;> simp only [GR]
 case row n lo hi=>
  cases hb:p n with
  | true=>simp only [VRel]
  | false=>exact hc.but hb (.inr (.inl ⟨_,_,rfl⟩)) h
 case ptr n i c=>
  cases hb:p n with
  | true=>simp only [VRel]
  | false=>exact hc.but hb (.inr (.inr (.inl ⟨_,_,rfl⟩))) h
 case bview n c cap sz len=>
  cases hb:p n with
  | true=>simp only [VRel]
  | false=>exact hc.but hb (.inr (.inr (.inr ⟨_,_,_,_,rfl⟩))) h
 case agg l=>
  simp only [VRel] at h ⊢;obtain ⟨cs,hx,hr⟩:=h;exact ⟨cs,hx,kS hc hr⟩
 case tup l=>
  simp only [VRel] at h ⊢;obtain ⟨cs,hx,hr⟩:=h;exact ⟨cs,hx,Fe hc hr⟩
 case clo f l=>
  simp only [VRel] at h ⊢;obtain ⟨cs,hx,hr⟩:=h;exact ⟨cs,hx,kS hc hr⟩
 all_goals (simp only [VRel] at h ⊢; try exact h)
theorem Fh (hc:CmpP p γ o γ' o'):∀ {l:List V} {xs:List Value},VRels γ o w O l xs→VRels γ' o' w O (l.map (GR p)) xs
 | [],[],_=>by simp only [CA,VRels]
 | [],_ :: _,h=>by simp only [VRels] at h
 | _ :: _,[],h=>by simp only [VRels] at h
 | v :: vs,x :: xs,h=>by
  simp only [VRels,A0] at h ⊢;exact ⟨Fg hc h.1,Fh hc h.2⟩
end
theorem nI (p:Nat→Bool):∀ (o:Store) (n:Nat),DN (Y6 p o) n=match p n with | true=>none | false=>L8 p (DN o n)
 | [],n=>by simp only [Y6,DN,E3]; cases p n <;> rfl
 | (m,x) :: r,n=>by
  simp only [Y6];by_cases e:m=n
  ·subst e;cases hp:p m <;> simp only [EG,CQ]
  ·cases hp:p m <;> simp only [EG,BD e,nI p r n]
theorem zgJ {p:Nat→Bool} {x:Option Ob} {ob:Ob} (h:L8 p x=some ob):∃ ob0,x=some ob0∧L8 p (some ob0)=some ob:=by
 cases x with
 | none=>simp [L8] at h
 | some ob0=>exact ⟨ob0,rfl,h⟩
theorem gC {p:Nat→Bool} {ob0 ob:Ob} (h:L8 p (some ob0)=some ob):ob0.fits ob∧∀ g b,FC g ob b↔FC g ob0 b:=by
 cases ob0 <;> simp only [L8,AC] at h <;> subst h
 ·exact ⟨by simp [Ob.fits,kD],fun _ _=>Iff.rfl⟩
 ·exact ⟨⟨rfl,rfl⟩,fun _ _=>Iff.rfl⟩
 ·exact ⟨trivial,fun _ _=>Iff.rfl⟩
section
variable {B:BT} {nt:Nat} {w0:World} {X:Zone} {γ:Nat→Value} {st st':St} {a:Act} {w:World} {P:Program} {E:Env}
theorem Rel.less (h:Rel B nt w0 X γ st a w) {st':St} (ht:∀ i,st'.get i=st.get i∨st'.get i = .any) (ho:∀ n ob,DN st'.o n=some ob→DN st.o n=some ob):Rel B nt w0 X γ st' a w:=by
 have hP:∀ b,FA γ st'.o b→FA γ st.o b:=fun b ⟨n,ob,h1,h2⟩=>⟨n,ob,ho n ob h1,h2⟩
 have hO:∀ b,b < w.heap.size→DR X γ st'.o b→DR X γ st.o b:=fun b _ hb=>hb.imp_left (hP b)
 have hc:Cmp γ st.o γ st'.o:=fun n ob hn=>⟨rfl,ob,ho n ob hn,ob.fits_refl⟩
 refine ⟨h.sz,h.df,fun i=>?_,fun n ob hn=>(h.ob n ob (ho n ob hn)).later (fun _ _=>rfl) (Keep.refl _ w) hO hc,fun b hb=>h.lt b (hP b hb),fun n m ob ob' b hne h1 h2=>h.dis n m ob ob' b hne (ho n ob h1) (ho m ob' h2),h.keep,fun b hb=>h.nr b (hP b hb),h.fl,fun p hp ob h1=>h.pn p hp ob (ho _ ob h1)⟩;rcases ht i with h1 | h1
 ·rw [h1];exact VRel.mono (Keep.refl _ w) hO (VRel.cmp hc (h.tm i))
 ·rw [h1];simp only [VRel]
theorem Rel.lit (h:Rel B nt w0 X γ st a w) {i:Nat} {v:V} (hv:st.get i=v):Rel B nt w0 X γ ⟨(i,v) :: st.t,st.o⟩ a w:=by
 refine h.less (fun j=>?_) (fun _ _ h=>h);simp only [St.get,RD];by_cases e:i=j
 ·subst e;simp only [CQ];exact .inl hv.symm
 ·simp only [BD e];exact .inl trivial
theorem d9:∀ (ops:List Oper) (j d:Nat),OV ops j=some d→(ops[j]?).bind (·.dst)=some d
 | [],j,d,h=>by simp [OV] at h
 | o :: r,0,d,h=>by simpa [OV] using h
 | o :: r,j+1,d,h=>by simpa [OV] using d9 r j d (by simpa [OV] using h)
theorem vS (h:Rel B nt w0 X γ st a w) {i:Nat} {c:Bool} (hv:st.get i = .bool c):a.tmps[i]?=some (.bool c):=by
 have:=h.tm i
 rw [hv] at this;simp only [VRel,vbq] at this;cases ht:a.tmps[i]? with
 | none=>rw [ht] at this; simp [undef] at this
 | some u=>rw [ht] at this; simp only [vak] at this; rw [this]
theorem Oa (h:Rel B nt w0 X γ st a w) {i:Nat} (hv:st.get i = .tup []):a.tmps[i]?=none∨a.tmps[i]?=some (.tuple #[]):=by
 have:=h.tm i
 rw [hv] at this;simp only [VRel,vbq] at this;obtain ⟨cs,h1,h2⟩:=this;cases hl:cs.toList with
 | nil=>
  have e:cs = #[]:=by simpa using hl
  rw [e] at h1;cases ht:a.tmps[i]? with
  | none=>exact .inl rfl
  | some u=>rw [ht] at h1; simp only [vak] at h1; rw [h1]; exact .inr rfl
 | cons x l=>rw [hl] at h2; simp only [VRels] at h2
theorem Rel.clear (h:Rel B nt w0 X γ st a w) (ds:List Nat):Rel B nt w0 X γ (M9 ds st) a w:=by
 have hget:∀ n ob,DN (M9 ds st).o n=some ob→OX ds n=false∧∃ ob0,DN st.o n=some ob0∧L8 (OX ds) (some ob0)=some ob:=by
  intro n ob hn;simp only [M9,nI] at hn;split at hn
  ·cases hn
  ·rename_i hp;exact ⟨hp,zgJ hn⟩
 have hP:∀ b,FA γ (M9 ds st).o b→FA γ st.o b:=by
  rintro b ⟨n,ob,h1,h2⟩;obtain ⟨_,ob0,h3,h4⟩:=hget n ob h1;exact ⟨n,ob0,h3,((gC h4).2 _ _).1 h2⟩
 have hO:∀ b,b < w.heap.size→DR X γ (M9 ds st).o b→DR X γ st.o b:=fun b _ hb=>hb.imp_left (hP b)
 have hc:CmpP (OX ds) γ st.o γ (M9 ds st).o:=by
  intro n ob' _ hn;obtain ⟨_,ob0,h3,h4⟩:=hget n ob' hn;exact ⟨rfl,ob0,h3,(gC h4).1⟩
 refine ⟨h.sz,h.df,fun i=>?_,fun n ob hn=>?_,fun b hb=>h.lt b (hP b hb),fun n m ob ob' b hne h1 h2 hb1 hb2=>?_,h.keep,fun b hb=>h.nr b (hP b hb),h.fl,fun p hp ob h1=>?_⟩
 ·have:(M9 ds st).get i=GR (OX ds) (st.get i):=by
   simp only [M9,St.get];exact fB _ _ rfl _ _
  rw [this];exact VRel.mono (Keep.refl _ w) hO (Fg hc (h.tm i))
 ·obtain ⟨_,ob0,h3,h4⟩:=hget n ob hn;have hor:=h.ob n ob0 h3;cases ob0 with
  | box l=>
   simp only [L8,AC] at h4;subst h4;simp only [ObRel] at hor ⊢;obtain ⟨b,c,T,hg,hh,hr⟩:=hor;rw [kD];exact ⟨b,c,T,hg,hh,VRels.mono (Keep.refl _ w) hO (Fh hc hr)⟩
  | row own e ag ks l=>
   simp only [L8,AC] at h4;subst h4;exact hor.later (fun _ _=>rfl) (Keep.refl _ w) hO (fun m ob1 hm=>by
    obtain ⟨_,ob0,h5,h6⟩:=hget m ob1 hm;exact ⟨rfl,ob0,h5,(gC h6).1⟩)
  | bld s=>
   simp only [L8,AC] at h4;subst h4;simpa only [ObRel] using hor
 ·obtain ⟨_,ob0,h3,h4⟩:=hget n ob h1;obtain ⟨_,ob1,h5,h6⟩:=hget m ob' h2;exact h.dis n m ob0 ob1 b hne h3 h5 (((gC h4).2 _ _).1 hb1) (((gC h6).2 _ _).1 hb2)
 ·obtain ⟨_,ob0,h3,_⟩:=hget _ ob h1;exact h.pn p hp ob0 h3
theorem Rel.seq (h:Rel B nt w0 X γ st a w) (e:SEq st st'):Rel B nt w0 X γ st' a w:=
 h.less (fun i=>.inl (e.t i).symm) (fun n ob hn=>by rw [e.o]; exact hn)
end
theorem Up {ds:List Nat} {n:Nat} (hn:OX ds n=true) (s:St):Fr n (M9 ds s):=by
 refine ⟨fun i=>?_,fun m=>?_⟩
 ·have:(M9 ds s).get i=GR (OX ds) (s.get i):=by
   simp only [M9,St.get];exact fB _ _ rfl _ _
  rw [this];exact Ff hn _
 ·simp only [M9,nI];split
  ·rfl
  ·exact zfr hn _
def StepOK (E:Env) (all:List Oper) (o:Oper) (s:St) (D:Dn):Prop:=
 P6 E o.dst=true∧D.dst=o.dst∧D.tm=MA all o ∧
 match o.guard with
 | none=>(EF E s.o (opd s) o.dst o.op).get=some (D.v,D.us)∧D.rd=NK E s.o (opd s) o.op
 | some (j,b)=>(∃ dj c,OV all j=some dj∧s.get dj = .bool c ∧
  ((c=b∧(EF E s.o (opd s) o.dst o.op).get=some (D.v,D.us)∧D.rd=NK E s.o (opd s) o.op)∨(c≠b∧D.v = .tup []∧D.us=[]))) ∨
  (∃ dj,OV all j=some dj∧s.get dj = .tup []∧D.v = .tup []∧D.us=[])
def Steps (E:Env) (all:List Oper):List Oper→St→List Dn→Prop
 | [],_,[]=>True
 | o :: r,s,D :: Ds=>StepOK E all o s D∧Steps E all r (apD s D) Ds
 | _,_,_=>False
theorem StepOK.congr {E:Env} {all:List Oper} {o:Oper} {s s':St} {D:Dn} (h:StepOK E all o s D) (e:SEq s s'):StepOK E all o s' D:=by
 have hag:∀ (ρ:Operand→V) d op,EF E s'.o ρ d op=EF E s.o ρ d op:=fun ρ d op=>Ab (fun n _=>(e.o n).symm)
 have hdp:∀ l,KR s'.o l=KR s.o l:=by
  intro l
  induction l with
  | nil=>rfl
  | cons n r ih=>simp only [KR,ih,e.o]
 have hrd:∀ (ρ:Operand→V) op,NK E s'.o ρ op=NK E s.o ρ op:=fun ρ op=>by unfold NK kV; rw [hdp]
 unfold StepOK at h ⊢;refine ⟨h.1,h.2.1,h.2.2.1,?_⟩;have h3:=h.2.2.2;rw [← e.opd];simp only [hag,hrd];split at h3
 ·exact h3
 ·rcases h3 with ⟨dj,c,h4,h5,h6⟩ | ⟨dj,h4,h5,h6⟩
  ·exact .inl ⟨dj,c,h4,by rw [← e.t]; exact h5,h6⟩
  ·exact .inr ⟨dj,h4,by rw [← e.t]; exact h5,h6⟩
theorem Steps.congr {E:Env} {all:List Oper}:∀ {l:List Oper} {s s':St} {Ds:List Dn},Steps E all l s Ds→SEq s s'→Steps E all l s' Ds
 | [],_,_,[],_,_=>trivial
 | [],_,_,_ :: _,h,_=>by simp [Steps] at h
 | _ :: _,_,_,[],h,_=>by simp [Steps] at h
 | o :: r,s,s',D :: Ds,h,e=>by
  simp only [Steps] at h ⊢;exact ⟨h.1.congr e,Steps.congr h.2 (e.apD D)⟩
theorem Aa {E:Env} {all:List Oper} {res:V × List (List V)}:∀ (l:List Oper) {s:St} {acc:List Dn} {k:List Dn→St→DO},P1 E all l s acc k=some res →
  ∃ Ds s',Steps E all l s Ds∧SEq s' (apDs s Ds)∧k (Ds.reverse++acc) s'=some res
 | [],s,acc,k,h=>⟨[],s,trivial,SEq.refl s,by simpa [P1] using h⟩
 | o :: r,s,acc,k,h=>by
  simp only [P1] at h;have hd:P6 E o.dst=true:=by
   cases hd:P6 E o.dst with
   | true=>rfl
   | false=>rw [hd] at h; cases h
  rw [hd] at h;simp only at h;have fin:∀ (s1:St) (D:Dn),SEq s s1→StepOK E all o s1 D→P1 E all r (apD s1 D) (D :: acc) k=some res →
    ∃ Ds s',Steps E all (o :: r) s Ds∧SEq s' (apDs s Ds)∧k (Ds.reverse++acc) s'=some res:=by
   intro s1 D e hs he;obtain ⟨Ds,s',h1,h2,h3⟩:=Aa r he;refine ⟨D :: Ds,s',⟨hs.congr e.symm,h1.congr (e.symm.apD D)⟩,h2.trans ((e.symm.apD D).apDs),?_⟩;simpa using h3
  split at h
  ·rename_i hg;obtain ⟨v,us,h1,h2⟩:=T.run_some h;exact fin s _ (SEq.refl s) ⟨hd,rfl,rfl,by rw [hg]; exact ⟨h1,rfl⟩⟩ h2
  ·rename_i j b hg;split at h
   ·rename_i dj hdj;split at h
    ·rename_i c hc;have hl:∀ c',(NE s dj c').get dj = .bool c':=fun c'=>by simp [NE,St.get,RD]
     cases c with
     | true=>
      have e:=SEq.lit hc;cases b with
      | true=>
       simp only at h;obtain ⟨v,us,h1,h2⟩:=T.run_some h;exact fin _ _ e ⟨hd,rfl,rfl,by rw [hg]; exact .inl ⟨dj,true,hdj,hl _,.inl ⟨rfl,h1,rfl⟩⟩⟩ h2
      | false=>exact fin _ _ e ⟨hd,rfl,rfl,by rw [hg]; exact .inl ⟨dj,true,hdj,hl _,.inr ⟨by simp,rfl,rfl⟩⟩⟩ h
     | false=>
      have e:=SEq.lit hc;cases b with
      | false=>
       simp only at h;obtain ⟨v,us,h1,h2⟩:=T.run_some h;exact fin _ _ e ⟨hd,rfl,rfl,by rw [hg]; exact .inl ⟨dj,false,hdj,hl _,.inl ⟨rfl,h1,rfl⟩⟩⟩ h2
      | true=>exact fin _ _ e ⟨hd,rfl,rfl,by rw [hg]; exact .inl ⟨dj,false,hdj,hl _,.inr ⟨by simp,rfl,rfl⟩⟩⟩ h
    ·rename_i hc;exact fin _ _ (SEq.refl s) ⟨hd,rfl,rfl,by rw [hg]; exact .inr ⟨dj,hdj,hc,rfl,rfl⟩⟩ h
    ·cases h
   ·cases h
theorem Steps.length {E:Env} {all:List Oper}:∀ {l:List Oper} {s:St} {Ds:List Dn},Steps E all l s Ds→Ds.length=l.length
 | [],_,[],_=>rfl
 | [],_,_ :: _,h=>by simp [Steps] at h
 | _ :: _,_,[],h=>by simp [Steps] at h
 | _ :: _,_,_ :: _,h=>by simp only [AM,Steps.length h.2]
theorem Steps.get {E:Env} {all:List Oper}:∀ {l:List Oper} {s:St} {Ds:List Dn} {i:Nat} {o:Oper} {D:Dn},Steps E all l s Ds→l[i]?=some o→Ds[i]?=some D→StepOK E all o (apDs s (Ds.take i)) D
 | [],_,_,_,_,_,_,h,_=>by simp at h
 | _ :: _,_,[],_,_,_,_,_,h=>by simp at h
 | o :: r,s,D :: Ds,0,_,_,h,h1,h2=>by
  simp only [BZ,AC] at h1 h2;subst h1; subst h2;exact h.1
 | o :: r,s,D :: Ds,i+1,_,_,h,h1,h2=>by
  simp only [C5] at h1 h2;simp only [List.take_succ_cons,apDs];exact Steps.get h.2 h1 h2
def EO (L:Nat→Bool):Nat→List Dn→List Dn
 | _,[]=>[]
 | i,D :: r=>match L i with | true=>D :: EO L (i+1) r | false=>EO L (i+1) r
theorem Z2 {L L':Nat→Bool}:∀ (l:List Dn) (i:Nat),(∀ j,i≤j→j < i+l.length→L j=L' j)→EO L i l=EO L' i l
 | [],_,_=>rfl
 | D :: r,i,h=>by
  simp only [EO];rw [h i (AZ i) (by simp),Z2 r (i+1) (fun j h1 h2=>h j (by omega) (by simp only [AM]; omega))]
theorem gD:∀ (l:List Dn) (i:Nat),EO (fun _=>false) i l=[]
 | [],_=>rfl
 | D :: r,i=>by simp only [EO,gD r]
theorem Iu:∀ (l:List Dn) (i:Nat),EO (fun _=>true) i l=l
 | [],_=>rfl
 | D :: r,i=>by simp only [EO,Iu r]
theorem Iv (k:Nat):∀ (l:List Dn) (i:Nat),EO (fun j=>decide (j < i+k)) i l=l.take k
 | [],i=>by simp [EO]
 | D :: r,i=>by
  cases k with
  | zero=>
   rw [Z2 (L':=fun _=>false) _ _ (fun j h1 h2=>by simp; omega),gD];rfl
  | succ k=>
   simp only [EO];rw [show decide (i < i+(k+1))=true by simp];simp only [List.take_succ_cons,vav,vaC]
   have:=Iv k r (i+1)
   rw [show i+(k+1)=i+1+k by omega];exact this
theorem S7 {L L':Nat→Bool} {n:Nat}:∀ (l:List Dn) (i:Nat) {s s':St},DN s.o n=DN s'.o n→(∀ j D,l[j]?=some D→n∈IX D.us→L (i+j)=L' (i+j))→DN (apDs s (EO L i l)).o n=DN (apDs s' (EO L' i l)).o n
 | [],_,_,_,h,_=>h
 | D :: r,i,s,s',h,hl=>by
  have hr:∀ j E,r[j]?=some E→n∈IX E.us→L (i+1+j)=L' (i+1+j):=fun j E hj hn=>by
   have:=hl (j+1) E (by simpa using hj) hn
   rwa [show i+(j+1)=i+1+j by omega] at this
  have one:∀ {s:St},n ∉ IX D.us→DN (apD s D).o n=DN s.o n:=fun h=>VF h
  by_cases hn:n∈IX D.us
  ·have h0:=hl 0 D rfl hn;simp only [C9] at h0;simp only [EO,h0];cases L' i with
   | true=>exact S7 r (i+1) (tX hn) hr
   | false=>exact S7 r (i+1) h hr
  ·simp only [EO];cases L i <;> cases L' i <;> simp only [apDs]
   ·exact S7 r (i+1) h hr
   ·exact S7 r (i+1) (h.trans (one hn).symm) hr
   ·exact S7 r (i+1) ((one hn).trans h) hr
   ·exact S7 r (i+1) ((one hn).trans (h.trans (one hn).symm)) hr
theorem PT (s:St) (D:Dn) (t:Nat):(apD s D).get t=if D.dst=some t then D.v else s.get t:=by
 unfold apD;cases hd:D.dst with
 | none=>simp [St.put,St.get]
 | some d=>
  have:=Zl s d D.v t
  simp only [AC];exact this
theorem S6 {L L':Nat→Bool} {t:Nat}:∀ (l:List Dn) (i:Nat) {s s':St},s.get t=s'.get t→(∀ j D,l[j]?=some D→D.dst=some t→L (i+j)=L' (i+j))→(apDs s (EO L i l)).get t=(apDs s' (EO L' i l)).get t
 | [],_,_,_,h,_=>h
 | D :: r,i,s,s',h,hl=>by
  have hr:∀ j E,r[j]?=some E→E.dst=some t→L (i+1+j)=L' (i+1+j):=fun j E hj hn=>by
   have:=hl (j+1) E (by simpa using hj) hn
   rwa [show i+(j+1)=i+1+j by omega] at this
  by_cases hn:D.dst=some t
  ·have h0:=hl 0 D rfl hn;simp only [C9] at h0;simp only [EO,h0];cases L' i with
   | true=>exact S6 r (i+1) (by rw [PT,PT,BP hn,BP hn]) hr
   | false=>exact S6 r (i+1) h hr
  ·simp only [EO];cases L i <;> cases L' i <;> simp only [apDs]
   ·exact S6 r (i+1) h hr
   ·exact S6 r (i+1) (by rw [PT,BD hn]; exact h) hr
   ·exact S6 r (i+1) (by rw [PT,BD hn]; exact h) hr
   ·exact S6 r (i+1) (by rw [PT,PT,BD hn,BD hn]; exact h) hr
theorem sC {L:Nat→Bool} {n:Nat}:∀ (l:List Dn) (i:Nat) {s:St},Fr n s→(∀ j D,l[j]?=some D→L (i+j)=true→PV D.v=true∧n ∉ E7 D.v∧∀ u∈D.us,∀ m ob,(u = .new m ob∨u = .set m ob)→HT n (some ob)=some ob)→Fr n (apDs s (EO L i l))
 | [],_,_,h,_=>h
 | D :: r,i,s,h,hl=>by
  have hr:∀ j E,r[j]?=some E→L (i+1+j)=true→PV E.v=true∧n ∉ E7 E.v∧∀ u∈E.us,∀ m ob,(u = .new m ob∨u = .set m ob)→HT n (some ob)=some ob:=fun j E hj hn=>by
   refine hl (j+1) E (by simpa using hj) ?_
   rwa [show i+(j+1)=i+1+j by omega]
  simp only [EO];cases hL:L i with
  | false=>exact sC r (i+1) h hr
  | true=>
   refine sC r (i+1) ?_ hr;obtain ⟨h1,h2,h3⟩:=hl 0 D rfl hL;refine ⟨fun t=>?_,?_⟩
   ·rw [PT];split
    ·exact Il h1 h2
    ·exact h.t t
   ·have key:∀ (us:List Upd) (o:Store),(∀ u∈us,∀ m ob,(u = .new m ob∨u = .set m ob)→HT n (some ob)=some ob)→(∀ m,HT n (DN o m)=DN o m)→∀ m,HT n (DN (JQ us o) m)=DN (JQ us o) m:=by
     intro us
     induction us with
     | nil=>intro o _ h; exact h
     | cons u us ih=>
      intro o hu ho;have hu':=fun u' hu'=>hu u' (AY _ hu')
      cases u with
      | kill k=>exact ih _ hu' (fun m=>by rw [EG]; split <;> first | rfl | exact ho m)
      | set k ob=>exact ih _ hu' (fun m=>by rw [EG]; split <;> first | exact hu _ (AO ..) k ob (.inr rfl) | exact ho m)
      | new k ob=>exact ih _ hu' (fun m=>by rw [EG]; split <;> first | exact hu _ (AO ..) k ob (.inl rfl) | exact ho m)
    exact key D.us s.o h3 h.o
theorem sD {L:Nat→Bool}:∀ (l l':List Dn) (i:Nat),EO L i (l++l')=EO L i l++EO L (i+l.length) l'
 | [],l',i=>by simp [EO]
 | D :: r,l',i=>by
  simp only [CT,EO,AM];rw [show i+(r.length+1)=i+1+r.length by omega];cases L i <;> simp [sD r l' (i+1)]
open Go Go.RowKit
theorem ZP:∀ (l:List (List Nat)) (i:Nat),HZ l i=(l[i]?).getD []
 | [],i=>by simp [HZ]
 | x :: r,0=>rfl
 | x :: r,i+1=>by simp only [HZ,ZP r i,C5]
theorem kF {acc:List (List Nat)} {j:Nat}:∀ {es:List Edge},j∈U3 acc es→∃ e∈es,va1 .any e=true∧(j=e.on∨j∈HZ acc e.on)
 | [],h=>by simp [U3] at h
 | e :: r,h=>by
  simp only [U3] at h;split at h
  ·rename_i hb;simp only [AP,AX] at h;rcases h with h | h | h
   ·exact ⟨e,AO ..,hb,.inl h⟩
   ·exact ⟨e,AO ..,hb,.inr h⟩
   ·obtain ⟨e',h1,h2⟩:=kF h;exact ⟨e',AY _ h1,h2⟩
  ·obtain ⟨e',h1,h2⟩:=kF h;exact ⟨e',AY _ h1,h2⟩
def S2 (acc:List Nat):List Nat→List Nat
 | []=>acc
 | n :: r=>match KE n acc with
  | true=>S2 acc r
  | false=>S2 (n :: acc) r
theorem XJ (k:List Nat→List (List Nat)):∀ (l acc:List Nat),fJ acc l k=k (S2 acc l)
 | [],_=>rfl
 | n :: r,acc=>by
  simp only [fJ,S2];cases KE n acc with
  | true=>exact XJ k r acc
  | false=>exact XJ k r (n :: acc)
theorem pS {j:Nat}:∀ {l acc:List Nat},j∈S2 acc l→j∈acc∨j∈l
 | [],_,h=>.inl h
 | n :: r,acc,h=>by
  simp only [S2] at h;cases hb:KE n acc with
  | true=>
   rw [hb] at h;exact (pS h).imp_right (AY _)
  | false=>
   rw [hb] at h;rcases pS h with h1 | h1
   ·rcases AP.1 h1 with rfl | h1
    ·exact .inr (AO ..)
    ·exact .inl h1
   ·exact .inr (AY _ h1)
theorem Db {j:Nat} {l:List Nat} (h:j∈S2 [] l):j∈l:=(pS h).resolve_left (by simp)
theorem qY:∀ (l:List Oper) (acc:List (List Nat)) (i:Nat),i < acc.length→HZ (I3 acc l) i=HZ acc i
 | [],_,_,_=>rfl
 | o :: r,acc,i,h=>by
  simp only [I3,XJ];rw [qY r _ i (by simp; omega),ZP,ZP,vbx h]
theorem qX:∀ (l:List Oper) (acc:List (List Nat)) (i:Nat) (o:Oper),l[i]?=some o →
  ∃ acc',acc'.length=acc.length+i∧HZ (I3 acc l) (acc.length+i)=S2 [] (U3 acc' o.after.toList)∧∀ k,k < acc'.length→HZ acc' k=HZ (I3 acc l) k
 | [],_,_,_,h=>by simp at h
 | o :: r,acc,0,o',h=>by
  simp only [BZ,AC] at h;subst h;refine ⟨acc,rfl,?_,fun k hk=>?_⟩
  ·simp only [I3,XJ,C9];rw [qY r _ acc.length (by simp),ZP];simp
  ·simp only [I3,XJ];rw [qY r _ k (by simp; omega),ZP,ZP,vbx hk]
 | o :: r,acc,i+1,o',h=>by
  simp only [C5] at h;obtain ⟨acc',h1,h2,h3⟩:=qX r (acc++[S2 [] (U3 acc o.after.toList)]) i o' h;simp only [AT,AM,A6] at h1 h2;refine ⟨acc',by omega,?_,fun k hk=>by rw [I3,XJ]; exact h3 k hk⟩;rw [show acc.length+(i+1)=acc.length+(0+1)+i by omega,I3,XJ];exact h2
theorem jB:∀ {l:List Oper} {k i:Nat} {o:Oper} {e:Edge},SS k l=true→l[i]?=some o→e∈o.after.toList→va1 .any e=true→e.on < k+i
 | [],_,_,_,_,_,h,_,_=>by simp at h
 | o :: r,k,0,o',e,hu,h,he,hb=>by
  simp only [BZ,AC] at h;subst h;simp only [SS,AI] at hu;have key:∀ (es:List Edge),SS.go k es=true→e∈es→e.on < k:=by
   intro es
   induction es with
   | nil=>intro _ h; cases h
   | cons x es ih=>
    intro hg hm;simp only [SS.go] at hg;rcases AP.1 hm with h1 | h1
    ·subst h1;rw [hb] at hg;simp only [AI] at hg;exact AN hg.1
    ·split at hg
     ·simp only [AI] at hg;exact ih hg.2 h1
     ·exact ih hg h1
  exact key _ hu.1 he
 | o :: r,k,i+1,o',e,hu,h,he,hb=>by
  simp only [C5] at h;simp only [SS,AI] at hu
  have:=jB hu.2 h he hb
  omega
section
variable {ops:List Oper}
def uO (ops:List Oper) (L:Nat→Bool):Prop:=∀ i o,ops[i]?=some o→L i=true→∀ e∈o.after.toList,va1 .any e=true→L e.on=true
theorem Fv (hu:SS 0 ops=true):∀ (i:Nat) {o:Oper},ops[i]?=some o→∀ j∈HZ (I3 [] ops) i,j < i:=by
 intro i
 induction i using vbr with
 | _ i ih=>
  intro o ho j hj;obtain ⟨acc',h1,h2,h3⟩:=qX ops [] i o ho;simp only [A6,BI] at h1 h2;rw [h2] at hj;obtain ⟨e,he,hb,h4⟩:=kF (Db hj);have hlt:=jB hu ho he hb;rw [BI] at hlt;rcases h4 with h4 | h4
  ·omega
  ·have hk:e.on < acc'.length:=by omega
   rw [h3 _ hk] at h4;have hlen:i < ops.length:=(BR.1 ho).1
   have:=ih e.on hlt (o:=ops[e.on]'(by omega)) (by simp [Nat.lt_trans hlt hlen]) j h4
   omega
theorem Fw {L:Nat→Bool} (hu:SS 0 ops=true) (hL:uO ops L):∀ (i:Nat) {o:Oper},ops[i]?=some o→(∀ e∈o.after.toList,va1 .any e=true→L e.on=true)→∀ j∈HZ (I3 [] ops) i,L j=true:=by
 intro i
 induction i using vbr with
 | _ i ih=>
  intro o ho hr j hj;obtain ⟨acc',h1,h2,h3⟩:=qX ops [] i o ho;simp only [A6,BI] at h1 h2;rw [h2] at hj;obtain ⟨e,he,hb,h4⟩:=kF (Db hj);have hlt:=jB hu ho he hb;rw [BI] at hlt;rcases h4 with h4 | h4
  ·subst h4;exact hr e he hb
  ·have hk:e.on < acc'.length:=by omega
   rw [h3 _ hk] at h4;have hlen:i < ops.length:=(BR.1 ho).1;have hg:ops[e.on]?=some (ops[e.on]'(by omega)):=by simp [Nat.lt_trans hlt hlen]
   exact ih e.on hlt hg (hL e.on _ hg (hr e he hb)) j h4
end
theorem zfm {d:Option Nat} {l:List Nat} (h:Ev d l=false):∀ t,d=some t→t ∉ l:=by
 rintro t rfl;exact fH.1 h
theorem zfl {d e:Option Nat} (h:qL d e=false):∀ t,d=some t→e≠some t:=by
 rintro t rfl h';subst h';simp only [qL] at h;exact IN.1 h rfl
theorem Fj {ps:List (List Nat)} {pi:List Nat} {i:Nat} {x:Dn}:∀ {l:List Dn} {k j:Nat} {y:Dn},ZT ps pi i x k l=true→l[j]?=some y→i≠k+j→fO pi (HZ ps (k+j)) i (k+j) x y=true
 | [],_,_,_,_,h,_=>by simp at h
 | z :: r,k,0,y,h,hy,hne=>by
  simp only [BZ,AC] at hy;subst hy;simp only [ZT,AI,vap] at h;rcases h.1 with h1 | h1
  ·exact absurd (F1.1 h1) hne
  ·exact h1
 | z :: r,k,j+1,y,h,hy,hne=>by
  simp only [C5] at hy;simp only [ZT,AI] at h
  have:=Fj (k:=k+1) h.2 hy (by omega)
  rw [show k+(j+1)=k+1+j by omega];exact this
theorem Fi {ps:List (List Nat)} {all:List Dn}:∀ {l:List Dn} {k i:Nat} {x:Dn},fP ps all k l=true→l[i]?=some x→ZT ps (HZ ps (k+i)) (k+i) x 0 all=true
 | [],_,_,_,_,h=>by simp at h
 | z :: r,k,0,x,h,hx=>by
  simp only [BZ,AC] at hx;subst hx;simp only [fP,AI] at h;exact h.1
 | z :: r,k,i+1,x,h,hx=>by
  simp only [C5] at hx;simp only [fP,AI] at h
  have:=Fi (k:=k+1) h.2 hx
  rw [show k+(i+1)=k+1+i by omega];exact this
theorem uT {ds:List Nat}:∀ {l:List Nat},iF ds l=true→∀ n∈l,OX ds n=true
 | [],_,n,h=>by cases h
 | m :: r,h,n,hn=>by
  simp only [iF,AI] at h;rcases AP.1 hn with e | e
  ·subst e; exact h.1
  ·exact uT h.2 n e
theorem qG {ds:List Nat}:∀ {l:List Dn} {i:Nat} {x:Dn},fK ds l=true→l[i]?=some x→PV x.v=true∧PK x.us=true∧∀ n∈O6 x.us,OX ds n=true
 | [],_,_,_,h=>by simp at h
 | z :: r,0,x,h,hx=>by
  simp only [BZ,AC] at hx;subst hx;simp only [fK,AI] at h;exact ⟨h.1,h.2.1,uT h.2.2.1⟩
 | z :: r,i+1,x,h,hx=>by
  simp only [C5] at hx;simp only [fK,AI] at h;exact qG h.2.2.2 hx
theorem Oc {n:Nat}:∀ {us:List Upd},PK us=true→n ∉ UW us→∀ u∈us,∀ m ob,(u = .new m ob∨u = .set m ob)→HT n (some ob)=some ob
 | [],_,_,u,hu,_,_,_=>by cases hu
 | u :: r,ho,hn,u',hu',m,ob,he=>by
  have h1:PK r=true∧n ∉ UW r∧(∀ m ob,(u = .new m ob∨u = .set m ob)→HT n (some ob)=some ob):=by
   cases u with
   | kill k=>exact ⟨ho,hn,fun m ob h=>by rcases h with h | h <;> cases h⟩
   | set k ob'=>
    simp only [PK,AI] at ho;simp only [UW,AX,not_or] at hn;refine ⟨ho.2.2,hn.2,fun m ob h=>?_⟩;rcases h with h | h <;> cases h
    exact lA ho.1 hn.1
   | new k ob'=>
    simp only [PK,AI] at ho;simp only [UW,AX,not_or] at hn;refine ⟨ho.2.2,hn.2,fun m ob h=>?_⟩;rcases h with h | h <;> cases h
    exact lA ho.1 hn.1
  rcases AP.1 hu' with h | h
  ·subst h;exact h1.2.2 m ob he
  ·exact Oc h1.1 h1.2.1 u' h m ob he
theorem tS {t:Nat}:∀ {l:List Operand},Operand.tmp t∈l→t∈X4 l
 | x :: r,h=>by
  rcases AP.1 h with h1 | h1
  ·subst h1; exact AO ..
  ·cases x <;> simp only [X4,AP] <;> first | exact .inr (tS h1) | exact tS h1
theorem y7 {α:Type} {p q:α→Bool}:∀ {l:List α},(∀ x∈l,q x=true→p x=true)→(∃ x∈l,p x=true∧q x=false)→l.countP q < l.countP p
 | [],_,⟨_,h,_⟩=>by cases h
 | y :: r,h,⟨x,hx,h1,h2⟩=>by
  have hr:r.countP q≤r.countP p:=by
   clear hx;have h':∀ x∈r,q x=true→p x=true:=fun x hx=>h x (AY _ hx)
   exact List.countP_mono_left h'
  rcases AP.1 hx with e | e
  ·subst e;rw [vaT h1,vbl (by simp [h2])];omega
  ·have:=y7 (l:=r) (fun x hx=>h x (AY _ hx)) ⟨x,e,h1,h2⟩
   by_cases hq:q y=true
   ·rw [vaT (h y (AO ..) hq),vaT hq];omega
   ·rw [vbl hq];by_cases hp:p y=true
    ·rw [vaT hp]; omega
    ·rw [vbl hp]; omega
section
variable {B:BT} {nt:Nat} {w0:World} {X:Zone} {γ:Nat→Value} {st st':St} {a:Act} {w:World} {P:Program} {E:Env}
variable (hT:TiOK P B E) (hE:∀ t,t∈E.eqs→EqSnd P t (E.tyd t).ks) (hSp:SpOK P B E w0 X) (hB:BldOK P B E) (hnt:E.nt=nt) (hn9:nt≤900000)
include hT hE hSp hB hnt hn9
theorem Vx {Q:Exit→Act→World→Prop} {ops:Array Oper} {s0:St} {Ds:List Dn} (hs:Steps E ops.toList ops.toList s0 Ds) (hfree:oN ops.toList Ds=true)
  (hfr:∀ n,OX (W5 ops.toList) n=true→Fr n s0) (hQ:∀ γ' a' w',Rel B nt w0 X γ' (apDs s0 Ds) a' w'→Q .normal a' w') :
  ∀ (fuel:Nat) (listed:Array Bool) {γ:Nat→Value} {a:Act} {w:World},listed.size=ops.size→uO ops.toList (fun i=>listed.getD i false) →
   (vau ops.size).countP (fun i=>!listed.getD i false)≤fuel→Rel B nt w0 X γ (apDs s0 (EO (fun i=>listed.getD i false) 0 Ds)) a w→wpAny P .any ops Q fuel listed a w:=by
 have hlen:Ds.length=ops.size:=by simpa using hs.length
 simp only [oN,AI] at hfree;obtain ⟨hup,hone,hpairs⟩:=hfree;have hgd:∀ (listed:Array Bool) (i:Nat),listed.size=ops.size→i < ops.size→listed.getD i true=listed.getD i false:=fun listed i h1 h2=>by
  simp [Array.getD,h1,h2]
 have hready:∀ (listed:Array Bool) (i:Nat),listed.size=ops.size→(i∈vbG .any ops listed↔∃ o,ops.toList[i]?=some o∧listed.getD i false=false∧∀ e∈o.after.toList,va1 .any e=true→listed.getD e.on false=true):=by
  intro listed i hsz;simp only [vbG,List.mem_filter,vaR,AI,B3];constructor
  ·rintro ⟨h1,h2,h3⟩;refine ⟨ops[i],by simp [h1],by rw [← hgd listed i hsz h1]; exact h2,fun e he hb=>?_⟩;simp only [Array.getElem?_eq_getElem h1,vaw,vak,vbI,vap,B3] at h3;rcases h3 e (by simpa using he) with h4 | h4
   ·rw [hb] at h4; cases h4
   ·exact h4
  ·rintro ⟨o,ho,h2,h3⟩;obtain ⟨h1,rfl⟩:=BR.1 ho;simp only [CL] at h1;refine ⟨h1,by rw [hgd listed i hsz h1]; exact h2,?_⟩;simp only [Array.getElem?_eq_getElem h1,vaw,vak,vbI,vap,B3];intro e he;cases hb:va1 .any e with
   | false=>exact .inl rfl
   | true=>exact .inr (h3 e (by simpa using he) hb)
 have hend:∀ (listed:Array Bool) {γ:Nat→Value} {a:Act} {w:World},(∀ i,i < ops.size→listed.getD i false=true)→Rel B nt w0 X γ (apDs s0 (EO (fun i=>listed.getD i false) 0 Ds)) a w→Q .normal a w:=by
  intro listed γ a w hall h;rw [Z2 (L':=fun _=>true) _ _ (fun j _ h2=>hall j (by omega)),Iu] at h;exact hQ γ a w h
 have hnil:∀ (listed:Array Bool),listed.size=ops.size→vbG .any ops listed=[]→∀ i,i < ops.size→listed.getD i false=true:=by
  intro listed hsz hr i
  induction i using vbr with
  | _ i ih=>
   intro hi;cases hL:listed.getD i false with
   | true=>rfl
   | false=>
    exfalso;have hm:i∈vbG .any ops listed:=by
     refine (hready listed i hsz).2 ⟨ops[i],by simp [hi],hL,fun e he hb=>?_⟩
     have:=jB (i:=i) hup (by simp [hi]:ops.toList[i]?=some ops[i]) he hb
     exact ih e.on (by omega) (by omega)
    rw [hr] at hm;cases hm
 intro fuel
 induction fuel with
 | zero=>
  intro listed γ a w hsz hcl hcount h;have hall:∀ i,i < ops.size→listed.getD i false=true:=by
   intro i hi;have h0:(vau ops.size).countP (fun i=>!listed.getD i false)=0:=by omega
   have:=(List.countP_eq_zero.1 h0) i (vaR.2 hi)
   simpa using this
  refine ⟨?_,hend listed hall h⟩;refine List.eq_nil_iff_forall_not_mem.2 (fun i hi=>?_);obtain ⟨o,ho,h2,_⟩:=(hready listed i hsz).1 hi;have h1:i < ops.size:=by simpa using (BR.1 ho).1
  rw [hall i h1] at h2;cases h2
 | succ fuel ih=>
  intro listed γ a w hsz hcl hcount h;refine ⟨fun hr=>hend listed (hnil listed hsz hr) h,fun i hi=>?_⟩;obtain ⟨o,ho,hLi,hedges⟩:=(hready listed i hsz).1 hi;have hi':i < ops.size:=by simpa using (BR.1 ho).1
  have hoi:ops[i]?=some o:=by simpa using ho
  obtain ⟨D,hD⟩:∃ D,Ds[i]?=some D:=⟨Ds[i]'(by omega),by simp [hlen,hi']⟩;generalize hLdef:(fun i=>listed.getD i false)=L at *;have hL:∀ j,listed.getD j false=L j:=fun j=>congrFun hLdef j
  simp only [hL] at hLi hedges;have hin:∀ j∈HZ (I3 [] ops.toList) i,L j=true:=Fw hup hcl i ho hedges;have hout:∀ j D',Ds[j]?=some D'→L j=true→i ∉ HZ (I3 [] ops.toList) j:=by
   intro j D' hj hLj hm;have hj':j < ops.size:=by have:=(BR.1 hj).1; omega
   have hoj:ops.toList[j]?=some ops[j]:=by simp [hj']
   have:=Fw hup hcl j hoj (hcl j _ hoj hLj) i hm
   rw [hLi] at this;cases this
  have hlt:∀ j,j∈HZ (I3 [] ops.toList) i→j < i:=Fv hup i ho;have hltj:∀ j D',Ds[j]?=some D'→i∈HZ (I3 [] ops.toList) j→i < j:=by
   intro j D' hj hm;have hj':j < ops.size:=by have:=(BR.1 hj).1; omega
   exact Fv hup j (by simp [hj']:ops.toList[j]?=some ops[j]) i hm
  have hpair:∀ j D',Ds[j]?=some D'→i≠j→fO (HZ (I3 [] ops.toList) i) (HZ (I3 [] ops.toList) j) i j D D'=true:=by
   intro j D' hj hne;have h1:=Fi (k:=0) hpairs hD;rw [BI] at h1;have h2:=Fj (k:=0) h1 hj (by omega)
   rwa [BI] at h2
  have hunord:∀ j D',Ds[j]?=some D'→i≠j→i ∉ HZ (I3 [] ops.toList) j→j ∉ HZ (I3 [] ops.toList) i →
    (∀ t,D'.dst=some t→t ∉ D.tm)∧(∀ t,D.dst=some t→D'.dst≠some t)∧(∀ n∈IX D'.us,n ∉ D.rd)∧(∀ n∈IX D.us,n ∉ IX D'.us):=by
   intro j D' hj hne h1 h2;have hp:=hpair j D' hj hne;simp only [fO,fH.2 h1,fH.2 h2,AI,B3] at hp;exact ⟨zfm hp.2.1,zfl hp.2.2.1,Y9.1 hp.2.2.2.1,Y9.1 hp.2.2.2.2⟩
  have hdiff:∀ j D',Ds[j]?=some D'→L j≠decide (j < i)→i≠j∧i ∉ HZ (I3 [] ops.toList) j∧j ∉ HZ (I3 [] ops.toList) i:=by
   intro j D' hj hne;cases hLj:L j with
   | true=>
    rw [hLj] at hne;have hji:¬ j < i:=fun h=>hne (by simp [h])
    have hij:i≠j:=fun e=>by subst e; rw [hLi] at hLj; cases hLj
    exact ⟨hij,hout j D' hj hLj,fun hm=>hji (hlt j hm)⟩
   | false=>
    rw [hLj] at hne;have hji:j < i:=by
     rcases DD j i with h | h
     ·exact h
     ·exact absurd (by simp; omega) hne
    refine ⟨by omega,fun hm=>?_,fun hm=>?_⟩
    ·have:=hltj j D' hj hm; omega
    ·have:=hin j hm; rw [hLj] at this; cases this
  have hstep:=Steps.get hs ho hD;have htake:apDs s0 (Ds.take i)=apDs s0 (EO (fun j=>decide (j < i)) 0 Ds):=by
   have:=Iv i Ds 0
   rw [BI] at this;rw [this]
  rw [htake] at hstep;have hobj:∀ n∈D.rd,DN (apDs s0 (EO L 0 Ds)).o n=DN (apDs s0 (EO (fun j=>decide (j < i)) 0 Ds)).o n:=by
   intro n hn;refine S7 Ds 0 rfl (fun j D' hj hnm=>?_);rw [BI];refine vbO (fun hne=>?_);obtain ⟨h1,h2,h3⟩:=hdiff j D' hj hne;exact (hunord j D' hj h1 h2 h3).2.2.1 n hnm hn
  have htm:∀ t∈D.tm,(apDs s0 (EO L 0 Ds)).get t=(apDs s0 (EO (fun j=>decide (j < i)) 0 Ds)).get t:=by
   intro t ht;refine S6 Ds 0 rfl (fun j D' hj hnm=>?_);rw [BI];refine vbO (fun hne=>?_);obtain ⟨h1,h2,h3⟩:=hdiff j D' hj hne;exact (hunord j D' hj h1 h2 h3).1 t hnm ht
  have hafter:SEq (apD (apDs s0 (EO L 0 Ds)) D) (apDs s0 (EO (fun j=>(listed.setIfInBounds i true).getD j false) 0 Ds)):=by
   have hset:∀ j,(listed.setIfInBounds i true).getD j false=(L j||BQ j i):=by
    intro j;rw [← hL j];simp only [vbq,Array.getElem?_setIfInBounds,hsz];by_cases e:i=j
    ·subst e;simp [hi',vbn]
    ·rw [BD e,IN.2 (fun h=>e h.symm),Bool.or_false]
   rw [show (fun j=>(listed.setIfInBounds i true).getD j false)=(fun j=>L j||BQ j i) from funext hset];have hsplit:Ds=Ds.take i++D :: Ds.drop (i+1):=by
    have hi2:i < Ds.length:=by omega
    have h1:Ds[i]=D:=by have:=BR.1 hD; exact this.2
    rw [← h1];simp
   have hlate:∀ j D',(Ds.drop (i+1))[j]?=some D'→L (i+1+j)=true→(∀ t,D.dst=some t→D'.dst≠some t)∧∀ n∈IX D.us,n ∉ IX D'.us:=by
    intro j D' hj hLj;have hj':Ds[i+1+j]?=some D':=by rw [← hj,var]
    have h2:=hout _ D' hj' hLj;have h3:i+1+j ∉ HZ (I3 [] ops.toList) i:=fun hm=>by have:=hlt _ hm; omega
    exact ⟨(hunord _ D' hj' (by omega) h2 h3).2.1,(hunord _ D' hj' (by omega) h2 h3).2.2.2⟩
   have hli:(Ds.take i).length=i:=by simp; omega
   have hR:∀ s,apDs s (EO (fun j=>L j||BQ j i) 0 Ds)=apDs (apD (apDs s (EO L 0 (Ds.take i))) D) (EO L (i+1) (Ds.drop (i+1))):=by
    intro s;rw [show EO (fun j=>L j||BQ j i) 0 Ds=EO (fun j=>L j||BQ j i) 0 (Ds.take i++D :: Ds.drop (i+1)) by rw [← hsplit]];rw [sD,mN,hli,BI];simp only [EO,vbn,Bool.or_true,apDs];rw [Z2 (L':=L) (Ds.take i) 0 (fun j _ h2=>by rw [IN.2 (by omega),Bool.or_false]),Z2 (L':=L) (Ds.drop (i+1)) (i+1) (fun j h1 _=>by rw [IN.2 (by omega),Bool.or_false])]
   have hLs:∀ s,apDs s (EO L 0 Ds)=apDs (apDs s (EO L 0 (Ds.take i))) (EO L (i+1) (Ds.drop (i+1))):=by
    intro s;rw [show EO L 0 Ds=EO L 0 (Ds.take i++D :: Ds.drop (i+1)) by rw [← hsplit]];rw [sD,mN,hli,BI];simp only [EO,hLi]
   rw [hR,hLs];generalize apDs s0 (EO L 0 (Ds.take i))=s1;refine ⟨fun t=>?_,fun n=>?_⟩
   ·by_cases e:D.dst=some t
    ·rw [PT,BP e]
     have:(apDs (apD s1 D) (EO L (i+1) (Ds.drop (i+1)))).get t=(apDs (apD s1 D) (EO (fun _=>false) (i+1) (Ds.drop (i+1)))).get t:=by
      refine S6 _ _ rfl (fun j D' hj hd=>?_);cases hLj:L (i+1+j) with
      | false=>rfl
      | true=>exact absurd hd ((hlate j D' hj hLj).1 t e)
     rw [this,gD];simp only [apDs];rw [PT,BP e]
    ·rw [PT,BD e];exact S6 _ _ (by rw [PT,BD e]) (fun _ _ _ _=>rfl)
   ·by_cases e:n∈IX D.us
    ·have:DN (apDs (apD s1 D) (EO L (i+1) (Ds.drop (i+1)))).o n=DN (apDs (apD s1 D) (EO (fun _=>false) (i+1) (Ds.drop (i+1)))).o n:=by
      refine S7 _ _ rfl (fun j D' hj hd=>?_);cases hLj:L (i+1+j) with
      | false=>rfl
      | true=>exact absurd hd ((hlate j D' hj hLj).2 n e)
     rw [this,gD];exact tX e
    ·have h1:DN (apD (apDs s1 (EO L (i+1) (Ds.drop (i+1)))) D).o n=DN (apDs s1 (EO L (i+1) (Ds.drop (i+1)))).o n:=VF e;rw [h1];exact S7 _ _ (VF e).symm (fun _ _ _ _=>rfl)
  have hnext:∀ γ' a' w',Rel B nt w0 X γ' (apD (apDs s0 (EO L 0 Ds)) D) a' w'→wpAny P .any ops Q fuel (listed.setIfInBounds i true) a' w':=by
   intro γ' a' w' h';have hset:∀ j,(listed.setIfInBounds i true).getD j false=(L j||BQ j i):=by
    intro j;rw [← hL j];simp only [vbq,Array.getElem?_setIfInBounds,hsz];by_cases e:i=j
    ·subst e;simp [hi',vbn]
    ·rw [BD e,IN.2 (fun h=>e h.symm),Bool.or_false]
   refine ih (listed.setIfInBounds i true) (by simpa using hsz) ?_ ?_ (h'.seq hafter)
   ·intro j o' ho' hLj e he hb;simp only [hset] at hLj ⊢;by_cases e':j=i
    ·subst e';rw [ho] at ho';simp only [AC] at ho';subst ho';rw [hedges e he hb];rfl
    ·rw [IN.2 e',Bool.or_false] at hLj;rw [hcl j o' ho' hLj e he hb];rfl
   ·have:(vau ops.size).countP (fun j=>!(listed.setIfInBounds i true).getD j false) < (vau ops.size).countP (fun j=>!listed.getD j false):=by
     refine y7 (fun j _ hj=>?_) ⟨i,vaR.2 hi',by rw [hL,hLi]; rfl,by rw [hset,vbn,Bool.or_true]; rfl⟩;rw [hset] at hj;rw [hL];cases hLj:L j <;> simp_all
    simp only [hL] at this hcount;omega
  obtain ⟨hok,hdst,htms,hguard⟩:=hstep;have hclean:=qG hone hD;have run:(EF E (apDs s0 (EO (fun j=>decide (j < i)) 0 Ds)).o (opd (apDs s0 (EO (fun j=>decide (j < i)) 0 Ds))) o.dst o.op).get=some (D.v,D.us)→D.rd=NK E (apDs s0 (EO (fun j=>decide (j < i)) 0 Ds)).o (opd (apDs s0 (EO (fun j=>decide (j < i)) 0 Ds))) o.op →
    (∀ x∈o.op.operands.toList,∀ t,x = .tmp t→t∈D.tm)→o.wp P a w (wpAny P .any ops Q fuel (listed.setIfInBounds i true)) Q:=by
   intro he hrd htmo;have h1:EF E (apDs s0 (EO L 0 Ds)).o (opd (apDs s0 (EO L 0 Ds))) o.dst o.op=EF E (apDs s0 (EO (fun j=>decide (j < i)) 0 Ds)).o (opd (apDs s0 (EO (fun j=>decide (j < i)) 0 Ds))) o.dst o.op:=by
    rw [Wi (ρ:=opd (apDs s0 (EO L 0 Ds))) (ρ':=opd (apDs s0 (EO (fun j=>decide (j < i)) 0 Ds))) (fun x hx=>?_)]
    ·exact Ab (fun n hn=>hobj n (by rw [hrd]; exact hn))
    ·cases x with
     | tmp t=>exact htm t (htmo _ hx t rfl)
     | _=>rfl
   rw [← h1] at he;have hn9':∀ d,o.dst=some d→d≠900000:=fun d hdd e=>by
    subst e;rw [hdd] at hok;simp only [P6] at hok;have h8:900000+1≤E.nt:=AN hok;omega
   refine Eu hT hE hSp hB h o hn9' he _ _ (fun γ' x w' h3 h4=>hnext γ' _ w' ?_);refine (h3.put hnt hok h4).seq ?_;have hfr':∀ n∈O6 D.us,Fr n (apDs s0 (EO L 0 Ds)):=by
    intro n hn;refine sC Ds 0 (hfr n (hclean.2.2 n hn)) (fun j D' hj hLj=>?_);rw [BI] at hLj;have hne:i≠j:=fun e=>by subst e; rw [hLi] at hLj; cases hLj
    have hp:=hpair j D' hj hne;simp only [fO,fH.2 (hout j D' hj hLj),AI] at hp;have hdj:=Y9.1 hp.1 n hn;simp only [AX,not_or] at hdj;have hc':=qG hone hj;exact ⟨hc'.1,hdj.1,Oc hc'.2.1 hdj.2⟩
   have:=(lY hfr' hclean.2.1).put o.dst D.v
   refine this.trans ?_;rw [← hdst];cases hdd:D.dst <;> exact ⟨fun t=>by simp only [apD,hdd,St.put]; try rfl,fun n=>by simp only [apD,St.put]⟩
  unfold wpOp;rw [hoi];simp only;have htmo:∀ x∈o.op.operands.toList,∀ t,x = .tmp t→t∈D.tm:=by
   rintro x hx t rfl
   have:=tS hx
   rw [htms];unfold MA;split
   ·split
    ·exact AY _ this
    ·exact this
   ·exact this
  split at hguard
  ·rename_i hg;rw [BP (by simp [C3,hg])];exact .inl (run hguard.1 hguard.2 htmo)
  ·rename_i j b hg;have skip:D.v = .tup []→D.us=[]→C3 o (yielded ops a.tmps)=false→(if C3 o (yielded ops a.tmps)=true then o.wp P a w (wpAny P .any ops Q fuel (listed.setIfInBounds i true)) Q∨(o.asks P a w∧LetsOut Q) else wpAny P .any ops Q fuel (listed.setIfInBounds i true) (a.put o.dst undef) w):=by
    intro h1 h2 h3;rw [BD (by rw [h3]; simp)];refine hnext γ _ w ?_;refine (h.put hnt hok (v:=.tup []) (x:=undef) (by simp only [VRel]; exact ⟨#[],rfl,by simp only [VRels]⟩)).seq ?_;rw [← hdst,← h1];cases hdd:D.dst <;> exact ⟨fun t=>by simp only [apD,hdd,St.put]; try rfl,fun n=>by simp only [apD,St.put,h2,JQ]⟩
   have hdjm0:∀ dj,OV ops.toList j=some dj→dj∈D.tm:=by
    intro dj hdj;rw [htms];unfold MA;rw [hg];simp only [hdj];exact AO ..
   rcases hguard with ⟨dj,c,hdj,hc,hcase⟩ | ⟨dj,hdj,hc,h1,h2⟩
   case inr=>
    rw [← htm dj (hdjm0 dj hdj)] at hc;have hy:yielded ops a.tmps j=none:=by
     unfold yielded;rw [show ops[j]?=ops.toList[j]? by simp,d9 _ _ _ hdj];rcases Oa h hc with h0 | h0 <;> simp [h0]
    exact skip h1 h2 (by simp [C3,hg,hy])
   have hdjm:dj∈D.tm:=by
    rw [htms];unfold MA;rw [hg];simp only [hdj];exact AO ..
   rw [← htm dj hdjm] at hc;have hy:yielded ops a.tmps j=some c:=by
    unfold yielded;rw [show ops[j]?=ops.toList[j]? by simp,d9 _ _ _ hdj];simp [vS h hc]
   rcases hcase with ⟨rfl,h1,h2⟩ | ⟨hne,h1,h2⟩
   ·rw [BP (by simp [C3,hg,hy])];exact .inl (run h1 h2 htmo)
   ·exact skip h1 h2 (by simp [C3,hg,hy,hne])
theorem Wg {Q:Exit→Act→World→Prop} (hm:P.follows .mixedOrders=true) {r:V × List (List V)} {id:Nat} {ops:Array Oper} {k:St→DO} {γ:Nat→Value} {st:St} {a:Act} {w:World}
  (he:oE E ops.toList st k=some r) (h:Rel B nt w0 X γ st a w) (hk:∀ γ' st' a' w',Rel B nt w0 X γ' st' a' w'→k st'=some r→Q .normal a' w'):(Code.region id ops true).wp P Q a w:=by
 refine wp_region_any hm ?_;unfold oE at he;obtain ⟨Ds,s',h1,h2,h3⟩:=Aa ops.toList he;split at h3
 ·rename_i hf;simp only [DB,List.reverse_reverse] at hf;have h0:Rel B nt w0 X γ (M9 (W5 ops.toList) st) a { w with drawn:=w.drawn+1 }:=(h.clear (W5 ops.toList)).world (Keep.drew _ w);refine Vx hT hE hSp hB hnt hn9 h1 hf (fun n hn=>Up hn st) (fun γ' a' w' h'=>hk γ' s' a' w' (h'.seq h2.symm) h3) ops.size (Array.replicate ops.size false) (by simp) ?_ ?_ (γ:=γ) ?_
  ·intro i o ho hL;have hi:i < ops.size:=by simpa using (BR.1 ho).1
   simp [Array.getD,hi] at hL
  ·refine C1 (List.countP_le_length) ?_;simp
  ·rw [Z2 (L':=fun _=>false) _ _ (fun j _ _=>by simp [Array.getD]),gD];exact h0
 ·cases h3
end
open Go Go.RowKit
section
variable {B:BT} {nt:Nat} {w0:World} {X:Zone} {γ:Nat→Value} {st st':St} {a:Act} {w:World} {P:Program} {E:Env}
theorem j3 (s:St):∀ (l:List Nat) (i:Nat),E3 .any (US s l) i=s.get i∨E3 .any (US s l) i = .any
 | [],i=>.inr rfl
 | j :: r,i=>by
  simp only [US,RD];by_cases e:j=i
  ·subst e; simp
  ·simp only [BD e];exact j3 s r i
theorem Br (s:St):∀ (l:List Nat) (n:Nat) (ob:Ob),DN (eT s l) n=some ob→DN s.o n=some ob
 | [],n,ob,h=>by simp [eT,DN,E3] at h
 | j :: r,n,ob,h=>by
  simp only [eT,EG] at h;split at h
  ·rename_i e;subst e;exact h
  ·exact Br s r n ob h
theorem Rel.prune (h:Rel B nt w0 X γ st a w) (kp:Option (List Nat)):Rel B nt w0 X γ (prune kp st) a w:=by
 cases kp with
 | none=>exact h
 | some l=>exact h.less (fun i=>j3 st l i) (fun _ _ h=>h)
theorem VRels.putOne {γ:Nat→Value} {o:Store} {w:World} {O:Nat→Prop} {v:V} {x:Value} (hv:VRel γ o w O v x):∀ {cs:List V} {xs:List Value} {c:Nat},VRels γ o w O cs xs→xs[c]?=some x→VRels γ o w O (GZ cs c [v]) xs
 | [],[],_,_,h=>by simp at h
 | [],_ :: _,_,h,_=>by simp only [VRels] at h
 | _ :: _,[],_,h,_=>by simp only [VRels] at h
 | u :: cs,y :: xs,0,h,hx=>by
  simp only [VRels] at h;simp only [BZ,AC] at hx;subst hx
  have:GZ cs 0 []=cs:=by cases cs <;> rfl
  simp only [GZ,this,VRels];exact ⟨hv,h.2⟩
 | u :: cs,y :: xs,c+1,h,hx=>by
  simp only [VRels] at h;simp only [C5] at hx;simp only [GZ,VRels];exact ⟨h.1,VRels.putOne hv h.2 hx⟩
def Sd (γ:Nat→Value) (o:Store) (w:World) (a:Act) (x:Value):Loc→Prop
 | .tmp t=>x=a.tmps.getD t undef
 | .cell b c=>∃ cs bb T cc,DN o b=some (.box cs)∧γ b = .pointer (some ⟨bb,0,none⟩)∧w.heap[bb]?=some (.cells cc T (0,0))∧cc.toList[c]?=some x
def mK (γ:Nat→Value) (o:Store) (w:World) (a:Act) (x:Value):Loc→Prop
 | .tmp t=>x=a.tmps.getD t undef
 | .cell b c=>∀ cs,DN o b=some (.box cs)→∃ bb T cc,γ b = .pointer (some ⟨bb,0,none⟩)∧w.heap[bb]?=some (.cells cc T (0,0))∧cc.toList[c]?=some x
theorem Rel.at (h:Rel B nt w0 X γ st a w) (l:Loc) {v:V} (hv:pJ st l=v) (hne:v≠.any):∃ x,VRel γ st.o w (DR X γ st.o) v x ∧
  Sd γ st.o w a x l:=by
 subst hv;cases l with
 | tmp t=>exact ⟨_,h.tm t,rfl⟩
 | cell b c=>
  simp only [pJ] at hne ⊢;split at hne
  ·rename_i cs hob;have hor:=h.ob b _ hob;simp only [ObRel] at hor;obtain ⟨bb,cc,T,hg,hh,hr⟩:=hor;rw [fI] at hne ⊢;cases hc:cs[c]? with
   | none=>rw [hc] at hne; exact absurd rfl hne
   | some u=>
    obtain ⟨x,hx,hrx⟩:=hr.get hc;exact ⟨x,hrx,cs,bb,T,cc,hob,hg,hh,hx⟩
  ·exact absurd rfl hne
theorem Rel.putLoc {γ2:Nat→Value} {st2:St} (h2:Rel B nt w0 X γ2 st2 a w) (l:Loc) {v:V} {x:Value} (hv:VRel γ2 st2.o w (DR X γ2 st2.o) v x)
  (hx:mK γ2 st2.o w a x l):Rel B nt w0 X γ2 (putLoc st2 v l) a w:=by
 cases l with
 | tmp t=>
  simp only [mK] at hx;subst hx;refine ⟨h2.sz,h2.df,fun i=>?_,h2.ob,h2.lt,h2.dis,h2.keep,h2.nr,h2.fl,h2.pn⟩;simp only [FM.putLoc,St.get,RD];split
  ·rename_i e;subst e;exact hv
  ·exact h2.tm i
 | cell b c=>
  simp only [FM.putLoc];split
  ·rename_i cs hob;simp only [mK] at hx;obtain ⟨bb,T,cc,hg,hh,hcx⟩:=hx cs hob;have hob':∀ m,DN ((b,some (.box (GZ cs c [v]))) :: st2.o) m=if b=m then some (.box (GZ cs c [v])) else DN st2.o m:=fun m=>EG ..
   have hlen:(GZ cs c [v]).length=cs.length:=by
    have key:∀ (cs:List V) (c:Nat),(GZ cs c [v]).length=cs.length:=by
     intro cs
     induction cs with
     | nil=>intro c; cases c <;> rfl
     | cons u r ih=>
      intro c;cases c with
      | zero=>
       have:GZ r 0 []=r:=by cases r <;> rfl
       simp [GZ,this]
      | succ c=>simp [GZ,ih]
    exact key cs c
   have hP:∀ b',FA γ2 ((b,some (.box (GZ cs c [v]))) :: st2.o) b'→FA γ2 st2.o b':=by
    rintro b' ⟨m,ob,hm,hb⟩;rw [hob'] at hm;split at hm
    ·rename_i e;subst e;simp only [AC] at hm;subst hm;exact ⟨_,_,hob,hb⟩
    ·exact ⟨m,ob,hm,hb⟩
   have hO:∀ b',b' < w.heap.size→DR X γ2 ((b,some (.box (GZ cs c [v]))) :: st2.o) b'→DR X γ2 st2.o b':=fun b' _ hb=>hb.imp_left (hP b')
   have hc:Cmp γ2 st2.o γ2 ((b,some (.box (GZ cs c [v]))) :: st2.o):=by
    intro m ob' hm;rw [hob'] at hm;split at hm
    ·rename_i e;subst e;simp only [AC] at hm;subst hm;exact ⟨rfl,_,hob,hlen.symm⟩
    ·exact ⟨rfl,ob',hm,ob'.fits_refl⟩
   refine ⟨h2.sz,h2.df,fun i=>VRel.mono (Keep.refl _ w) hO (VRel.cmp hc (h2.tm i)),fun m ob hm=>?_,fun b' hb=>h2.lt b' (hP b' hb),fun m1 m2 ob1 ob2 b' hne h3 h4 hb1 hb2=>?_,h2.keep,fun b' hb=>h2.nr b' (hP b' hb),h2.fl,fun p hp ob hm=>?_⟩
   ·simp only at hm ⊢;rw [hob'] at hm;split at hm
    ·rename_i e;subst e;simp only [AC] at hm;subst hm;have hor:=h2.ob _ _ hob;simp only [ObRel] at hor ⊢;obtain ⟨bb',cc',T',hg',hh',hr'⟩:=hor;rw [hg] at hg';simp only [C0,AC,DH,B7] at hg';subst hg';rw [hh] at hh';simp only [AC,Obj.cells.injEq] at hh';obtain ⟨rfl,rfl,_⟩:=hh';exact ⟨bb,cc,T,hg,hh,VRels.mono (Keep.refl _ w) hO (VRels.cmp hc (VRels.putOne hv hr' hcx))⟩
    ·exact (h2.ob m ob hm).later (fun _ _=>rfl) (Keep.refl _ w) hO hc
   ·have key:∀ m ob,DN ((b,some (.box (GZ cs c [v]))) :: st2.o) m=some ob→FC (γ2 m) ob b'→∃ ob0,DN st2.o m=some ob0∧FC (γ2 m) ob0 b':=by
     intro m ob hm hb;rw [hob'] at hm;split at hm
     ·rename_i e;subst e;simp only [AC] at hm;subst hm;exact ⟨_,hob,hb⟩
     ·exact ⟨ob,hm,hb⟩
    obtain ⟨o1,q1,q2⟩:=key m1 ob1 h3 hb1;obtain ⟨o2,q3,q4⟩:=key m2 ob2 h4 hb2;exact h2.dis m1 m2 o1 o2 b' hne q1 q3 q2 q4
   ·simp only at hm;rw [hob'] at hm;split at hm
    ·rename_i e;exact h2.pn p hp _ (e ▸ hob)
    ·exact h2.pn p hp ob hm
  ·exact h2
theorem Rel.canon1 (h:Rel B nt w0 X γ st a w) (c:Can):∃ γ',Rel B nt w0 X γ' (canon1 c st) a w:=by
 unfold FM.canon1;split
 ·exact ⟨γ,h⟩
 rename_i h9;have h9:=IN.1 h9;split
 ·rename_i hv;split
  ·rename_i hks;have hks':0 < c.ks.length:=AN hks;obtain ⟨x,hx,hat⟩:=h.at c.loc hv (by simp);simp only [VRel] at hx;have hadd:=h.add c.nm h9 (.row true c.e c.ag c.ks []) (.slice none 0 0) (fun b hb=>by simp [FC,CC] at hb) (fun O' hO'=>by
    simp only [ObRel];exact ⟨hks',by simp [strMax],[],⟨by simp,.inl ⟨rfl,rfl⟩⟩,fun i y hy=>by simp at hy⟩)
   have hadd:=hadd.shrink (F:=X.far) (fun b hb=>⟨hb,fun hb'=>by simp [FC,CC] at hb'⟩);refine ⟨_,hadd.putLoc c.loc (x:=x) ?_ ?_⟩
   ·simp only [VRel,GN,CQ];subst hx;exact ⟨AZ _,none,0,0,none,rfl,rfl,AZ _,AZ _,AZ _,by simp [maxLen],.inl rfl,fun _=>rfl⟩
   ·revert hat;cases c.loc with
    | tmp t=>exact fun hat=>hat
    | cell b k=>
     intro hat;obtain ⟨cs,bb,T,cc,q1,q2,q3,q4⟩:=hat;intro cs2 hcs2;rw [GN] at hcs2;split at hcs2
     ·cases hcs2
     ·rename_i hne;exact ⟨bb,T,cc,by simp only [BD hne]; exact q2,q3,q4⟩
  ·exact ⟨γ,h⟩
 ·rename_i n lo hi hv;split
  ·rename_i e ag ks l hn hlo hob;have hn':=IN.1 hn;obtain rfl:=F1.1 hlo;obtain ⟨x,hx,hat⟩:=h.at c.loc hv (by simp);simp only [VRel,hob] at hx;have hk:=h.kill n;have hor:=h.ob n _ hob;have hkb:∀ b,FC (γ n) (.row true e ag ks l) b→E4 γ st.o n b:=fun b hb=>⟨_,hob,hb⟩
   have hadd:=hk.add c.nm h9 (.row true e ag ks l) (γ n) (fun b hb=>⟨.inr (hkb b hb),(h.lt b ⟨n,_,hob,hb⟩).2⟩) (fun O' hO'=>by
    simp only [ObRel] at hor ⊢;obtain ⟨k1,k2,xs,k3,k4⟩:=hor;refine ⟨k1,k2,xs,k3,fun i y hy=>Kd.RelAll.mono (Keep.refl _ w) (fun b _ hb=>?_) (fun _ _ hu=>hu) (k4 i y hy)⟩;rcases hO' b hb with h1 | h1 | h1
    ·obtain ⟨m,ob1,q1,q2⟩:=h1;simp only [St.up] at q1;rw [EG] at q1;split at q1
     ·cases q1
     ·exact .inl ⟨m,ob1,q1,q2⟩
    ·exact .inr h1
    ·obtain ⟨ob1,q1,q2⟩:=h1;exact .inl ⟨n,ob1,q1,q2⟩)
   have hadd:=hadd.shrink (F:=X.far) (fun b hb=>⟨.inl hb,fun hb'=>h.nr b ⟨n,_,hob,hb'⟩ hb⟩);refine ⟨_,hadd.putLoc c.loc (x:=x) ?_ ?_⟩
   ·simp only [VRel,GN,CQ];exact hx
   ·revert hat;cases c.loc with
    | tmp t=>exact fun hat=>hat
    | cell b k=>
     intro hat;obtain ⟨cs,bb,T,cc,q1,q2,q3,q4⟩:=hat;intro cs2 hcs2;rw [GN] at hcs2;split at hcs2
     ·cases hcs2
     ·rename_i hne;exact ⟨bb,T,cc,by simp only [BD hne]; exact q2,q3,q4⟩
  ·exact ⟨γ,h⟩
 ·exact ⟨γ,h⟩
theorem Rel.canons:∀ (l:List Can) {γ:Nat→Value} {st:St},Rel B nt w0 X γ st a w→∃ γ',Rel B nt w0 X γ' (canons l st) a w
 | [],γ,st,h=>⟨γ,h⟩
 | c :: r,γ,st,h=>by
  obtain ⟨γ1,h1⟩:=h.canon1 c;exact Rel.canons r h1
theorem Rel.restrict (h:Rel B nt w0 X γ st a w) (kp:KP):∃ γ',Rel B nt w0 X γ' (restrict kp st) a w:=by
 have h1:Rel B nt w0 X γ ⟨US st kp.t,st.o⟩ a w:=h.less (fun i=>j3 st kp.t i) (fun _ _ h=>h);obtain ⟨γ',h2⟩:=h1.canons kp.c;exact ⟨γ',h2.less (fun i=>j3 _ kp.t i) (fun n ob=>Br _ kp.o n ob)⟩
variable (hT:TiOK P B E) (hE:∀ t,t∈E.eqs→EqSnd P t (E.tyd t).ks) (hSp:SpOK P B E w0 X) (hB:BldOK P B E) (hnt:E.nt=nt) (hn9:nt≤900000)
include hT hE hSp hB hnt hn9
theorem oF {Q:Exit→Act→World→Prop} {r:V × List (List V)} {ops:Array Oper} {k:St→DO} :
  ∀ (l:List Oper) (i:Nat) {γ:Nat→Value} {st:St} {a:Act} {w:World},ops.toList.drop i=l→OW E ops.toList l st k=some r→Rel B nt w0 X γ st a w →
   (∀ γ' st' a' w',Rel B nt w0 X γ' st' a' w'→k st'=some r→Q .normal a' w')→wpOps P ops Q (List.range' i l.length) a w
 | [],i,γ,st,a,w,hl,he,h,hk=>by
  simp only [OW] at he;exact hk _ _ _ _ h he
 | o :: l,i,γ,st,a,w,hl,he,h,hk=>by
  have hoi:ops[i]?=some o:=by
   rw [← vax]
   have:=congrArg (·[0]?) hl
   simpa using this
  have hl':ops.toList.drop (i+1)=l:=by
   have:=congrArg (AS 1) hl
   simpa using this
  simp only [AM,List.range'_succ,wpOps,hoi];simp only [OW] at he;have hd:P6 E o.dst=true:=by
   cases hd:P6 E o.dst with
   | true=>rfl
   | false=>rw [hd] at he; cases he
  rw [hd] at he;simp only at he;have go:∀ {st:St},Rel B nt w0 X γ st a w→C3 o (yielded ops a.tmps)=true→((EF E st.o (opd st) o.dst o.op).run fun v us=>OW E ops.toList l ((st.ups us).put o.dst v) k)=some r →
    (if C3 o (yielded ops a.tmps)=true then o.wp P a w (wpOps P ops Q (List.range' (i+1) l.length)) Q∨(o.asks P a w∧LetsOut Q) else wpOps P ops Q (List.range' (i+1) l.length) (a.put o.dst undef) w):=by
   intro st h hw he;rw [BP hw];obtain ⟨v,us,h1,h2⟩:=T.run_some he;refine .inl (Eu hT hE hSp hB h o (fun d hdd e=>by subst e; rw [hdd] at hd; simp only [P6] at hd; have h8:900000+1≤E.nt:=AN hd; omega) h1 _ _ (fun γ' x w' h3 h4=>?_));exact oF l (i+1) hl' h2 (h3.put hnt hd h4) hk
  have no:∀ {st:St},Rel B nt w0 X γ st a w→C3 o (yielded ops a.tmps)=false→OW E ops.toList l (st.put o.dst (.tup [])) k=some r →
    (if C3 o (yielded ops a.tmps)=true then o.wp P a w (wpOps P ops Q (List.range' (i+1) l.length)) Q∨(o.asks P a w∧LetsOut Q) else wpOps P ops Q (List.range' (i+1) l.length) (a.put o.dst undef) w):=by
   intro st h hw he;rw [BD (by rw [hw]; simp)];exact oF l (i+1) hl' he (h.put hnt hd (by simp only [VRel]; exact ⟨#[],rfl,by simp only [VRels]⟩)) hk
  split at he
  ·rename_i hg;exact go h (by simp [C3,hg]) he
  ·rename_i j b hg;split at he
   ·rename_i dj hdj;split at he
    ·rename_i c hc;have hy:yielded ops a.tmps j=some c:=by
      unfold yielded;rw [show ops[j]?=ops.toList[j]? by simp,d9 _ _ _ hdj];simp [vS h hc]
     have hlit:=h.lit hc;cases c with
     | true=>
      simp only at he;cases b with
      | true=>exact go (st:=st.put (some dj) (.bool true)) hlit (by simp [C3,hg,hy]) he
      | false=>exact no (st:=st.put (some dj) (.bool true)) hlit (by simp [C3,hg,hy]) he
     | false=>
      simp only at he;cases b with
      | false=>exact go (st:=st.put (some dj) (.bool false)) hlit (by simp [C3,hg,hy]) he
      | true=>exact no (st:=st.put (some dj) (.bool false)) hlit (by simp [C3,hg,hy]) he
    ·rename_i hc;have hy:yielded ops a.tmps j=none:=by
      unfold yielded;rw [show ops[j]?=ops.toList[j]? by simp,d9 _ _ _ hdj];rcases Oa h hc with h0 | h0 <;> simp [h0]
     exact no h (by simp [C3,hg,hy]) he
    ·cases he
   ·cases he
def oH:Out→Exit
 | .normal=>.normal
 | .exit i=>.exit i
 | .ret=>.ret
omit hT hE hSp hB hnt hn9 in
theorem Ch (J:Nat→Prop) (h:∃ n,J n):∃ n,J n∧∀ m,J m→n≤m:=by
 obtain ⟨n,hn⟩:=h
 induction n using Nat.strongRecOn with
 | _ n ih=>
  by_cases hm:∃ m,m < n∧J m
  ·obtain ⟨m,h1,h2⟩:=hm;exact ih m h1 h2
  ·exact ⟨n,hn,fun m hJ=>Nat.le_of_not_lt (fun hlt=>hm ⟨m,hlt,hJ⟩)⟩
theorem W6 (hm:P.follows .mixedOrders=true) {r:V × List (List V)}:∀ (c:Code) {k:Out→St→DO} {Q:Exit→Act→World→Prop} {γ:Nat→Value} {st:St} {a:Act} {w:World},P0 E c st k=some r→Rel B nt w0 X γ st a w →
  (∀ o γ' st' a' w',Rel B nt w0 X γ' st' a' w'→k o st'=some r→Q (oH o) a' w')→c.wp P Q a w
 | .skip,k,Q,γ,st,a,w,he,h,hk=>wp_skip (hk .normal γ st a w h he)
 | .exit id,k,Q,γ,st,a,w,he,h,hk=>wp_exit (hk (.exit id) γ st a w h he)
 | .ret,k,Q,γ,st,a,w,he,h,hk=>wp_ret (hk .ret γ st a w h he)
 | .label _,k,Q,γ,st,a,w,he,h,hk=>by simp [P0,JX] at he
 | .goto _,k,Q,γ,st,a,w,he,h,hk=>by simp [P0,JX] at he
 | .scope _,k,Q,γ,st,a,w,he,h,hk=>by simp [P0,JX] at he
 | .rangeFunc _ _ _ _,k,Q,γ,st,a,w,he,h,hk=>by simp [P0,JX] at he
 | .region id ops draw,k,Q,γ,st,a,w,he,h,hk=>by
  simp only [P0,JX] at he;cases draw with
  | true=>
   simp only at he;exact Wg hT hE hSp hB hnt hn9 hm he h (fun γ' st' a' w' h' hk'=>hk .normal γ' _ a' w' (h'.prune _) hk')
  | false=>
   simp only at he;refine wp_region ?_;rw [show ops.size=ops.toList.length by simp,List.range_eq_range'];exact oF hT hE hSp hB hnt hn9 ops.toList 0 rfl he h (fun γ' st' a' w' h' hk'=>hk .normal γ' _ a' w' (h'.prune _) hk')
 | .seq x y,k,Q,γ,st,a,w,he,h,hk=>by
  simp only [P0,JX] at he;refine wp_seq (W6 hm x he h (fun o γ' st' a' w' h' hk'=>?_));cases o with
  | normal=>exact W6 hm y hk' h' hk
  | exit i=>exact hk (.exit i) γ' st' a' w' h' hk'
  | ret=>exact hk .ret γ' st' a' w' h' hk'
 | .cond c x y,k,Q,γ,st,a,w,he,h,hk=>by
  simp only [P0,JX] at he;split at he
  ·rename_i b hc;have hcr:=F8 h c;rw [hc] at hcr;simp only [VRel] at hcr;have hlit:Rel B nt w0 X γ (kC st c b) a w:=by
    unfold kC;split
    ·exact h.lit hc
    ·exact h
   cases b with
   | true=>exact wp_cond_true hcr (W6 hm x he hlit hk)
   | false=>exact wp_cond_false hcr (W6 hm y he hlit hk)
  ·cases he
 | .block id c,k,Q,γ,st,a,w,he,h,hk=>by
  simp only [P0,JX] at he;refine wp_block (W6 hm c he h (fun o γ' st' a' w' h' hk'=>?_));cases o with
  | normal=>exact hk .normal γ' st' a' w' h' hk'
  | ret=>exact hk .ret γ' st' a' w' h' hk'
  | exit i=>
   simp only [oH,Exit.inBlock];simp only [DQ] at hk';cases hb:BQ i id with
   | true=>
    rw [hb] at hk';rw [BP (F1.1 hb)];exact hk .normal γ' st' a' w' h' hk'
   | false=>
    rw [hb] at hk';rw [BD (IN.1 hb)];exact hk (.exit i) γ' st' a' w' h' hk'
 | .loop c,k,Q,γ,st,a,w,he,h,hk=>by
  simp only [P0,JX] at he;generalize E3 ⟨[],[],[]⟩ E.lp (ZC c)=kp at he
  let J:Act→World→Nat→Prop:=fun a w n=>∃ γ st,Rel B nt w0 X γ st a w∧RE c (JX RE E c) kp n st k=some r
  obtain ⟨γr,hr⟩:=h.restrict kp;refine wp_loop (fun a w=>∃ n,J a w n) (fun a w=>(Classical.epsilon fun n=>J a w n∧∀ m,J a w m→n≤m)) ⟨_,γr,_,hr,he⟩ ?_;intro a w hI;have hleast:=Classical.epsilon_spec (Ch (J a w) hI);generalize (Classical.epsilon fun n=>J a w n∧∀ m,J a w m→n≤m)=n at hleast;obtain ⟨⟨γ1,st1,h1,he1⟩,_⟩:=hleast;cases n with
  | zero=>simp [RE] at he1
  | succ n=>
   simp only [RE] at he1;refine W6 hm c he1 h1 (fun o γ' st' a' w' h' hk'=>?_);obtain ⟨γr,hr⟩:=h'.restrict kp;cases o with
   | normal=>
    simp only [oH,Exit.then];have hJ:J a' w' n:=⟨γr,_,hr,hk'⟩;refine ⟨⟨n,hJ⟩,?_⟩
    have:=Classical.epsilon_spec (Ch (J a' w') ⟨n,hJ⟩)
    exact Nat.lt_succ_of_le (this.2 n hJ)
   | exit i=>exact hk (.exit i) γr _ a' w' hr hk'
   | ret=>exact hk .ret γr _ a' w' hr hk'
end
open Go Go.RowKit
theorem pW (o:Store) (bs:List V) (tk:Option Kd) (v:V):HP (J0 (ES o bs tk v))=true:=by
 cases v <;> simp only [ES] <;> repeat' split
 all_goals rfl
theorem pL (o:Store) (bs:List V):∀ (l:List V) (ks:List Kd),(L4 (fun k v=>J0 (ES o bs k v)) ks l).all HP=true
 | [],ks=>by cases ks <;> rfl
 | v :: l,[]=>by simp [L4,pW,pL o bs l []]
 | v :: l,k :: ks=>by simp [L4,pW,pL o bs l ks]
theorem rR (o:Store) (ks:List Kd) (v:V):(match MU o ks v with | .agg l=>l.all HP | v=>HP v)=true∧∀ l,MU o ks v≠.tup l:=by
 by_cases hc:∃ l,v = .agg l
 ·obtain ⟨l,rfl⟩:=hc;simp only [MU];exact ⟨pL o [] l ks,fun l' h=>by cases h⟩
 ·have h1:MU o ks v=J0 (ES o [] ks.head? v):=by cases v <;> first | rfl | exact absurd ⟨_,rfl⟩ hc
  have h2:=pW o [] ks.head? v;rw [h1];cases hx:J0 (ES o [] ks.head? v) <;> rw [hx] at h2 <;> simp only [HP] at h2 ⊢ <;> first | (cases h2; done) | (refine ⟨trivial,fun l h=>?_⟩; cases h)
theorem rT (o:Store) (ks:List (List Kd)) (v:V):LY (HL o ks v)=true:=by
 by_cases hc:∃ l,v = .tup l
 ·obtain ⟨l,rfl⟩:=hc;simp only [HL,LY];have key:∀ (l:List V) (ks:List (List Kd)),((HL.go o ks l).all fun v=>match v with | .agg l=>l.all HP | v=>HP v)=true:=by
   intro l
   induction l with
   | nil=>intro ks; cases ks <;> rfl
   | cons v l ih=>
    intro ks;cases ks with
    | nil=>simp only [HL.go,vaA,AI]; exact ⟨(rR o [] v).1,ih []⟩
    | cons k ks=>simp only [HL.go,vaA,AI]; exact ⟨(rR o k v).1,ih ks⟩
  exact key l ks
 ·have h1:HL o ks v=MU o (ks.headD []) v:=by cases v <;> first | rfl | exact absurd ⟨_,rfl⟩ hc
  rw [h1];obtain ⟨h2,h3⟩:=rR o (ks.headD []) v;cases hx:MU o (ks.headD []) v <;> rw [hx] at h2 <;> simp only [LY] at h2 ⊢ <;> first | exact h2 | exact absurd hx (h3 _)
theorem nD (o:Store) (all:List Nat) (cs:List V):(cs.map (FJ o all)).all RM=true:=by
 refine CR.2 (fun v hv=>?_);obtain ⟨u,_,rfl⟩:=CI.1 hv;rcases dW o all u with ⟨_,_,_,_,_,_,_,_,_,h1⟩ | ⟨h1,_⟩
 ·rw [h1]; rfl
 ·cases hcc:FJ o all u <;> first | rfl | (rw [hcc] at h1; cases h1)
section
variable {B:BT} {nt:Nat} {w0:World} {X:Zone} {γ:Nat→Value} {st st':St} {a:Act} {w:World} {P:Program} {E:Env}
theorem zeR (h:Rel B nt w0 X γ st a w) {n:Nat} {cs:List V} (ho:DN st.o n=some (.box cs)) {extra:List Nat} {m:Nat} (hm:m∈extra) {b:Nat} (hr:RowOf γ st.o m b) :
  ¬ (E4 γ st.o n b∨∃ m∈G3 st.o (EV cs++extra) cs,E4 γ st.o m b):=by
 intro hLb;obtain ⟨e,ag,ks,l,h5,h6⟩:=hr;rcases hLb with ⟨ob,h7,h8⟩ | ⟨m2,h9,ob,h7,h8⟩
 ·have hne:n≠m:=by
   rintro rfl;rw [ho] at h5;cases h5
  exact h.dis n m ob _ b hne h7 h5 h8 h6
 ·by_cases hne:m2=m
  ·subst hne;obtain ⟨hi2,e2,ag2,ks2,l2,k1,k2,k3⟩:=SV.1 h9;rw [UX] at k3;have q1:=UY (XH k1);have q2:=UY hm;omega
  ·exact h.dis m2 m ob _ b hne h7 h5 h8 h6
theorem Yw {p:Value} (h:Rel ⟨B.T,B.e,some p,B.ng,B.F⟩ nt w0 X γ st a w) {v:V} {x:Value} (hv:VRel γ st.o w (DR X γ st.o) v x) {ks:List (List Kd)} {vs:List V} {r:V} {out:List (List V)} (he:jI st.o ks (GG vs) v=some (r,out)) {g0:Value} (hp:p=SI g0) :
  ∃ γ',Rel B.base 0 w0 X γ' ⟨[],GM r out⟩ JV w∧VRel γ' (GM r out) w (DR X γ' (GM r out)) (MV r) x∧KN vs r out g0 (γ' 900000):=by
 have hfar:∀ b,X.far b→DR X γ st.o b∧∀ b',b'=b→¬ FA γ st.o b':=fun b hb=>⟨.inr hb,fun b' e hP=>h.nr b' hP (e ▸ hb)⟩
 have hbd:∀ {n:Nat} {cs:List V} (ho:DN st.o n=some (.box cs)) (extra:List Nat),∃ γb,Rel B.base 0 w0 X γb ⟨[],EM (cs.map (FJ st.o (EV cs++extra)))⟩ JV w∧γb 900000=γ n ∧
   ∀ b,FA γb (EM (cs.map (FJ st.o (EV cs++extra)))) b→E4 γ st.o n b∨∃ m∈G3 st.o (EV cs++extra) cs,E4 γ st.o m b:=by
  intro n cs ho extra;exact h.bound ho extra (w1:=w0) (own1:=X.own) (F:=X.far) h.keep (fun b hb=>⟨.inr hb,fun ⟨ob,h1,h2⟩=>h.nr b ⟨n,ob,h1,h2⟩ hb,fun m _ ⟨ob,h1,h2⟩=>h.nr b ⟨m,ob,h1,h2⟩ hb,fun m _ ⟨ob,h1,h2⟩=>h.nr b ⟨m,ob,h1,h2⟩ hb⟩)
   (fun b hb=>by
    rcases hb with ⟨ob,h1,h2⟩ | ⟨m,_,ob,h1,h2⟩
    ·exact (h.lt b ⟨n,ob,h1,h2⟩).2
    ·exact (h.lt b ⟨m,ob,h1,h2⟩).2)
 have hbP:∀ {n b:Nat} {hs:List Nat},(E4 γ st.o n b∨∃ m∈hs,E4 γ st.o m b)→FA γ st.o b:=by
  rintro n b hs (⟨ob,h1,h2⟩ | ⟨m,_,ob,h1,h2⟩)
  ·exact ⟨n,ob,h1,h2⟩
  ·exact ⟨m,ob,h1,h2⟩
 unfold jI at he;split at he
 ·rename_i s0 hb;split at he
  ·rename_i s hob;simp only [AC,AV] at he;obtain ⟨rfl,rfl⟩:=he;obtain ⟨hR,hP⟩:=h.boundB hob (w1:=w0) (own1:=X.own) (F:=X.far) h.keep (fun b hb=>⟨.inr hb,fun ⟨ob,h1,h2⟩=>h.nr b ⟨_,ob,h1,h2⟩ hb⟩) (fun b ⟨ob,h1,h2⟩=>(h.lt b ⟨_,ob,h1,h2⟩).2);have hmo:GM (HL st.o ks v) [[.bld s]]=EM [.bld s]:=by cases HL st.o ks v <;> rfl
   have hf:=rT st.o ks v;refine ⟨_,by rw [hmo]; exact hR,?_,?_⟩
   ·rw [hmo,U7 hf];refine rU h hv (fun b _ hb=>?_) (fun m hm b hr hb=>?_) ks
    ·exact hb.imp_left (fun hb=>by obtain ⟨ob,h1,h2⟩:=hP b hb; exact ⟨_,ob,h1,h2⟩)
    ·obtain ⟨e,ag,ks',l,q1,q2⟩:=hr;rcases hb with hb | hb
     ·obtain ⟨ob,h1,h2⟩:=hP b hb;refine h.dis 900000 m ob _ b ?_ h1 q1 h2 q2;rintro rfl;rw [hob] at q1;cases q1
     ·exact h.nr b ⟨m,_,q1,q2⟩ hb
   ·simp only [KN,hb];exact ⟨hf,rfl,(h.pn p rfl _ hob).trans hp⟩
  ·cases he
 ·rename_i cs0 hnb hb;split at he
  ·rename_i cs hob;simp only [AC,AV] at he;obtain ⟨rfl,rfl⟩:=he;obtain ⟨γb,hR,hg,hP⟩:=hbd hob (K0 v);have hmo:GM (HL st.o ks v) [cs.map (FJ st.o (EV cs++K0 v))]=EM (cs.map (FJ st.o (EV cs++K0 v))):=by cases HL st.o ks v <;> rfl
   have hf:=rT st.o ks v;refine ⟨γb,by rw [hmo]; exact hR,?_,?_⟩
   ·rw [hmo,U7 hf];refine rU h hv (fun b _ hb=>hb.imp_left (fun hb=>hbP (hP b hb))) (fun m hm b hr hb=>?_) ks;rcases hb with hb | hb
    ·exact zeR h hob hm hr (hP b hb)
    ·obtain ⟨e,ag,ks',l,q1,q2⟩:=hr;exact h.nr b ⟨m,_,q1,q2⟩ hb
   ·simp only [KN,hb];refine ⟨hf,?_,?_⟩
    ·unfold r9;split
     ·exact absurd rfl (hnb _)
     ·exact absurd rfl (hnb _)
     ·exact nD _ _ _
    ·rw [hg];exact (h.pn p rfl _ hob).trans hp
  ·cases he
 ·rename_i hb;have fin9:∀ v,VRel γ st.o w (DR X γ st.o) v x→∃ γ',Rel B.base 0 w0 X γ' ⟨[],GM (HL st.o ks v) []⟩ JV w∧VRel γ' (GM (HL st.o ks v) []) w (DR X γ' (GM (HL st.o ks v) [])) (MV (HL st.o ks v)) x∧KN vs (HL st.o ks v) [] g0 (γ' 900000):=by
   intro v hv;have hf:=rT st.o ks v;have hmo:GM (HL st.o ks v) []=[]:=by
    cases hx:HL st.o ks v <;> first | rfl | (rw [hx] at hf; simp only [LY,HP] at hf; cases hf)
   refine ⟨γ,?_,?_,?_⟩
   ·rw [hmo];refine ⟨rfl,rfl,fun i=>by simp only [St.get,E3,VRel],fun n ob hn=>?_,?_,?_,h.keep,?_,h.fl,fun p hp=>by cases hp⟩
    ·simp only [DN,E3] at hn; cases hn
    ·rintro b ⟨n,ob,hn,_⟩; simp only [DN,E3] at hn; cases hn
    ·intro n m ob ob' b _ hn; simp only [DN,E3] at hn; cases hn
    ·rintro b ⟨n,ob,hn,_⟩; simp only [DN,E3] at hn; cases hn
   ·rw [hmo,U7 hf];refine rU h hv (fun b _ hb=>?_) (fun m hm b hr hb=>?_) ks
    ·rcases hb with ⟨n,ob,hn,_⟩ | hb
     ·simp only [DN,E3] at hn; cases hn
     ·exact .inr hb
    ·rcases hb with ⟨n,ob,hn,_⟩ | hb
     ·simp only [DN,E3] at hn; cases hn
     ·obtain ⟨e,ag,ks',l,q1,q2⟩:=hr;exact h.nr b ⟨m,_,q1,q2⟩ hb
   ·simp only [KN,hb];cases hx:HL st.o ks v <;> first | (rw [hx] at hf; exact hf) | (rw [hx] at hf; simp only [LY,HP] at hf; cases hf)
  split at he
  ·rename_i n i c;split at he
   ·rename_i cs hob hc;simp only [AC,AV] at he;obtain ⟨rfl,rfl⟩:=he;obtain rfl:=F1.1 hc;obtain ⟨γb,hR,hg,hP⟩:=hbd hob [];refine ⟨γb,hR,?_,?_⟩
    ·simp only [VRel,hob] at hv;simp only [GM,MV,EQ,VRel];rw [ZB (nD _ _ _),EG,BP rfl,hg];exact ⟨trivial,hv.2⟩
    ·simp only [KN,hb,ZQ];exact nD _ _ _
   ·cases he
  ·rename_i n lo hi;split at he
   ·rename_i e ag ks' l hob;split at he
    ·rename_i hlo;simp only [AC,AV] at he;obtain ⟨rfl,rfl⟩:=he;obtain rfl:=F1.1 hlo;obtain ⟨hpr,hpb⟩:=qT (γ':=fun m=>if m=900000 then x else γ m) (o':=[(900000,some (Ob.row true e ag ks' (l.take hi)))]) h hob hv;have hmo:GM (.vec e ag ks' (l.take hi)) []=[(900000,some (.row true e ag ks' (l.take hi)))]:=rfl;have obs:∀ m ob,DN [(900000,some (Ob.row true e ag ks' (l.take hi)))] m=some ob→m=900000∧ob = .row true e ag ks' (l.take hi):=fun m ob hn=>by
      rw [EG] at hn;split at hn
      ·rename_i h9;simp only [AC] at hn;exact ⟨h9.symm,hn.symm⟩
      ·simp [DN,E3] at hn
     have ownP:∀ b,FA (fun m=>if m=900000 then x else γ m) [(900000,some (Ob.row true e ag ks' (l.take hi)))] b→E4 γ st.o n b:=by
      rintro b ⟨m,ob,hn,hb⟩;obtain ⟨rfl,rfl⟩:=obs m ob hn;exact hpb b (by simpa only [CQ] using hb)
     have hlt:∀ b,E4 γ st.o n b→FA γ st.o b:=fun b ⟨ob,h1,h2⟩=>⟨n,ob,h1,h2⟩
     have hO:∀ b,b < w.heap.size→DR X (fun m=>if m=900000 then x else γ m) [(900000,some (Ob.row true e ag ks' (l.take hi)))] b→DR X γ st.o b:=fun b _ hb=>hb.imp_left (fun hb=>hlt b (ownP b hb))
     rw [hmo];refine ⟨fun m=>if m=900000 then x else γ m,⟨rfl,rfl,fun i=>by simp only [St.get,E3,VRel],fun m ob hn=>?_,fun b hb=>h.lt b (hlt b (ownP b hb)),fun m m' ob ob' b hnm h1 h2=>?_,h.keep,fun b hb=>h.nr b (hlt b (ownP b hb)),h.fl,fun p hp=>by cases hp⟩,?_,?_⟩
     ·obtain ⟨rfl,rfl⟩:=obs m ob hn;simp only [ObRel,CQ] at hpr ⊢;obtain ⟨k1,k2,xs,k3,k4⟩:=hpr;exact ⟨k1,k2,xs,k3,fun i y hy=>Kd.RelAll.mono (Keep.refl _ w) hO (fun _ _ hu=>hu) (k4 i y hy)⟩
     ·obtain ⟨rfl,rfl⟩:=obs m ob h1;obtain ⟨rfl,rfl⟩:=obs m' ob' h2;exact absurd rfl hnm
     ·simp only [MV,VRel,EG,CQ];refine ⟨AZ _,?_⟩;simp only [VRel,hob] at hv;obtain ⟨hl,p,len,cap,p',hgm,hxx,_,h22,h33,hm4,_,h5⟩:=hv;have htl:(l.take hi).length=hi:=by rw [BB,vaB hl]
      rw [htl];rw [va5,va5] at hxx;refine ⟨p',hi,cap,p',hxx,by rw [hxx]; simp,B5 _,AZ _,by omega,hm4,.inl ?_,fun _=>rfl⟩;cases p' <;> simp [Addr.add]
     ·simp only [KN,hb,ZQ]
    ·cases he
   ·simp only [AC,AV] at he;obtain ⟨rfl,rfl⟩:=he;exact fin9 _ hv
  ·rename_i hnp;simp only [AC,AV] at he;obtain ⟨rfl,rfl⟩:=he;exact fin9 _ hv
theorem zW:∀ (vs:List V) (i j:Nat),E3 .any (eC i vs) j=if i≤j∧j < i+vs.length then EQ (vs.getD (j - i) .any) else .any
 | [],i,j=>by
  rw [BD (by simp only [A6]; omega)];rfl
 | v :: r,i,j=>by
  simp only [eC,RD,zW r (i+1) j,AM];by_cases e:i=j
  ·subst e;simp
  ·rw [BD e];by_cases h:i+1≤j∧j < i+1+r.length
   ·rw [BP h,BP (by omega),show j - i=(j - (i+1))+1 by omega];simp
   ·rw [BD h,BD (by omega)]
theorem rS (hT:TiOK P B E) {w:World}:∀ {rs:List ResultVar} {l:List V},U5 E st rs=some l→Rel B nt w0 X γ st a w →
  ∃ xs:List Value,(rs.mapM fun r=>match r with | .tmp t=>pure (a.tmps.getD t undef) | .cell ad t=>do loadVar t (← asAddr (a.tmps.getD ad undef)):Sem (List Value)).run P w = .ok xs w∧VRels γ st.o w (DR X γ st.o) l xs
 | [],l,h,hR=>by
  simp only [U5,AC] at h;subst h;exact ⟨[],by simp,by simp only [VRels]⟩
 | .tmp t :: r,l,h,hR=>by
  simp only [U5] at h;split at h
  ·rename_i l' hl';simp only [AC] at h;subst h;obtain ⟨xs,h1,h2⟩:=rS hT hl' hR;refine ⟨a.tmps.getD t undef :: xs,?_,?_⟩
   ·simp only [List.mapM_cons,CN,CO,CB,h1]
   ·simp only [VRels];exact ⟨hR.tm t,h2⟩
  ·cases h
 | .cell ad t :: r,l,h,hR=>by
  simp only [U5] at h;split at h
  ·rename_i n i c hop;split at h
   ·rename_i cs hob;split at h
    ·rename_i v l' hv hl';simp only [AC] at h;subst h;obtain ⟨xs,h1,h2⟩:=rS hT hl' hR;have hx:=hR.tm ad;rw [hop] at hx;simp only [VRel,hob] at hx;obtain ⟨_,b,hg,hx⟩:=hx;have hor:=hR.ob n _ hob;simp only [ObRel] at hor;obtain ⟨b',cs',T,hg',hh,hr⟩:=hor;rw [hg] at hg';simp only [C0,AC,DH,B7] at hg';subst hg';obtain ⟨y,hy,hr'⟩:=Cd (hT.known (Cc hv)) hv hh hr;refine ⟨y :: xs,?_,?_⟩
     ·have hy':(do loadVar t (← asAddr (a.tmps.getD ad undef)):Sem Value).run P w = .ok y w:=by
       rw [hx];exact hy
      simp only [CN] at hy';simp only [List.mapM_cons,CN,hy',CO,CB,h1]
     ·simp only [VRels];exact ⟨hr',h2⟩
    ·cases h
   ·cases h
  ·cases h
theorem Wh {f:FuncId} {fn:Func} {code:Code} (hf:P.funcs[f]?=some fn) (hn:(fn.name == "runtime.NumGoroutine")=false) (hb:fn.body=some code) (hnt:E.nt=fn.ntmps) (hn9:B6 fn.ntmps 900000=true) {rs:List ResultVar} (hrs:fn.results.toList=rs)
  (rks:List (List Kd)) (hm:P.follows .mixedOrders=true) (hT:TiOK P B E) (hE:∀ t,t∈E.eqs→EqSnd P t (E.tyd t).ks) (hSp:∀ f sp,lk E.sp f=some sp→Snd P B f (fun vs=>(sp vs).get)) (hIp:∀ f p,lk E.ip f=some p→R7 P f p) (hB:BldOK P B E):Snd P B f (DZ E code rs rks):=by
 intro w X γ vs xs r out hsp hgl hxo hR hV;unfold DZ at hsp;split at hsp
 case h_2=>cases hsp
 rename_i hle;have hle':=AN hle;have hlen:xs.length=vs.length:=by rw [← hV.length,BG]
 refine Does.enter hf hn (by rw [hb]; rfl) (calls_of_wp hf hb ?_)
 let B':BT:=⟨B.T,B.e,some (SI (γ 900000)),B.ng,B.F⟩
 have hT':TiOK P B' E:=fun t x ht=>⟨(hT t x ht).info,(hT t x ht).ks,(hT t x ht).by1,(hT t x ht).one,(hT t x ht).und⟩
 have hSp':SpOK P B' E w X:=⟨⟨hgl,hxo⟩,fun f sp hfs=>hSp f sp hfs,hIp⟩;have hB':BldOK P B' E:=hB;have hstart:Rel B' fn.ntmps w X γ ⟨eC 0 vs,IU vs⟩ { tmps:=xs.toArray++Array.replicate (fn.ntmps - xs.toArray.size) undef,defers:=[] } w:=by
  refine ⟨?_,rfl,fun i=>?_,fun n ob hnob=>?_,hR.lt,hR.dis,hR.keep,hR.nr,hR.fl,fun p hp ob _=>?_⟩
  ·simp;omega
  ·simp only [St.get,zW];split
   ·rename_i hi;have hi':i < vs.length:=by omega
    have h1:(vs.map EQ)[i]?=some (EQ vs[i]):=by simp [hi']
    obtain ⟨x,hx,hvx⟩:=hV.get h1;have h2:vs.getD (i - 0) .any=vs[i]:=by simp [hi']
    rw [h2];have h3:(xs.toArray++Array.replicate (fn.ntmps - xs.toArray.size) undef).getD i undef=x:=by
     rw [vbq,Array.getElem?_append_left (by simp; omega)];simp [hx]
    simp only [h3];exact hvx
   ·simp only [VRel]
  ·have:=hR.ob n ob hnob
   cases ob with
   | box l=>simpa only [ObRel] using this
   | row own e ag ks l=>cases own <;> simpa only [ObRel] using this
   | bld s=>simpa only [ObRel,BT.base] using this
  ·simp only [B',AC] at hp;exact hp
 refine W6 hT' hE hSp' hB' hnt (AN hn9) hm code hsp hstart (fun o γ' st' a' w' h' hk'=>?_);have fin:∀ l,U5 E st' rs=some l→jI st'.o rks (GG vs) (Z0 l)=some (r,out)→bodyPost P fn (fun e w'=>∃ x,e = .returned x∧∃ γ',Rel B.base 0 w X γ' ⟨[],GM r out⟩ JV w'∧VRel γ' (GM r out) w' (DR X γ' (GM r out)) (MV r) x∧KN vs r out (γ 900000) (γ' 900000)) .ret a' w':=by
  intro l hl he;obtain ⟨ys,hy1,hy2⟩:=rS (P:=P) hT' hl h';have hval:(results fn a'.tmps).run P w' = .ok (if h:ys.toArray.size=1 then ys.toArray[0] else .tuple ys.toArray) w':=by
   unfold results;rw [show fn.results=rs.toArray by rw [← hrs]];rw [Array.mapM_eq_mapM_toList];simp only [CN,Sem.run_map]
   erw [hy1]
   rfl
  have hrel:VRel γ' st'.o w' (DR X γ' st'.o) (Z0 l) (if h:ys.toArray.size=1 then ys.toArray[0] else .tuple ys.toArray):=by
   match l,ys,hy2 with
   | [],[],_=>simp only [Z0,VRel]; exact ⟨#[],by simp,by simp only [VRels]⟩
   | [v],[y],h2=>simp only [VRels] at h2; simpa [Z0] using h2.1
   | v :: v' :: l,y :: y' :: ys,h2=>simp only [Z0,VRel]; exact ⟨(y :: y' :: ys).toArray,by simp,by simpa using h2⟩
  obtain ⟨γ2,q1,q2,q3⟩:=Yw (B:=B) h' hrel he rfl;exact ⟨h'.df,_,hval,_,rfl,γ2,q1,q2,q3⟩
 cases o with
 | exit i=>simp [DT] at hk'
 | normal=>
  simp only [DT] at hk';split at hk'
  ·rename_i l hl;exact fin l hl hk'
  ·cases hk'
 | ret=>
  simp only [DT] at hk';split at hk'
  ·rename_i l hl;exact fin l hl hk'
  ·cases hk'
end
open Go Go.RowKit
def zB:V→Value→Bool
 | .int k n,.int k' n'=>k==k'&&(n==n'&&ZG k n)
 | .bool b,.bool c=>b==c
 | .str s,.string s'=>s.size==0&&s'.size==0
 | .zs,.slice none 0 0=>true
 | .nilp,.pointer none=>true
 | .err true,.nilIface=>true
 | .any,_=>true
 | _,_=>false
def aK:List V→List Value→Bool
 | [],[]=>true
 | v :: vs,x :: xs=>zB v x&&aK vs xs
 | _,_=>false
def dB (P:Program) (T t:Nat) (ks:List Kd):TD→TypeDesc→Bool
 | .slice e,.slice e'=>e==e'
 | .struct fs,.struct fields=>fs==fields.toList.map (fun f=>(f.offset,f.type))&&fields.toList.all (fun f=>(P.info? f.type).isSome)
 | .array n e,.array n' e'=>n==n'&&e==e'
 | .ptr e,.pointer e'=>e==e'
 | .bld,_=>t==T
 | .iface,.interface _=>true
 | .leaf,d=>match ks with
  | [.int k]=>(match d with | .int k'=>k==k' | _=>false)
  | [.str]=>(match d with | .string=>true | _=>false)
  | [.bool]=>(match d with | .bool=>true | _=>false)
  | _=>true
 | _,_=>false
def lS (P:Program) (T t:Nat) (x:TI):Bool:=
 match P.info? t,P.underlying t with
 | some i,some d=>match i.zero with
  | some z=>i.size==x.size&&(i.bytes==x.bytes&&(z.cells.size==x.size&&(aK x.zero z.cells.toList&&(x.ks.length==x.size&&(B6 1 x.bytes&&((x.agg||x.size==1)&&(d.isRow==x.agg&&dB P T t x.ks x.d d)))))))
  | none=>false
 | _,_=>false
def gM (P:Program) (T:Nat):List (Nat × TI)→Bool
 | []=>true
 | (t,x) :: r=>lS P T t x&&gM P T r
theorem zjG {γ:Nat→Value} {o:Store} {w:World} {O:Nat→Prop} {v:V} {x:Value} (h:zB v x=true):VRel γ o w O v x:=by
 unfold zB at h;split at h
 ·simp only [AI,B8,ZG,AQ] at h;obtain ⟨rfl,rfl,h1,h2⟩:=h;simp only [VRel];exact ⟨trivial,h1,h2⟩
 ·simp only [B8] at h;subst h;simp only [VRel]
 ·rename_i s s';simp only [AI,B8] at h;have e:∀ s:BA,s.size=0→s=CK:=fun s hs=>by
   obtain ⟨⟨l⟩⟩:=s;cases l with
   | nil=>rfl
   | cons a l=>simp [AG] at hs
  simp only [VRel];rw [e s h.1,e s' h.2];exact ⟨rfl,by simp [ByteArray.size_empty]⟩
 ·simp only [VRel]
 ·simp only [VRel]
 ·simp only [VRel]
 ·simp only [VRel]
 ·cases h
theorem Pb {γ:Nat→Value} {o:Store} {w:World} {O:Nat→Prop}:∀ {l:List V} {xs:List Value},aK l xs=true→VRels γ o w O l xs
 | [],[],_=>by simp only [VRels]
 | [],_ :: _,h=>by simp [aK] at h
 | _ :: _,[],h=>by simp [aK] at h
 | v :: vs,x :: xs,h=>by
  simp only [aK,AI] at h;simp only [VRels];exact ⟨zjG h.1,Pb h.2⟩
theorem ziS {P:Program} {B:BT} {t:Nat} {x:TI} (h:lS P B.T t x=true):TISnd P B t x:=by
 unfold lS at h;split at h
 ·rename_i i d hi hd;split at h
  ·rename_i z hz;simp only [AI,B8,vap] at h;obtain ⟨h1,h2,h3,h4,h5,h6,h7,h8,h9⟩:=h;refine ⟨⟨i,z,hi,h1,h2,hz,h3,fun γ o w O=>Pb h4⟩,h5,AN h6,fun ha=>by rw [ha] at h7; simpa using h7,⟨d,hd,h8,?_⟩⟩;cases hx:x.d with
   | slice e=>rw [hx] at h9; cases d <;> simp only [dB] at h9 <;> first | (cases h9; done) | (simp only [B8] at h9; subst h9; rfl)
   | struct fs=>
    rw [hx] at h9;cases d <;> simp only [dB] at h9 <;> first | (cases h9; done) | skip
    rename_i fields;simp only [AI,B8,CR] at h9;exact ⟨fields,rfl,h9.1,h9.2⟩
   | array n e=>
    rw [hx] at h9;cases d <;> simp only [dB] at h9 <;> first | (cases h9; done) | skip
    simp only [AI,B8] at h9;obtain ⟨rfl,rfl⟩:=h9;rfl
   | ptr e=>rw [hx] at h9; cases d <;> simp only [dB] at h9 <;> first | (cases h9; done) | (simp only [B8] at h9; subst h9; rfl)
   | bld=>rw [hx] at h9; simp only [dB,B8] at h9; exact h9
   | iface=>rw [hx] at h9; cases d <;> simp only [dB] at h9 <;> first | (cases h9; done) | exact ⟨_,rfl⟩
   | leaf=>
    rw [hx] at h9;refine ⟨fun k hk=>?_,fun hk=>?_,fun hk=>?_⟩ <;> rw [hk] at h9 <;> cases d <;> simp only [dB] at h9 <;> first | (cases h9; done) | (simp only [B8] at h9; subst h9; rfl) | rfl
  ·cases h
 ·cases h
theorem Nh {P:Program} {B:BT} {E:Env} {ti:List (Nat × TI)} (he:E.ti=ti) (h:gM P B.T ti=true):TiOK P B E:=by
 subst he;have key:∀ (l:List (Nat × TI)),gM P B.T l=true→∀ t x,lk l t=some x→lS P B.T t x=true:=by
  intro l
  induction l with
  | nil=>intro _ t x hx; simp [lk] at hx
  | cons p r ih=>
   obtain ⟨j,y⟩:=p;intro hl t x hx;simp only [gM,AI] at hl;simp only [lk] at hx;split at hx
   ·rename_i hb;simp only [AC] at hx;subst hx;rw [← F1.1 hb];exact hl.1
   ·exact ih hl.2 t x hx
 exact fun t x ht=>ziS (key E.ti h t x ht)
def Z4 (P:Program) (t w:Nat):Bool:=match P.info? t with | some _=>P.cellsOf t==w | none=>false
def XS (ks:List Kd):Nat→List Kd
 | 0=>[]
 | n+1=>ks++XS ks n
def eD (P:Program) (g:Nat→Option (List Kd)):List Field→Nat→Option (List Kd)
 | [],_=>some []
 | f :: r,o=>match g f.type with
  | some ks=>match f.name != "_"&&(f.offset==o&&Z4 P f.type ks.length) with
   | true=>match eD P g r (o+ks.length) with
    | some ks'=>some (ks++ks')
    | none=>none
   | false=>none
  | none=>none
def SU (P:Program):Nat→Nat→Option (List Kd)
 | 0,_=>none
 | d+1,t=>match P.underlying t with
  | some (.int k)=>some [.int k]
  | some .bool=>some [.bool]
  | some (.struct fs)=>match P.stoodInHeld t with
   | true=>none
   | false=>eD P (SU P d) fs.toList 0
  | some (.array n e)=>match SU P d e with
   | some ks=>match Z4 P e ks.length with
    | true=>some (XS ks n)
    | false=>none
   | none=>none
  | _=>none
def jH (P:Program) (ti:List (Nat × TI)):List Nat→Bool
 | []=>true
 | t :: r=>(!(P.eqGuardType P.depth t))&&((match P.underlying t with | some d=>d.isRow | none=>false)&&(match SU P 10 t with | some ks=>JA.kdsEq (E3 TI.none ti t).ks ks | none=>false))&&jH P ti r
theorem eO:∀ {ks:List Kd} {l:List V},JM ks l=true→l.length=ks.length
 | [],[],_=>rfl
 | [],_ :: _,h=>by simp [JM] at h
 | k :: _,[],h=>by cases k <;> simp [JM] at h
 | k :: ks,v :: l,h=>by
  cases k <;> cases v <;> simp only [JM] at h <;> try (cases h; done)
  ·split at h
   ·simp [eO h]
   ·cases h
  ·simp [eO h]
theorem jX:∀ {ks ks':List Kd} {l:List V},JM (ks++ks') l=true→JM ks (l.take ks.length)=true∧JM ks' (l.drop ks.length)=true
 | [],_,_,h=>⟨rfl,h⟩
 | k :: ks,ks',[],h=>by cases k <;> simp [JM] at h
 | k :: ks,ks',v :: l,h=>by
  cases k <;> cases v <;> simp only [CT,JM] at h <;> try (cases h; done)
  ·split at h
   ·rename_i hk;obtain ⟨h1,h2⟩:=jX h;simp only [AM,List.take_succ_cons,List.drop_succ_cons,JM,hk];exact ⟨h1,h2⟩
   ·cases h
  ·obtain ⟨h1,h2⟩:=jX h;simp only [AM,List.take_succ_cons,List.drop_succ_cons,JM];exact ⟨h1,h2⟩
theorem jG:∀ {a a':List V} {b b':List V} {c:Bool},a.length=a'.length→JW (a++b) (a'++b')=some c→∃ c1 c2,JW a a'=some c1∧JW b b'=some c2∧c=(c1&&c2)
 | [],[],b,b',c,_,h=>⟨true,c,rfl,h,by simp⟩
 | [],_ :: _,_,_,_,hl,_=>by simp at hl
 | _ :: _,[],_,_,_,hl,_=>by simp at hl
 | x :: a,y :: a',b,b',c,hl,h=>by
  have hl':a.length=a'.length:=by simpa using hl
  cases x <;> cases y <;> simp only [CT,JW] at h ⊢ <;> try (cases h; done)
  ·split at h
   ·rename_i hk;split at h
    ·rename_i c0 h0;simp only [AC] at h;obtain ⟨c1,c2,h1,h2,h3⟩:=jG hl' h0;rw [h1];exact ⟨_,c2,rfl,h2,by rw [← h,h3,Bool.and_assoc]⟩
    ·cases h
   ·cases h
  ·split at h
   ·rename_i c0 h0;simp only [AC] at h;obtain ⟨c1,c2,h1,h2,h3⟩:=jG hl' h0;rw [h1];exact ⟨_,c2,rfl,h2,by rw [← h,h3,Bool.and_assoc]⟩
   ·cases h
theorem jF:∀ {a a':List V} {c:Bool},JW a a'=some c→a.length=a'.length
 | [],[],_,_=>rfl
 | [],_ :: _,_,h=>by simp [JW] at h
 | x :: _,[],_,h=>by cases x <;> simp [JW] at h
 | x :: a,y :: a',c,h=>by
  cases x <;> cases y <;> simp only [JW] at h <;> try (cases h; done)
  ·split at h
   ·split at h
    ·rename_i h0;simp [jF h0]
    ·cases h
   ·cases h
  ·split at h
   ·rename_i h0;simp [jF h0]
   ·cases h
section
variable {P:Program} {γ:Nat→Value} {o:Store} {w:World} {O:Nat→Prop}
def TU (P:Program) (γ:Nat→Value) (o:Store) (w:World) (O:Nat→Prop) (t:Nat) (l:List V) (x:Value):Prop:=
 match P.underlying t with
 | some d=>match d.isRow with
  | true=>∃ xs,x = .agg xs∧VRels γ o w O l xs.toList
  | false=>∃ v,l=[v]∧VRel γ o w O v x
 | none=>False
theorem zZ {d t:Nat} {ks:List Kd} (h:SU P d t=some ks):∃ k,P.underlying t=some k∧(k.isRow=false→ks.length=1):=by
 cases d with
 | zero=>simp [SU] at h
 | succ d=>
  simp only [SU] at h;split at h
  ·rename_i hu; simp only [AC] at h; exact ⟨_,hu,fun _=>by rw [← h]; rfl⟩
  ·rename_i hu; simp only [AC] at h; exact ⟨_,hu,fun _=>by rw [← h]; rfl⟩
  ·rename_i hu; exact ⟨_,hu,fun h=>by simp [vbp] at h⟩
  ·rename_i hu; exact ⟨_,hu,fun h=>by simp [vbp] at h⟩
  ·cases h
theorem iS {t n off:Nat} {l:List V} {xs:Array Value} (hu:∃ k,P.underlying t=some k∧(k.isRow=false→n=1)) (hs:Z4 P t n=true) (hr:VRels γ o w O l xs.toList) (hl:off+n≤l.length) (W:World) :
  ∃ y,(part t xs off).run P W = .ok y W∧TU P γ o w O t ((l.drop off).take n) y:=by
 obtain ⟨k,hu,hn⟩:=hu;unfold Z4 at hs;split at hs
 ·rename_i i hi;simp only [B8] at hs;cases hrow:k.isRow with
  | true=>
   refine ⟨.agg (xs.extract off (off+n)),?_,?_⟩
   ·cases k <;> simp [vbp] at hrow <;> simp [part,isAgg,BK hu,run_sizeOf W hi,hs]
   ·unfold TU;rw [hu];simp only [hrow];refine ⟨_,rfl,?_⟩
    have:(xs.extract off (off+n)).toList=(xs.toList.drop off).take n:=by
     simp [List.extract_eq_take_drop]
    rw [this];exact (hr.drop off).take n
  | false=>
   obtain rfl:=hn hrow;obtain ⟨v,hv⟩:∃ v,l[off]?=some v:=⟨l[off]'(by omega),A8 _⟩;obtain ⟨y,hy,hyr⟩:=hr.get hv;have hy':xs[off]?=some y:=by simpa using hy
   refine ⟨y,?_,?_⟩
   ·cases k <;> simp [vbp] at hrow <;> simp [part,isAgg,BK hu,hy']
   ·unfold TU;rw [hu];simp only [hrow];refine ⟨v,?_,hyr⟩;rw [List.take_one,List.head?_drop,hv];rfl
 ·cases hs
def mJ (P:Program) (γ:Nat→Value) (o:Store) (w:World) (O:Nat→Prop) (dd t:Nat) (ks:List Kd):Prop:=∀ (W:World) (x y:Value) (l l':List V) (c:Bool),JM ks l=true→TU P γ o w O t l x→TU P γ o w O t l' y→JW l l'=some c→(vbs dd t x y).run P W = .ok c W
theorem lQ (l:List V) (off n:Nat):l.drop off=(l.drop off).take n++l.drop (off+n):=by
 rw [← List.drop_drop]; exact (List.take_append_drop n (l.drop off)).symm
theorem zX {dd:Nat} {g:Nat→Option (List Kd)} (hg:∀ t ks,g t=some ks→mJ P γ o w O dd t ks∧∃ k,P.underlying t=some k∧(k.isRow=false→ks.length=1)) {xs ys:Array Value} {l l':List V} (hx:VRels γ o w O l xs.toList) (hy:VRels γ o w O l' ys.toList) (hll:l.length=l'.length) (W:World) :
  ∀ (fs:List Field) (off:Nat) {ks:List Kd} {c:Bool},off≤l.length→eD P g fs off=some ks→JM ks (l.drop off)=true→JW (l.drop off) (l'.drop off)=some c→(Op.eqFields dd xs ys fs).run P W = .ok c W
 | [],off,ks,c,hoff,hf,hk,he=>by
  simp only [eD,AC] at hf;subst hf;have h0:=eO hk;have h1:l.drop off=[]:=List.length_eq_zero_iff.1 h0;have h2:l'.drop off=[]:=by
   have:=jF he
   rw [h1] at this;exact List.length_eq_zero_iff.1 this.symm
  rw [h1,h2] at he;simp only [JW,AC] at he;subst he;simp [Op.eqFields]
 | f :: r,off,ks,c,hoff,hf,hk,he=>by
  simp only [eD] at hf;split at hf
  ·rename_i ks1 hw;split at hf
   ·rename_i hb;split at hf
    ·rename_i ks2 hf2;simp only [AC] at hf;subst hf;simp only [AI,B8,bne_iff_ne,ne_eq] at hb;obtain ⟨hn,ho,hs⟩:=hb;obtain ⟨hrun,hu⟩:=hg _ _ hw;obtain ⟨hk1,hk2⟩:=jX hk;rw [List.drop_drop] at hk2;have hkl:=eO hk;simp only [CY,AT] at hkl;have hle:off+ks1.length≤l.length:=by omega
     rw [lQ l off ks1.length,lQ l' off ks1.length] at he;obtain ⟨c1,c2,h1,h2,h3⟩:=jG (by simp; omega) he;obtain ⟨a,ha,hac⟩:=iS (off:=off) hu hs hx hle W;obtain ⟨b,hb,hbc⟩:=iS (off:=off) hu hs hy (by omega) W;have he1:=hrun W a b _ _ c1 hk1 hac hbc h1;have ih:=zX hg hx hy hll W r (off+ks1.length) hle hf2 hk2 h2;simp only [Op.eqFields,hn,ne_eq,not_false_eq_true,CQ,CN,ho,ha,hb,he1,CB];subst h3;cases c1
     ·simp
     ·simpa using ih
    ·cases hf
   ·cases hf
  ·cases hf
theorem zY {dd e:Nat} {ks:List Kd} (hrun:mJ P γ o w O dd e ks) (hu:∃ k,P.underlying e=some k∧(k.isRow=false→ks.length=1)) (hs:Z4 P e ks.length=true) {xs ys:Array Value} {l l':List V} (hx:VRels γ o w O l xs.toList) (hy:VRels γ o w O l' ys.toList) (hll:l.length=l'.length) (W:World) :
  ∀ (m i:Nat) {c:Bool},i*ks.length+m*ks.length=l.length→JM (XS ks m) (l.drop (i*ks.length))=true→JW (l.drop (i*ks.length)) (l'.drop (i*ks.length))=some c→(Op.eqItems dd e ks.length xs ys (List.range' i m)).run P W = .ok c W
 | 0,i,c,hl,hk,he=>by
  rw [CD (by omega),CD (by omega)] at he;simp only [JW,AC] at he;subst he;simp [Op.eqItems]
 | m+1,i,c,hl,hk,he=>by
  rw [van,vby] at hl;obtain ⟨hk1,hk2⟩:=jX (ks:=ks) (ks':=XS ks m) hk;rw [List.drop_drop] at hk2;rw [lQ l (i*ks.length) ks.length,lQ l' (i*ks.length) ks.length] at he;obtain ⟨c1,c2,h1,h2,h3⟩:=jG (by simp; omega) he;obtain ⟨a,ha,hac⟩:=iS (off:=i*ks.length) hu hs hx (by omega) W;obtain ⟨b,hb,hbc⟩:=iS (off:=i*ks.length) hu hs hy (by omega) W;have he1:=hrun W a b _ _ c1 hk1 hac hbc h1;have ih:=zY hrun hu hs hx hy hll W m (i+1) (by rw [van,vby]; omega) (by rw [van,vby]; exact hk2) (by rw [van,vby]; exact h2);simp only [List.range'_succ,Op.eqItems,CN,ha,hb,he1,CB];subst h3;cases c1
  ·simp
  ·simpa using ih
theorem Hf (ks:List Kd):∀ n,(XS ks n).length=n*ks.length
 | 0=>by simp [XS]
 | n+1=>by simp only [XS,AT,Hf ks n,van,vby]; omega
theorem oD (dd:Nat):∀ (d t:Nat) (ks:List Kd),SU P d t=some ks→mJ P γ o w O (dd+d) t ks
 | 0,t,ks,h=>by simp [SU] at h
 | d+1,t,ks,h=>by
  intro W x y l l' c hk hx hy he;have hll:=jF he;simp only [SU] at h;unfold TU at hx hy;split at h
  ·rename_i k hu;simp only [AC] at h;subst h;rw [hu] at hx hy;simp only at hx hy;obtain ⟨v,rfl,hx⟩:=hx;obtain ⟨v',rfl,hy⟩:=hy;cases v <;> simp only [JM] at hk <;> try (cases hk; done)
   cases v' <;> simp only [JW] at he <;> try (cases he; done)
   simp only [VRel] at hx hy;obtain ⟨rfl,_⟩:=hx;obtain ⟨rfl,_⟩:=hy;split at he
   ·rename_i hkk;simp only [AC,B2] at he;have hkk:=eq_of_beq hkk;subst hkk;rw [show dd+(d+1)=(dd+d)+1 from rfl,run_equalIn_int W _ t _ k _ _ hu,he]
   ·cases he
  ·rename_i hu;simp only [AC] at h;subst h;rw [hu] at hx hy;simp only at hx hy;obtain ⟨v,rfl,hx⟩:=hx;obtain ⟨v',rfl,hy⟩:=hy;cases v <;> simp only [JM] at hk <;> try (cases hk; done)
   cases v' <;> simp only [JW] at he <;> try (cases he; done)
   simp only [VRel] at hx hy;subst hx; subst hy;simp only [AC,B2] at he;rw [show dd+(d+1)=(dd+d)+1 from rfl,run_equalIn_bool W _ t _ _ hu,he]
  ·rename_i fs hu;rw [hu] at hx hy;simp only at hx hy;obtain ⟨xs,rfl,hx⟩:=hx;obtain ⟨ys,rfl,hy⟩:=hy;split at h
   ·cases h
   ·rename_i hst;have hfs:P.fieldsOf t=fs:=by simp [Program.fieldsOf,hu]
    rw [show dd+(d+1)=(dd+d)+1 from rfl,run_equalIn_struct W (dd+d) t xs ys (by rw [hfs]; exact hu) hst,hfs];exact zX (fun t ks ht=>⟨oD dd d t ks ht,zZ ht⟩) hx hy hll W fs.toList 0 (B5 _) h hk he
  ·rename_i m e hu;rw [hu] at hx hy;simp only at hx hy;obtain ⟨xs,rfl,hx⟩:=hx;obtain ⟨ys,rfl,hy⟩:=hy;split at h
   ·rename_i ks1 hw;split at h
    ·rename_i hs;simp only [AC] at h;subst h;have hs':=hs;unfold Z4 at hs';split at hs'
     ·rename_i i hi;simp only [B8] at hs';have hkl:=eO hk;rw [Hf] at hkl;rw [show dd+(d+1)=(dd+d)+1 from rfl,run_equalIn_array W (dd+d) xs ys hu hi,hs',List.range_eq_range'];exact zY (oD dd d e ks1 hw) (zZ hw) hs hx hy hll W m 0 (by omega) (by simpa using hk) (by simpa using he)
     ·cases hs'
    ·cases h
   ·cases h
  ·cases h
end
theorem z7 {P:Program} {E:Env} {ti:List (Nat × TI)} (hti:E.ti=ti) {l:List Nat} (h:jH P ti l=true):∀ t,t∈l→EqSnd P t (E.tyd t).ks:=by
 induction l with
 | nil=>intro t ht; cases ht
 | cons t r ih=>
  intro t' ht';simp only [jH,AI,B3] at h;rcases AP.1 ht' with e | e
  ·subst e;refine ⟨h.1.1,fun γ o w w' O l l' xs ys c hk hc hx hy=>?_⟩;obtain ⟨⟨_,h2,h3⟩,_⟩:=h;split at h3
   ·rename_i ks hn;have hks:(E.tyd t').ks=ks:=by
     unfold Env.tyd;rw [hti];exact o9 h3
    rw [hks] at hk;split at h2
    ·rename_i k hk2;have hcx:∀ {l:List V} {xs:Array Value},VRels γ o w O l xs.toList→TU P γ o w O t' l (.agg xs):=fun hx=>by
      unfold TU;rw [hk2];simp only [h2];exact ⟨_,rfl,hx⟩
     exact oD (P:=P) (γ:=γ) (o:=o) (w:=w) (O:=O) 9990 10 t' ks hn w' (.agg xs) (.agg ys) l l' c hk (hcx hx) (hcx hy) hc
    ·cases h2
   ·cases h3
  ·exact ih h.2 t' e
open Go Go.RowKit
theorem Snd.mono {P:Program} {B:BT} {f:FuncId} {sp sp':T5} (h:Snd P B f sp) (hs:∀ vs r,sp' vs=some r→sp vs=some r):Snd P B f sp':=
 fun w X γ vs xs r out hsp=>h w X γ vs xs r out (hs vs _ hsp)
def DX (P:Program) (B:BT) (f:FuncId) (sp:DV):Prop:=Snd P B f (fun vs=>(sp vs).get)
mutual
def YB:Kd→IV→Prop
 | .int k,x=>k.min≤x.toInt∧x.toInt≤k.max
 | .bool,_=>True
 | .str,x=>x.toStr.size≤strMax
 | .list ag ks,x=>x.toList.length≤strMax∧∀ y∈x.toList,YC ks (F6 ag y) 0
def YC:List Kd→(Nat→IV)→Nat→Prop
 | [],_,_=>True
 | k :: ks,f,j=>YB k (f j)∧YC ks f (j+1)
end
def wfL:V→Prop
 | .int k n=>k.min≤n∧n≤k.max
 | .str s=>s.size≤strMax
 | .list ag ks l=>l.length≤strMax∧∀ y∈l,YC ks (F6 ag y) 0
 | .vec _ ag ks l=>l.length≤strMax∧∀ y∈l,YC ks (F6 ag y) 0
 | .bld s=>s.size≤strMax
 | _=>True
def wfLs:List V→Prop
 | []=>True
 | v :: r=>wfL v∧wfLs r
def QN:V→Prop
 | .agg l=>wfLs l
 | .bor l=>wfLs l
 | v=>wfL v
def TJ:List V→Prop
 | []=>True
 | v :: r=>QN v∧TJ r
mutual
theorem Kd.Rel.wf {w:World} {O:Nat→Prop}:∀ {k:Kd} {x:IV} {v:Value},Kd.Rel w O k x v→YB k x
 | .int k,x,v,h=>by simp only [Kd.Rel] at h; simp only [YB]; exact h.2
 | .bool,x,v,h=>by simp only [YB]
 | .str,x,v,h=>by simp only [Kd.Rel] at h; simp only [YB]; exact h.2
 | .list ag ks,x,v,h=>by
  simp only [Kd.Rel] at h;obtain ⟨p,c,_,_,_,hl,hi⟩:=h;simp only [YB];refine ⟨hl,fun y hy=>?_⟩;obtain ⟨i,hi'⟩:=List.getElem?_of_mem hy;obtain ⟨b,o,_,_,_,hr⟩:=hi i y hi';exact Kd.RelAll.wf hr
theorem Kd.RelAll.wf {w:World} {O:Nat→Prop}:∀ {ks:List Kd} {f:Nat→IV} {j:Nat} {R:Nat→Value→Prop},Kd.RelAll w O ks f j R→YC ks f j
 | [],_,_,_,_=>by simp only [YC]
 | k :: ks,f,j,R,h=>by
  simp only [Kd.RelAll] at h;obtain ⟨⟨u,_,hr⟩,h2⟩:=h;simp only [YC];exact ⟨Kd.Rel.wf hr,Kd.RelAll.wf h2⟩
end
theorem VRel.wfL {γ:Nat→Value} {o:Store} {w:World} {O:Nat→Prop} {v:V} {x:Value} (h:VRel γ o w O v x):wfL v:=by
 cases v <;> simp only [FM.wfL] <;> simp only [VRel] at h
 ·exact h.2
 ·exact h.2
 ·have:=Kd.Rel.wf h
  simp only [YB,IV.toList] at this;exact this
theorem VRels.wfLs {γ:Nat→Value} {o:Store} {w:World} {O:Nat→Prop}:∀ {l:List V} {xs:List Value},VRels γ o w O l xs→wfLs l
 | [],[],_=>by simp only [FM.wfLs]
 | [],_ :: _,h=>by simp only [VRels] at h
 | _ :: _,[],h=>by simp only [VRels] at h
 | v :: vs,x :: xs,h=>by
  simp only [VRels] at h;simp only [FM.wfLs];exact ⟨h.1.wfL,VRels.wfLs h.2⟩
theorem zgt {B:BT} {γ:Nat→Value} {o:Store} {w:World} {O:Nat→Prop} {g:Value} {e:Nat} {ag:Bool} {ks:List Kd} {l:LI} (h:ObRel B γ o w O g (.row true e ag ks l)):wfL (.vec e ag ks l):=by
 simp only [ObRel] at h;obtain ⟨_,hl,xs,_,hr⟩:=h;simp only [FM.wfL];refine ⟨hl,fun y hy=>?_⟩;obtain ⟨i,hi⟩:=List.getElem?_of_mem hy;exact Kd.RelAll.wf (hr i y hi)
theorem zcs {B:BT} {nt:Nat} {w0:World} {X:Zone} {γ:Nat→Value} {a:Act} {w:World} {cs:List V} (h:Rel B nt w0 X γ ⟨[],EM cs⟩ a w):wfLs cs:=by
 by_cases hb:∃ s,cs=[.bld s]
 ·obtain ⟨s,rfl⟩:=hb
  have:=h.ob 900000 (.bld s) (by simp [EM,EG])
  simp only [ObRel] at this;obtain ⟨b,v,p,_,_,_,_,_,hs⟩:=this;simp only [FM.wfLs,FM.wfL,B7];exact hs
 ·have he:EM cs=(900000,some (.box (GL 900001 cs))) :: KW 900001 cs:=oB (fun s e=>hb ⟨s,e⟩);have hbox:=h.ob 900000 (.box (GL 900001 cs)) (by rw [he,EG,BP rfl]);simp only [ObRel] at hbox;obtain ⟨b,c,T,_,_,hr⟩:=hbox;have hall:∀ (j:Nat) (v:V),cs[j]?=some v→FM.wfL v:=by
   intro j v hj;by_cases hv:∃ e ag ks l,v = .vec e ag ks l
   ·obtain ⟨e,ag,ks,l,rfl⟩:=hv;have hat:=f8 (nr:=900001) hj
    have:=h.ob (900001+j) _ (show DN (EM cs) (900001+j)=_ by rw [he,EG,BD (by omega)]; exact hat)
    exact zgt this
   ·have hbk:(GL 900001 cs)[j]?=some v:=by
     rw [dR,hj];cases v <;> first | rfl | exact absurd ⟨_,_,_,_,rfl⟩ hv
    obtain ⟨x,_,hx⟩:=hr.get hbk;exact hx.wfL
  clear hr he hb h
  induction cs with
  | nil=>simp only [FM.wfLs]
  | cons v r ih=>
   simp only [FM.wfLs];exact ⟨hall 0 v rfl,ih (fun j u hj=>hall (j+1) u (by simpa using hj))⟩
theorem vC {B:BT} {nt:Nat} {w0:World} {X:Zone} {γ:Nat→Value} {a:Act} {w:World} {O:Nat→Prop} {o:Store} {cs:Option (List V)} (hcs:∀ l,cs=some l→wfLs l):∀ {vs:List V} {xs:List Value},(∀ l,.bor l∈vs→cs=some l)→VRels γ o w O (vs.map EQ) xs→TJ vs
 | [],_,_,_=>by simp only [TJ]
 | v :: r,[],_,h=>by simp only [A0,VRels] at h
 | v :: r,x :: xs,hb,h=>by
  simp only [A0,VRels] at h;simp only [TJ];refine ⟨?_,vC (B:=B) (nt:=nt) (w0:=w0) (X:=X) (a:=a) hcs (fun l hl=>hb l (AY _ hl)) h.2⟩;have h1:=h.1;by_cases hbor:∃ l,v = .bor l
  ·obtain ⟨l,rfl⟩:=hbor;simp only [QN];exact hcs l (hb l (AO ..))
  ·by_cases hagg:∃ l,v = .agg l
   ·obtain ⟨l,rfl⟩:=hagg;simp only [EQ,VRel] at h1;obtain ⟨cs',_,hr⟩:=h1;simp only [QN];exact hr.wfLs
   ·have:QN v=FM.wfL v:=by cases v <;> first | rfl | exact absurd ⟨_,rfl⟩ hbor | exact absurd ⟨_,rfl⟩ hagg
    rw [this];cases v <;> first | exact h1.wfL | exact absurd ⟨_,rfl⟩ hbor | exact absurd ⟨_,rfl⟩ hagg | (simp only [FM.wfL])
def LB:List V→Option (List V)→Prop
 | [],_=>True
 | .bor l :: r,c=>c=some l∧LB r c
 | _ :: r,c=>LB r c
theorem qF:∀ {vs:List V} {c:Option (List V)},LB vs c→∀ l,.bor l∈vs→c=some l
 | [],_,_,l,h=>by cases h
 | v :: r,c,ho,l,h=>by
  rcases AP.1 h with e | e
  ·subst e;exact ho.1
  ·cases v <;> simp only [LB] at ho <;> first | exact qF ho l e | exact qF ho.2 l e
theorem Jn {P:Program} {B:BT} {f:FuncId} {fn:Func} (E:Nat→Env) (sp:DV) (rks:List (List Kd)) (hf:P.funcs[f]?=some fn) {code:Code} {rs:List ResultVar} {nt:Nat}
  (hc:(fn.name == "runtime.NumGoroutine")=false∧fn.body=some code∧fn.ntmps=nt∧B6 nt 900000=true∧fn.results.toList=rs) (hnt:∀ N,(E N).nt=nt) (hm:P.follows .mixedOrders=true)
  (hT:∀ N,TiOK P B (E N)) (hE:∀ N t,t∈(E N).eqs→EqSnd P t ((E N).tyd t).ks) (hSp:∀ N f sp,lk (E N).sp f=some sp→DX P B f sp) (hIp:∀ N f p,lk (E N).ip f=some p→R7 P f p) (hB:∀ N,BldOK P B (E N))
  (h:∀ vs r,(LB vs (GG vs)→TJ vs)→(sp vs).get=some r→∃ N,DZ (E N) code rs rks vs=some r):DX P B f sp:=by
 intro w X γ vs xs r out hsp hg hx hR hV;have hwf:LB vs (GG vs)→TJ vs:=fun ho=>by
  refine vC (B:=B.base) (nt:=0) (w0:=w) (X:=X) (a:=JV) (cs:=GG vs) (fun l hl=>?_) (qF ho) hV;have hm:IU vs=EM l:=by simp only [IU,hl]
  rw [hm] at hR;exact zcs hR
 obtain ⟨N,hN⟩:=h vs _ hwf hsp;exact Wh hf hc.1 hc.2.1 ((hnt N).trans hc.2.2.1.symm) (by rw [hc.2.2.1]; exact hc.2.2.2.1) hc.2.2.2.2 rks hm (hT N) (hE N) (hSp N) (hIp N) (hB N) w X γ vs xs r out hN hg hx hR hV
abbrev ic (n:Nat):Int:=n
abbrev DY (E:Env) (c:Code) (kp:KP) (n:Nat) (s:St) (k:Out→St→DO):DO:=RE c (JX RE E c) kp n s k
abbrev DS (E:Env) (c:Code) (k:Out→St→DO):Out→St→DO:=Bq c (JX RE E c) k
abbrev EZ (E:Env) (c:Code) (s:St) (k:Out→St→DO):DO:=JX RE E c s k
theorem D4 (E:Env) (c:Code) (kp:KP) (n:Nat) (s:St) (k:Out→St→DO):DY E c kp (n+1) s k=EZ E c s (EN (fun s'=>DY E c kp n s' k) kp k):=rfl
def D1 (fn:Func):Code:=match fn.body with | some c=>c | none=>.skip
def DK:Code→List Nat→Code
 | c,[]=>c
 | .seq a _,0 :: r=>DK a r
 | .seq _ b,_ :: r=>DK b r
 | .cond _ a _,0 :: r=>DK a r
 | .cond _ _ b,_ :: r=>DK b r
 | .block _ c,_ :: r=>DK c r
 | .loop c,_ :: r=>DK c r
 | .scope c,_ :: r=>DK c r
 | _,_=>.skip
open Go Go.RowKit
section
variable {P:Program} {B:BT} {f:FuncId}
theorem Does.of_calls {fn:Func} (hf:P.funcs[f]?=some fn) (hn:(fn.name == "runtime.NumGoroutine")=false) (hb:fn.body.isNone=false) {xs:List Value} {w:World} {R:Ending→World→Prop} (h:Calls P f xs.toArray w R):Does P f xs w R:=Does.enter hf hn hb h
theorem zcJ {r:V} (h:∀ cs,r≠.bor cs) (hv:∀ e ag ks l,r≠.vec e ag ks l):GM r []=[]:=by
 cases r <;> first | rfl | exact absurd rfl (h _) | exact absurd rfl (hv _ _ _ _)
theorem QE {w:World} {X:Zone} {γ:Nat→Value} {vs:List V} {xs:List Value} {r:V} (hR:Rel B.base 0 w X γ ⟨[],IU vs⟩ JV w) (hb:GG vs=none) (hr:LY r=true)
  (h:Does P f xs w fun e w'=>∃ x,e = .returned x∧Keep (fun _=>False) w w'∧∀ O:Nat→Prop,(∀ b,O b→b < w.heap.size)→VRel γ [] w' O r x) :
  Does P f xs w fun e w'=>∃ x,e = .returned x∧∃ γ',Rel B.base 0 w X γ' ⟨[],GM r []⟩ JV w'∧VRel γ' (GM r []) w' (DR X γ' (GM r [])) (MV r) x∧KN vs r [] (γ 900000) (γ' 900000):=by
 have hm:IU vs=[]:=by simp only [IU,hb]
 rw [hm] at hR;have hnb:∀ cs,r≠.bor cs:=fun cs e=>by subst e; simp [LY,HP] at hr
 have hnv:∀ e ag ks l,r≠.vec e ag ks l:=fun e ag ks l h=>by subst h; simp [LY,HP] at hr
 rw [zcJ hnb hnv,U7 hr];refine h.mono ?_;rintro e w' ⟨x,rfl,hk,hv⟩;refine ⟨x,rfl,γ,hR.world hk,hv _ (fun b hb=>?_),?_⟩
 ·rcases hb with ⟨n,ob,hn,_⟩ | hb
  ·simp [DN,E3] at hn
  ·exact hR.fl b hb
 ·simp only [KN,hb];cases r <;> first | exact hr | exact absurd rfl (hnb _) | exact absurd rfl (hnv _ _ _ _)
structure BldIs (B:BT) (w:World) (b:Nat) (p v:Value) (s:BA):Prop where
 self:p = .pointer none∨p = .pointer (some ⟨b,0,none⟩)
 heap:w.heap[b]?=some (.cells #[p,v] B.T (0,0))
 own:w.ownsRowF 0 B.e 1 v s.size (DC s)
 ne:v.ownBlock≠some b
 size:s.size≤strMax
theorem sP {w:World} {X:Zone} {γ:Nat→Value} {vs:List V} {xs:List Value} {r:V} {s s':BA} (hR:Rel B.base 0 w X γ ⟨[],IU vs⟩ JV w) (hb:GG vs=some [.bld s]) (hr:LY r=true) (hnl:∀ γ' o w' O x,VRel γ [] w O r x→VRel γ' o w' O r x)
  (h:∀ b v p,γ 900000 = .tuple #[.pointer (some ⟨b,0,none⟩),v]→BldIs B w b p v s→Does P f xs w fun e w'=>∃ x,e = .returned x∧(∃ p' v',BldIs B w' b p' v' s'∧Keep (fun k=>k=b∨v.ownBlock=some k) w w'∧∀ k,v'.ownBlock=some k→v.ownBlock=some k∨w.heap.size≤k)∧∀ O,VRel γ [] w O r x) :
  Does P f xs w fun e w'=>∃ x,e = .returned x∧∃ γ',Rel B.base 0 w X γ' ⟨[],GM r [[.bld s']]⟩ JV w'∧VRel γ' (GM r [[.bld s']]) w' (DR X γ' (GM r [[.bld s']])) (MV r) x∧KN vs r [[.bld s']] (γ 900000) (γ' 900000):=by
 have hm:IU vs=EM [.bld s]:=by simp only [IU,hb]
 have hmo:GM r [[.bld s']]=EM [.bld s']:=by cases r <;> rfl
 rw [hm] at hR;have hob:DN (EM [.bld s]) 900000=some (.bld s):=by simp [EM,EG]
 have hor:=hR.ob 900000 _ hob;simp only [ObRel,BT.base] at hor;obtain ⟨b,v,p,hg,hp,hh,how,hne,hsz⟩:=hor;rw [hmo,U7 hr];refine (h b v p hg ⟨hp,hh,how,hne,hsz⟩).mono ?_;rintro e w' ⟨x,rfl,⟨p',v',hB,hk,hnew⟩,hx⟩;have hPb:∀ k,(k=b∨v.ownBlock=some k)→FA γ (EM [.bld s]) k:=by
  rintro k hk;refine ⟨900000,_,hob,⟨b,0,none⟩,v,hg,?_⟩;rcases hk with rfl | hk
  ·exact .inl rfl
  ·exact .inr hk
 have hXb:∀ k,(k=b∨v.ownBlock=some k)→k < w.heap.size∧X.own k∧¬ X.far k:=fun k hk=>by
  obtain ⟨h1,h2⟩:=hR.lt k (hPb k hk);exact ⟨h1,h2.resolve_left (by omega),hR.nr k (hPb k hk)⟩
 have hkX:Keep X.own w w':=hk.mono (fun k _ h=>(hXb k h).2.1);have hobs:∀ n ob,DN (EM [.bld s']) n=some ob→n=900000∧ob = .bld s':=by
  intro n ob hn;simp only [EM,EG] at hn;split at hn
  ·rename_i e;simp only [AC] at hn;exact ⟨e.symm,hn.symm⟩
  ·simp [DN,E3] at hn
 have hP':∀ k,FA (fun _=>.tuple #[.pointer (some ⟨b,0,none⟩),v']) (EM [.bld s']) k→k=b∨v'.ownBlock=some k:=by
  rintro k ⟨n,ob,hn,hbk⟩;obtain ⟨rfl,rfl⟩:=hobs n ob hn;obtain ⟨a,v2,h1,h2⟩:=hbk;simp only [Value.tuple.injEq] at h1;have e1:a=⟨b,0,none⟩∧v2=v':=by
   have:=congrArg Array.toList h1
   simp at this;exact ⟨this.1.symm,this.2.symm⟩
  obtain ⟨rfl,rfl⟩:=e1;rcases h2 with h2 | h2
  ·exact .inl h2.symm
  ·exact .inr h2
 have hlt':∀ k,v'.ownBlock=some k→k < w'.heap.size:=by
  intro k hk;rcases hB.own.2 with ⟨rfl,_⟩ | ⟨g,cap,cur,fz,rfl,_,hgh,_⟩
  ·simp [CC] at hk
  ·simp only [CC,AC] at hk;subst hk;exact (DF.1 hgh).1
 refine ⟨x,rfl,fun _=>.tuple #[.pointer (some ⟨b,0,none⟩),v'],⟨rfl,rfl,fun i=>by simp only [St.get,E3,VRel],fun n ob hn=>?_,fun k hk2=>?_,fun n m ob ob' k hnm h1 h2=>?_,hkX,fun k hk2 hf=>?_,fun k hf=>CW (hR.fl k hf) hk.size,fun q hq=>by cases hq⟩,hnl _ _ _ _ _ (hx _),?_⟩
 ·obtain ⟨rfl,rfl⟩:=hobs n ob hn;simp only [ObRel,BT.base];exact ⟨b,v',p',rfl,hB.self,hB.heap,hB.own,hB.ne,hB.size⟩
 ·rcases hP' k hk2 with rfl | h2
  ·obtain ⟨h3,h4,_⟩:=hXb k (.inl rfl);exact ⟨CW h3 hk.size,.inr h4⟩
  ·refine ⟨hlt' k h2,?_⟩;rcases hnew k h2 with h3 | h3
   ·exact .inr (hXb k (.inr h3)).2.1
   ·exact .inl h3
 ·obtain ⟨rfl,rfl⟩:=hobs n ob h1;obtain ⟨rfl,rfl⟩:=hobs m ob' h2;exact absurd rfl hnm
 ·rcases hP' k hk2 with rfl | h2
  ·exact (hXb k (.inl rfl)).2.2 hf
  ·rcases hnew k h2 with h3 | h3
   ·exact (hXb k (.inr h3)).2.2 hf
   ·have:=hR.fl k hf
    omega
 ·simp only [KN,hb];exact ⟨hr,rfl,by rw [hg]; rfl⟩
theorem mZ {w:World} {γ:Nat→Value} {s:BA} {O:Nat→Prop} {x:Value} {b:Nat} {v:Value} (hg:γ 900000 = .tuple #[.pointer (some ⟨b,0,none⟩),v]) (h:VRel γ (EM [.bld s]) w O (.ptr 900000 0 0) x):x = .pointer (some ⟨b,0,none⟩):=by
 simp only [VRel,EM,EG,CQ] at h;obtain ⟨_,b',v',h1,rfl⟩:=h;rw [hg] at h1;simp only [Value.tuple.injEq] at h1
 have:=congrArg Array.toList h1
 simp at this;rw [this.1]
theorem Jm {w:World} {X:Zone} {γ:Nat→Value} {vs:List V} {xs:List Value} {e:Nat} {ag:Bool} {ks:List Kd} {l:LI} (hR:Rel B.base 0 w X γ ⟨[],IU vs⟩ JV w) (hb:GG vs=none) (he:e < 1000000) (hks:0 < ks.length) (hl:l.length≤strMax)
  (h:Does P f xs w fun e' w'=>∃ v ys,e' = .returned v∧Keep (fun _=>False) w w'∧w'.ownsRow w.heap.size e ks.length v l.length ys∧∀ (O:Nat→Prop) i y,l[i]?=some y→Kd.RelAll w' O ks (F6 ag y) 0 (fun j u=>ys[i*ks.length+j]?=some u)) :
  Does P f xs w fun e' w'=>∃ x,e' = .returned x∧∃ γ',Rel B.base 0 w X γ' ⟨[],GM (.vec e ag ks l) []⟩ JV w'∧VRel γ' (GM (.vec e ag ks l) []) w' (DR X γ' (GM (.vec e ag ks l) [])) (MV (.vec e ag ks l)) x∧KN vs (.vec e ag ks l) [] (γ 900000) (γ' 900000):=by
 have hm:IU vs=[]:=by simp only [IU,hb]
 rw [hm] at hR;have hmo:GM (.vec e ag ks l) []=[(900000,some (.row true e ag ks l))]:=rfl;rw [hmo];refine h.mono ?_;rintro e' w' ⟨v,ys,rfl,hk,hown,hel⟩;have hown0:w'.ownsRow 0 e ks.length v l.length ys:=by
  refine ⟨hown.1,?_⟩;rcases hown.2 with h1 | ⟨g,cap,cur,h1,_,h2,h3,h4,h5,h6⟩
  ·exact .inl h1
  ·exact .inr ⟨g,cap,cur,h1,B5 _,h2,h3,h4,h5,h6⟩
 have obs:∀ n ob,DN [(900000,some (Ob.row true e ag ks l))] n=some ob→n=900000∧ob = .row true e ag ks l:=fun n ob hn=>by
  rw [EG] at hn;split at hn
  ·rename_i h9;simp only [AC] at hn;exact ⟨h9.symm,hn.symm⟩
  ·simp [DN,E3] at hn
 have hfresh:∀ b,v.ownBlock=some b→w.heap.size≤b∧b < w'.heap.size:=fun b hb=>hown.lt b hb
 have ownP:∀ b,FA (fun n=>if n=900000 then v else γ n) [(900000,some (Ob.row true e ag ks l))] b→v.ownBlock=some b:=by
  rintro b ⟨n,ob,hn,hb⟩;obtain ⟨rfl,rfl⟩:=obs n ob hn;simpa only [FC,CQ] using hb
 refine ⟨v,rfl,fun n=>if n=900000 then v else γ n,⟨hR.sz,hR.df,fun i=>by simp only [St.get,E3,VRel],fun n ob hn=>?_,fun b hb=>?_,fun n m ob ob' b hnm h1 h2=>?_,hk.mono (fun _ _ h=>h.elim),fun b hb hf=>?_,fun b hf=>CW (hR.fl b hf) hk.size,fun p hp=>by cases hp⟩,?_,?_⟩
 ·obtain ⟨rfl,rfl⟩:=obs n ob hn;simp only [ObRel,CQ];exact ⟨hks,hl,ys,OwnRow.of hown0 he,hel _⟩
 ·have:=hfresh b (ownP b hb)
  exact ⟨this.2,.inl this.1⟩
 ·obtain ⟨rfl,rfl⟩:=obs n ob h1;obtain ⟨rfl,rfl⟩:=obs m ob' h2;exact absurd rfl hnm
 ·have:=hfresh b (ownP b hb)
  have:=hR.fl b hf
  omega
 ·simp only [MV,VRel,EG,CQ];refine ⟨AZ _,?_⟩;rcases hown.2 with ⟨rfl,h0⟩ | ⟨g,cap,cur,rfl,_,h2,h3,h4,h5,h6⟩
  ·exact ⟨none,0,0,none,rfl,by rw [h0],B5 _,by rw [h0]; exact AZ _,AZ _,B5 _,.inl rfl,fun _=>rfl⟩
  ·refine ⟨some ⟨g,0,none⟩,l.length,cap,some ⟨g,0,none⟩,rfl,by simp,B5 _,AZ _,h3,h4,.inl ?_,fun _=>rfl⟩;simp [Addr.add]
 ·simp only [KN,hb,ZQ]
end
theorem ziE {w w':World} {O:Nat→Prop} (hO:∀ b,O b→b < w.heap.size) {g:Nat} {T:TypeId} {l:List BA} {c:Nat} (hg:w.heap.size≤g) (hh:w'.heap[g]?=some (.cells (l.map Value.string).toArray T (0,0))) (hc:l.length≤c) (hcm:c≤maxLen) (hl:l.length≤strMax)
  (hs:∀ s∈l,s.size≤strMax):Kd.Rel w' O (.list false [.str]) (.list (l.map IV.str)) (.slice (some ⟨g,0,none⟩) l.length c):=by
 simp only [Kd.Rel,IV.toList,BG];refine ⟨_,c,rfl,hc,hcm,hl,fun i y hy=>⟨g,0,rfl,fun h=>by have:=hO g h; omega,(DF.1 hh).1,?_⟩⟩;simp only [B9,DE] at hy;obtain ⟨s,hs1,rfl⟩:=hy;simp only [Kd.RelAll,AM,A6,BI,Nat.mul_one,C9,B7];refine ⟨.string s,?_,?_⟩
 ·simp only [vaN,hh];simp [hs1]
 ·simp only [Kd.Rel,F6,IV.toStr];exact ⟨trivial,hs s (vah hs1)⟩
open Go Go.RowKit
theorem R.get_br (b:Bool) (x y:R):(R.br b x y).get=cond b x.get y.get:=by cases b <;> rfl
theorem R.get_ok (v:V) (o:List (List V)):(R.ok v o).get=some (v,o):=rfl
theorem R.get_no:R.no.get=none:=rfl
def DP (n:Int):BA:=⟨(vam n).toArray⟩
def FF (s:BA):Int:=match vbj s.data.toList with | .ok v=>v | .range=>Lib.atoiSat s.data.toList | _=>0
def KM (s:BA):Bool:=match vbj s.data.toList with | .ok _=>true | _=>false
def cutL (s sep:BA):BA:=⟨(vaP s.data.toList sep.data.toList).1.toArray⟩
def FQ (s sep:BA):BA:=⟨(vaP s.data.toList sep.data.toList).2.1.toArray⟩
def Uz (s sep:BA):Bool:=(vaP s.data.toList sep.data.toList).2.2
def D2 (s sep:BA):List BA:=vbK sep 0 (Lib.countB s sep) s
def M6 (c:Int):UInt8:=UInt8.ofNat c.toNat
def T3:DV
 | [.bor [.bld s],.str t]=>.br (decide (s.size+t.size≤strMax)) (.ok (.tup [.int .i64 (ic t.size),.err true]) [[.bld (s++t)]]) .no
 | _=>.no
def YN:DV
 | [.bor [.bld s],.int .u8 c]=>.br (decide (s.size+1≤strMax)) (.ok (.err true) [[.bld (s.push (M6 c))]]) .no
 | _=>.no
def T2:DV
 | [.bor [.bld s]]=>.ok (.str s) [[.bld s]]
 | _=>.no
def OO:DV
 | [.int .i64 n]=>.ok (.str (DP n)) []
 | _=>.no
def Q0:DV
 | [.str s]=>.ok (.tup [.int .i64 (FF s),.err (KM s)]) []
 | _=>.no
def T4:DV
 | [.str s,.str sep]=>.br (decide (s.size < 4294967281)) (.ok (.tup [.str (cutL s sep),.str (FQ s sep),.bool (Uz s sep)]) []) .no
 | _=>.no
def M5:DV
 | [.str s,.str sep]=>.br (decide (s.size < 4294967281)&&decide (1≤sep.size)) (.ok (.list false [.str] ((D2 s sep).map IV.str)) []) .no
 | _=>.no
def E5 (n:Int):BA:=⟨(BU n.toNat).toArray⟩
def GO (s:BA):Int:=match Lib.parseMag s.data.toList with | .ok v=>(v:Int) | .range=>18446744073709551615 | _=>0
def JC (s:BA):Bool:=match Lib.parseMag s.data.toList with | .ok _=>true | _=>false
def PJ (s cs:BA):BA:=⟨(Lib.trimRightB s.data.toList (cs.data.toList.headD 0)).toArray⟩
def H1 (s:BA) (n:Nat):BA:=⟨(Lib.repeatL s.data.toList n).toArray⟩
def F9 (s p:BA):BA:=⟨(Lib.trimPrefix s.data.toList p.data.toList).toArray⟩
def N5 (s p:BA):Bool:=Lib.hasPrefix s.data.toList p.data.toList
def iA:DV
 | [.int .u64 n,.int .i64 b]=>.br (decide (b=10)) (.ok (.str (E5 n)) []) .no
 | _=>.no
def iB:DV
 | [.str s,.int .i64 b,.int .i64 c]=>.br (decide (b=10)&&decide (c=64)) (.ok (.tup [.int .u64 (GO s),.err (JC s)]) []) .no
 | _=>.no
def iD:DV
 | [.str s,.str cs]=>.br (decide (cs.size=1)&&decide ((cs.data.toList.headD 0).toNat < 128)) (.ok (.str (PJ s cs)) []) .no
 | _=>.no
def YQ:DV
 | [.str s,.int .i64 n]=>.br (decide (0≤n)&&decide (s.size*n.toNat≤strMax)) (.ok (.str (H1 s n.toNat)) []) .no
 | _=>.no
def YO:DV
 | [.str s,.str p]=>.ok (.tup [.str (F9 s p),.bool (N5 s p)]) []
 | _=>.no
def GI (l:List BA) (sep:BA):BA:=⟨(Lib.join (l.map (·.data.toList)) sep.data.toList).toArray⟩
def YP:DV
 | [.list false [.str] l,.str sep]=>.br (decide (l.length≤strMax)&&decide ((GI (l.map IV.toStr) sep).size≤strMax)) (.ok (.str (GI (l.map IV.toStr) sep)) []) .no
 | _=>.no
def FY:LI→BA→Int→Int
 | [],_,_ => -1
 | x :: l,s,i=>cond (s.toList==x.toStr.toList) i (FY l s (i+1))
theorem Td {l:List UInt8} {v:Int} (h:vbj l = .ok v):AB.min≤v∧v≤AB.max:=by
 have e1:AB.min = -9223372036854775808:=rfl;have e2:AB.max=9223372036854775807:=rfl;rw [e1,e2];unfold vbj at h;split at h
 ·cases h
 ·simp only at h;split at h
  ·cases h
  ·cases h
  ·rename_i u hu;split at h
   ·cases h
   ·split at h
    ·cases h
    ·simp only [Lib.NumEnd.ok.injEq] at h;subst h;split <;> omega
theorem vE (s:BA):AB.min≤FF s∧FF s≤AB.max:=by
 have e1:AB.min = -9223372036854775808:=rfl;have e2:AB.max=9223372036854775807:=rfl;unfold FF;split
 ·rename_i v hv;exact Td hv
 ·unfold Lib.atoiSat;rw [e1,e2];split <;> omega
 ·rw [e1,e2]; omega
theorem ZI {n:Int} (h0:AB.min≤n) (h1:n≤AB.max):(DP n).size≤21:=by
 have e1:AB.min = -9223372036854775808:=rfl;have e2:AB.max=9223372036854775807:=rfl;rw [e1] at h0;rw [e2] at h1
 have:=Lib.itoa_length_le n h0 h1
 simpa [DP,AG] using this
theorem rH (s:BA):AJ.min≤GO s∧GO s≤AJ.max:=by
 have e1:AJ.min=0:=rfl;have e2:AJ.max=18446744073709551615:=rfl;unfold GO;split
 ·rename_i v hv
  have:=Lib.parseMag_lt hv
  rw [e1,e2]; omega
 ·rw [e1,e2]; omega
 ·rw [e1,e2]; omega
theorem qA {n:Int} (h0:0≤n) (h1:n≤18446744073709551615):(E5 n).size≤20:=by
 rcases Int.lt_or_le 0 n with h | h
 ·have hd:=Lib.numDigits_eq n.toNat (by omega) (by omega);have hl:=Lib.decDigits_length n.toNat;have hs:(E5 n).size=(BU n.toNat).length:=by simp [E5,AG]
  rw [hs,hl];split at hd <;> omega
 ·have:n=0:=by omega
  subst this;have hd:BU (0:Int).toNat=[UInt8.ofNat (48+0)]:=by rw [show (0:Int).toNat=0 from rfl,BU]; rfl
  unfold E5;rw [hd];decide
theorem Nw (s cs:BA):(PJ s cs).size≤s.size:=by
 have:∀ (l:List UInt8) c,(Lib.trimRightB l c).length≤l.length:=fun l c=>by
  unfold Lib.trimRightB;rw [vae]
  have:=(List.dropWhile_sublist (·==c) (l:=l.reverse)).length_le
  simpa using this
 have h:=this s.data.toList (cs.data.toList.headD 0);simp only [PJ,AG,C8];simpa using h
theorem Nv (s p:BA):(F9 s p).size≤s.size:=by
 simp only [F9,AG,C8,Lib.trimPrefix];split
 ·simp
 ·simp
theorem rP (s:BA) (n:Nat):(H1 s n).size=s.size*n:=by
 have:∀ (l:List UInt8) n,(Lib.repeatL l n).length=l.length*n:=fun l n=>by rw [Lib.repeatL_length,Nat.mul_comm]
 show (Lib.repeatL s.data.toList n).toArray.size=s.size*n;rw [C8,this,CL];rfl
theorem i6 (s sep:BA):(cutL s sep).size≤s.size∧(FQ s sep).size≤s.size:=by
 unfold cutL FQ vaP;split
 ·simp only [AG,C8,BB,CY,CL];omega
 ·simp only [AG,C8,CL,A6];omega
theorem Z9 (sep:BA):∀ (k:Nat) (s:BA),(vbK sep 0 k s).length≤k+1∧∀ p∈vbK sep 0 k s,p.size≤s.size
 | 0,s=>by simp [vbK]
 | k+1,s=>by
  unfold vbK;split
  ·simp
  ·obtain ⟨h1,h2⟩:=Z9 sep k (s.extract ((Lib.indexB s sep).toNat+sep.size) s.size);refine ⟨by simp only [AM]; omega,fun p hp=>?_⟩;rcases AP.1 hp with h | h
   ·subst h;simp only [vbf];omega
   ·have:=h2 p h
    simp only [vbf] at this;omega
open Go Go.Proofs
def gR:List (Nat × TI):=[
 (2,⟨1,8,false,[.z],[.int .i64 0],.leaf⟩),
 (3,⟨1,8,false,[.z],[.int .i64 0],.leaf⟩),
 (4,⟨1,1,false,[.bool],[.bool false],.leaf⟩),
 (5,⟨1,1,false,[.int .u8],[.int .u8 0],.leaf⟩),
 (6,⟨1,1,false,[.int .u8],[.int .u8 0],.leaf⟩),
 (7,⟨4,24,true,[.z,.z,.bool,.int .u8],[.int .i64 0,.int .i64 0,.bool false,.int .u8 0],.struct [(0,2),(1,3),(2,4),(3,6)]⟩),
 (8,⟨4,24,true,[.z,.z,.bool,.int .u8],[.int .i64 0,.int .i64 0,.bool false,.int .u8 0],.struct [(0,2),(1,3),(2,4),(3,6)]⟩),
 (9,⟨1,16,false,[.str],[.str ⟨#[]⟩],.leaf⟩),
 (22,⟨1,24,false,[.list false [.z]],[.zs],.slice 3⟩),
 (23,⟨1,24,false,[.list true [.z,.list false [.z],.list false [.z],.list false [.z],.list false [.z]]],[.zs],.slice 84⟩),
 (25,⟨4,64,true,[.z,.z,.list false [.z],.list true [.z,.list false [.z],.list false [.z],.list false [.z],.list false [.z]]],[.int .i64 0,.int .i64 0,.zs,.zs],.struct [(0,3),(1,3),(2,22),(3,23)]⟩),
 (26,⟨1,24,false,[.list true [.z,.z,.z,.z,.z,.z,.bool,.list false [.z]]],[.zs],.slice 40⟩),
 (27,⟨3,24,true,[.z,.z,.z],[.int .i64 0,.int .i64 0,.int .i64 0],.array 3 3⟩),
 (28,⟨1,24,false,[.list true [.z,.list false [.int .u64]]],[.zs],.slice 88⟩),
 (30,⟨6,64,true,[.z,.z,.z,.z,.z,.list true [.z,.list false [.int .u64]]],[.int .i64 0,.int .i64 0,.int .i64 0,.int .i64 0,.int .i64 0,.zs],.struct [(0,3),(1,3),(2,27),(5,28)]⟩),
 (32,⟨1,24,false,[.list true [.z,.z,.z,.z,.z,.z,.z,.z,.z,.z,.z,.z,.z,.z,.z,.bool,.z]],[.zs],.slice 38⟩),
 (34,⟨2,16,true,[.z,.z],[.int .i64 0,.int .i64 0],.struct [(0,3),(1,3)]⟩),
 (36,⟨10,80,true,[.z,.z,.z,.z,.z,.z,.z,.z,.z,.z],[.int .i64 0,.int .i64 0,.int .i64 0,.int .i64 0,.int .i64 0,.int .i64 0,.int .i64 0,.int .i64 0,.int .i64 0,.int .i64 0],.array 5 34⟩),
 (38,⟨17,136,true,[.z,.z,.z,.z,.z,.z,.z,.z,.z,.z,.z,.z,.z,.z,.z,.bool,.z],[.int .i64 0,.int .i64 0,.int .i64 0,.int .i64 0,.int .i64 0,.int .i64 0,.int .i64 0,.int .i64 0,.int .i64 0,.int .i64 0,.int .i64 0,.int .i64 0,.int .i64 0,.int .i64 0,.int .i64 0,.bool false,.int .i64 0],.struct [(0,3),(1,3),(2,36),(12,3),(13,3),(14,3),(15,4),(16,3)]⟩),
 (40,⟨8,80,true,[.z,.z,.z,.z,.z,.z,.bool,.list false [.z]],[.int .i64 0,.int .i64 0,.int .i64 0,.int .i64 0,.int .i64 0,.int .i64 0,.bool false,.zs],.struct [(0,3),(1,3),(2,3),(3,3),(4,3),(5,3),(6,4),(7,22)]⟩),
 (47,⟨1,24,false,[.list true [.z,.list true [.bool,.z,.z],.z,.z,.z,.z,.z,.z]],[.zs],.slice 55⟩),
 (51,⟨1,24,false,[.list true [.bool,.z,.z]],[.zs],.slice 127⟩),
 (53,⟨4,32,true,[.z,.z,.z,.z],[.int .i64 0,.int .i64 0,.int .i64 0,.int .i64 0],.array 4 3⟩),
 (55,⟨8,80,true,[.z,.list true [.bool,.z,.z],.z,.z,.z,.z,.z,.z],[.int .i64 0,.zs,.int .i64 0,.int .i64 0,.int .i64 0,.int .i64 0,.int .i64 0,.int .i64 0],.struct [(0,3),(1,51),(2,53),(6,3),(7,3)]⟩),
 (66,⟨1,24,false,[.list false [.str]],[.zs],.slice 9⟩),
 (69,⟨1,24,false,[.list false [.int .u8]],[.zs],.slice 5⟩),
 (84,⟨5,104,true,[.z,.list false [.z],.list false [.z],.list false [.z],.list false [.z]],[.int .i64 0,.zs,.zs,.zs,.zs],.struct [(0,3),(1,22),(2,22),(3,22),(4,22)]⟩),
 (85,⟨1,24,false,[.list false [.int .u64]],[.zs],.slice 103⟩),
 (88,⟨2,32,true,[.z,.list false [.int .u64]],[.int .i64 0,.zs],.struct [(0,3),(1,85)]⟩),
 (93,⟨1,24,false,[.list true [.z,.z]],[.zs],.slice 34⟩),
 (95,⟨1,8,false,[.list false []],[.nilp],.ptr 98⟩),
 (98,⟨1,24,true,[.list false [.str]],[.zs],.struct [(0,66)]⟩),
 (103,⟨1,8,false,[.int .u64],[.int .u64 0],.leaf⟩),
 (106,⟨1,8,false,[.list false []],[.nilp],.ptr 108⟩),
 (108,⟨2,32,true,[.list false [],.list false [.int .u8]],[.nilp,.zs],.bld⟩),
 (111,⟨6,48,true,[.bool,.z,.z,.z,.z,.z],[.bool false,.int .i64 0,.int .i64 0,.int .i64 0,.int .i64 0,.int .i64 0],.struct [(0,4),(1,3),(2,3),(3,3),(4,3),(5,3)]⟩),
 (120,⟨1,16,false,[.list false []],[.err true],.iface⟩),
 (127,⟨3,24,true,[.bool,.z,.z],[.bool false,.int .i64 0,.int .i64 0],.struct [(0,4),(1,3),(2,3)]⟩),
 (131,⟨1,24,false,[.list true [.z,.z,.z,.z,.z,.z,.z,.z,.z,.z]],[.zs],.slice 36⟩),
 (141,⟨1,8,false,[.list false []],[.nilp],.ptr 183⟩),
 (150,⟨1,24,false,[.list true [.bool,.z,.z,.z,.z,.z]],[.zs],.slice 111⟩),
 (152,⟨1,8,false,[.int .u64],[.int .u64 0],.leaf⟩),
 (183,⟨34,336,true,[.z,.z,.z,.z,.z,.list true [.z,.list false [.int .u64]],.z,.z,.z,.z,.z,.z,.z,.z,.z,.z,.z,.z,.z,.z,.z,.bool,.z,.list true [.z,.z,.z,.z,.z,.z,.z,.z,.z,.z],.list true [.bool,.z,.z],.z,.list true [.bool,.z,.z],.z,.z,.z,.z,.z,.z,.z],[.int .i64 0,.int .i64 0,.int .i64 0,.int .i64 0,.int .i64 0,.zs,.int .i64 0,.int .i64 0,.int .i64 0,.int .i64 0,.int .i64 0,.int .i64 0,.int .i64 0,.int .i64 0,.int .i64 0,.int .i64 0,.int .i64 0,.int .i64 0,.int .i64 0,.int .i64 0,.int .i64 0,.bool false,.int .i64 0,.zs,.zs,.int .i64 0,.zs,.int .i64 0,.int .i64 0,.int .i64 0,.int .i64 0,.int .i64 0,.int .i64 0,.int .i64 0],.struct [(0,30),(6,38),(23,131),(24,51),(25,55),(33,3)]⟩),
 (252,⟨11,88,true,[.z,.z,.z,.z,.z,.z,.z,.z,.z,.z,.z],[.int .i64 0,.int .i64 0,.int .i64 0,.int .i64 0,.int .i64 0,.int .i64 0,.int .i64 0,.int .i64 0,.int .i64 0,.int .i64 0,.int .i64 0],.struct [(0,3),(1,36)]⟩),
 (253,⟨1,24,false,[.list true [.z,.z,.z,.z,.z,.z,.z,.z,.z,.z,.z]],[.zs],.slice 252⟩),
 (272,⟨1,24,false,[.list true [.z,.z,.z,.z,.z,.z,.z,.z,.z,.z,.z]],[.zs],.slice 275⟩),
 (275,⟨11,88,true,[.z,.z,.z,.z,.z,.z,.z,.z,.z,.z,.z],[.int .i64 0,.int .i64 0,.int .i64 0,.int .i64 0,.int .i64 0,.int .i64 0,.int .i64 0,.int .i64 0,.int .i64 0,.int .i64 0,.int .i64 0],.struct [(0,36),(10,3)]⟩)]
def oC:List Nat:=[34,38,53,111,127]
noncomputable abbrev PR:Program:=Tryz.prog
theorem Ng:gM PR 108 gR=true:=by kernel_rfl
theorem z6:jH PR gR oC=true:=by kernel_rfl
theorem Df:PR.follows .mixedOrders=true:=by kernel_rfl
theorem To:∃ i,PR.info? 108=some i∧i.zero=some (.agg #[.pointer none,.slice none 0 0]):=by
 refine ⟨(PR.info? 108).getD default,by kernel_rfl,by kernel_rfl⟩
theorem vN (_h:(E3 TI.none gR 108).d = .bld):∃ i,PR.info? 108=some i∧i.zero=some (.agg #[.pointer none,.slice none 0 0]):=To
def D5 (sp:List (Nat × DV)) (lp:List (Nat × KP)) (nt N:Nat):Env:=⟨gR,sp,[],lp,nt,N,oC,[]⟩
def kG (sp:List (Nat × DV)) (ip:List (Nat × Ip)) (lp:List (Nat × KP)) (nt N:Nat):Env:=⟨gR,sp,[],lp,nt,N,oC,ip⟩
abbrev HF (fn:Func) (c:Code) (nt:Nat) (rs:List ResultVar):Prop:=(fn.name == "runtime.NumGoroutine")=false∧fn.body=some c∧fn.ntmps=nt∧B6 nt 900000=true∧fn.results.toList=rs
theorem D3 {fn:Func} {nt:Nat} {rs:List ResultVar} (h:(!(fn.name == "runtime.NumGoroutine")&&(fn.body.isSome&&(fn.ntmps==nt&&B6 nt 900000)))=true:=by kernel_rfl) (h2:fn.results.toList=rs:=by kernel_rfl):HF fn (D1 fn) nt rs:=by
 simp only [AI,B3,B8] at h;refine ⟨h.1,?_,h.2.2.1,h.2.2.2,h2⟩;unfold D1;cases hb:fn.body with
 | none=>rw [hb] at h; exact absurd h.2.1 (by decide)
 | some c=>rfl
noncomputable def K3:Code:=D1 Tryz.f4
theorem zaN:HF Tryz.f4 K3 134 [.tmp 10]:=D3
noncomputable def wR:Code:=D1 Tryz.f6
theorem zaI:HF Tryz.f6 wR 16 [.tmp 0]:=D3
noncomputable def OS:Code:=D1 Tryz.f9
theorem zaH:HF Tryz.f9 OS 92 [.tmp 6]:=D3
noncomputable def M7:Code:=D1 Tryz.f15
theorem zaB:HF Tryz.f15 M7 63 [.cell 2 30]:=D3
noncomputable def wN:Code:=D1 Tryz.f16
theorem zaA:HF Tryz.f16 wN 58 [.cell 4 38]:=D3
noncomputable def wM:Code:=D1 Tryz.f17
theorem zaz:HF Tryz.f17 wM 24 [.tmp 6]:=D3
noncomputable def LT:Code:=D1 Tryz.f18
theorem Zp:HF Tryz.f18 LT 100 [.tmp 4]:=D3
noncomputable def JI:Code:=D1 Tryz.f19
theorem zbH:HF Tryz.f19 JI 88 [.cell 2 30,.tmp 3]:=D3
noncomputable def KO:Code:=D1 Tryz.f20
theorem zbI:HF Tryz.f20 KO 94 [.tmp 2]:=D3
noncomputable def UA:Code:=D1 Tryz.f21
theorem Zv:HF Tryz.f21 UA 59 [.tmp 2,.tmp 3]:=D3
noncomputable def WW:Code:=D1 Tryz.f22
theorem za0:HF Tryz.f22 WW 37 [.tmp 4]:=D3
noncomputable def wJ:Code:=D1 Tryz.f23
theorem zam:HF Tryz.f23 wJ 17 [.cell 2 55,.tmp 3]:=D3
noncomputable def WT:Code:=D1 Tryz.f24
theorem zan:HF Tryz.f24 WT 61 [.tmp 2]:=D3
noncomputable def wP:Code:=D1 Tryz.f25
theorem zaF:HF Tryz.f25 wP 38 [.tmp 4]:=D3
noncomputable def LU:Code:=D1 Tryz.f26
theorem zat:HF Tryz.f26 LU 59 [.tmp 6]:=D3
noncomputable def wV:Code:=D1 Tryz.f27
theorem zaO:HF Tryz.f27 wV 31 [.tmp 0]:=D3
noncomputable def wO:Code:=D1 Tryz.f28
theorem zaD:HF Tryz.f28 wO 14 [.cell 0 30]:=D3
noncomputable def UG:Code:=D1 Tryz.f30
theorem zay:HF Tryz.f30 UG 26 [.tmp 4]:=D3
noncomputable def xE:Code:=D1 Tryz.f31
theorem zaZ:HF Tryz.f31 xE 8 [.tmp 2]:=D3
noncomputable def xD:Code:=D1 Tryz.f32
theorem zaY:HF Tryz.f32 xD 46 [.cell 4 55]:=D3
noncomputable def WV:Code:=D1 Tryz.f33
theorem zaJ:HF Tryz.f33 WV 70 [.tmp 10]:=D3
noncomputable def UK:Code:=D1 Tryz.f35
theorem zbv:HF Tryz.f35 UK 13 [.cell 4 55]:=D3
noncomputable def wQ:Code:=D1 Tryz.f38
theorem zaG:HF Tryz.f38 wQ 15 [.tmp 4]:=D3
noncomputable def MJ:Code:=D1 Tryz.f39
theorem zaE:HF Tryz.f39 MJ 113 [.tmp 4]:=D3
noncomputable def UH:Code:=D1 Tryz.f40
theorem zaC:HF Tryz.f40 UH 32 [.cell 4 36]:=D3
noncomputable def v6:Code:=D1 Tryz.f41
theorem Zu:HF Tryz.f41 v6 39 [.cell 4 38]:=D3
noncomputable def vZ:Code:=D1 Tryz.f42
theorem Zt:HF Tryz.f42 vZ 9 [.tmp 2]:=D3
noncomputable def w9:Code:=D1 Tryz.f44
theorem zaU:HF Tryz.f44 w9 38 [.tmp 2]:=D3
noncomputable def yG:Code:=D1 Tryz.f47
theorem zbG:HF Tryz.f47 yG 8 [.tmp 4]:=D3
noncomputable def yJ:Code:=D1 Tryz.f48
theorem zbL:HF Tryz.f48 yJ 26 [.tmp 2]:=D3
noncomputable def yH:Code:=D1 Tryz.f49
theorem zbJ:HF Tryz.f49 yH 24 [.tmp 4]:=D3
noncomputable def yM:Code:=D1 Tryz.f50
theorem zbO:HF Tryz.f50 yM 13 [.tmp 4]:=D3
noncomputable def yL:Code:=D1 Tryz.f51
theorem zbN:HF Tryz.f51 yL 11 [.tmp 2]:=D3
noncomputable def yK:Code:=D1 Tryz.f52
theorem zbM:HF Tryz.f52 yK 28 [.tmp 2]:=D3
noncomputable def Q3:Code:=D1 Tryz.f53
theorem zba:HF Tryz.f53 Q3 54 [.tmp 2]:=D3
noncomputable def yI:Code:=D1 Tryz.f54
theorem zbK:HF Tryz.f54 yI 10 []:=D3
noncomputable def xO:Code:=D1 Tryz.f55
theorem zbg:HF Tryz.f55 xO 33 [.cell 2 111,.tmp 3]:=D3
noncomputable def UB:Code:=D1 Tryz.f58
theorem Zw:HF Tryz.f58 UB 29 [.tmp 4,.tmp 5,.tmp 6]:=D3
noncomputable def v7:Code:=D1 Tryz.f59
theorem Zx:HF Tryz.f59 v7 37 [.tmp 2]:=D3
noncomputable def H5:Code:=D1 Tryz.f61
theorem zar:HF Tryz.f61 H5 87 [.cell 2 55]:=D3
noncomputable def wK:Code:=D1 Tryz.f62
theorem zao:HF Tryz.f62 wK 47 [.tmp 2]:=D3
noncomputable def WU:Code:=D1 Tryz.f63
theorem zap:HF Tryz.f63 WU 26 []:=D3
noncomputable def UF:Code:=D1 Tryz.f64
theorem zax:HF Tryz.f64 UF 26 [.tmp 4]:=D3
noncomputable def xT:Code:=D1 Tryz.f65
theorem zbo:HF Tryz.f65 xT 41 [.tmp 4]:=D3
noncomputable def xV:Code:=D1 Tryz.f66
theorem zbq:HF Tryz.f66 xV 16 [.cell 2 36]:=D3
noncomputable def Y1:Code:=D1 Tryz.f67
theorem zbk:HF Tryz.f67 Y1 75 [.tmp 4,.tmp 5]:=D3
noncomputable def NY:Code:=D1 Tryz.f68
theorem zaw:HF Tryz.f68 NY 94 [.tmp 6]:=D3
noncomputable def wH:Code:=D1 Tryz.f69
theorem zak:HF Tryz.f69 wH 25 [.tmp 6]:=D3
noncomputable def NZ:Code:=D1 Tryz.f70
theorem zbn:HF Tryz.f70 NZ 75 [.tmp 8]:=D3
noncomputable def wT:Code:=D1 Tryz.f71
theorem zaL:HF Tryz.f71 wT 32 [.tmp 2]:=D3
noncomputable def SK:Code:=D1 Tryz.f73
theorem Zo:HF Tryz.f73 SK 82 [.cell 2 38,.tmp 3,.tmp 4]:=D3
noncomputable def xZ:Code:=D1 Tryz.f74
theorem zbu:HF Tryz.f74 xZ 26 [.tmp 4]:=D3
noncomputable def dU:Code:=D1 Tryz.f75
theorem zbw:HF Tryz.f75 dU 165 [.tmp 2]:=D3
noncomputable def dV:Code:=D1 Tryz.f76
theorem zbx:HF Tryz.f76 dV 22 [.cell 2 55]:=D3
noncomputable def wI:Code:=D1 Tryz.f81
theorem zal:HF Tryz.f81 wI 16 [.cell 2 53]:=D3
noncomputable def xC:Code:=D1 Tryz.f84
theorem zaX:HF Tryz.f84 xC 8 [.tmp 0]:=D3
noncomputable def xJ:Code:=D1 Tryz.f89
theorem za7:HF Tryz.f89 xJ 16 [.tmp 4]:=D3
noncomputable def xA:Code:=D1 Tryz.f91
theorem zaV:HF Tryz.f91 xA 76 [.tmp 2,.tmp 3]:=D3
noncomputable def xM:Code:=D1 Tryz.f92
theorem zbe:HF Tryz.f92 xM 32 [.tmp 2]:=D3
noncomputable def v8:Code:=D1 Tryz.f93
theorem Zy:HF Tryz.f93 v8 25 [.tmp 4]:=D3
noncomputable def yA:Code:=D1 Tryz.f94
theorem zby:HF Tryz.f94 yA 9 [.tmp 4]:=D3
noncomputable def xL:Code:=D1 Tryz.f95
theorem zbb:HF Tryz.f95 xL 22 [.tmp 3]:=D3
noncomputable def LV:Code:=D1 Tryz.f96
theorem zbP:HF Tryz.f96 LV 94 [.tmp 4]:=D3
noncomputable def wC:Code:=D1 Tryz.f98
theorem zab:HF Tryz.f98 wC 14 [.tmp 6]:=D3
noncomputable def wA:Code:=D1 Tryz.f99
theorem Zz:HF Tryz.f99 wA 18 [.tmp 6]:=D3
noncomputable def xP:Code:=D1 Tryz.f100
theorem zbh:HF Tryz.f100 xP 11 [.tmp 5]:=D3
noncomputable def wL:Code:=D1 Tryz.f105
theorem zaq:HF Tryz.f105 wL 20 [.tmp 4]:=D3
noncomputable def UE:Code:=D1 Tryz.f106
theorem zas:HF Tryz.f106 UE 37 [.tmp 2]:=D3
noncomputable def xY:Code:=D1 Tryz.f107
theorem zbt:HF Tryz.f107 xY 35 [.tmp 4]:=D3
noncomputable def xW:Code:=D1 Tryz.f108
theorem zbr:HF Tryz.f108 xW 71 [.tmp 4]:=D3
noncomputable def xX:Code:=D1 Tryz.f109
theorem zbs:HF Tryz.f109 xX 16 [.tmp 2]:=D3
noncomputable def xR:Code:=D1 Tryz.f110
theorem zbj:HF Tryz.f110 xR 6 [.tmp 2]:=D3
noncomputable def Ub:Code:=D1 Tryz.f111
theorem zai:HF Tryz.f111 Ub 32 [.cell 6 36,.cell 7 36]:=D3
noncomputable def wG:Code:=D1 Tryz.f112
theorem zaj:HF Tryz.f112 wG 12 [.tmp 2]:=D3
noncomputable def IQ:Code:=D1 Tryz.f113
theorem zau:HF Tryz.f113 IQ 66 [.tmp 6,.tmp 7]:=D3
noncomputable def yD:Code:=D1 Tryz.f114
theorem zbD:HF Tryz.f114 yD 15 [.tmp 4]:=D3
noncomputable def xK:Code:=D1 Tryz.f115
theorem za9:HF Tryz.f115 xK 24 [.tmp 6]:=D3
noncomputable def xU:Code:=D1 Tryz.f116
theorem zbp:HF Tryz.f116 xU 14 [.cell 6 53]:=D3
noncomputable def wU:Code:=D1 Tryz.f117
theorem zaM:HF Tryz.f117 wU 66 [.tmp 2]:=D3
noncomputable def UL:Code:=D1 Tryz.f118
theorem zbA:HF Tryz.f118 UL 19 [.tmp 4]:=D3
noncomputable def vX:Code:=D1 Tryz.f119
theorem Zr:HF Tryz.f119 vX 46 [.cell 2 38]:=D3
noncomputable def vY:Code:=D1 Tryz.f120
theorem Zs:HF Tryz.f120 vY 11 [.tmp 2]:=D3
noncomputable def vW:Code:=D1 Tryz.f121
theorem Zq:HF Tryz.f121 vW 11 [.tmp 2]:=D3
noncomputable def xF:Code:=D1 Tryz.f122
theorem za1:HF Tryz.f122 xF 86 [.tmp 6]:=D3
noncomputable def xG:Code:=D1 Tryz.f123
theorem za2:HF Tryz.f123 xG 9 [.cell 2 53,.tmp 3]:=D3
noncomputable def SL:Code:=D1 Tryz.f124
theorem za3:HF Tryz.f124 SL 31 [.tmp 6,.tmp 7,.tmp 8]:=D3
noncomputable def m9:Code:=D1 Tryz.f126
theorem za4:HF Tryz.f126 m9 24 [.tmp 8]:=D3
noncomputable def xI:Code:=D1 Tryz.f141
theorem za6:HF Tryz.f141 xI 21 [.tmp 4]:=D3
noncomputable def xB:Code:=D1 Tryz.f144
theorem zaW:HF Tryz.f144 xB 19 [.tmp 2,.tmp 3]:=D3
noncomputable def xN:Code:=D1 Tryz.f145
theorem zbf:HF Tryz.f145 xN 43 [.tmp 2]:=D3
noncomputable def wB:Code:=D1 Tryz.f146
theorem zaa:HF Tryz.f146 wB 30 [.tmp 8]:=D3
noncomputable def SM:Code:=D1 Tryz.f147
theorem zbz:HF Tryz.f147 SM 19 [.tmp 4]:=D3
noncomputable def wD:Code:=D1 Tryz.f148
theorem zac:HF Tryz.f148 wD 21 [.tmp 4]:=D3
noncomputable def wE:Code:=D1 Tryz.f149
theorem zad:HF Tryz.f149 wE 21 [.tmp 4]:=D3
noncomputable def wF:Code:=D1 Tryz.f150
theorem zae:HF Tryz.f150 wF 7 [.tmp 2]:=D3
noncomputable def yC:Code:=D1 Tryz.f155
theorem zbC:HF Tryz.f155 yC 8 [.tmp 2]:=D3
noncomputable def UJ:Code:=D1 Tryz.f156
theorem zbl:HF Tryz.f156 UJ 40 [.tmp 2]:=D3
noncomputable def yB:Code:=D1 Tryz.f157
theorem zbB:HF Tryz.f157 yB 29 [.cell 4 34,.cell 5 34]:=D3
noncomputable def Y0:Code:=D1 Tryz.f158
theorem zav:HF Tryz.f158 Y0 88 [.tmp 4,.tmp 5]:=D3
noncomputable def OU:Code:=D1 Tryz.f159
theorem zbd:HF Tryz.f159 OU 33 [.tmp 6]:=D3
noncomputable def wS:Code:=D1 Tryz.f160
theorem zaK:HF Tryz.f160 wS 27 [.tmp 4]:=D3
noncomputable def IP:Code:=D1 Tryz.f162
theorem zag:HF Tryz.f162 IP 69 [.tmp 6,.tmp 7,.tmp 8]:=D3
noncomputable def UC:Code:=D1 Tryz.f163
theorem zaf:HF Tryz.f163 UC 62 [.tmp 6,.tmp 7]:=D3
noncomputable def wY:Code:=D1 Tryz.f164
theorem zaR:HF Tryz.f164 wY 23 [.tmp 4]:=D3
noncomputable def wW:Code:=D1 Tryz.f165
theorem zaP:HF Tryz.f165 wW 54 [.tmp 6,.tmp 7,.tmp 8]:=D3
noncomputable def xH:Code:=D1 Tryz.f166
theorem za5:HF Tryz.f166 xH 23 [.tmp 4]:=D3
noncomputable def OT:Code:=D1 Tryz.f168
theorem zbc:HF Tryz.f168 OT 54 [.tmp 4]:=D3
noncomputable def xQ:Code:=D1 Tryz.f190
theorem zbi:HF Tryz.f190 xQ 9 [.tmp 2]:=D3
noncomputable def xS:Code:=D1 Tryz.f192
theorem zbm:HF Tryz.f192 xS 16 [.tmp 2]:=D3
noncomputable def yF:Code:=D1 Tryz.f193
theorem zbF:HF Tryz.f193 yF 12 [.cell 4 34]:=D3
noncomputable def yE:Code:=D1 Tryz.f194
theorem zbE:HF Tryz.f194 yE 2 [.cell 0 34]:=D3
noncomputable def yN:Code:=D1 Tryz.f195
theorem zbQ:HF Tryz.f195 yN 15 [.tmp 4]:=D3
noncomputable def UD:Code:=D1 Tryz.f196
theorem zah:HF Tryz.f196 UD 43 [.tmp 4,.tmp 5,.tmp 6]:=D3
noncomputable def w8:Code:=D1 Tryz.f197
theorem zaT:HF Tryz.f197 w8 16 [.tmp 2]:=D3
noncomputable def wX:Code:=D1 Tryz.f198
theorem zaQ:HF Tryz.f198 wX 10 [.cell 4 36]:=D3
noncomputable def wZ:Code:=D1 Tryz.f199
theorem zaS:HF Tryz.f199 wZ 15 [.cell 4 36]:=D3
noncomputable def N0:Code:=D1 Tryz.f217
theorem zbR:HF Tryz.f217 N0 46 [.tmp 4,.cell 5 111]:=D3
noncomputable def UI:Code:=D1 Tryz.f218
theorem za8:HF Tryz.f218 UI 79 [.tmp 4]:=D3
open Go Go.Proofs Go.RowKit
theorem Keep.freeze {O:Nat→Prop} (w:World) (a:Addr) (n:Nat) (h:O a.block):Keep O w (w.freeze a n):=by
 unfold World.freeze;split
 ·exact Keep.refl _ _
 ·exact ⟨rfl,rfl,rfl,by simp,fun b _ hn=>by simp only [va6]; rw [BD (fun e:a.block=b=>hn (e ▸ h))]⟩
theorem Keep.setCell {O:Nat→Prop} (w:World) (a:Addr) (v:Value) (h:O a.block):Keep O w (w.setCell a v):=
 ⟨rfl,rfl,rfl,by simp [vbB],fun b _ hn=>Below.heap_setCell _ _ _ _ (fun e=>hn (e ▸ h))⟩
theorem fC {w:World} {b:Nat} {o:Obj} (h:w.heap[b]?=some o):b < w.heap.size:=(DF.1 h).1
theorem Tn:liesAt PR PR.depth 108 (2 / PR.cellsOf 108) 0 108 1=true:=by kernel_rfl
theorem vQ:(PR.info? 108).map (·.size)=some 2:=by kernel_rfl
theorem Nz:(PR.info? 5).map (fun i=>(i.zero,i.size,i.bytes))=some (some (.int .u8 0),1,1):=by kernel_rfl
set_option maxHeartbeats 1000000 in
theorem Tm (b:Nat) (w:World) (h0:w.cell? ⟨b,0,none⟩=some (.pointer (some ⟨b,0,none⟩))) :
  Calls Tryz.prog 103 #[.pointer (some ⟨b,0,none⟩)] w fun e w'=>e = .returned (.tuple #[])∧w'=w:=by
 obtain ⟨j,hj,_⟩:=Option.map_eq_some_iff.1 vQ
 go_enter Tryz.func103,Tryz.ntmps103
 go_wp2
 rw [Lib.run_neq_ptr_same w _ Tryz.underlying106 hj]
 go_wp2
 go_end0
 exact ⟨rfl,rfl⟩
set_option maxHeartbeats 1000000 in
theorem Tl (b:Nat) (w:World) (h0:w.cell? ⟨b,0,none⟩=some (.pointer none)) (hsh:w.shape? b=some (108,2)) (hfz:w.frozen? ⟨b,0,none⟩=false) :
  Calls Tryz.prog 103 #[.pointer (some ⟨b,0,none⟩)] w fun e w'=>e = .returned (.tuple #[])∧w'=w.setCell ⟨b,0,none⟩ (.pointer (some ⟨b,0,none⟩)):=by
 obtain ⟨j,hj,hjs⟩:=Option.map_eq_some_iff.1 vQ
 go_enter Tryz.func103,Tryz.ntmps103
 go_wp2
 rw [Lib.run_to_unsafe w ⟨b,0,none⟩ Tryz.underlying106 Tryz.underlying211 hj (by rw [hjs]; decide) hsh (Nat.zero_lt_succ 1)];simp only [Result.andThen];rw [Oper.upon_value]
 go_wp2
 rw [run_callFunc_extern Tryz.func153 (by kernel_rfl) (by kernel_rfl) (by kernel_rfl) (e:=Extern.AbiNoEscape.same) (by kernel_rfl)];rw [Lib.run_noEscape];simp only [Result.andThen];rw [Oper.upon_value]
 go_wp2
 rw [Lib.run_from_unsafe w ⟨b,0,none⟩ Tryz.underlying211 Tryz.underlying106 hj hsh Tn];simp only [Result.andThen];rw [Oper.upon_value]
 go_wp2
 go_end0
 exact ⟨rfl,rfl⟩
theorem vO (b:Nat) (p v:Value) (w:World) (hp:p = .pointer none∨p = .pointer (some ⟨b,0,none⟩)) (hbk:w.heap[b]?=some (.cells #[p,v] 108 (0,0))) :
  Calls Tryz.prog 103 #[.pointer (some ⟨b,0,none⟩)] w fun e w'=>e = .returned (.tuple #[])∧w'.heap[b]?=some (.cells #[.pointer (some ⟨b,0,none⟩),v] 108 (0,0))∧Keep (fun k=>k=b) w w'∧w'.heap.size=w.heap.size:=by
 have hc0:w.cell? ⟨b,0,none⟩=some p:=by rw [Lib.cell_of_heap hbk]; rfl
 rcases hp with rfl | rfl
 ·refine (Tl b w hc0 (by simp [World.shape?,hbk]) (Lib.frozen_of_heap hbk 0)).mono ?_;rintro e w' ⟨rfl,rfl⟩;exact ⟨rfl,by simp [vbB,va6,hbk],Keep.setCell w ⟨b,0,none⟩ _ rfl,by simp [vbB]⟩
 ·refine (Tm b w hc0).mono ?_;rintro e w' ⟨rfl,rfl⟩;exact ⟨rfl,hbk,Keep.refl _ _,rfl⟩
def aR (b:Nat) (v:Value) (bs:List Value) (w w':World):Prop:=
 ∃ v',w'.heap[b]?=some (.cells #[.pointer (some ⟨b,0,none⟩),v'] 108 (0,0))∧w'.ownsRowF 0 5 1 v' bs.length bs∧v'.ownBlock≠some b ∧
  Keep (fun k=>k=b∨v.ownBlock=some k) w w'∧∀ k,v'.ownBlock=some k→v.ownBlock=some k∨w.heap.size≤k
theorem vP {b:Nat} {v v':Value} {bs:List Value} {w w1 w2:World} (hs1:w1.heap.size=w.heap.size) (hk1:Keep (fun k=>k=b) w w1)
  (hb2:w2.heap[b]?=some (.cells #[.pointer (some ⟨b,0,none⟩),v] 108 (0,0))) (hown:w2.ownsRowF 0 5 1 v' bs.length bs) (hk2:Keep (fun k=>v.ownBlock=some k) w1 w2) (hv:∀ k,v'.ownBlock=some k→v.ownBlock=some k∨w1.heap.size≤k) :
  aR b v bs w (w2.setCell ⟨b,1,none⟩ v'):=by
 have hput:=Lib.BuilderAtF.put (T:=108) (e:=5) (B5 b) hb2 hown (by decide);obtain ⟨_,v2,q1,q2,q3⟩:=hput;have e2:v2=v':=by
  have:(w2.setCell ⟨b,1,none⟩ v').heap[b]?=some (.cells #[.pointer (some ⟨b,0,none⟩),v'] 108 (0,0)):=by simp [vbB,va6,hb2]
  rw [this] at q1;simp at q1;exact q1.symm
 subst e2;refine ⟨v2,q1,q2,q3,?_,fun k hk=>by rw [← hs1]; exact hv k hk⟩;have h3:Keep (fun k=>k=b) w2 (w2.setCell ⟨b,1,none⟩ v2):=Keep.setCell w2 ⟨b,1,none⟩ v2 rfl;refine (hk1.mono (fun _ _ h=>Or.inl h)).trans ((hk2.mono (O':=fun k=>k=b∨v.ownBlock=some k) (fun _ _ h=>Or.inr h)).trans h3 (fun _ _ h=>Or.inl h)) (fun _ _ h=>h)
theorem Ax {w w':World} {v:Value} (hg:w.grownBy w' v.ownBlock):Keep (fun k=>v.ownBlock=some k) w w':=
 ⟨hg.os,hg.tape,hg.output,hg.size,fun b hb hn=>hg.block b hb (fun h=>hn h.symm)⟩
theorem XO {g n c k:Nat} (h:(Value.slice (some ⟨g,0,none⟩) n c).ownBlock=some k):k=g:=by
 simp only [CC,AC] at h;exact h.symm
theorem Sw {P:Program} (w:World) (t u ty e:TypeId) (i:TypeInfo) (ht:P.underlying t=some (.slice e)) (hu:P.underlying u=some .string) (hi:P.info? e=some i) (hz:i.zero=some (.int .u8 0)) (hsize:i.size=1) (hby:i.bytes=1)
  (v:Value) (n:Nat) (xs:List Value) (hown:w.ownsRowF 0 e 1 v n xs) (s:BA) (hbytes:n+s.size≤140737488355328) :
  ∃ v' w',(CZ #[t,u] ty #[v,.string s]).run P w = .ok v' w'∧w'.ownsRowF 0 e 1 v' (n+s.size) (xs++DC s)∧w.grownBy w' v.ownBlock∧∀ k,v'.ownBlock=some k→v.ownBlock=some k∨w.heap.size≤k:=by
 have h63:n+s.size≤maxLen:=by unfold maxLen; omega
 rcases hown.2 with ⟨rfl,rfl⟩ | ⟨g,cap,cur,fz,rfl,hbg,hg,hfz,hnc,hcm,hcs,htake⟩
 ·obtain ⟨v',w',h1,h2,h3,_⟩:=Lib.run_append_own_string (P:=P) w w.heap.size t u ty e i ht hu hi hz hsize hby (.slice none 0 0) 0 xs ⟨hown.1,.inl ⟨rfl,rfl⟩⟩ s h63 hbytes (AZ _);refine ⟨v',w',h1,⟨h2.1,?_⟩,h3,fun k hk=>.inr ?_⟩
  ·rcases h2.2 with q | ⟨g,cap,cur,q1,_,q2,q3,q4,q5,q6⟩
   ·exact .inl q
   ·exact .inr ⟨g,cap,cur,(0,0),q1,B5 _,q2,B5 _,q3,q4,q5,q6⟩
  ·rcases h2.2 with ⟨rfl,_⟩ | ⟨g,cap,cur,rfl,q1,_⟩
   ·simp [CC] at hk
   ·rw [XO hk]; exact q1
 ·obtain ⟨v',w',h1,h2,h3,_⟩:=Lib.run_append_own_stringF (P:=P) w 0 t u ty e i ht hu hi hz hsize hby _ n xs hown s h63 hbytes (B5 _);refine ⟨v',w',h1,h2,h3,fun k hk=>?_⟩;have hsmall:n+s.size≤9223372036854775807:=by omega
  by_cases hroom:n+s.size≤cap
  ·have hr:=Lib.run_append_room_stringF (P:=P) w t u ty e i ht hu hi hsize g n cap cur fz hg (by simpa using hfz) s hroom (by simp at hcs; omega);rw [h1] at hr;simp only [vbk] at hr;obtain ⟨rfl,_⟩:=hr;exact .inl (by rw [XO hk]; rfl)
  ·have hxl:xs.length=n:=by simpa using hown.1
   have hr:=Lib.run_append_grow_string (P:=P) w t u ty e i (.int .u8 0) ht hu hi hz ⟨g,0,none⟩ n cap xs (by rw [hsize]; simpa using hxl) (hown.cells (g:=g) rfl) s (by omega) (by omega) (by rw [hby]; exact growslice_fits (by omega) (by omega));rw [h1] at hr;simp only [vbk] at hr;obtain ⟨rfl,_⟩:=hr;exact .inr (by rw [XO hk]; exact AZ _)
theorem zjv {P:Program} {w:World} {ops:Array Oper} {rest:List Oper} {o:Oper} {a:Act} {Q:Exit→Act→World→Prop} (hgd:o.guard=none) (sl x:Operand) (t u:TypeId)
  (ho:o.op = .call { callee:=.builtin .append,args:=#[sl,x],argTypes:=#[t,u] })
  (e:TypeId) (i:TypeInfo) (ht:P.underlying t=some (.slice e)) (hu:P.underlying u=some .string) (hi:P.info? e=some i) (hz:i.zero=some (.int .u8 0)) (hsize:i.size=1) (hby:i.bytes=1)
  (v:Value) (n:Nat) (xs:List Value) (hs:a.eval sl=v) (hown:w.ownsRowF 0 e 1 v n xs) (s:BA) (hx:a.eval x = .string s) (hbytes:n+s.size≤140737488355328)
  (h:∀ v' w',w'.ownsRowF 0 e 1 v' (n+s.size) (xs++DC s)→w.grownBy w' v.ownBlock→(∀ k,v'.ownBlock=some k→v.ownBlock=some k∨w.heap.size≤k)→wpList P ops Q rest (a.put o.dst v') w'):wpList P ops Q (o :: rest) a w:=by
 refine wpList_plain hgd fun K hK=>?_
 obtain ⟨v',w',hr,h2,h3,h4⟩:=Sw (P:=P) w t u o.type e i ht hu hi hz hsize hby v n xs hown s hbytes;unfold Oper.wp execOp;simp only [ho,resolve,invoke,builtin,CN,CO,CB,List.map_toArray,A0,CA,hs,hx,hr];exact hK _ _ (h v' w' h2 h3 h4)
theorem Ss {P:Program} (w:World) (t ty e:TypeId) (i:TypeInfo) (ht:P.underlying t=some (.slice e)) (hi:P.info? e=some i) (hz:i.zero=some (.int .u8 0)) (hsize:i.size=1) (hby:i.bytes=1)
  (v:Value) (n:Nat) (xs:List Value) (hown:w.ownsRowF 0 e 1 v n xs) (ad:Addr) (c:Nat) (x:Int) (hx:w.cell? ad=some (.int .u8 x)) (hbytes:n+1≤140737488355328) :
  ∃ v' w',(CZ #[t,t] ty #[v,.slice (some ad) 1 c]).run P w = .ok v' w'∧w'.ownsRowF 0 e 1 v' (n+1) (xs++[.int .u8 x])∧w.grownBy w' v.ownBlock∧∀ k,v'.ownBlock=some k→v.ownBlock=some k∨w.heap.size≤k:=by
 have h63:n+1≤maxLen:=by unfold maxLen; omega
 have hnews:∀ j u,[Value.int .u8 x][j]?=some u→w.cell? (ad.add j)=some u:=by
  intro j u hj
  match j,hj with
  | 0,hj=>simp at hj; subst hj; obtain ⟨b,o,p⟩:=ad; cases p <;> simpa [Addr.add] using hx
 have h1c:∀ u∈[Value.int .u8 x],u.oneCell'=true:=fun u hu=>by simp at hu; subst hu; rfl
 rcases hown.2 with ⟨rfl,rfl⟩ | ⟨g,cap,cur,fz,rfl,hbg,hg,hfz,hnc,hcm,hcs,htake⟩
 ·obtain ⟨v',w',h1,h2,h3,_⟩:=run_append_own (P:=P) w w.heap.size t ty e i (.int .u8 0) 1 1 ht hi hz hsize hby rfl (by decide) (.slice none 0 0) 0 xs ⟨hown.1,.inl ⟨rfl,rfl⟩⟩ ad 1 c [.int .u8 x] rfl hnews h1c h63 (by omega) (AZ _);refine ⟨v',w',h1,⟨h2.1,?_⟩,h3,fun k hk=>.inr ?_⟩
  ·rcases h2.2 with q | ⟨g,cap,cur,q1,_,q2,q3,q4,q5,q6⟩
   ·exact .inl q
   ·exact .inr ⟨g,cap,cur,(0,0),q1,B5 _,q2,B5 _,q3,q4,q5,q6⟩
  ·rcases h2.2 with ⟨rfl,_⟩ | ⟨g,cap,cur,rfl,q1,_⟩
   ·simp [CC] at hk
   ·rw [XO hk]; exact q1
 ·obtain ⟨v',w',h1,h2,h3,_⟩:=run_append_ownF (P:=P) w 0 t ty e i (.int .u8 0) 1 1 ht hi hz hsize hby rfl (by decide) _ n xs hown ad 1 c [.int .u8 x] rfl hnews h1c h63 (by omega) (B5 _);refine ⟨v',w',h1,h2,h3,fun k hk=>?_⟩;by_cases hroom:n+1≤cap
  ·have hr:=run_append_roomF (P:=P) w t ty e i ht hi g n cap cur fz hg (by rw [hsize]; simpa using hfz) ad 1 c [.int .u8 x] (by rw [hsize]; rfl) hnews h1c hroom (by rw [hsize]; simp at hcs ⊢; omega);rw [h1] at hr;simp only [vbk] at hr;obtain ⟨rfl,_⟩:=hr;exact .inl (by rw [XO hk]; rfl)
  ·have hxl:xs.length=n:=by simpa using hown.1
   have hr:=run_append_grow (P:=P) w t ty e i (.int .u8 0) ht hi hz ⟨g,0,none⟩ n cap xs (by rw [hsize]; simpa using hxl) (hown.cells (g:=g) rfl) ad 1 c [.int .u8 x] (by rw [hsize]; rfl) hnews (by omega) (by omega) (by rw [hby]; exact growslice_fits (by omega) (by omega));rw [h1] at hr;simp only [vbk] at hr;obtain ⟨rfl,_⟩:=hr;exact .inr (by rw [XO hk]; exact AZ _)
theorem zju {P:Program} {w:World} {ops:Array Oper} {rest:List Oper} {o:Oper} {a:Act} {Q:Exit→Act→World→Prop} (hgd:o.guard=none) (sl x:Operand) (t:TypeId)
  (ho:o.op = .call { callee:=.builtin .append,args:=#[sl,x],argTypes:=#[t,t] })
  (e:TypeId) (i:TypeInfo) (ht:P.underlying t=some (.slice e)) (hi:P.info? e=some i) (hz:i.zero=some (.int .u8 0)) (hsize:i.size=1) (hby:i.bytes=1)
  (v:Value) (n:Nat) (xs:List Value) (hs:a.eval sl=v) (hown:w.ownsRowF 0 e 1 v n xs) (ad:Addr) (c:Nat) (y:Int) (hx:a.eval x = .slice (some ad) 1 c) (hc:w.cell? ad=some (.int .u8 y)) (hbytes:n+1≤140737488355328)
  (h:∀ v' w',w'.ownsRowF 0 e 1 v' (n+1) (xs++[.int .u8 y])→w.grownBy w' v.ownBlock→(∀ k,v'.ownBlock=some k→v.ownBlock=some k∨w.heap.size≤k)→wpList P ops Q rest (a.put o.dst v') w'):wpList P ops Q (o :: rest) a w:=by
 refine wpList_plain hgd fun K hK=>?_
 obtain ⟨v',w',hr,h2,h3,h4⟩:=Ss (P:=P) w t o.type e i ht hi hz hsize hby v n xs hown ad c y hc hbytes;unfold Oper.wp execOp;simp only [ho,resolve,invoke,builtin,CN,CO,CB,List.map_toArray,A0,CA,hs,hx,hr];exact hK _ _ (h v' w' h2 h3 h4)
theorem qN {w:World} {e:Nat} {v:Value} {bs:List Value} {n k:Nat} (hown:w.ownsRowF 0 e 1 v n bs) (hk:v.ownBlock=some k):k < w.heap.size:=by
 rcases hown.2 with ⟨rfl,_⟩ | ⟨g,cap,cur,fz,rfl,_,hg,_⟩
 ·simp [CC] at hk
 ·rw [XO hk];exact fC hg
set_option maxHeartbeats 2000000 in
theorem Tx (b:Nat) (p v:Value) (bs:List Value) (s:BA) (w:World) (hp:p = .pointer none∨p = .pointer (some ⟨b,0,none⟩)) (hbk:w.heap[b]?=some (.cells #[p,v] 108 (0,0)))
  (hown:w.ownsRowF 0 5 1 v bs.length bs) (hne:v.ownBlock≠some b) (hlen:bs.length+s.size≤140737488355328) :
  Calls Tryz.prog 60 #[.pointer (some ⟨b,0,none⟩),.string s] w fun e w'=>e = .returned (.tuple #[.int .i64 s.size,.nilIface])∧aR b v (bs++Lib.strCells s) w w':=by
 obtain ⟨i0,hi,hz0,hz1,hz2⟩:=info_parts Nz
 go_enter Tryz.func60,Tryz.ntmps60
 go_wp2_with (go_at_call 103; refine (vO b p v _ hp hbk).mono ?_)
 rintro e w1 ⟨rfl,hb1,hk1,hs1⟩;have HS:Hid (w1.heap.size=w.heap.size):=hs1;clear hs1;have hown1:w1.ownsRowF 0 5 1 v bs.length bs:=ZS hown (fun k hk=>hk1.block k (qN hown hk) (fun e=>hne (e ▸ hk)));have c0:w1.cell? ⟨b,0,none⟩=some (.pointer (some ⟨b,0,none⟩)):=by rw [Lib.cell_of_heap hb1]; rfl
 have c1:w1.cell? ⟨b,1,none⟩=some v:=by rw [Lib.cell_of_heap hb1]; rfl
 go_wp2_with (at_builtin; refine zjv rfl _ _ 69 9 rfl 5 i0 Tryz.underlying69 Tryz.underlying9 hi hz0 hz1 hz2 _ _ _ rfl hown1 s rfl hlen ?_)
 intro v' w2 hown' hgrow hblk;have hlt:b < w1.heap.size:=fC hb1;have hb2:w2.heap[b]?=some (.cells #[.pointer (some ⟨b,0,none⟩),v] 108 (0,0)):=by
  rw [hgrow.block b hlt (fun e=>hne e.symm)];exact hb1
 have d0:w2.cell? ⟨b,0,none⟩=some (.pointer (some ⟨b,0,none⟩)):=by rw [Lib.cell_of_heap hb2]; rfl
 have d1:w2.cell? ⟨b,1,none⟩=some v:=by rw [Lib.cell_of_heap hb2]; rfl
 have f1:w2.frozen? ⟨b,1,none⟩=false:=Lib.frozen_of_heap hb2 1;have hX:Hid (aR b v (bs++Lib.strCells s) w (w2.setCell ⟨b,1,none⟩ v')):=vP HS hk1 hb2 (by simpa [Lib.strCells_length] using hown') (Ax hgrow) hblk;clear hblk HS;obtain ⟨ao,n',cap,rfl⟩:∃ ao n' cap,v' = .slice ao n' cap:=by
  rcases hown'.2 with ⟨hv,_⟩ | ⟨g,cap,cur,fz,hv,_⟩
  ·exact ⟨_,_,_,hv⟩
  ·exact ⟨_,_,_,hv⟩
 go_wp2
 go_ret2
 exact ⟨rfl,hX⟩
set_option maxHeartbeats 2000000 in
theorem Tw (b:Nat) (p v:Value) (bs:List Value) (c:Int) (w:World) (hp:p = .pointer none∨p = .pointer (some ⟨b,0,none⟩)) (hbk:w.heap[b]?=some (.cells #[p,v] 108 (0,0)))
  (hown:w.ownsRowF 0 5 1 v bs.length bs) (hne:v.ownBlock≠some b) (hlen:bs.length+1≤140737488355328) :
  Calls Tryz.prog 97 #[.pointer (some ⟨b,0,none⟩),.int .u8 c] w fun e w'=>e = .returned .nilIface∧aR b v (bs++[.int .u8 c]) w w':=by
 obtain ⟨i0,hi,hz0,hz1,hz2⟩:=info_parts Nz
 go_enter Tryz.func97,Tryz.ntmps97
 go_wp2_with (go_at_call 103; refine (vO b p v _ hp hbk).mono ?_)
 rintro e w1 ⟨rfl,hb1,hk1,hs1⟩;have HS:Hid (w1.heap.size=w.heap.size):=hs1;clear hs1;have hown1:w1.ownsRowF 0 5 1 v bs.length bs:=ZS hown (fun k hk=>hk1.block k (qN hown hk) (fun e=>hne (e ▸ hk)));have c0:w1.cell? ⟨b,0,none⟩=some (.pointer (some ⟨b,0,none⟩)):=by rw [Lib.cell_of_heap hb1]; rfl
 have c1:w1.cell? ⟨b,1,none⟩=some v:=by rw [Lib.cell_of_heap hb1]; rfl
 have hlt:b < w1.heap.size:=fC hb1
 go_wp2_with (at_builtin; refine zju rfl _ _ 69 rfl 5 i0 Tryz.underlying69 hi hz0 hz1 hz2 _ _ _ rfl (hown1.alloc _) ⟨w1.heap.size,0,none⟩ 1 c rfl (by rw [Lib.cell_of_heap (heap_alloc_new w1 _)]; rfl) hlen ?_)
 intro v' w2 hown' hgrow hblk;have hb2:w2.heap[b]?=some (.cells #[.pointer (some ⟨b,0,none⟩),v] 108 (0,0)):=by
  rw [hgrow.block b (by simp; omega) (fun e=>hne e.symm),Lib.alloc_old w1 _ b hlt];exact hb1
 have d0:w2.cell? ⟨b,0,none⟩=some (.pointer (some ⟨b,0,none⟩)):=by rw [Lib.cell_of_heap hb2]; rfl
 have d1:w2.cell? ⟨b,1,none⟩=some v:=by rw [Lib.cell_of_heap hb2]; rfl
 have f1:w2.frozen? ⟨b,1,none⟩=false:=Lib.frozen_of_heap hb2 1;have hX:Hid (aR b v (bs++[.int .u8 c]) w (w2.setCell ⟨b,1,none⟩ v')):=vP HS hk1 hb2 (by simpa using hown') (((Keep.alloc (fun k=>v.ownBlock=some k) w1 _)).trans (Ax hgrow) (fun _ _ h=>h)) (fun k hk=>(hblk k hk).imp_right (fun h=>by first | omega | (simp at h; omega)));clear hblk HS;obtain ⟨ao,n',cap,rfl⟩:∃ ao n' cap,v' = .slice ao n' cap:=by
  rcases hown'.2 with ⟨hv,_⟩ | ⟨g,cap,cur,fz,hv,_⟩
  ·exact ⟨_,_,_,hv⟩
  ·exact ⟨_,_,_,hv⟩
 go_wp2
 go_ret
 exact ⟨rfl,hX⟩
def OP (b:Nat) (p v:Value) (n:Nat) (bs:List Value) (w w':World):Prop:=
 w'.heap[b]?=some (.cells #[p,v] 108 (0,0))∧w'.ownsRowF 0 5 1 v n bs∧Keep (fun k=>k=b∨v.ownBlock=some k) w w'
theorem ziC {b g cap:Nat} {p:Value} {bs:List Value} {w:World} (hbk:w.heap[b]?=some (.cells #[p,.slice (some ⟨g,0,none⟩) bs.length cap] 108 (0,0))) (hown:w.ownsRowF 0 5 1 (.slice (some ⟨g,0,none⟩) bs.length cap) bs.length bs) (hne:(Value.slice (some ⟨g,0,none⟩) bs.length cap).ownBlock≠some b) :
  OP b p (.slice (some ⟨g,0,none⟩) bs.length cap) bs.length bs w (w.drew.freeze ⟨g,0,none⟩ bs.length):=by
 have hA:Lib.BuilderAtF 108 5 0 b p bs w.drew:=⟨B5 _,_,hbk,hown,hne⟩;have c1:w.drew.cell? ⟨b,1,none⟩=some (.slice (some ⟨g,0,none⟩) bs.length cap):=by
  have:w.drew.heap[b]?=some (.cells #[p,.slice (some ⟨g,0,none⟩) bs.length cap] 108 (0,0)):=hbk
  rw [Lib.cell_of_heap this]; rfl
 obtain ⟨_,v',q1,q2,q3⟩:=hA.froze c1;have hk:Keep (fun k=>k=g) w (w.drew.freeze ⟨g,0,none⟩ bs.length):=(Keep.drew _ w).trans (Keep.freeze (O:=fun k=>k=g) w.drew ⟨g,0,none⟩ _ rfl) (fun _ _ h=>h);have hgb:b≠g:=fun e=>hne (by simp [CC,e])
 have hb2:(w.drew.freeze ⟨g,0,none⟩ bs.length).heap[b]?=some (.cells #[p,.slice (some ⟨g,0,none⟩) bs.length cap] 108 (0,0)):=(hk.block b (fC hbk) hgb).trans hbk;have e:v' = .slice (some ⟨g,0,none⟩) bs.length cap:=by
  rw [hb2] at q1;simp at q1;exact q1.symm
 subst e;exact ⟨hb2,q2,hk.mono (fun k _ h=>.inr (by rw [h]; rfl))⟩
set_option maxHeartbeats 1000000 in
theorem Tv (b g cap:Nat) (p:Value) (l:List UInt8) (w:World) (h0:l≠[]) (hbk:w.heap[b]?=some (.cells #[p,.slice (some ⟨g,0,none⟩) l.length cap] 108 (0,0)))
  (hown:w.ownsRowF 0 5 1 (.slice (some ⟨g,0,none⟩) l.length cap) l.length (Lib.byteCells l)) (hne:(Value.slice (some ⟨g,0,none⟩) l.length cap).ownBlock≠some b) :
  Calls Tryz.prog 56 #[.pointer (some ⟨b,0,none⟩)] w fun e w'=>e = .returned (.string ⟨l.toArray⟩)∧OP b p (.slice (some ⟨g,0,none⟩) l.length cap) l.length (Lib.byteCells l) w w':=by
 have hl0:l.length≠0:=by simpa using h0
 obtain ⟨cur,fz,hg,hnc,hcm,hcs⟩:∃ cur fz,w.heap[g]?=some (.cells cur 5 fz)∧l.length≤cap∧cap≤maxLen∧cur.size=cap*1:=by
  rcases hown.2 with ⟨hv,_⟩ | ⟨g',cap',cur,fz,hv,_,q1,_,q2,q3,q4,_⟩
  ·cases hv
  ·injection hv with ha _ hc
   injection ha with ha
   injection ha with hgg
   subst hgg; subst hc;exact ⟨cur,fz,q1,q2,q3,q4⟩
 have c1:w.drew.cell? ⟨b,1,none⟩=some (.slice (some ⟨g,0,none⟩) l.length cap):=by
  have:w.drew.heap[b]?=some (.cells #[p,.slice (some ⟨g,0,none⟩) l.length cap] 108 (0,0)):=hbk
  rw [Lib.cell_of_heap this]; rfl
 have hSD:(Builtin.unsafeSliceData_ #[69] 165 #[.slice (some ⟨g,0,none⟩) l.length cap]).run Tryz.prog w.drew = .ok (.pointer (some ⟨g,0,none⟩)) w.drew:=
  Lib.run_unsafeSliceData_row _ _ _ _ _ _ (by omega)
 have hcells:PR.cellsOf 5=1:=by kernel_rfl
 have hUS:(Builtin.unsafeString_ #[165,3] 9 #[.pointer (some ⟨g,0,none⟩),.int .i64 l.length]).run Tryz.prog w.drew = .ok (.string ⟨l.toArray⟩) (w.drew.freeze ⟨g,0,none⟩ l.length):=by
  refine Lib.run_unsafeString_row w.drew 165 3 9 5 Tryz.underlying165 hcells g cur.size (by have hg':w.drew.heap[g]?=some (.cells cur 5 fz):=hg; simp [World.shape?,hg']) l h0 (by omega) (by unfold maxLen at hcm; omega) ?_;intro j x hx
  have:=hown.cells (g:=g) rfl j (.int .u8 x.toNat) (by simp [Lib.byteCells,hx])
  exact this
 have hP:Hid (OP b p (.slice (some ⟨g,0,none⟩) l.length cap) l.length (Lib.byteCells l) w (w.drew.freeze ⟨g,0,none⟩ l.length)):=by
  have:=ziC (bs:=Lib.byteCells l) (by rw [Lib.byteCells_length]; exact hbk) (by rw [Lib.byteCells_length]; exact hown) (by rw [Lib.byteCells_length]; exact hne)
  rw [Lib.byteCells_length] at this;exact this
 clear hcells hcs hg hnc hcm hl0
 go_enter Tryz.func56,Tryz.ntmps56
 go_wp2
 go_region
 all_goals (go_wp2; go_ret; exact ⟨rfl,hP⟩)
set_option maxHeartbeats 2000000 in
theorem Tq (b:Nat) (p:Value) (w:World) (hbk:w.heap[b]?=some (.cells #[p,.slice none 0 0] 108 (0,0))) :
  Calls Tryz.prog 56 #[.pointer (some ⟨b,0,none⟩)] w fun e w'=>e = .returned (.string ⟨#[]⟩)∧OP b p (.slice none 0 0) 0 [] w w':=by
 have hUS:∀ (W:World) (q:Option Addr),(Builtin.unsafeString_ #[165,3] 9 #[.pointer q,.int .i64 0]).run Tryz.prog W = .ok (.string .empty) W:=fun W q=>Lib.run_unsafeString_none W _ _ _ q
 have c1:w.drew.cell? ⟨b,1,none⟩=some (.slice none 0 0):=by
  have:w.drew.heap[b]?=some (.cells #[p,.slice none 0 0] 108 (0,0)):=hbk
  rw [Lib.cell_of_heap this]; rfl
 have hSD:(Builtin.unsafeSliceData_ #[69] 165 #[.slice none 0 0]).run Tryz.prog w.drew = .ok (.pointer none) w.drew:=rfl;have hP:Hid (OP b p (.slice none 0 0) 0 [] w w.drew):=⟨hbk,⟨rfl,.inl ⟨rfl,rfl⟩⟩,Keep.drew _ w⟩
 go_enter Tryz.func56,Tryz.ntmps56
 go_wp2
 go_region
 all_goals (go_wp2; go_ret; exact ⟨rfl,hP⟩)
set_option maxHeartbeats 2000000 in
theorem Tt (b g:Nat) (p:Value) (cur:Array Value) (fz:Nat × Nat) (w:World) (hbk:w.heap[b]?=some (.cells #[p,.slice (some ⟨g,0,none⟩) 0 0] 108 (0,0))) (hg:w.heap[g]?=some (.cells cur 5 fz)) (hown:w.ownsRowF 0 5 1 (.slice (some ⟨g,0,none⟩) 0 0) 0 []) :
  Calls Tryz.prog 56 #[.pointer (some ⟨b,0,none⟩)] w fun e w'=>e = .returned (.string ⟨#[]⟩)∧OP b p (.slice (some ⟨g,0,none⟩) 0 0) 0 [] w w':=by
 have hUS:∀ (W:World) (q:Option Addr),(Builtin.unsafeString_ #[165,3] 9 #[.pointer q,.int .i64 0]).run Tryz.prog W = .ok (.string .empty) W:=fun W q=>Lib.run_unsafeString_none W _ _ _ q
 have hlt:b < w.heap.size:=fC hbk;have c1:w.drew.cell? ⟨b,1,none⟩=some (.slice (some ⟨g,0,none⟩) 0 0):=by
  have:w.drew.heap[b]?=some (.cells #[p,.slice (some ⟨g,0,none⟩) 0 0] 108 (0,0)):=hbk
  rw [Lib.cell_of_heap this]; rfl
 have hSD:(Builtin.unsafeSliceData_ #[69] 165 #[.slice (some ⟨g,0,none⟩) 0 0]).run Tryz.prog w.drew = .ok (.pointer (some ⟨w.drew.heap.size,0,none⟩)) (w.drew.alloc (.view ⟨g,0,none⟩ 5)):=
  Lib.run_unsafeSliceData_zero w.drew _ _ 5 Tryz.underlying165 ⟨g,0,none⟩ 0 (5,cur.size) (by have hg':w.drew.heap[g]?=some (.cells cur 5 fz):=hg; simp [World.shape?,hg'])
 have c2:(w.drew.alloc (.view ⟨g,0,none⟩ 5)).cell? ⟨b,1,none⟩=some (.slice (some ⟨g,0,none⟩) 0 0):=by
  have:(w.drew.alloc (.view ⟨g,0,none⟩ 5)).heap[b]?=_:=(Lib.alloc_old w.drew _ b hlt).trans hbk
  rw [Lib.cell_of_heap this]; rfl
 have c3:(w.alloc (.view ⟨g,0,none⟩ 5)).drew.cell? ⟨b,1,none⟩=some (.slice (some ⟨g,0,none⟩) 0 0):=c2;have c0:w.cell? ⟨b,1,none⟩=some (.slice (some ⟨g,0,none⟩) 0 0):=c1;have hP:∀ W:World,W.heap=(w.drew.alloc (.view ⟨g,0,none⟩ 5)).heap→W.os=w.os→W.tape=w.tape→W.output=w.output→OP b p (.slice (some ⟨g,0,none⟩) 0 0) 0 [] w W:=by
  intro W h1 h2 h3 h4;have hk:Keep (fun k=>k=b∨(Value.slice (some ⟨g,0,none⟩) 0 0).ownBlock=some k) w W:=by
   have:=Keep.alloc (fun _=>False) w.drew (.view ⟨g,0,none⟩ 5)
   exact ⟨h2,h3,h4,by rw [h1]; exact this.size,fun k hk _=>by rw [h1]; exact this.block k hk (fun h=>h)⟩
  have hblk:∀ k,k < w.heap.size→W.heap[k]?=w.heap[k]?:=fun k hk=>by
   rw [h1]; exact (Keep.alloc (fun _=>False) w.drew (.view ⟨g,0,none⟩ 5)).block k hk (fun h=>h)
  exact ⟨(hblk b hlt).trans hbk,ZS hown (fun k hk=>hblk k (qN hown hk)),hk⟩
 have hP:Hid (∀ W:World,W.heap=(w.drew.alloc (.view ⟨g,0,none⟩ 5)).heap→W.os=w.os→W.tape=w.tape→W.output=w.output→OP b p (.slice (some ⟨g,0,none⟩) 0 0) 0 [] w W):=hP
 go_enter Tryz.func56,Tryz.ntmps56
 go_wp2
 go_region
 all_goals (go_wp2; go_ret; exact ⟨rfl,hP _ rfl rfl rfl rfl⟩)
set_option maxHeartbeats 2000000 in
theorem Tu (b g cap:Nat) (p:Value) (w:World) (hc0:cap≠0) (hbk:w.heap[b]?=some (.cells #[p,.slice (some ⟨g,0,none⟩) 0 cap] 108 (0,0))) (hown:w.ownsRowF 0 5 1 (.slice (some ⟨g,0,none⟩) 0 cap) 0 []) :
  Calls Tryz.prog 56 #[.pointer (some ⟨b,0,none⟩)] w fun e w'=>e = .returned (.string ⟨#[]⟩)∧OP b p (.slice (some ⟨g,0,none⟩) 0 cap) 0 [] w w':=by
 have hUS:∀ (W:World) (q:Option Addr),(Builtin.unsafeString_ #[165,3] 9 #[.pointer q,.int .i64 0]).run Tryz.prog W = .ok (.string .empty) W:=fun W q=>Lib.run_unsafeString_none W _ _ _ q
 have c1:w.drew.cell? ⟨b,1,none⟩=some (.slice (some ⟨g,0,none⟩) 0 cap):=by
  have:w.drew.heap[b]?=some (.cells #[p,.slice (some ⟨g,0,none⟩) 0 cap] 108 (0,0)):=hbk
  rw [Lib.cell_of_heap this]; rfl
 have hSD:(Builtin.unsafeSliceData_ #[69] 165 #[.slice (some ⟨g,0,none⟩) 0 cap]).run Tryz.prog w.drew = .ok (.pointer (some ⟨g,0,none⟩)) w.drew:=
  Lib.run_unsafeSliceData_row _ _ _ _ _ _ hc0
 clear hc0;have hP:Hid (OP b p (.slice (some ⟨g,0,none⟩) 0 cap) 0 [] w w.drew):=⟨hbk,hown,Keep.drew _ w⟩
 go_enter Tryz.func56,Tryz.ntmps56
 go_wp2
 go_region
 all_goals (go_wp2; go_ret; exact ⟨rfl,hP⟩)
theorem ziB (s:BA):DC s=vbE s.data.toList:=by
 simp [DC,vbE]
theorem Tp (b:Nat) (p v:Value) (s:BA) (w:World) (hbk:w.heap[b]?=some (.cells #[p,v] 108 (0,0))) (hown:w.ownsRowF 0 5 1 v s.size (DC s)) (hne:v.ownBlock≠some b) :
  Calls Tryz.prog 56 #[.pointer (some ⟨b,0,none⟩)] w fun e w'=>e = .returned (.string s)∧OP b p v s.size (DC s) w w':=by
 obtain ⟨⟨l⟩⟩:=s;rw [ziB] at hown ⊢
 change w.ownsRowF 0 5 1 v l.length (vbE l) at hown
 change Calls Tryz.prog 56 #[.pointer (some ⟨b,0,none⟩)] w fun e w'=>e = .returned (.string ⟨l.toArray⟩)∧OP b p v l.length (vbE l) w w'
 by_cases h0:l=[]
 ·subst h0;rcases hown.2 with ⟨rfl,_⟩ | ⟨g,cap,cur,fz,rfl,_,hg,_⟩
  ·exact Tq b p w hbk
  ·by_cases hc:cap=0
   ·subst hc;exact Tt b g p cur fz w hbk hg hown
   ·exact Tu b g cap p w hc hbk hown
 ·rcases hown.2 with ⟨rfl,hz⟩ | ⟨g,cap,cur,fz,rfl,_⟩
  ·exact absurd (vaM hz) h0
  ·exact Tv b g cap p l w h0 hbk hown hne
end Go.FM
namespace Go.Proofs
open Go.Shelf
def Tryz.lays156_ren:Go.Shelf.Ren:=⟨fun | 156=>45 | 165=>87 | 166=>60 | 169=>56 | 240=>103 | 241=>137 | 276=>153 | 277=>179 | n=>n,fun | 31=>66 | 9=>9 | 3=>3 | 4=>4 | 0=>0 | 20=>20 | 72=>108 | 76=>121 | 70=>106 | 37=>69 | 75=>120 | 127=>165 | 164=>211 | 5=>5 | 80=>114 | n=>n,fun | n=>n⟩
theorem Tryz.lays156:Go.Proofs.Lays.n156 Tryz.prog Tryz.lays156_ren:= by constructor <;> first | kernel_rfl | (intro _; kernel_rfl)
theorem Tryz.Builder_Extra_156:Builder.Extra Tryz.prog Tryz.lays156_ren:={
 sizeBuilder:=by kernel_rfl
 liesBuilder:=by kernel_rfl
 t5:=Tryz.underlying5
 a5:=Tryz.isAgg5
 z5:=Tryz.sizeOf5
 v5:=Tryz.zeroValue5
 infoByte:=by kernel_rfl
 cellsByte:=by kernel_rfl
 sizeByte:=by kernel_rfl
 neB5:=by decide }
open Go.RowKit in
theorem Tryz.strings_Join_none (a:Option Addr) (c:Nat) (sep:BA) (w:World) :
 Calls Tryz.prog 45 #[.slice a 0 c,.string sep] w fun e w'=>e = .returned (.string ⟨#[]⟩)∧w'=w:=Any.strings_Join_none Tryz.lays156 Tryz.Builder_Extra_156 a c sep w
open Go.RowKit in
theorem Tryz.strings_Join (bk o c:Nat) (xs:List BA) (sep:BA) (w:World) (hcells:∀ (j:Nat) x,xs[j]?=some x→w.cell? ⟨bk,o+j,none⟩=some (.string x)) (hbk:bk < w.heap.size) (hN:xs.length≤140737488355328) (hcap:xs.length≤c) (hlen:(Lib.join (xs.map (·.data.toList)) sep.data.toList).length≤140737488355328) :
 Calls Tryz.prog 45 #[.slice (some ⟨bk,o,none⟩) xs.length c,.string sep] w fun e w'=>e = .returned (.string ⟨(Lib.join (xs.map (·.data.toList)) sep.data.toList).toArray⟩)∧Below w.heap.size w w':=Any.strings_Join Tryz.lays156 Tryz.Builder_Extra_156 bk o c xs sep w hcells hbk hN hcap hlen
def Tryz.lays162_ren:Go.Shelf.Ren:=⟨fun | 162=>85 | 232=>130 | 227=>131 | 234=>132 | 236=>133 | 228=>174 | 271=>175 | 151=>176 | 120=>208 | 197=>181 | 152=>209 | 260=>210 | 137=>102 | 119=>223 | 224=>212 | 225=>211 | 217=>152 | 266=>191 | n=>n,fun | 9=>9 | 4=>4 | 3=>3 | 5=>5 | 117=>195 | 116=>194 | 0=>0 | 124=>198 | 21=>21 | 105=>231 | 46=>152 | 119=>279 | 139=>282 | 138=>281 | n=>n,fun | 3=>4 | 4=>5 | n=>n⟩
theorem Tryz.lays162:Go.Proofs.Lays.n162 Tryz.prog Tryz.lays162_ren:={
 mixed:=by kernel_rfl
 f119:=Tryz.func223.trans (congrArg some (by kernel_rfl))
 f120:=Tryz.func208.trans (congrArg some (by kernel_rfl))
 f137:=Tryz.func102.trans (congrArg some (by kernel_rfl))
 f151:=Tryz.func176.trans (congrArg some (by kernel_rfl))
 f152:=Tryz.func209.trans (congrArg some (by kernel_rfl))
 f162:=Tryz.func85.trans (congrArg some (by kernel_rfl))
 f197:=Tryz.func181.trans (congrArg some (by kernel_rfl))
 f217:=Tryz.func152.trans (congrArg some (by kernel_rfl))
 f224:=Tryz.func212.trans (congrArg some (by kernel_rfl))
 f225:=Tryz.func211.trans (congrArg some (by kernel_rfl))
 f227:=Tryz.func131.trans (congrArg some (by kernel_rfl))
 f228:=Tryz.func174.trans (congrArg some (by kernel_rfl))
 f232:=Tryz.func130.trans (congrArg some (by kernel_rfl))
 f234:=Tryz.func132.trans (congrArg some (by kernel_rfl))
 f236:=Tryz.func133.trans (congrArg some (by kernel_rfl))
 f260:=Tryz.func210.trans (congrArg some (by kernel_rfl))
 f266:=Tryz.func191.trans (congrArg some (by kernel_rfl))
 f271:=Tryz.func175.trans (congrArg some (by kernel_rfl))
 t0:=Tryz.underlying0
 a0:=Tryz.isAgg0
 z0:=Tryz.sizeOf0
 v0:=Tryz.zeroValue0
 t3:=Tryz.underlying3
 a3:=Tryz.isAgg3
 z3:=Tryz.sizeOf3
 v3:=Tryz.zeroValue3
 t4:=Tryz.underlying4
 a4:=Tryz.isAgg4
 z4:=Tryz.sizeOf4
 v4:=Tryz.zeroValue4
 t5:=Tryz.underlying5
 a5:=Tryz.isAgg5
 z5:=Tryz.sizeOf5
 v5:=Tryz.zeroValue5
 t9:=Tryz.underlying9
 a9:=Tryz.isAgg9
 z9:=Tryz.sizeOf9
 v9:=Tryz.zeroValue9
 t21:=Tryz.underlying21
 a21:=Tryz.isAgg21
 z21:=Tryz.sizeOf21
 v21:=Tryz.zeroValue21
 t46:=Tryz.underlying152
 a46:=Tryz.isAgg152
 z46:=Tryz.sizeOf152
 v46:=Tryz.zeroValue152
 t105:=Tryz.underlying231
 a105:=Tryz.isAgg231
 z105:=Tryz.sizeOf231
 v105:=Tryz.zeroValue231
 t116:=Tryz.underlying194
 a116:=Tryz.isAgg194
 z116:=Tryz.sizeOf194
 t117:=Tryz.underlying195
 a117:=Tryz.isAgg195
 z117:=Tryz.sizeOf195
 v117:=Tryz.zeroValue195
 t119:=Tryz.underlying279
 a119:=Tryz.isAgg279
 z119:=Tryz.sizeOf279
 t124:=Tryz.underlying198
 a124:=Tryz.isAgg198
 z124:=Tryz.sizeOf198
 v124:=Tryz.zeroValue198
 t138:=Tryz.underlying281
 a138:=Tryz.isAgg281
 z138:=Tryz.sizeOf281
 v138:=Tryz.zeroValue281
 t139:=Tryz.underlying282
 a139:=Tryz.isAgg282
 z139:=Tryz.sizeOf282
 v139:=Tryz.zeroValue282
 g3:=by kernel_rfl
 g4:=by kernel_rfl }
open Go.RowKit in
theorem Tryz.strings_TrimRight_one (s:BA) (c:UInt8) (hc:c.toNat < 128) (w:World) (hs:s.size≤9223372036854775807) :
 Calls Tryz.prog 85 #[.string s,.string ⟨#[c]⟩] w fun e w'=>e = .returned (.string ⟨(Lib.trimRightB s.data.toList c).toArray⟩)∧w'=w:=Any.strings_TrimRight_one Tryz.lays162 s c hc w hs
def Tryz.lays137_ren:Go.Shelf.Ren:=⟨fun | 137=>102 | 217=>152 | 266=>191 | n=>n,fun | 9=>9 | 5=>5 | 3=>3 | n=>n,fun | n=>n⟩
theorem Tryz.lays137:Go.Proofs.Lays.n137 Tryz.prog Tryz.lays137_ren:= by constructor <;> first | kernel_rfl | (intro _; kernel_rfl)
open Go.RowKit in
theorem Tryz.strings_IndexByte (s:BA) (c:Int) (w:World) :
 Calls Tryz.prog 102 #[.string s,.int .u8 c] w fun e w'=>e = .returned (.int .i64 (Lib.indexByte s.data.toList c.toNat.toUInt8))∧w'=w:=Any.strings_IndexByte Tryz.lays137 s c w
def Tryz.lays103_ren:Go.Shelf.Ren:=⟨fun | 103=>57 | 210=>101 | 206=>151 | n=>n,fun | 9=>9 | 4=>4 | 24=>115 | 3=>3 | n=>n,fun | n=>n⟩
theorem Tryz.lays103:Go.Proofs.Lays.n103 Tryz.prog Tryz.lays103_ren:= by constructor <;> first | kernel_rfl | (intro _; kernel_rfl)
open Go.RowKit in
theorem Tryz.strings_CutPrefix (s p:BA) (w:World) :
 Calls Tryz.prog 57 #[.string s,.string p] w fun e w'=>e = .returned (.tuple #[.string ⟨(Lib.trimPrefix s.data.toList p.data.toList).toArray⟩,.bool (Lib.hasPrefix s.data.toList p.data.toList)])∧w'=w:=Any.strings_CutPrefix Tryz.lays103 s p w
def Tryz.lays283_ren:Go.Shelf.Ren:=⟨fun | 283=>170 | n=>n,fun | 3=>3 | 9=>9 | 4=>4 | n=>n,fun | n=>n⟩
theorem Tryz.lays283:Go.Proofs.Lays.n283 Tryz.prog Tryz.lays283_ren:= by constructor <;> first | kernel_rfl | (intro _; kernel_rfl)
open Go.Lib in
theorem Tryz.internal_strconv_small (i:Nat) (h:i < 100) (w:World) :
 Calls Tryz.prog 170 #[.int .i64 i] w fun e w'=>e = .returned (.string ⟨(Lib.decDigits i).toArray⟩)∧w'=w:=Any.internal_strconv_small Tryz.lays283 i h w
def Tryz.laysM284_ren:Go.Shelf.Ren:=⟨fun | 284=>171 | 129=>204 | 317=>203 | 318=>205 | n=>n,fun | 53=>103 | 3=>3 | 212=>262 | 0=>0 | 4=>4 | 46=>152 | 5=>5 | 9=>9 | n=>n,fun | 17=>0 | n=>n⟩
theorem Tryz.laysM284:Go.Proofs.LaysM.n284 Tryz.prog Tryz.laysM284_ren:={
 mixed:=by kernel_rfl
 f129:=Tryz.func204.trans (congrArg some (by kernel_rfl))
 f284:=Tryz.func171.trans (congrArg some (by kernel_rfl))
 f317:=Tryz.func203.trans (congrArg some (by kernel_rfl))
 f318:=Tryz.func205.trans (congrArg some (by kernel_rfl))
 t0:=Tryz.underlying0
 a0:=Tryz.isAgg0
 z0:=Tryz.sizeOf0
 v0:=Tryz.zeroValue0
 t3:=Tryz.underlying3
 a3:=Tryz.isAgg3
 z3:=Tryz.sizeOf3
 v3:=Tryz.zeroValue3
 t4:=Tryz.underlying4
 a4:=Tryz.isAgg4
 z4:=Tryz.sizeOf4
 v4:=Tryz.zeroValue4
 t5:=Tryz.underlying5
 a5:=Tryz.isAgg5
 z5:=Tryz.sizeOf5
 v5:=Tryz.zeroValue5
 t9:=Tryz.underlying9
 a9:=Tryz.isAgg9
 z9:=Tryz.sizeOf9
 v9:=Tryz.zeroValue9
 t46:=Tryz.underlying152
 a46:=Tryz.isAgg152
 z46:=Tryz.sizeOf152
 v46:=Tryz.zeroValue152
 t53:=Tryz.underlying103
 a53:=Tryz.isAgg103
 z53:=Tryz.sizeOf103
 v53:=Tryz.zeroValue103
 t212:=Tryz.underlying262
 a212:=Tryz.isAgg262
 z212:=Tryz.sizeOf262
 v212:=Tryz.zeroValue262
 g17:=by kernel_rfl
 i0:=by kernel_rfl
 i3:=by kernel_rfl
 i4:=by kernel_rfl
 i5:=by kernel_rfl
 i9:=by kernel_rfl
 i46:=by kernel_rfl
 i53:=by kernel_rfl
 i212:=by kernel_rfl
 m17:=by kernel_rfl }
open Go.Lib in
theorem Tryz.internal_strconv_numDigits (u:Nat) (h1:1≤u) (h2:u < 18446744073709551616) (w:World) (htab:Lib.TabIs Tryz.prog w "internal/strconv.uint64pow10" .u64 Lib.pow10Tab) :
 Calls Tryz.prog 171 #[.int .u64 u] w fun e w'=>e = .returned (.int .i64 (Lib.nDigits u))∧w'=w:=Any.internal_strconv_numDigits Tryz.laysM284 u h1 h2 w htab
def Tryz.lays285_ren:Go.Shelf.Ren:=⟨fun | 285=>172 | n=>n,fun | 37=>69 | 53=>103 | 3=>3 | 4=>4 | 51=>234 | 9=>9 | 5=>5 | 0=>0 | n=>n,fun | n=>n⟩
theorem Tryz.lays285:Go.Proofs.Lays.n285 Tryz.prog Tryz.lays285_ren:= by constructor <;> first | kernel_rfl | (intro _; kernel_rfl)
open Go.RowKit Go.Sort Go.Lib in
theorem Tryz.internal_strconv_formatBase10 (blk off cap:Nat) (u:Nat) (d:Array UInt8) (w:World) (hH:Holds (fun (b:UInt8)=>Value.int .u8 (b.toNat:Int)) w blk off d) (hu:u < 10 ^ d.size) (hu64:u < 18446744073709551616) (hsz:d.size < 4611686018427387904) :
 Calls Tryz.prog 172 #[.slice (some ⟨blk,off,none⟩) d.size cap,.int .u64 u] w fun e w'=>
  e = .returned (.tuple #[])∧∃ (n v':Nat) (dk:Array UInt8),w'=(putRow (fun (b:UInt8)=>Value.int .u8 (b.toNat:Int)) w blk off dk).drewN n∧FmtInv d.size u 0 v' dk:=Any.internal_strconv_formatBase10 Tryz.lays285 blk off cap u d w hH hu hu64 hsz
def Tryz.laysM171_ren:Go.Shelf.Ren:=⟨fun | 171=>43 | 243=>82 | 246=>128 | 283=>170 | 284=>171 | 285=>172 | 286=>173 | 129=>204 | 317=>203 | 318=>205 | 319=>206 | 320=>207 | 337=>221 | 338=>222 | n=>n,fun | 3=>3 | 9=>9 | 2=>2 | 4=>4 | 171=>225 | 0=>0 | 53=>103 | 37=>69 | 5=>5 | 173=>228 | 212=>262 | 51=>234 | 20=>20 | 213=>263 | 46=>152 | 232=>296 | 233=>297 | n=>n,fun | 17=>0 | 18=>6 | 19=>7 | n=>n⟩
theorem Tryz.laysM171:Go.Proofs.LaysM.n171 Tryz.prog Tryz.laysM171_ren:={
 mixed:=by kernel_rfl
 f129:=Tryz.func204.trans (congrArg some (by kernel_rfl))
 f171:=Tryz.func43.trans (congrArg some (by kernel_rfl))
 f243:=Tryz.func82.trans (congrArg some (by kernel_rfl))
 f246:=Tryz.func128.trans (congrArg some (by kernel_rfl))
 f283:=Tryz.func170.trans (congrArg some (by kernel_rfl))
 f284:=Tryz.func171.trans (congrArg some (by kernel_rfl))
 f285:=Tryz.func172.trans (congrArg some (by kernel_rfl))
 f286:=Tryz.func173.trans (congrArg some (by kernel_rfl))
 f317:=Tryz.func203.trans (congrArg some (by kernel_rfl))
 f318:=Tryz.func205.trans (congrArg some (by kernel_rfl))
 f319:=Tryz.func206.trans (congrArg some (by kernel_rfl))
 f320:=Tryz.func207.trans (congrArg some (by kernel_rfl))
 f337:=Tryz.func221.trans (congrArg some (by kernel_rfl))
 f338:=Tryz.func222.trans (congrArg some (by kernel_rfl))
 t0:=Tryz.underlying0
 a0:=Tryz.isAgg0
 z0:=Tryz.sizeOf0
 v0:=Tryz.zeroValue0
 t2:=Tryz.underlying2
 a2:=Tryz.isAgg2
 z2:=Tryz.sizeOf2
 v2:=Tryz.zeroValue2
 t3:=Tryz.underlying3
 a3:=Tryz.isAgg3
 z3:=Tryz.sizeOf3
 v3:=Tryz.zeroValue3
 t4:=Tryz.underlying4
 a4:=Tryz.isAgg4
 z4:=Tryz.sizeOf4
 v4:=Tryz.zeroValue4
 t5:=Tryz.underlying5
 a5:=Tryz.isAgg5
 z5:=Tryz.sizeOf5
 v5:=Tryz.zeroValue5
 t9:=Tryz.underlying9
 a9:=Tryz.isAgg9
 z9:=Tryz.sizeOf9
 v9:=Tryz.zeroValue9
 t20:=Tryz.underlying20
 a20:=Tryz.isAgg20
 z20:=Tryz.sizeOf20
 v20:=Tryz.zeroValue20
 t37:=Tryz.underlying69
 a37:=Tryz.isAgg69
 z37:=Tryz.sizeOf69
 v37:=Tryz.zeroValue69
 t46:=Tryz.underlying152
 a46:=Tryz.isAgg152
 z46:=Tryz.sizeOf152
 v46:=Tryz.zeroValue152
 t51:=Tryz.underlying234
 a51:=Tryz.isAgg234
 z51:=Tryz.sizeOf234
 v51:=Tryz.zeroValue234
 t53:=Tryz.underlying103
 a53:=Tryz.isAgg103
 z53:=Tryz.sizeOf103
 v53:=Tryz.zeroValue103
 t171:=Tryz.underlying225
 a171:=Tryz.isAgg225
 z171:=Tryz.sizeOf225
 v171:=Tryz.zeroValue225
 t173:=Tryz.underlying228
 a173:=Tryz.isAgg228
 z173:=Tryz.sizeOf228
 v173:=Tryz.zeroValue228
 t212:=Tryz.underlying262
 a212:=Tryz.isAgg262
 z212:=Tryz.sizeOf262
 v212:=Tryz.zeroValue262
 t213:=Tryz.underlying263
 a213:=Tryz.isAgg263
 z213:=Tryz.sizeOf263
 t232:=Tryz.underlying296
 a232:=Tryz.isAgg296
 z232:=Tryz.sizeOf296
 v232:=Tryz.zeroValue296
 t233:=Tryz.underlying297
 a233:=Tryz.isAgg297
 z233:=Tryz.sizeOf297
 v233:=Tryz.zeroValue297
 g17:=by kernel_rfl
 g18:=by kernel_rfl
 g19:=by kernel_rfl
 i0:=by kernel_rfl
 i2:=by kernel_rfl
 i3:=by kernel_rfl
 i4:=by kernel_rfl
 i5:=by kernel_rfl
 i9:=by kernel_rfl
 i20:=by kernel_rfl
 i37:=by kernel_rfl
 i46:=by kernel_rfl
 i51:=by kernel_rfl
 i53:=by kernel_rfl
 i171:=by kernel_rfl
 i173:=by kernel_rfl
 i212:=by kernel_rfl
 i232:=by kernel_rfl
 i233:=by kernel_rfl
 m17:=by kernel_rfl
 m18:=by kernel_rfl
 m19:=by kernel_rfl }
open Go.RowKit Go.Sort Go.Lib in
theorem Tryz.strconv_Itoa (n:Int) (h0 : -9223372036854775808≤n) (h1:n≤9223372036854775807) (w:World) (htab:Lib.TabIs Tryz.prog w "internal/strconv.uint64pow10" .u64 Lib.pow10Tab) :
 Calls Tryz.prog 43 #[.int .i64 n] w fun e w'=>e = .returned (.string ⟨(Lib.itoa n).toArray⟩)∧∃ k os,w'=grow (w.drewN k) os:=Any.strconv_Itoa Tryz.laysM171 n h0 h1 w htab
def Tryz.laysC172_ren:Go.Shelf.Ren:=⟨fun | 172=>90 | 244=>142 | 245=>143 | 247=>184 | 279=>185 | 280=>186 | 281=>187 | 282=>188 | 287=>214 | 316=>215 | 171=>43 | 205=>216 | 321=>225 | 322=>226 | 243=>82 | 246=>128 | 283=>170 | 284=>171 | 285=>172 | 286=>173 | 129=>204 | 317=>203 | 318=>205 | 319=>206 | 320=>207 | 337=>221 | 338=>222 | n=>n,fun | 9=>9 | 3=>3 | 75=>120 | 76=>121 | 4=>4 | 5=>5 | 167=>240 | 37=>69 | 0=>0 | 85=>241 | 2=>2 | 168=>243 | 53=>103 | 175=>246 | 46=>152 | 210=>268 | 127=>165 | 145=>288 | 143=>286 | 21=>21 | 171=>225 | 173=>228 | 212=>262 | 51=>234 | 20=>20 | 213=>263 | 232=>296 | 233=>297 | 80=>114 | n=>n,fun | 15=>2 | 16=>3 | 17=>0 | 18=>6 | 19=>7 | n=>n⟩
theorem Tryz.laysC172:Go.Proofs.LaysC.n172 Tryz.prog Tryz.laysC172_ren:={
 mixed:=by kernel_rfl
 f129:=Tryz.func204.trans (congrArg some (by kernel_rfl))
 f171:=Tryz.func43.trans (congrArg some (by kernel_rfl))
 f172:=Tryz.func90.trans (congrArg some (by kernel_rfl))
 f205:=Tryz.func216.trans (congrArg some (by kernel_rfl))
 f243:=Tryz.func82.trans (congrArg some (by kernel_rfl))
 f244:=Tryz.func142.trans (congrArg some (by kernel_rfl))
 f245:=Tryz.func143.trans (congrArg some (by kernel_rfl))
 f246:=Tryz.func128.trans (congrArg some (by kernel_rfl))
 f247:=Tryz.func184.trans (congrArg some (by kernel_rfl))
 f279:=Tryz.func185.trans (congrArg some (by kernel_rfl))
 f280:=Tryz.func186.trans (congrArg some (by kernel_rfl))
 f281:=Tryz.func187.trans (congrArg some (by kernel_rfl))
 f282:=Tryz.func188.trans (congrArg some (by kernel_rfl))
 f283:=Tryz.func170.trans (congrArg some (by kernel_rfl))
 f284:=Tryz.func171.trans (congrArg some (by kernel_rfl))
 f285:=Tryz.func172.trans (congrArg some (by kernel_rfl))
 f286:=Tryz.func173.trans (congrArg some (by kernel_rfl))
 f287:=Tryz.func214.trans (congrArg some (by kernel_rfl))
 f316:=Tryz.func215.trans (congrArg some (by kernel_rfl))
 f317:=Tryz.func203.trans (congrArg some (by kernel_rfl))
 f318:=Tryz.func205.trans (congrArg some (by kernel_rfl))
 f319:=Tryz.func206.trans (congrArg some (by kernel_rfl))
 f320:=Tryz.func207.trans (congrArg some (by kernel_rfl))
 f321:=Tryz.func225.trans (congrArg some (by kernel_rfl))
 f322:=Tryz.func226.trans (congrArg some (by kernel_rfl))
 f337:=Tryz.func221.trans (congrArg some (by kernel_rfl))
 f338:=Tryz.func222.trans (congrArg some (by kernel_rfl))
 t0:=Tryz.underlying0
 a0:=Tryz.isAgg0
 z0:=Tryz.sizeOf0
 v0:=Tryz.zeroValue0
 t2:=Tryz.underlying2
 a2:=Tryz.isAgg2
 z2:=Tryz.sizeOf2
 v2:=Tryz.zeroValue2
 t3:=Tryz.underlying3
 a3:=Tryz.isAgg3
 z3:=Tryz.sizeOf3
 v3:=Tryz.zeroValue3
 t4:=Tryz.underlying4
 a4:=Tryz.isAgg4
 z4:=Tryz.sizeOf4
 v4:=Tryz.zeroValue4
 t5:=Tryz.underlying5
 a5:=Tryz.isAgg5
 z5:=Tryz.sizeOf5
 v5:=Tryz.zeroValue5
 t9:=Tryz.underlying9
 a9:=Tryz.isAgg9
 z9:=Tryz.sizeOf9
 v9:=Tryz.zeroValue9
 t20:=Tryz.underlying20
 a20:=Tryz.isAgg20
 z20:=Tryz.sizeOf20
 v20:=Tryz.zeroValue20
 t21:=Tryz.underlying21
 a21:=Tryz.isAgg21
 z21:=Tryz.sizeOf21
 v21:=Tryz.zeroValue21
 t37:=Tryz.underlying69
 a37:=Tryz.isAgg69
 z37:=Tryz.sizeOf69
 v37:=Tryz.zeroValue69
 t46:=Tryz.underlying152
 a46:=Tryz.isAgg152
 z46:=Tryz.sizeOf152
 v46:=Tryz.zeroValue152
 t51:=Tryz.underlying234
 a51:=Tryz.isAgg234
 z51:=Tryz.sizeOf234
 v51:=Tryz.zeroValue234
 t53:=Tryz.underlying103
 a53:=Tryz.isAgg103
 z53:=Tryz.sizeOf103
 v53:=Tryz.zeroValue103
 t75:=Tryz.underlying120
 a75:=Tryz.isAgg120
 z75:=Tryz.sizeOf120
 v75:=Tryz.zeroValue120
 t76:=Tryz.underlying121
 a76:=Tryz.isAgg121
 z76:=Tryz.sizeOf121
 v76:=Tryz.zeroValue121
 t85:=Tryz.underlying241
 a85:=Tryz.isAgg241
 z85:=Tryz.sizeOf241
 v85:=Tryz.zeroValue241
 t127:=Tryz.underlying165
 a127:=Tryz.isAgg165
 z127:=Tryz.sizeOf165
 v127:=Tryz.zeroValue165
 t143:=Tryz.underlying286
 a143:=Tryz.isAgg286
 z143:=Tryz.sizeOf286
 v143:=Tryz.zeroValue286
 t145:=Tryz.underlying288
 a145:=Tryz.isAgg288
 z145:=Tryz.sizeOf288
 v145:=Tryz.zeroValue288
 t167:=Tryz.underlying240
 a167:=Tryz.isAgg240
 z167:=Tryz.sizeOf240
 v167:=Tryz.zeroValue240
 t168:=Tryz.underlying243
 a168:=Tryz.isAgg243
 z168:=Tryz.sizeOf243
 v168:=Tryz.zeroValue243
 t171:=Tryz.underlying225
 a171:=Tryz.isAgg225
 z171:=Tryz.sizeOf225
 v171:=Tryz.zeroValue225
 t173:=Tryz.underlying228
 a173:=Tryz.isAgg228
 z173:=Tryz.sizeOf228
 v173:=Tryz.zeroValue228
 t175:=Tryz.underlying246
 a175:=Tryz.isAgg246
 z175:=Tryz.sizeOf246
 v175:=Tryz.zeroValue246
 t210:=Tryz.underlying268
 a210:=Tryz.isAgg268
 z210:=Tryz.sizeOf268
 v210:=Tryz.zeroValue268
 t212:=Tryz.underlying262
 a212:=Tryz.isAgg262
 z212:=Tryz.sizeOf262
 v212:=Tryz.zeroValue262
 t213:=Tryz.underlying263
 a213:=Tryz.isAgg263
 z213:=Tryz.sizeOf263
 t232:=Tryz.underlying296
 a232:=Tryz.isAgg296
 z232:=Tryz.sizeOf296
 v232:=Tryz.zeroValue296
 t233:=Tryz.underlying297
 a233:=Tryz.isAgg297
 z233:=Tryz.sizeOf297
 v233:=Tryz.zeroValue297
 g15:=by kernel_rfl
 g16:=by kernel_rfl
 g17:=by kernel_rfl
 g18:=by kernel_rfl
 g19:=by kernel_rfl
 t80:=Tryz.underlying114
 a80:=Tryz.isAgg114
 z80:=Tryz.sizeOf114
 v80:=Tryz.zeroValue114
 i0:=by kernel_rfl
 i2:=by kernel_rfl
 i3:=by kernel_rfl
 i4:=by kernel_rfl
 i5:=by kernel_rfl
 i9:=by kernel_rfl
 i20:=by kernel_rfl
 i21:=by kernel_rfl
 i37:=by kernel_rfl
 i46:=by kernel_rfl
 i51:=by kernel_rfl
 i53:=by kernel_rfl
 i75:=by kernel_rfl
 i76:=by kernel_rfl
 i80:=by kernel_rfl
 i85:=by kernel_rfl
 i127:=by kernel_rfl
 i143:=by kernel_rfl
 i145:=by kernel_rfl
 i167:=by kernel_rfl
 i168:=by kernel_rfl
 i171:=by kernel_rfl
 i173:=by kernel_rfl
 i175:=by kernel_rfl
 i210:=by kernel_rfl
 i212:=by kernel_rfl
 i232:=by kernel_rfl
 i233:=by kernel_rfl
 m15:=by kernel_rfl
 m16:=by kernel_rfl
 m17:=by kernel_rfl
 m18:=by kernel_rfl
 m19:=by kernel_rfl
 c0:=by kernel_rfl
 c2:=by kernel_rfl
 c3:=by kernel_rfl
 c4:=by kernel_rfl
 c5:=by kernel_rfl
 c9:=by kernel_rfl
 c20:=by kernel_rfl
 c21:=by kernel_rfl
 c37:=by kernel_rfl
 c46:=by kernel_rfl
 c51:=by kernel_rfl
 c53:=by kernel_rfl
 c75:=by kernel_rfl
 c76:=by kernel_rfl
 c80:=by kernel_rfl
 c85:=by kernel_rfl
 c127:=by kernel_rfl
 c143:=by kernel_rfl
 c145:=by kernel_rfl
 c167:=by kernel_rfl
 c168:=by kernel_rfl
 c171:=by kernel_rfl
 c173:=by kernel_rfl
 c175:=by kernel_rfl
 c210:=by kernel_rfl
 c212:=by kernel_rfl
 c213:=by kernel_rfl
 c232:=by kernel_rfl
 c233:=by kernel_rfl }
open Go.RowKit in
theorem Tryz.strconv_Atoi_ok (s:BA) (hmax:s.size≤9223372036854775806) (v:Int) (h:Lib.atoiAll s.data.toList = .ok v) (w:World) :
 Calls Tryz.prog 90 #[.string s] w fun e w'=>e = .returned (.tuple #[.int .i64 v,.nilIface])∧(w'=w∨∃ t,w'=Lib.bytesWorld w 5 t):=Any.strconv_Atoi_ok Tryz.laysC172 s hmax v h w
open Go.RowKit in
theorem Tryz.strconv_Atoi_syntax (s:BA) (hlim:s.size≤281474976710656) (h:Lib.atoiAll s.data.toList=Lib.NumEnd.syntax) (ev:Value) (w:World) (hv:w.cell? ⟨2,0,none⟩=some ev) (hev:ev = .nilIface∨∃ te pe,ev = .iface te pe) :
 Calls Tryz.prog 90 #[.string s] w fun e w'=>∃ N,e = .returned (.tuple #[.int .i64 (0),.iface 243 (.pointer (some ⟨N,0,none⟩))])∧w.heap.size≤N∧w'.heap[N]?=some (.cells #[.string ⟨#[65,116,111,105]⟩,.string s,ev] 268 (0,0))∧Below w.heap.size w w':=Any.strconv_Atoi_syntax Tryz.laysC172 s hlim h ev w hv hev
open Go.RowKit in
theorem Tryz.strconv_Atoi_range (s:BA) (hlim:s.size≤281474976710656) (h:Lib.atoiAll s.data.toList = .range) (ev:Value) (w:World) (hv:w.cell? ⟨3,0,none⟩=some ev) (hev:ev = .nilIface∨∃ te pe,ev = .iface te pe) :
 Calls Tryz.prog 90 #[.string s] w fun e w'=>∃ N,e = .returned (.tuple #[.int .i64 (Lib.atoiSat s.data.toList),.iface 243 (.pointer (some ⟨N,0,none⟩))])∧w.heap.size≤N∧w'.heap[N]?=some (.cells #[.string ⟨#[65,116,111,105]⟩,.string s,ev] 268 (0,0))∧Below w.heap.size w w':=Any.strconv_Atoi_range Tryz.laysC172 s hlim h ev w hv hev
def Tryz.laysPu14_ren:Go.Shelf.Ren:=⟨fun | 14=>189 | 16=>214 | 17=>143 | 19=>225 | 20=>226 | 21=>185 | 22=>186 | 23=>187 | 24=>188 | 25=>215 | 27=>43 | 26=>216 | 28=>82 | 29=>128 | 30=>170 | 31=>171 | 32=>172 | 33=>173 | 35=>204 | 34=>203 | 36=>205 | 37=>206 | 38=>207 | 39=>221 | 40=>222 | n=>n,fun | 9=>9 | 3=>3 | 22=>103 | 24=>120 | 25=>246 | 4=>4 | 34=>240 | 5=>5 | 36=>152 | 37=>69 | 0=>0 | 39=>243 | 21=>21 | 44=>268 | 47=>165 | 50=>288 | 48=>286 | 2=>2 | 52=>225 | 55=>228 | 59=>262 | 60=>234 | 20=>20 | 61=>263 | 65=>296 | 66=>297 | 67=>114 | n=>n,fun | 0=>2 | 1=>3 | 2=>0 | 3=>6 | 4=>7 | n=>n⟩
theorem Tryz.laysPu14:Go.Proofs.LaysPu.n14 Tryz.prog Tryz.laysPu14_ren:={
 mixed:=by kernel_rfl
 f14:=Tryz.func189.trans (congrArg some (by kernel_rfl))
 f16:=Tryz.func214.trans (congrArg some (by kernel_rfl))
 f17:=Tryz.func143.trans (congrArg some (by kernel_rfl))
 f19:=Tryz.func225.trans (congrArg some (by kernel_rfl))
 f20:=Tryz.func226.trans (congrArg some (by kernel_rfl))
 f21:=Tryz.func185.trans (congrArg some (by kernel_rfl))
 f22:=Tryz.func186.trans (congrArg some (by kernel_rfl))
 f23:=Tryz.func187.trans (congrArg some (by kernel_rfl))
 f24:=Tryz.func188.trans (congrArg some (by kernel_rfl))
 f25:=Tryz.func215.trans (congrArg some (by kernel_rfl))
 f26:=Tryz.func216.trans (congrArg some (by kernel_rfl))
 f27:=Tryz.func43.trans (congrArg some (by kernel_rfl))
 f28:=Tryz.func82.trans (congrArg some (by kernel_rfl))
 f29:=Tryz.func128.trans (congrArg some (by kernel_rfl))
 f30:=Tryz.func170.trans (congrArg some (by kernel_rfl))
 f31:=Tryz.func171.trans (congrArg some (by kernel_rfl))
 f32:=Tryz.func172.trans (congrArg some (by kernel_rfl))
 f33:=Tryz.func173.trans (congrArg some (by kernel_rfl))
 f34:=Tryz.func203.trans (congrArg some (by kernel_rfl))
 f35:=Tryz.func204.trans (congrArg some (by kernel_rfl))
 f36:=Tryz.func205.trans (congrArg some (by kernel_rfl))
 f37:=Tryz.func206.trans (congrArg some (by kernel_rfl))
 f38:=Tryz.func207.trans (congrArg some (by kernel_rfl))
 f39:=Tryz.func221.trans (congrArg some (by kernel_rfl))
 f40:=Tryz.func222.trans (congrArg some (by kernel_rfl))
 t0:=Tryz.underlying0
 a0:=Tryz.isAgg0
 z0:=Tryz.sizeOf0
 v0:=Tryz.zeroValue0
 i0:=by kernel_rfl
 t2:=Tryz.underlying2
 a2:=Tryz.isAgg2
 z2:=Tryz.sizeOf2
 v2:=Tryz.zeroValue2
 i2:=by kernel_rfl
 t3:=Tryz.underlying3
 a3:=Tryz.isAgg3
 z3:=Tryz.sizeOf3
 v3:=Tryz.zeroValue3
 i3:=by kernel_rfl
 t4:=Tryz.underlying4
 a4:=Tryz.isAgg4
 z4:=Tryz.sizeOf4
 v4:=Tryz.zeroValue4
 i4:=by kernel_rfl
 t5:=Tryz.underlying5
 a5:=Tryz.isAgg5
 z5:=Tryz.sizeOf5
 v5:=Tryz.zeroValue5
 i5:=by kernel_rfl
 t9:=Tryz.underlying9
 a9:=Tryz.isAgg9
 z9:=Tryz.sizeOf9
 v9:=Tryz.zeroValue9
 i9:=by kernel_rfl
 t20:=Tryz.underlying20
 a20:=Tryz.isAgg20
 z20:=Tryz.sizeOf20
 v20:=Tryz.zeroValue20
 i20:=by kernel_rfl
 t21:=Tryz.underlying21
 a21:=Tryz.isAgg21
 z21:=Tryz.sizeOf21
 v21:=Tryz.zeroValue21
 i21:=by kernel_rfl
 t22:=Tryz.underlying103
 a22:=Tryz.isAgg103
 z22:=Tryz.sizeOf103
 v22:=Tryz.zeroValue103
 i22:=by kernel_rfl
 t24:=Tryz.underlying120
 a24:=Tryz.isAgg120
 z24:=Tryz.sizeOf120
 v24:=Tryz.zeroValue120
 i24:=by kernel_rfl
 t25:=Tryz.underlying246
 a25:=Tryz.isAgg246
 z25:=Tryz.sizeOf246
 v25:=Tryz.zeroValue246
 i25:=by kernel_rfl
 t34:=Tryz.underlying240
 a34:=Tryz.isAgg240
 z34:=Tryz.sizeOf240
 v34:=Tryz.zeroValue240
 i34:=by kernel_rfl
 c34:=by kernel_rfl
 t36:=Tryz.underlying152
 a36:=Tryz.isAgg152
 z36:=Tryz.sizeOf152
 v36:=Tryz.zeroValue152
 i36:=by kernel_rfl
 t37:=Tryz.underlying69
 a37:=Tryz.isAgg69
 z37:=Tryz.sizeOf69
 v37:=Tryz.zeroValue69
 i37:=by kernel_rfl
 t39:=Tryz.underlying243
 a39:=Tryz.isAgg243
 z39:=Tryz.sizeOf243
 v39:=Tryz.zeroValue243
 i39:=by kernel_rfl
 t44:=Tryz.underlying268
 a44:=Tryz.isAgg268
 z44:=Tryz.sizeOf268
 v44:=Tryz.zeroValue268
 i44:=by kernel_rfl
 t47:=Tryz.underlying165
 a47:=Tryz.isAgg165
 z47:=Tryz.sizeOf165
 v47:=Tryz.zeroValue165
 i47:=by kernel_rfl
 t48:=Tryz.underlying286
 a48:=Tryz.isAgg286
 z48:=Tryz.sizeOf286
 v48:=Tryz.zeroValue286
 i48:=by kernel_rfl
 t50:=Tryz.underlying288
 a50:=Tryz.isAgg288
 z50:=Tryz.sizeOf288
 v50:=Tryz.zeroValue288
 i50:=by kernel_rfl
 t52:=Tryz.underlying225
 a52:=Tryz.isAgg225
 z52:=Tryz.sizeOf225
 v52:=Tryz.zeroValue225
 i52:=by kernel_rfl
 t55:=Tryz.underlying228
 a55:=Tryz.isAgg228
 z55:=Tryz.sizeOf228
 v55:=Tryz.zeroValue228
 i55:=by kernel_rfl
 t59:=Tryz.underlying262
 a59:=Tryz.isAgg262
 z59:=Tryz.sizeOf262
 v59:=Tryz.zeroValue262
 i59:=by kernel_rfl
 t60:=Tryz.underlying234
 a60:=Tryz.isAgg234
 z60:=Tryz.sizeOf234
 v60:=Tryz.zeroValue234
 i60:=by kernel_rfl
 t61:=Tryz.underlying263
 a61:=Tryz.isAgg263
 z61:=Tryz.sizeOf263
 t65:=Tryz.underlying296
 a65:=Tryz.isAgg296
 z65:=Tryz.sizeOf296
 v65:=Tryz.zeroValue296
 i65:=by kernel_rfl
 t66:=Tryz.underlying297
 a66:=Tryz.isAgg297
 z66:=Tryz.sizeOf297
 v66:=Tryz.zeroValue297
 i66:=by kernel_rfl
 t67:=Tryz.underlying114
 a67:=Tryz.isAgg114
 z67:=Tryz.sizeOf114
 v67:=Tryz.zeroValue114
 i67:=by kernel_rfl
 g0:=by kernel_rfl
 m0:=by kernel_rfl
 g1:=by kernel_rfl
 m1:=by kernel_rfl
 g2:=by kernel_rfl
 m2:=by kernel_rfl
 g3:=by kernel_rfl
 m3:=by kernel_rfl
 g4:=by kernel_rfl
 m4:=by kernel_rfl }
open Go.RowKit in
theorem Tryz.strconv_ParseUint_10_at64_ok (s:BA) (hmax:s.size≤9223372036854775806) (u:Nat) (h:Lib.parseUintB 64 s.data.toList = .ok u) (w:World) :
 Calls Tryz.prog 189 #[.string s,.int .i64 10,.int .i64 64] w fun e w'=>e = .returned (.tuple #[.int .u64 u,.nilIface])∧(w'=w∨w'=Lib.bytesWorld w 5 s):=Any.strconv_ParseUint_10_at64_ok Tryz.laysPu14 s hmax u h w
open Go.RowKit in
theorem Tryz.strconv_ParseUint_10_at64_syntax (s:BA) (hlim:s.size≤281474976710656) (h:Lib.parseUintB 64 s.data.toList=Lib.NumEnd.syntax) (ev:Value) (w:World) (hv:w.cell? ⟨2,0,none⟩=some ev) (hev:ev = .nilIface∨∃ te pe,ev = .iface te pe) :
 Calls Tryz.prog 189 #[.string s,.int .i64 10,.int .i64 64] w fun e w'=>∃ N,e = .returned (.tuple #[.int .u64 0,.iface 243 (.pointer (some ⟨N,0,none⟩))])∧w.heap.size≤N∧w'.heap[N]?=some (.cells #[.string ⟨#[80,97,114,115,101,85,105,110,116]⟩,.string s,ev] 268 (0,0))∧Below w.heap.size w w':=Any.strconv_ParseUint_10_at64_syntax Tryz.laysPu14 s hlim h ev w hv hev
open Go.RowKit in
theorem Tryz.strconv_ParseUint_10_at64_range (s:BA) (hlim:s.size≤281474976710656) (h:Lib.parseUintB 64 s.data.toList = .range) (ev:Value) (w:World) (hv:w.cell? ⟨3,0,none⟩=some ev) (hev:ev = .nilIface∨∃ te pe,ev = .iface te pe) :
 Calls Tryz.prog 189 #[.string s,.int .i64 10,.int .i64 64] w fun e w'=>∃ N,e = .returned (.tuple #[.int .u64 18446744073709551615,.iface 243 (.pointer (some ⟨N,0,none⟩))])∧w.heap.size≤N∧w'.heap[N]?=some (.cells #[.string ⟨#[80,97,114,115,101,85,105,110,116]⟩,.string s,ev] 268 (0,0))∧Below w.heap.size w w':=Any.strconv_ParseUint_10_at64_range Tryz.laysPu14 s hlim h ev w hv hev
def Tryz.lays145_ren:Go.Shelf.Ren:=⟨fun | 145=>104 | 220=>154 | 219=>183 | 217=>152 | 225=>211 | 224=>212 | 267=>213 | 266=>191 | 314=>224 | n=>n,fun | 9=>9 | 4=>4 | 59=>117 | 3=>3 | 5=>5 | 46=>152 | 146=>235 | 51=>234 | n=>n,fun | 1=>1 | n=>n⟩
theorem Tryz.lays145:Go.Proofs.Lays.n145 Tryz.prog Tryz.lays145_ren:={
 mixed:=by kernel_rfl
 f145:=Tryz.func104.trans (congrArg some (by kernel_rfl))
 f217:=Tryz.func152.trans (congrArg some (by kernel_rfl))
 f219:=Tryz.func183.trans (congrArg some (by kernel_rfl))
 f220:=Tryz.func154.trans (congrArg some (by kernel_rfl))
 f224:=Tryz.func212.trans (congrArg some (by kernel_rfl))
 f225:=Tryz.func211.trans (congrArg some (by kernel_rfl))
 f266:=Tryz.func191.trans (congrArg some (by kernel_rfl))
 f267:=Tryz.func213.trans (congrArg some (by kernel_rfl))
 f314:=Tryz.func224.trans (congrArg some (by kernel_rfl))
 t3:=Tryz.underlying3
 a3:=Tryz.isAgg3
 z3:=Tryz.sizeOf3
 v3:=Tryz.zeroValue3
 t4:=Tryz.underlying4
 a4:=Tryz.isAgg4
 z4:=Tryz.sizeOf4
 v4:=Tryz.zeroValue4
 t5:=Tryz.underlying5
 a5:=Tryz.isAgg5
 z5:=Tryz.sizeOf5
 v5:=Tryz.zeroValue5
 t9:=Tryz.underlying9
 a9:=Tryz.isAgg9
 z9:=Tryz.sizeOf9
 v9:=Tryz.zeroValue9
 t46:=Tryz.underlying152
 a46:=Tryz.isAgg152
 z46:=Tryz.sizeOf152
 v46:=Tryz.zeroValue152
 t51:=Tryz.underlying234
 a51:=Tryz.isAgg234
 z51:=Tryz.sizeOf234
 v51:=Tryz.zeroValue234
 t59:=Tryz.underlying117
 a59:=Tryz.isAgg117
 z59:=Tryz.sizeOf117
 v59:=Tryz.zeroValue117
 t146:=Tryz.underlying235
 a146:=Tryz.isAgg235
 z146:=Tryz.sizeOf235
 v146:=Tryz.zeroValue235
 g1:=by kernel_rfl }
open Go.RowKit Go.Lib in
theorem Tryz.strings_Cut (s sep:BA) (m:Int) (w:World) (hs:s.size < 4294967281) (hm:w.cell? ⟨1,0,none⟩=some (.int .i64 m)) :
 Calls Tryz.prog 104 #[.string s,.string sep] w fun e w'=>e = .returned (.tuple #[.string ⟨(Lib.cut s.data.toList sep.data.toList).1.toArray⟩,.string ⟨(Lib.cut s.data.toList sep.data.toList).2.1.toArray⟩,.bool (Lib.cut s.data.toList sep.data.toList).2.2])∧∃ n,w'=w.drewN n:=Any.strings_Cut Tryz.lays145 s sep m w hs hm
def Tryz.lays189_ren:Go.Shelf.Ren:=⟨fun | 189=>201 | 125=>220 | 257=>219 | 128=>236 | 129=>204 | 294=>227 | 295=>228 | 296=>229 | 297=>230 | 298=>231 | 299=>232 | 216=>233 | 300=>234 | 301=>235 | 328=>237 | 329=>238 | 330=>239 | 331=>240 | 332=>241 | 215=>242 | 343=>243 | n=>n,fun | 28=>22 | 3=>3 | 46=>152 | 0=>0 | 51=>234 | 53=>103 | 4=>4 | 183=>291 | 182=>290 | 131=>144 | 5=>5 | 9=>9 | 218=>298 | 222=>301 | 228=>303 | 229=>174 | n=>n,fun | n=>n⟩
theorem Tryz.lays189:Go.Proofs.Lays.n189 Tryz.prog Tryz.lays189_ren:= by constructor <;> first | kernel_rfl | (intro _; kernel_rfl)
open Go.Sort Go.RowKit in
theorem Tryz.slices_Sort_int (blk off cap:Nat) (zs:List Int) (w:World) (hH:Holds (Value.int .i64) w blk off zs.toArray) (hblk:blk < w.heap.size) (hsz:zs.length < 4611686018427387904) :
 Calls Tryz.prog 201 #[.slice (some ⟨blk,off,none⟩) zs.length cap] w fun e w'=>
  e = .returned (.tuple #[])∧∃ n os,w'=grow (putRow (Value.int .i64) (Sort.ahead w n) blk off (zs.mergeSort fun x y=>decide (x≤y)).toArray) os:=Any.slices_Sort_int Tryz.lays189 blk off cap zs w hH hblk hsz
def Tryz.lays146_ren:Go.Shelf.Ren:=⟨fun | 146=>46 | 221=>88 | 268=>138 | 138=>139 | 143=>140 | 195=>180 | 197=>181 | 218=>182 | 219=>183 | 260=>210 | 217=>152 | 225=>211 | 224=>212 | 267=>213 | 266=>191 | 314=>224 | n=>n,fun | 9=>9 | 31=>66 | 3=>3 | 4=>4 | 0=>0 | 105=>231 | 21=>21 | 5=>5 | 46=>152 | 119=>279 | 139=>282 | 138=>281 | 146=>235 | 51=>234 | n=>n,fun | 1=>1 | 3=>4 | 4=>5 | n=>n⟩
theorem Tryz.lays146:Go.Proofs.Lays.n146 Tryz.prog Tryz.lays146_ren:={
 mixed:=by kernel_rfl
 f138:=Tryz.func139.trans (congrArg some (by kernel_rfl))
 f143:=Tryz.func140.trans (congrArg some (by kernel_rfl))
 f146:=Tryz.func46.trans (congrArg some (by kernel_rfl))
 f195:=Tryz.func180.trans (congrArg some (by kernel_rfl))
 f197:=Tryz.func181.trans (congrArg some (by kernel_rfl))
 f217:=Tryz.func152.trans (congrArg some (by kernel_rfl))
 f218:=Tryz.func182.trans (congrArg some (by kernel_rfl))
 f219:=Tryz.func183.trans (congrArg some (by kernel_rfl))
 f221:=Tryz.func88.trans (congrArg some (by kernel_rfl))
 f224:=Tryz.func212.trans (congrArg some (by kernel_rfl))
 f225:=Tryz.func211.trans (congrArg some (by kernel_rfl))
 f260:=Tryz.func210.trans (congrArg some (by kernel_rfl))
 f266:=Tryz.func191.trans (congrArg some (by kernel_rfl))
 f267:=Tryz.func213.trans (congrArg some (by kernel_rfl))
 f268:=Tryz.func138.trans (congrArg some (by kernel_rfl))
 f314:=Tryz.func224.trans (congrArg some (by kernel_rfl))
 t0:=Tryz.underlying0
 a0:=Tryz.isAgg0
 z0:=Tryz.sizeOf0
 v0:=Tryz.zeroValue0
 t3:=Tryz.underlying3
 a3:=Tryz.isAgg3
 z3:=Tryz.sizeOf3
 v3:=Tryz.zeroValue3
 t4:=Tryz.underlying4
 a4:=Tryz.isAgg4
 z4:=Tryz.sizeOf4
 v4:=Tryz.zeroValue4
 t5:=Tryz.underlying5
 a5:=Tryz.isAgg5
 z5:=Tryz.sizeOf5
 v5:=Tryz.zeroValue5
 t9:=Tryz.underlying9
 a9:=Tryz.isAgg9
 z9:=Tryz.sizeOf9
 v9:=Tryz.zeroValue9
 t21:=Tryz.underlying21
 a21:=Tryz.isAgg21
 z21:=Tryz.sizeOf21
 v21:=Tryz.zeroValue21
 t31:=Tryz.underlying66
 a31:=Tryz.isAgg66
 z31:=Tryz.sizeOf66
 v31:=Tryz.zeroValue66
 t46:=Tryz.underlying152
 a46:=Tryz.isAgg152
 z46:=Tryz.sizeOf152
 v46:=Tryz.zeroValue152
 t51:=Tryz.underlying234
 a51:=Tryz.isAgg234
 z51:=Tryz.sizeOf234
 v51:=Tryz.zeroValue234
 t105:=Tryz.underlying231
 a105:=Tryz.isAgg231
 z105:=Tryz.sizeOf231
 v105:=Tryz.zeroValue231
 t119:=Tryz.underlying279
 a119:=Tryz.isAgg279
 z119:=Tryz.sizeOf279
 t138:=Tryz.underlying281
 a138:=Tryz.isAgg281
 z138:=Tryz.sizeOf281
 v138:=Tryz.zeroValue281
 t139:=Tryz.underlying282
 a139:=Tryz.isAgg282
 z139:=Tryz.sizeOf282
 v139:=Tryz.zeroValue282
 t146:=Tryz.underlying235
 a146:=Tryz.isAgg235
 z146:=Tryz.sizeOf235
 v146:=Tryz.zeroValue235
 g1:=by kernel_rfl
 g3:=by kernel_rfl
 g4:=by kernel_rfl }
open Go.RowKit Go.Lib in
theorem Tryz.strings_Split (s sep:BA) (m:Int) (w:World) (hs:s.size < 4294967281) (hm:w.cell? ⟨1,0,none⟩=some (.int .i64 m)) (h1:1≤sep.size) :
 Calls Tryz.prog 46 #[.string s,.string sep] w fun e w'=>
  e = .returned (.slice (some ⟨w.heap.size,0,none⟩) (Lib.countB s sep+1) (Lib.countB s sep+1))∧w'=w.alloc (.cells ((Lib.splitB sep 0 (Lib.countB s sep) s).map Value.string).toArray 9):=Any.strings_Split Tryz.lays146 (by kernel_rfl) s sep m w hs hm h1
def Tryz.lays105_ren:Go.Shelf.Ren:=⟨fun | 105=>86 | 212=>134 | 99=>135 | 165=>87 | 166=>60 | 170=>136 | 169=>56 | 263=>177 | 264=>178 | 206=>151 | 240=>103 | 241=>137 | 276=>153 | 277=>179 | n=>n,fun | 9=>9 | 3=>3 | 4=>4 | 20=>20 | 0=>0 | 46=>152 | 109=>199 | 5=>5 | 72=>108 | 76=>121 | 51=>234 | 146=>235 | 53=>103 | 148=>237 | 70=>106 | 37=>69 | 75=>120 | 127=>165 | 164=>211 | 80=>114 | n=>n,fun | n=>n⟩
theorem Tryz.lays105:Go.Proofs.Lays.n105 Tryz.prog Tryz.lays105_ren:= by constructor <;> first | kernel_rfl | (intro _; kernel_rfl)
theorem Tryz.Builder_Extra_105:Builder.Extra Tryz.prog Tryz.lays105_ren:={
 sizeBuilder:=by kernel_rfl
 liesBuilder:=by kernel_rfl
 t5:=Tryz.underlying5
 a5:=Tryz.isAgg5
 z5:=Tryz.sizeOf5
 v5:=Tryz.zeroValue5
 infoByte:=by kernel_rfl
 cellsByte:=by kernel_rfl
 sizeByte:=by kernel_rfl
 neB5:=by decide }
open Go.RowKit Go.Lib in
theorem Tryz.strings_Repeat (s:BA) (c:Nat) (w:World) (hc:c≤9223372036854775807) (hlen:s.size*c≤140737488355328) :
 Calls Tryz.prog 86 #[.string s,.int .i64 c] w fun e w'=>e = .returned (.string ⟨(Lib.repeatL s.data.toList c).toArray⟩)∧Below w.heap.size w w':=Any.strings_Repeat Tryz.lays105 Tryz.Builder_Extra_105 s c w hc hlen
def Tryz.laysNm220_ren:Go.Shelf.Ren:=⟨fun | 20=>202 | n=>n,fun | 22=>22 | 3=>3 | 4=>4 | 0=>0 | n=>n,fun | n=>n⟩
theorem Tryz.laysNm220:Go.Proofs.Lays2.n20 Tryz.prog Tryz.laysNm220_ren:={
 mixed:=by kernel_rfl
 f20:=Tryz.func202.trans (congrArg some (by kernel_rfl))
 t0:=Tryz.underlying0
 a0:=Tryz.isAgg0
 z0:=Tryz.sizeOf0
 v0:=Tryz.zeroValue0
 t3:=Tryz.underlying3
 a3:=Tryz.isAgg3
 z3:=Tryz.sizeOf3
 v3:=Tryz.zeroValue3
 t4:=Tryz.underlying4
 a4:=Tryz.isAgg4
 z4:=Tryz.sizeOf4
 v4:=Tryz.zeroValue4
 t22:=Tryz.underlying22
 a22:=Tryz.isAgg22
 z22:=Tryz.sizeOf22
 v22:=Tryz.zeroValue22
 i3:=by kernel_rfl }
open Go.RowKit Go.Lib Go.Sort in
theorem Tryz.slices_Compact_int (blk off cap:Nat) (zs:List Int) (w:World) (hH:Holds (Value.int .i64) w blk off zs.toArray) (hsz:zs.length≤9223372036854775807) (hcap:zs.length≤cap) :
 Calls Tryz.prog 202 #[.slice (some ⟨blk,off,none⟩) zs.length cap] w fun e w'=>e = .returned (.slice (some ⟨blk,off,none⟩) (Lib.compact zs).length cap)∧∃ q,w'=putRow (Value.int .i64) (Sort.ahead w q) blk off (Lib.compact zs++List.replicate (zs.length - (Lib.compact zs).length) 0).toArray:=Any.slices_Compact_int Tryz.laysNm220 blk off cap zs w hH hsz hcap
open Go.RowKit Go.Lib Go.Sort in
theorem Tryz.slices_Compact_int_empty (a:Option Addr) (cap:Nat) (w:World) :
 Calls Tryz.prog 202 #[.slice a 0 cap] w fun e w'=>e = .returned (.slice a 0 cap)∧w'=w:=Any.slices_Compact_int_empty Tryz.laysNm220 a cap w
open Go.RowKit Go.Sort in
theorem Tryz.slices_Sort_int_none (p:Option Addr) (cap:Nat) (w:World) :
 Calls Tryz.prog 201 #[.slice p 0 cap] w fun e w'=>e = .returned (.tuple #[])∧w'=w:=Any.slices_Sort_int_none Tryz.lays189 p cap w
def Tryz.laysSlH6_f200_ren:Go.Shelf.Ren:=⟨fun | 6=>200 | n=>n,fun | 22=>22 | 23=>3 | 25=>91 | 3=>3 | 0=>0 | 4=>4 | n=>n,fun | n=>n⟩
theorem Tryz.laysSlH6_f200:Go.Proofs.SlLaysH.n6 Tryz.prog Tryz.laysSlH6_f200_ren:={
 mixed:=by kernel_rfl
 f6:=⟨Tryz.f200.name,by decide,Tryz.func200.trans (congrArg some (by kernel_rfl))⟩
 t0:=Tryz.underlying0
 a0:=Tryz.isAgg0
 z0:=Tryz.sizeOf0
 v0:=Tryz.zeroValue0
 t3:=Tryz.underlying3
 a3:=Tryz.isAgg3
 z3:=Tryz.sizeOf3
 v3:=Tryz.zeroValue3
 t4:=Tryz.underlying4
 a4:=Tryz.isAgg4
 z4:=Tryz.sizeOf4
 v4:=Tryz.zeroValue4
 t22:=Tryz.underlying22
 a22:=Tryz.isAgg22
 z22:=Tryz.sizeOf22
 v22:=Tryz.zeroValue22
 a23:=Tryz.isAgg3
 z23:=Tryz.sizeOf3
 t25:=Tryz.underlying91
 a25:=Tryz.isAgg91
 z25:=Tryz.sizeOf91
 v25:=Tryz.zeroValue91 }
open Go.RowKit Go.Lib in
theorem Tryz.slices_IndexFunc_empty {α:Type} [Inhabited α] (a:Option Addr) (c:Nat) (fv:Value) (w:World) :
 Calls Tryz.prog 200 #[.slice a 0 c,fv] w fun e w'=>e = .returned (.int .i64 (-1))∧w'=w:=AnyE.slices_IndexFunc_empty Tryz.laysSlH6_f200 a c fv w
def Tryz.laysSlH10_f167_ren:Go.Shelf.Ren:=⟨fun | 10=>167 | 6=>200 | n=>n,fun | 22=>22 | 23=>3 | 25=>91 | 3=>3 | 4=>4 | 0=>0 | n=>n,fun | n=>n⟩
theorem Tryz.laysSlH10_f167:Go.Proofs.SlLaysH.n10 Tryz.prog Tryz.laysSlH10_f167_ren:={
 mixed:=by kernel_rfl
 f6:=⟨Tryz.f200.name,by decide,Tryz.func200.trans (congrArg some (by kernel_rfl))⟩
 f10:=⟨Tryz.f167.name,by decide,Tryz.func167.trans (congrArg some (by kernel_rfl))⟩
 t0:=Tryz.underlying0
 a0:=Tryz.isAgg0
 z0:=Tryz.sizeOf0
 v0:=Tryz.zeroValue0
 t3:=Tryz.underlying3
 a3:=Tryz.isAgg3
 z3:=Tryz.sizeOf3
 v3:=Tryz.zeroValue3
 t4:=Tryz.underlying4
 a4:=Tryz.isAgg4
 z4:=Tryz.sizeOf4
 v4:=Tryz.zeroValue4
 t22:=Tryz.underlying22
 a22:=Tryz.isAgg22
 z22:=Tryz.sizeOf22
 v22:=Tryz.zeroValue22
 a23:=Tryz.isAgg3
 z23:=Tryz.sizeOf3
 t25:=Tryz.underlying91
 a25:=Tryz.isAgg91
 z25:=Tryz.sizeOf91
 v25:=Tryz.zeroValue91 }
open Go.RowKit Go.Lib Go.Sort in
theorem Tryz.slices_DeleteFunc {α:Type} [Inhabited α] (enc:α→Value) (hO:OneCell enc) (p:α→Bool) (g:Nat) (lb:Array Value) (eg:∀ args w,(callFunc g args).run Tryz.prog w = .ok (.enter g args) w) (zr:α) (v23:∀ w,(zeroValue 3).run Tryz.prog w = .ok (enc zr) w) (blk off cap:Nat) (d:Array α) (w:World) (hp:PredAt Tryz.prog g lb enc p w) (hpo:PredOver Tryz.prog g lb enc p blk off d.size w) (hH:Holds enc w blk off d) (hsz:d.size≤9223372036854775807) (hcap:d.size≤cap) :
 Calls Tryz.prog 167 #[.slice (some ⟨blk,off,none⟩) d.size cap,.func (.func g) #[] lb] w fun e w'=>e = .returned (.slice (some ⟨blk,off,none⟩) (d.toList.filter fun x=>!p x).length cap)∧∃ q,w'=putRow enc (Sort.ahead w q) blk off ((d.toList.filter fun x=>!p x)++List.replicate (d.size - (d.toList.filter fun x=>!p x).length) zr).toArray:=AnyE.slices_DeleteFunc Tryz.laysSlH10_f167 enc hO p g lb eg zr v23 blk off cap d w hp hpo hH hsz hcap
end Go.Proofs
