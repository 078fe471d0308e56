/-
  A small machine that reckons what a call comes to; the functions of the program, one by one. (THE SMALL MACHINE (24): a call., THE SMALL MACHINE (25): a call that lends a variable., THE SMALL MACHINE (26): a call, as an operation., and so on.)
-/
import Derived.Test.YtehhekmihbaghaaGreatDoorYa
import Derived.Lib.ItoaLen
import Derived.Test.YtehhekmihbaghaaGreatDoorProg
import Derived.Shelf.Strings.BuilderK
import Derived.Shelf.Strings.OnBuilder
import Derived.Shelf.Strings.Trim
import Derived.Shelf.Small.Wraps
import Derived.Shelf.Utf8.RuneCount
import Derived.Shelf.Strconv.Itoa3
import Derived.Shelf.Strconv.ErrVarAll
import Derived.Shelf.Strconv.ParseUint10b64
import Derived.Shelf.Pu.ErrVarParseUint
import Derived.Shelf.Strings.Shaped
import Derived.Shelf.Sort.Plain
import Derived.Shelf.Strings.SplitShaped
import Derived.Shelf.Strings.Runes
import Derived.Shelf.Strings.AsciiSet
import Derived.Shelf.Strings.Explode
import Derived.Shelf.Strings.Repeat
import Derived.Shelf.Unicode.DecodeLast
import Derived.Shelf.Slices.Turned
import Derived.Shelf.Slices.Clone
import Derived.Shelf.Slices.SearchI
import Derived.Shelf.Slices.Cells
import Derived.Shelf.Slices.In.SortNone
import Derived.Shelf.SlicesE.Clone
import Derived.Shelf.SlicesE.DeleteFunc
set_option linter.all false
set_option maxRecDepth 100000
open Array renaming length_toList→CL,getElem?_eq_some_iff→DE,toList_append→vah,getElem?_toList→vaw,getElem?_modify→va3,getD_eq_getD_getElem?→vbp,all_eq_true_iff_forall_mem→vbI
open Bool renaming and_eq_true→AH,not_eq_true'→B1,and_true→B9,or_eq_true→vao
open ByteArray renaming size→AD,empty→CJ,size_extract→vbd
open Decidable renaming byContradiction→vbN
open Go.Addr.mk renaming injEq→DH
open Go.Builtin renaming append_→CZ
open Go.IntKind renaming i64→AB,u64→AJ,bits→AR,signed→vai
open Go.Lib renaming decDigits→BV,itoa→C5,strCells→DB,bytesWorld→vaM,cut→vaN,join→va4,atoiAll→vbh,byteCells→vbE
open Go.Op renaming operands→CT,equalIn→vbr
open Go.Region renaming wanted→C4,binds→vaY,ready→vbG
open Go.Result renaming andThen_ok→CC
open Go.Result.ok renaming injEq→vbi
open Go.Sem renaming run_bind→CN,run_pure→CO
open Go.TypeDesc renaming isRow→vbo
open Go.Value renaming ownBlock→CD
open Go.Value.pointer renaming injEq→C0
open Go.Value.slice renaming injEq→CI
open Go.World renaming cell?→vaL,setCell→vbB
open List renaming length_cons→AM,mem_cons_self→AN,mem_cons→AP,length_append→AS,drop→AT,mem_append→AV,mem_cons_of_mem→AW,map_cons→A0,length_nil→A7,length_take→BC,getElem?_eq_getElem→BE,mem_singleton→BJ,length_map→BK,getElem?_eq_some_iff→BS,not_mem_nil→BX,getElem?_cons_zero→BY,getElem?_eq_none→BZ,getElem?_map→CA,map_nil→CB,mem_map→CK,drop_of_length_le→CR,cons_append→CS,all_eq_true→CU,take_of_length_le→CV,length_drop→CY,size_toArray→C7,append_nil→C9,getElem?_cons_succ→DI,mem_of_getElem?→vaf,getElem?_drop→var,all_cons→vay,extract_eq_take_drop→vaE,mem_append_right→vaG,mem_of_mem_take→vaH,range→vaI,mem_append_left→vaJ,eq_nil_of_length_eq_zero→vaK,countP_cons_of_pos→vaQ,mem_map_of_mem→vaR,mem_of_mem_drop→va6,countP_cons_of_neg→vbj,mem_range→vbn,getElem?_append_left→vbw
open List.cons renaming injEq→vau
open Nat renaming le_of_ble_eq_true→AO,le_refl→AX,zero_add→BL,beq→BQ,zero_le→B4,ble→B6,lt_of_lt_of_le→CW,le_trans→C2,add_zero→C8,lt_or_ge→DC,add_mul→vak,min_eq_left→vaz,sub_zero→va2,beq_refl→vbl,strongRecOn→vbq,one_mul→vby
open Option renaming map_eq_some_iff→DD,getD_some→vaj,map_some→vav
open Option.some renaming injEq→AC
open Prod.mk renaming injEq→AU
namespace Go.FM
open Go Go.RowKit
section
variable {B:BT} {nt:Nat} {w0:World} {X:Zone} {γ:Nat→Value} {st st':St} {a:Act} {w:World} {P:Program} {E:Env}
theorem eJ (h:Rel B nt w0 X γ st a w) (ns:List Nat) {b:Nat} (hb:DR X γ (st.ups (EM st.o ns)).o b):DR X γ st.o b∧∀ m∈ns,¬ RowOf γ st.o m b:=by
 obtain ⟨h1,h2,h3,h4,h5⟩:=NN st.o ns (FrzLe.refl _) h;refine ⟨h2.owned hb,?_⟩;rintro m hm ⟨e,ag,ks,l,ho,hob⟩;rcases hb with ⟨m',ob',hm',hb'⟩ | hb
 ·by_cases e1:m=m'
  ·subst e1;rcases h2 m with h6 | ⟨e',ag',ks',l',h6,h7⟩
   ·rw [h6,ho] at hm'
    have:=h4 m hm true e ag ks l (by rw [h6,ho])
    cases this
   ·rw [h7,AC] at hm';subst hm';exact hb'.elim
  ·rcases h2 m' with h6 | ⟨e',ag',ks',l',h6,h7⟩
   ·rw [h6] at hm';exact h.dis m m' _ ob' b e1 ho hm' hob hb'
   ·rw [h7,AC] at hm';subst hm';exact hb'.elim
 ·exact h.near ⟨m,_,ho,hob⟩ hb
theorem m9 (h:Rel B nt w0 X γ st a w) (hg:GX B w0 X) {f:FuncId} {sp:T5} (hS:Snd P B f sp) {vs:List V} {xs:List Value} (hv:VRels γ st.o w (DR X γ st.o) vs xs) (hl:FX vs=[]) {tks:List (List Kd)} {v:V} {out:List (List V)}
  (hsp:sp (GJ st.o [] tks vs)=some (v,out)) :
  Does P f xs w fun e w'=>∃ x,e = .returned x∧∃ γ',Rel B.base 0 w ⟨fun _=>False,fun b=>DR X γ st.o b∧∀ m∈EY vs,¬ RowOf γ st.o m b⟩ γ' ⟨[],GV v out⟩ J1 w' ∧
   VRel γ' (GV v out) w' (DR ⟨fun _=>False,fun b=>DR X γ st.o b∧∀ m∈EY vs,¬ RowOf γ st.o m b⟩ γ' (GV v out)) (M4 v) x∧ZT v=true∧out=[]:=by
 have hb:GN (GJ st.o [] tks vs)=none:=iM.2 hl;have hm:IU (GJ st.o [] tks vs)=[]:=by simp only [IU,hb]
 have hR:Rel B.base 0 w ⟨fun _=>False,fun b=>DR X γ st.o b∧∀ m∈EY vs,¬ RowOf γ st.o m b⟩ γ ⟨[],[]⟩ J1 w:=by
  refine ⟨rfl,rfl,fun i=>by simp only [St.get,E6,VRel],fun n ob hn=>?_,?_,?_,Keep.refl _ w,?_,?_,fun p hp=>by cases hp⟩
  ·simp only [DO,E6] at hn; cases hn
  ·rintro b ⟨n,ob,hn,_⟩; simp only [DO,E6] at hn; cases hn
  ·intro n m ob ob' b _ hn; simp only [DO,E6] at hn; cases hn
  ·rintro b ⟨n,ob,hn,_⟩; simp only [DO,E6] at hn; cases hn
  ·rintro b ⟨hb | hb,_⟩
   ·exact (h.lt b hb).1
   ·exact h.fl b hb
 have:=hS w ⟨fun _=>False,fun b=>DR X γ st.o b∧∀ m∈EY vs,¬ RowOf γ st.o m b⟩ γ (GJ st.o [] tks vs) xs v out hsp (h.glob hg) (fun _ hf=>hf.elim) (by rw [hm]; exact hR) (by
  rw [hm];refine iI h (fun b _ hb=>?_) [] hv (fun m hm b hr hb=>?_) (fun m hm=>by rw [hl] at hm; cases hm)
  ·rcases hb with ⟨n,ob,hn,_⟩ | hb
   ·simp only [DO,E6] at hn; cases hn
   ·exact hb.1
  ·rcases hb with ⟨n,ob,hn,_⟩ | hb
   ·simp only [DO,E6] at hn; cases hn
   ·exact hb.2 m hm hr)
 refine this.mono ?_;rintro e w' ⟨x,he,γ',h1,h2,h3⟩;refine ⟨x,he,γ',h1,h2,?_⟩;simp only [KY,hb] at h3;cases out with
 | nil=>exact ⟨h3,rfl⟩
 | cons _ _=>exact h3.elim
theorem qX (h:Rel B nt w0 X γ st a w) {w':World} {X':Zone} (hX:∀ b,¬ X'.own b) {γ':Nat→Value} {st':St} {a':Act} (hc:Rel B.base 0 w X' γ' st' a' w') (F:Nat→Prop) (hF:∀ b,F b→X.far b∨(w.heap.size≤b∧b < w'.heap.size)):Rel B nt w0 ⟨X.own,F⟩ γ st a w':=
 (h.fresh (hc.keep) (fun b _ hb=>(hX b hb).elim)).shrink hF
theorem ZE {cs:List V} (h:cs.all RL=true):EP cs=(900000,some (.box (GU 900001 cs))) :: K5 900001 cs:=by
 refine n7 (fun s he=>?_);subst he;simp [RL,HO] at h
theorem yZ {w':World} {X':Zone} {γ':Nat→Value} {cs:List V} (hok:cs.all RL=true) (_:Rel B.base 0 w X' γ' ⟨[],EP cs⟩ J1 w') {c:Array Value}
  (hr:VRels γ' (EP cs) w' (DR X' γ' (EP cs)) (GU 900001 cs) c.toList) {γf:Nat→Value} {of:Store} {nm:Nat}
  (hrow:∀ j e ag ks l,cs[j]?=some (.vec e ag ks l)→γf (nm+j)=γ' (900001+j)∧DO of (nm+j)=some (.row true e ag ks l)) {O':Nat→Prop} (hO:IB cs=true→∀ b,b < w'.heap.size→O' b→DR X' γ' (EP cs) b) :
  VRels γf of w' O' (GU nm cs) c.toList:=by
 have hl:=hr.length;rw [YX] at hl;refine VRels.of_get (by rw [YX,hl]) (fun j v x hv hx=>?_);rw [dT] at hv;cases hcj:cs[j]? with
 | none=>rw [hcj] at hv; cases hv
 | some u=>
  rw [hcj] at hv;simp only [vav,AC] at hv;have hb:(GU 900001 cs)[j]?=some (match (generalizing:=false) u with | .vec _ _ _ l=>.row (900001+j) 0 l.length | v=>v):=by rw [dT,hcj]; rfl
  have hux:=hr.get' hb hx;have huok:RL u=true:=CU.1 hok u (vaf hcj);by_cases hvec:∃ e ag ks l,u = .vec e ag ks l
  ·obtain ⟨e,ag,ks,l,rfl⟩:=hvec;simp only at hv hux;subst hv;obtain ⟨h1,h2⟩:=hrow j e ag ks l hcj;have hat:=gB (nr:=900001) hcj;have hat':DO (EP cs) (900001+j)=some (.row true e ag ks l):=by
    rw [ZE hok,EJ,BB (by omega)];exact hat
   simp only [VRel,hat'] at hux;simp only [VRel,h2,h1];exact hux
  ·have hf:HO u=true:=by cases u <;> first | exact huok | exact absurd ⟨_,_,_,_,rfl⟩ hvec
   have hvu:v=u:=by cases u <;> first | exact hv.symm | exact absurd ⟨_,_,_,_,rfl⟩ hvec
   have hux':VRel γ' (EP cs) w' (DR X' γ' (EP cs)) u x:=by cases u <;> first | exact hux | exact absurd ⟨_,_,_,_,rfl⟩ hvec
   subst hvu;exact jI hf (fun hv=>hO (iF (vaf hcj) hv)) hux'
theorem vK {w':World} {X':Zone} {γ':Nat→Value} {cs:List V} (hok:cs.all RL=true) (hc:Rel B.base 0 w X' γ' ⟨[],EP cs⟩ J1 w') :
  (∀ (γ:Nat→Value) j e ag ks l,cs[j]?=some (.vec e ag ks l)→ObRel B.base γ [] w' (fun b=>IB cs=true→DR X' γ' (EP cs) b) (γ' (900001+j)) (.row true e ag ks l)∧∀ b,(γ' (900001+j)).ownBlock=some b→FD γ' (EP cs) b) ∧
  (∀ i j e ag ks l e' ag' ks' l' b,i≠j→cs[i]?=some (.vec e ag ks l)→cs[j]?=some (.vec e' ag' ks' l')→(γ' (900001+i)).ownBlock=some b→(γ' (900001+j)).ownBlock=some b→False) ∧
  (∀ j e ag ks l b,cs[j]?=some (.vec e ag ks l)→(γ' (900001+j)).ownBlock=some b→E7 γ' (EP cs) 900000 b→False):=by
 have hat:∀ {j e ag ks l},cs[j]?=some (V.vec e ag ks l)→DO (EP cs) (900001+j)=some (.row true e ag ks l):=by
  intro j e ag ks l hj;rw [ZE hok,EJ,BB (by omega)];exact gB hj
 refine ⟨fun γ j e ag ks l hj=>⟨?_,fun b hb=>⟨_,_,hat hj,hb⟩⟩,?_,?_⟩
 ·have hr:=hc.ob _ _ (hat hj);simp only [ObRel] at hr ⊢;obtain ⟨k1,k2,xs,k3,k4⟩:=hr;refine ⟨k1,k2,xs,k3,fun i y hy=>Kd.RelAll.mono (Keep.refl _ w') (fun b _ hb=>?_) (fun _ _ hu=>hu) (k4 i y hy)⟩;exact hb (iF (vaf hj) rfl)
 ·intro i j e ag ks l e' ag' ks' l' b hij h1 h2 hb1 hb2;exact hc.dis _ _ _ _ b (by omega) (hat h1) (hat h2) hb1 hb2
 ·rintro j e ag ks l b hj hb ⟨ob,h1,h2⟩;exact hc.dis _ _ _ _ b (by omega) (hat hj) h1 hb h2
theorem Uo (h:Rel B nt w0 X γ st a w) (hg:GX B w0 X) {f:FuncId} {sp:T5} (hS:Snd P B f sp) {vs:List V} {xs:List Value} (hv:VRels γ st.o w (DR X γ st.o) vs xs) (hl:FX vs=[]) {tks:List (List Kd)} {v:V} {out:List (List V)}
  (hsp:sp (GJ st.o [] tks vs)=some (v,out)) (hnb:∀ cs,v≠.bor cs) (hnv:∀ e ag ks l,v≠.vec e ag ks l) :
  Does P f xs w fun e w'=>∃ x,e = .returned x∧∃ γ',Rel B nt w0 X γ' (st.ups (EM st.o (match IF v with | true=>EY vs | false=>[]))) a w' ∧
   VRel γ' (st.ups (EM st.o (match IF v with | true=>EY vs | false=>[]))).o w' (DR X γ' (st.ups (EM st.o (match IF v with | true=>EY vs | false=>[]))).o) v x:=by
 refine (m9 h hg hS hv hl hsp).mono ?_;rintro e w' ⟨x,he,γ',h1,h2,h3,rfl⟩;have hf:L8 v=true:=by cases v <;> first | exact h3 | exact absurd rfl (hnb _) | exact absurd rfl (hnv _ _ _ _)
 have hmo:GV v []=[]:=by cases v <;> first | rfl | exact absurd rfl (hnb _) | exact absurd rfl (hnv _ _ _ _)
 rw [hmo] at h1 h2;rw [U9 hf] at h2;have hz:=(NN st.o (match IF v with | true=>EY vs | false=>[]) (FrzLe.refl _) h).1;have hp:=qX hz (fun b hb=>hb) h1 X.far (fun b hb=>.inl hb);refine ⟨x,he,γ,hp,oM hf (fun hhl b _ hb=>?_) h2⟩
 have:=eJ h _ hb
 rw [hhl] at this;exact .inr this
theorem Un (h:Rel B nt w0 X γ st a w) (hg:GX B w0 X) {f:FuncId} {sp:T5} (hS:Snd P B f sp) {vs:List V} {xs:List Value} (hv:VRels γ st.o w (DR X γ st.o) vs xs) (hl:FX vs=[]) {tks:List (List Kd)} {cs:List V} {out:List (List V)}
  (hsp:sp (GJ st.o [] tks vs)=some (.bor cs,out)) (d:Nat) (hd9:d≠900000) (hn9:1000*(d+1)+cs.length≤900000) :
  Does P f xs w fun e w'=>∃ x,e = .returned x∧∃ γ',Rel B nt w0 X γ' (st.ups (EM st.o (match IB cs with | true=>EY vs | false=>[])++(KG (1000*(d+1)) cs++[.new d (.box (GU (1000*(d+1)) cs))]))) a w' ∧
   VRel γ' (st.ups (EM st.o (match IB cs with | true=>EY vs | false=>[])++(KG (1000*(d+1)) cs++[.new d (.box (GU (1000*(d+1)) cs))]))).o w'
    (DR X γ' (st.ups (EM st.o (match IB cs with | true=>EY vs | false=>[])++(KG (1000*(d+1)) cs++[.new d (.box (GU (1000*(d+1)) cs))]))).o) (.ptr d 0 0) x:=by
 refine (m9 h hg hS hv hl hsp).mono ?_;rintro e w' ⟨x,he,γ',h1,h2,h3,rfl⟩;simp only [ZT] at h3;have hmo:GV (.bor cs) []=EP cs:=rfl;rw [hmo] at h1 h2;generalize hX':(⟨fun _=>False,fun b=>DR X γ st.o b∧∀ m∈EY vs,¬ RowOf γ st.o m b⟩:Zone)=X' at h1 h2;have hXo:∀ b,¬ X'.own b:=fun b hb=>by rw [← hX'] at hb; exact hb
 have hz:=(NN st.o (match IB cs with | true=>EY vs | false=>[]) (FrzLe.refl _) h).1;have hPf:∀ b,FD γ' (EP cs) b→w.heap.size≤b∧b < w'.heap.size:=fun b hb=>by
  obtain ⟨q1,q2⟩:=h1.lt b hb;exact ⟨q2.resolve_right (hXo b),q1⟩
 have hp:=qX hz hXo h1 (fun b=>X.far b∨FD γ' (EP cs) b) (fun b hb=>hb.imp_right (hPf b));obtain ⟨br1,br2,br3⟩:=vK h3 h1;have hO1:∀ b,DR ⟨X.own,fun b=>X.far b∨FD γ' (EP cs) b⟩ γ (st.ups (EM st.o (match IB cs with | true=>EY vs | false=>[]))).o b→(IB cs=true→DR X' γ' (EP cs) b):=by
  intro b hb hal;rw [hal] at hb;have key:DR X γ (st.ups (EM st.o (EY vs))).o b∨FD γ' (EP cs) b:=by
   rcases hb with hb | hb | hb
   ·exact .inl (.inl hb)
   ·exact .inl (.inr hb)
   ·exact .inr hb
  rcases key with hb | hb
  ·have:=eJ h _ hb
   exact .inr (by rw [← hX']; exact this)
  ·exact .inl hb
 obtain ⟨γd,F',r1,r2,r3,r4,r5,r6⟩:=iC (B':=B.base) (g:=fun j=>γ' (900001+j)) (1000*(d+1)) cs 0 (by omega) hp hO1 (fun j e ag ks l hj=>by
   rw [BL];obtain ⟨q1,q2⟩:=br1 γ j e ag ks l hj;exact ⟨q1,fun b hb=>⟨.inr (q2 b hb),.inl (C2 h.keep.size (hPf b (q2 b hb)).1)⟩⟩)
  (fun i j e ag ks l e' ag' ks' l' b hij q1 q2 q3 q4=>by
   rw [BL] at q3 q4;exact br2 i j e ag ks l e' ag' ks' l' b hij q1 q2 q3 q4)
 simp only [C8,BL] at r1 r3 r4 r5 r6;have hob0:DO (EP cs) 900000=some (.box (GU 900001 cs)):=by rw [ZE h3,EJ,BP rfl]
 have hor:=h1.ob _ _ hob0;simp only [ObRel] at hor;obtain ⟨b0,c,T,hg,hh,hr⟩:=hor;have hb0P:FD γ' (EP cs) b0:=⟨900000,_,hob0,⟨_,hg,rfl⟩⟩;have hadd:=r1.add d hd9 (.box (GU (1000*(d+1)) cs)) (γ' 900000) (fun b hb=>by
   obtain ⟨ad,q1,q2⟩:=hb;rw [hg] at q1;simp only [C0,AC] at q1;subst q1;simp only at q2;subst q2;exact ⟨r3 b0 (.inr hb0P) (fun j e ag ks l hj hb=>br3 j e ag ks l b0 hj hb ⟨_,hob0,_,hg,rfl⟩),.inl (C2 h.keep.size (hPf b0 hb0P).1)⟩)
  (fun O' hO'=>by
   simp only [ObRel];refine ⟨b0,c,T,hg,hh,yZ h3 h1 hr (fun j e ag ks l hj=>?_) (fun hal b _ hb=>hO1 b (r4 b (hO' b hb)) hal)⟩;obtain ⟨q1,q2⟩:=r5 j e ag ks l hj;refine ⟨by rw [BB (by omega)]; exact q1,?_⟩;rw [GW,BB (by omega),q2];rfl)
 have hfin:=hadd.shrink (F:=X.far) (fun b hb=>by
   have hlt:=h.fl b hb;refine ⟨r3 b (.inl hb) (fun j e ag ks l hj hbj=>?_),fun hbb=>?_⟩
   ·have:=hPf b ((br1 γ j e ag ks l hj).2 b hbj)
    omega
   ·obtain ⟨ad,q1,q2⟩:=hbb;rw [hg] at q1;simp only [C0,AC] at q1;subst q1;simp only at q2;subst q2
    have:=hPf b0 hb0P
    omega)
 refine ⟨x,he,_,by rw [LU,LU]; exact hfin,?_⟩;rw [LU,LU];simp only [St.ups,VRel,GW,CQ];simp only [M4,ER,VRel,hob0] at h2;exact h2
theorem Up (h:Rel B nt w0 X γ st a w) (hg:GX B w0 X) {f:FuncId} {sp:T5} (hS:Snd P B f sp) {vs:List V} {xs:List Value} (hv:VRels γ st.o w (DR X γ st.o) vs xs) (hl:FX vs=[]) {tks:List (List Kd)} {e:Nat} {ag:Bool} {ks:List Kd} {l:LI} {out:List (List V)}
  (hsp:sp (GJ st.o [] tks vs)=some (.vec e ag ks l,out)) (d:Nat) (hd9:d≠900000) :
  Does P f xs w fun e' w'=>∃ x,e' = .returned x∧∃ γ',Rel B nt w0 X γ' (st.ups (EM st.o (EY vs)++[.new d (.row true e ag ks l)])) a w' ∧
   VRel γ' (st.ups (EM st.o (EY vs)++[.new d (.row true e ag ks l)])).o w' (DR X γ' (st.ups (EM st.o (EY vs)++[.new d (.row true e ag ks l)])).o) (.row d 0 l.length) x:=by
 refine (m9 h hg hS hv hl hsp).mono ?_;rintro e' w' ⟨x,he,γ',h1,h2,h3,rfl⟩;have hmo:GV (.vec e ag ks l) []=[(900000,some (.row true e ag ks l))]:=rfl;rw [hmo] at h1 h2;generalize hX':(⟨fun _=>False,fun b=>DR X γ st.o b∧∀ m∈EY vs,¬ RowOf γ st.o m b⟩:Zone)=X' at h1 h2;have hXo:∀ b,¬ X'.own b:=fun b hb=>by rw [← hX'] at hb; exact hb
 have hz:=(NN st.o (EY vs) (FrzLe.refl _) h).1;have hPf:∀ b,FD γ' [(900000,some (.row true e ag ks l))] b→w.heap.size≤b∧b < w'.heap.size:=fun b hb=>by
  obtain ⟨q1,q2⟩:=h1.lt b hb;exact ⟨q2.resolve_right (hXo b),q1⟩
 have hp:=qX hz hXo h1 (fun b=>X.far b∨FD γ' [(900000,some (.row true e ag ks l))] b) (fun b hb=>hb.imp_right (hPf b));have hO1:∀ b,DR ⟨X.own,fun b=>X.far b∨FD γ' [(900000,some (.row true e ag ks l))] b⟩ γ (st.ups (EM st.o (EY vs))).o b→DR X' γ' [(900000,some (.row true e ag ks l))] b:=by
  intro b hb;have key:DR X γ (st.ups (EM st.o (EY vs))).o b∨FD γ' [(900000,some (.row true e ag ks l))] b:=by
   rcases hb with hb | hb | hb
   ·exact .inl (.inl hb)
   ·exact .inl (.inr hb)
   ·exact .inr hb
  rcases key with hb | hb
  ·have:=eJ h _ hb
   exact .inr (by rw [← hX']; exact this)
  ·exact .inl hb
 have hob0:DO [(900000,some (.row true e ag ks l))] 900000=some (.row true e ag ks l):=by rw [EJ,BP rfl]
 have hor:=h1.ob _ _ hob0;simp only [ObRel] at hor;obtain ⟨k1,k2,ys,k3,k4⟩:=hor;have hg0:∀ b,FE (γ' 900000) (.row true e ag ks l) b→FD γ' [(900000,some (.row true e ag ks l))] b:=fun b hb=>⟨900000,_,hob0,hb⟩
 have hadd:=hp.add d hd9 (.row true e ag ks l) (γ' 900000) (fun b hb=>⟨.inr (hg0 b hb),.inl (C2 h.keep.size (hPf b (hg0 b hb)).1)⟩)
  (fun O' hO'=>by
   simp only [ObRel];exact ⟨k1,k2,ys,k3,fun i y hy=>Kd.RelAll.mono (Keep.refl _ w') (fun b _ hb=>hO1 b (hO' b hb)) (fun _ _ hu=>hu) (k4 i y hy)⟩)
 have hfin:=hadd.shrink (F:=X.far) (fun b hb=>by
   have hlt:=h.fl b hb;refine ⟨.inl hb,fun hbb=>?_⟩
   have:=hPf b (hg0 b hbb)
   omega)
 refine ⟨x,he,_,by rw [LU]; exact hfin,?_⟩;rw [LU];simp only [St.ups,VRel,GW,CQ];simp only [M4,VRel,hob0] at h2;exact h2
end
open Go Go.RowKit
mutual
theorem VRel.leaves {γ γ':Nat→Value} {o o':Store} {w:World} {O:Nat→Prop} (h1:∀ n lo hi x,VRel γ o w O (.row n lo hi) x→VRel γ' o' w O (.row n lo hi) x) (h2:∀ n i c x,VRel γ o w O (.ptr n i c) x→VRel γ' o' w O (.ptr n i c) x)
  (h3:∀ n c cap sz len x,VRel γ o w O (.bview n c cap sz len) x→VRel γ' o' w O (.bview n c cap sz len) x):∀ {v:V} {x:Value},VRel γ o w O v x→VRel γ' o' w O v x
 | .any,_,_=>by simp only [VRel]
 | .int _ _,_,h=>by simpa only [VRel] using h
 | .bool _,_,h=>by simpa only [VRel] using h
 | .str _,_,h=>by simpa only [VRel] using h
 | .list _ _ _,_,h=>by simpa only [VRel] using h
 | .zs,_,h=>by simpa only [VRel] using h
 | .row _ _ _,_,h=>h1 _ _ _ _ h
 | .ptr _ _ _,_,h=>h2 _ _ _ _ h
 | .iptr _ _ _,_,h=>by simpa only [VRel] using h
 | .bview _ _ _ _ _,_,h=>h3 _ _ _ _ _ _ h
 | .agg l,x,h=>by
  simp only [VRel] at h ⊢;obtain ⟨cs,hx,hr⟩:=h;exact ⟨cs,hx,VRels.leaves h1 h2 h3 hr⟩
 | .tup l,x,h=>by
  simp only [VRel] at h ⊢;obtain ⟨cs,hx,hr⟩:=h;exact ⟨cs,hx,VRels.leaves h1 h2 h3 hr⟩
 | .err _,_,h=>by simpa only [VRel] using h
 | .nilp,_,h=>by simpa only [VRel] using h
 | .clo _ l,x,h=>by
  simp only [VRel] at h ⊢;obtain ⟨cs,hx,hr⟩:=h;exact ⟨cs,hx,VRels.leaves h1 h2 h3 hr⟩
 | .bor _,_,h=>by simp only [VRel] at h
 | .vec _ _ _ _,_,h=>by simp only [VRel] at h
 | .bld _,_,h=>by simp only [VRel] at h
theorem VRels.leaves {γ γ':Nat→Value} {o o':Store} {w:World} {O:Nat→Prop} (h1:∀ n lo hi x,VRel γ o w O (.row n lo hi) x→VRel γ' o' w O (.row n lo hi) x) (h2:∀ n i c x,VRel γ o w O (.ptr n i c) x→VRel γ' o' w O (.ptr n i c) x)
  (h3:∀ n c cap sz len x,VRel γ o w O (.bview n c cap sz len) x→VRel γ' o' w O (.bview n c cap sz len) x):∀ {l:List V} {xs:List Value},VRels γ o w O l xs→VRels γ' o' w O l xs
 | [],[],_=>by simp only [VRels]
 | [],_ :: _,h=>by simp only [VRels] at h
 | _ :: _,[],h=>by simp only [VRels] at h
 | v :: vs,x :: xs,h=>by
  simp only [VRels] at h ⊢;exact ⟨VRel.leaves h1 h2 h3 h.1,VRels.leaves h1 h2 h3 h.2⟩
end
section
variable {B:BT} {nt:Nat} {w0:World} {X:Zone} {γ:Nat→Value} {st st':St} {a:Act} {w:World} {P:Program} {E:Env}
theorem Ca:∀ (hs:List Nat) {st:St} {X:Zone},Rel B nt w0 X γ st a w →
  Rel B nt w0 ⟨X.own,fun b=>X.far b∨∃ m∈hs,E7 γ st.o m b⟩ γ (st.ups (L9 hs)) a w∧(st.ups (L9 hs)).t=st.t∧∀ m,DO (st.ups (L9 hs)).o m=if m∈hs then none else DO st.o m
 | [],st,X,h=>⟨h.shrink (fun b hb=>by simpa using hb),rfl,fun m=>by simp [L9,St.ups]⟩
 | n :: r,st,X,h=>by
  obtain ⟨h1,h2,h3⟩:=Ca r (h.kill n);have hob:∀ m,DO (st.up (.kill n)).o m=if n=m then none else DO st.o m:=fun m=>by simp only [St.up,EJ]
  refine ⟨?_,h2,fun m=>?_⟩
  ·simp only [L9,St.ups];refine h1.shrink (fun b hb=>?_);rcases hb with hb | ⟨m,hm,hb⟩
   ·exact .inl (.inl hb)
   ·by_cases e:n=m
    ·subst e;exact .inl (.inr hb)
    ·rcases AP.1 hm with h4 | h4
     ·exact absurd h4.symm e
     ·obtain ⟨ob,p1,p2⟩:=hb;exact .inr ⟨m,h4,ob,by rw [hob,BB e]; exact p1,p2⟩
  ·simp only [L9,St.ups];rw [h3,hob];by_cases h4:m∈r
   ·simp [h4]
   ·by_cases h5:n=m
    ·subst h5;simp
    ·have:¬ m=n:=fun e=>h5 e.symm
     simp [h4,h5,this]
theorem Av (h:Rel B nt w0 X γ st a w) (ns:List Nat) {n:Nat} {ob:Ob} (ho:DO st.o n=some ob) (hb:∀ e ag ks l,ob≠.row true e ag ks l):DO (st.ups (EM st.o ns)).o n=some ob:=by
 obtain ⟨_,h2,_⟩:=NN st.o ns (FrzLe.refl _) h;rcases h2 n with h3 | ⟨e,ag,ks,l,h3,_⟩
 ·rw [h3,ho]
 ·rw [ho,AC] at h3;exact absurd h3 (hb _ _ _ _)
theorem Rel.boundB (h:Rel B nt w0 X γ st a w) {n:Nat} {s:BA} (ho:DO st.o n=some (.bld s)) {w1:World} {own1 F:Nat→Prop} (hk:Keep own1 w1 w)
  (hF:∀ b,F b→DR X γ st.o b∧¬ E7 γ st.o n b) (hown:∀ b,E7 γ st.o n b→w1.heap.size≤b∨own1 b) :
  Rel B.base 0 w1 ⟨own1,F⟩ (fun _=>γ n) ⟨[],EP [.bld s]⟩ J1 w∧∀ b,FD (fun _=>γ n) (EP [.bld s]) b→E7 γ st.o n b:=by
 have hP:∀ b,FD (fun _=>γ n) (EP [.bld s]) b→E7 γ st.o n b:=by
  rintro b ⟨m,ob,hm,hb⟩;simp only [EP] at hm;rw [EJ] at hm;split at hm
  ·simp only [AC] at hm;subst hm;exact ⟨_,ho,hb⟩
  ·simp only [DO,E6] at hm; cases hm
 refine ⟨⟨rfl,rfl,fun i=>by simp only [St.get,E6,VRel],fun m ob hm=>?_,fun b hb=>?_,?_,hk,?_,?_,fun p hp=>by cases hp⟩,hP⟩
 ·simp only [EP] at hm;rw [EJ] at hm;split at hm
  ·simp only [AC] at hm;subst hm
   have:=h.ob n _ ho
   simpa only [ObRel,BT.base] using this
  ·simp only [DO,E6] at hm; cases hm
 ·obtain ⟨ob,h1,h2⟩:=hP b hb;exact ⟨(h.lt b ⟨n,ob,h1,h2⟩).1,hown b (hP b hb)⟩
 ·intro m1 m2 ob1 ob2 b hne h1 h2 _ _;simp only [EP] at h1 h2;rw [EJ] at h1 h2;split at h1
  ·split at h2
   ·omega
   ·simp only [DO,E6] at h2; cases h2
  ·simp only [DO,E6] at h1; cases h1
 ·intro b hb hf;exact (hF b hf).2 (hP b hb)
 ·intro b hb;rcases (hF b hb).1 with h1 | h1
  ·exact (h.lt b h1).1
  ·exact h.fl b h1
theorem Ul (h:Rel B nt w0 X γ st a w) (hg:GX B w0 X) {f:FuncId} {sp:T5} (hS:Snd P B f sp) {vs:List V} {xs:List Value} (hv:VRels γ st.o w (DR X γ st.o) vs xs) {n:Nat} (hl:FX vs=[n]) {s s':BA} (ho:DO st.o n=some (.bld s))
  {tks:List (List Kd)} {v:V} (hsp:sp (GJ st.o [.bld s] tks vs)=some (v,[[.bld s']])) (hib:jP (GN (GJ st.o [.bld s] tks vs))=true) :
  Does P f xs w fun e w'=>∃ x,e = .returned x∧∃ γ',Rel B nt w0 X γ' (st.ups (EM st.o (match IF v with | true=>EY vs | false=>[])++[.set n (.bld s')])) a w' ∧
   VRel γ' (st.ups (EM st.o (match IF v with | true=>EY vs | false=>[])++[.set n (.bld s')])).o w' (DR X γ' (st.ups (EM st.o (match IF v with | true=>EY vs | false=>[])++[.set n (.bld s')])).o) v x:=by
 have hL:∀ b,E7 γ st.o n b→w.heap.size≤b∨E7 γ st.o n b:=fun b hb=>.inr hb
 obtain ⟨hR,hP⟩:=h.boundB ho (w1:=w) (own1:=E7 γ st.o n) (F:=fun b=>DR X γ st.o b∧¬ E7 γ st.o n b∧∀ m∈EY vs,¬ RowOf γ st.o m b) (Keep.refl _ w) (fun b hb=>⟨hb.1,hb.2.1⟩) hL;generalize hX':(⟨E7 γ st.o n,fun b=>DR X γ st.o b∧¬ E7 γ st.o n b∧∀ m∈EY vs,¬ RowOf γ st.o m b⟩:Zone)=X' at hR;have hXf:∀ b,X'.far b↔(DR X γ st.o b∧¬ E7 γ st.o n b∧∀ m∈EY vs,¬ RowOf γ st.o m b):=fun b=>by rw [← hX']
 have hXo:∀ b,X'.own b↔E7 γ st.o n b:=fun b=>by rw [← hX']
 have hnP:∀ b,E7 γ st.o n b→FD γ st.o b:=fun b ⟨ob,h1,h2⟩=>⟨n,ob,h1,h2⟩
 rcases (iM (o:=st.o) (bs:=[.bld s]) (l:=vs) (tks:=tks)).1 with hb | hb
 ·rw [hb] at hib;cases hib
 ·have hm:IU (GJ st.o [.bld s] tks vs)=EP [.bld s]:=by simp only [IU,hb]
  have hcall:=hS w X' (fun _=>γ n) (GJ st.o [.bld s] tks vs) xs v [[.bld s']] hsp (h.glob hg) (fun b hb=>h.high hg (hnP b ((hXo b).1 hb))) (by rw [hm]; exact hR) (by
   rw [hm];refine iI h (fun b _ hb=>?_) [.bld s] hv (fun m hm b hr hb=>?_) (fun m hm=>?_)
   ·rcases hb with hb | hb
    ·exact .inl (hnP b (hP b hb))
    ·exact ((hXf b).1 hb).1
   ·rcases hb with hb | hb
    ·obtain ⟨e,ag,ks,l,h5,h6⟩:=hr;obtain ⟨ob,h7,h8⟩:=hP b hb;have hne:n≠m:=by
      rintro rfl;rw [ho] at h5;cases h5
     exact h.dis n m ob _ b hne h7 h5 h8 h6
    ·exact ((hXf b).1 hb).2.2 m hm hr
   ·rw [hl] at hm;simp only [BJ] at hm;subst hm;exact ⟨rfl,.inr ⟨s,s,ho,by simp [EP,EJ]⟩⟩)
  refine hcall.mono ?_;rintro e w' ⟨x,he,γ',h1,h2,h3⟩;simp only [KY,hb] at h3;obtain ⟨hf,_,had⟩:=h3;have hmo:GV v [[.bld s']]=EP [.bld s']:=by cases v <;> rfl
  rw [hmo] at h1 h2;rw [U9 hf] at h2;refine ⟨x,he,?_⟩;generalize hF0:(match IF v with | true=>EY vs | false=>[])=F0;have hz:=(NN st.o F0 (FrzLe.refl _) h).1;have hon:=Av h F0 ho (fun _ _ _ _=>by simp);have hob0:DO (EP [.bld s']) 900000=some (.bld s'):=by simp [EP,EJ]
  have hor:=h1.ob _ _ hob0;have hor0:=h.ob _ _ ho;simp only [ObRel] at hor hor0;obtain ⟨b1,v1,p1,hg1,_⟩:=hor;obtain ⟨b0,v0,p0,hg0,_⟩:=hor0;have hbb:b1=b0:=by
   rw [hg1,hg0] at had;simpa [SJ] using had
  subst hbb;have hbl:∀ b,E7 γ (st.ups (EM st.o F0)).o n b↔E7 γ st.o n b:=fun b=>by simp only [E7,hon,ho]
  have hOP:∀ b,FE (γ' 900000) (.bld s') b→FD γ' (EP [.bld s']) b:=fun b hb=>⟨_,_,hob0,hb⟩
  have hsz:=h1.keep.size;have hlend:=hz.lend (n:=n) (ob':=.bld s') (g':=γ' 900000) hon had h1.keep (K:=X'.own) (fun b _ hb=>.inl ((hbl b).2 ((hXo b).1 hb)))
   (fun b hb=>by
    obtain ⟨q1,q2⟩:=h1.lt b (hOP b hb);exact ⟨q1,q2.elim .inr (fun hb=>.inl ((hbl b).2 ((hXo b).1 hb)))⟩)
   (fun O v x hvx=>VRel.leaves (fun m lo hi x hx=>by
     simp only [VRel] at hx ⊢;rw [EJ];by_cases e:n=m
     ·subst e; simp only [CQ]
     ·simp only [BB e]; exact hx) (fun m i c x hx=>by
     simp only [VRel] at hx ⊢;rw [EJ];by_cases e:n=m
     ·subst e;simp only [CQ];rw [hon] at hx;obtain ⟨rfl,b,v',hg,hxx⟩:=hx;rw [hg0] at hg;simp only [Value.tuple.injEq,Array.mk.injEq,vau,C0,AC,DH,B7] at hg;refine ⟨rfl,b1,v1,hg1,?_⟩;rw [hxx,hg.1]
     ·simp only [BB e]; exact hx) (fun m c cap sz len x hx=>by
     simp only [VRel] at hx ⊢;rw [EJ];by_cases e:n=m
     ·subst e; simp only [CQ]
     ·simp only [BB e]; exact hx) hvx)
   (by
    have hor:=h1.ob _ _ hob0;simpa only [ObRel,BT.base] using hor)
  have hfin:=hlend.shrink (F:=X.far) (fun b hb=>⟨.inl hb,fun hbb=>by
   obtain ⟨q1,q2⟩:=h1.lt b (hOP b hbb)
   have:=h.fl b hb
   rcases q2 with q2 | q2
   ·omega
   ·exact h.nr b (hnP b ((hXo b).1 q2)) hb⟩)
  refine ⟨_,by rw [LU]; exact hfin,?_⟩;rw [LU];refine oM hf (fun hhl b hlt hb=>?_) h2;rw [hhl] at hF0;simp only at hF0;rcases hb with ⟨m,ob,hm,hbm⟩ | hb
  ·simp only [St.ups,St.up] at hm;rw [EJ] at hm;by_cases e:n=m
   ·subst e;simp only [CQ,AC] at hm hbm;subst hm;exact .inl (hOP b hbm)
   ·simp only [BB e] at hm hbm;obtain ⟨q1,q2⟩:=eJ h F0 (b:=b) (.inl ⟨m,ob,hm,hbm⟩);refine .inr ((hXf b).2 ⟨q1,fun hbn=>?_,by rw [hF0]; exact q2⟩);obtain ⟨ob2,q3,q4⟩:=(hbl b).2 hbn;exact hz.dis n m ob2 ob b e q3 hm q4 hbm
  ·refine .inr ((hXf b).2 ⟨.inr hb,fun hbn=>h.nr b (hnP b hbn) hb,fun m _ ⟨e,ag,ks,l,q1,q2⟩=>h.nr b ⟨m,_,q1,q2⟩ hb⟩)
theorem k8 {o:Store} {all:List Nat} {n:Nat}:∀ {cs:List V},n∈H2 o all cs→∃ lo hi own e ag ks l,.row n lo hi∈cs∧DO o n=some (.row own e ag ks l)∧(own&&(BQ lo 0&&BQ (H0 n all) 1))=false
 | [],h=>by simp [H2] at h
 | v :: r,h=>by
  have up:n∈H2 o all r→∃ lo hi own e ag ks l,.row n lo hi∈v :: r∧DO o n=some (.row own e ag ks l)∧(own&&(BQ lo 0&&BQ (H0 n all) 1))=false:=fun h'=>by
   obtain ⟨lo,hi,own,e,ag,ks,l,h1,h2,h3⟩:=k8 h';exact ⟨lo,hi,own,e,ag,ks,l,AW _ h1,h2,h3⟩
  cases v
  case row m lo hi=>
   simp only [H2] at h;split at h
   ·rename_i own e ag ks l hob;split at h
    ·exact up h
    ·rename_i hb;rcases AP.1 h with h1 | h1
     ·subst h1;exact ⟨lo,hi,own,e,ag,ks,l,AN ..,hob,hb⟩
     ·exact up h1
   ·exact up h
  all_goals exact up h
theorem Um (h:Rel B nt w0 X γ st a w) (hg:GX B w0 X) {f:FuncId} {sp:T5} (hS:Snd P B f sp) {vs:List V} {xs:List Value} (hv:VRels γ st.o w (DR X γ st.o) vs xs) {n:Nat} (hl:FX vs=[n]) {cs:List V} (ho:DO st.o n=some (.box cs)) {all:List Nat} (hall:EZ cs++EY vs=all)
  {tks:List (List Kd)} {v:V} {out:List V} (hsp:sp (GJ st.o (cs.map (FP st.o all)) tks vs)=some (v,[out])) (hib:jP (GN (GJ st.o (cs.map (FP st.o all)) tks vs))=true) {nm:Nat} (hlen:out.length=cs.length) (hnm:n < nm∨nm+out.length≤n) (hn9:nm+out.length≤900000) :
  Does P f xs w fun e w'=>∃ x,e = .returned x∧∃ γ',Rel B nt w0 X γ' (st.ups (EM st.o (H2 st.o all cs++(match IF v||IB out with | true=>EY vs | false=>[])) ++
     (L9 (G8 st.o all cs)++(.set n (.box (N5 cs)) :: (KG nm out++[.set n (.box (GU nm out))]))))) a w' ∧
   VRel γ' (st.ups (EM st.o (H2 st.o all cs++(match IF v||IB out with | true=>EY vs | false=>[])) ++
     (L9 (G8 st.o all cs)++(.set n (.box (N5 cs)) :: (KG nm out++[.set n (.box (GU nm out))]))))).o w' (DR X γ' (st.ups (EM st.o (H2 st.o all cs++(match IF v||IB out with | true=>EY vs | false=>[])) ++
     (L9 (G8 st.o all cs)++(.set n (.box (N5 cs)) :: (KG nm out++[.set n (.box (GU nm out))]))))).o) v x:=by
 let L:Nat→Prop:=fun b=>E7 γ st.o n b∨∃ m∈G8 st.o all cs,E7 γ st.o m b
 have hLP:∀ b,L b→FD γ st.o b:=by
  rintro b (⟨ob,h1,h2⟩ | ⟨m,_,ob,h1,h2⟩)
  ·exact ⟨n,ob,h1,h2⟩
  ·exact ⟨m,ob,h1,h2⟩
 have hbound:=h.bound ho (EY vs) (w1:=w) (own1:=L) (F:=fun b=>DR X γ st.o b∧¬ L b∧(∀ m∈H2 st.o all cs,¬ E7 γ st.o m b)∧∀ m∈EY vs,¬ RowOf γ st.o m b) (Keep.refl _ w)
  (fun b hb=>⟨hb.1,fun h1=>hb.2.1 (.inl h1),fun m hm h1=>hb.2.1 (.inr ⟨m,by rw [← hall]; exact hm,h1⟩),by rw [hall]; exact hb.2.2.1⟩) (fun b hb=>.inr (by rw [hall] at hb; exact hb))
 rw [hall] at hbound;obtain ⟨γb,hR,hg0,hP⟩:=hbound;generalize hX':(⟨L,fun b=>DR X γ st.o b∧¬ L b∧(∀ m∈H2 st.o all cs,¬ E7 γ st.o m b)∧∀ m∈EY vs,¬ RowOf γ st.o m b⟩:Zone)=X' at hR;have hXf:∀ b,X'.far b↔(DR X γ st.o b∧¬ L b∧(∀ m∈H2 st.o all cs,¬ E7 γ st.o m b)∧∀ m∈EY vs,¬ RowOf γ st.o m b):=fun b=>by rw [← hX']
 have hXo:∀ b,X'.own b↔L b:=fun b=>by rw [← hX']
 have hb:GN (GJ st.o (cs.map (FP st.o all)) tks vs)=some (cs.map (FP st.o all)):=by
  rcases (iM (o:=st.o) (bs:=cs.map (FP st.o all)) (l:=vs) (tks:=tks)).1 with hb | hb
  ·rw [hb] at hib; cases hib
  ·exact hb
 have hm:IU (GJ st.o (cs.map (FP st.o all)) tks vs)=EP (cs.map (FP st.o all)):=by simp only [IU,hb]
 have hargs:∀ m∈EY vs,∀ b,RowOf γ st.o m b→¬ L b:=by
  intro m hm b hr hLb;obtain ⟨e,ag,ks,l,h5,h6⟩:=hr;rcases hLb with ⟨ob,h7,h8⟩ | ⟨m2,h9,ob,h7,h8⟩
  ·have hne:n≠m:=by
    rintro rfl;rw [ho] at h5;cases h5
   exact h.dis n m ob _ b hne h7 h5 h8 h6
  ·by_cases hne:m2=m
   ·subst hne;obtain ⟨hi2,e2,ag2,ks2,l2,k1,k2,k3⟩:=SX.1 h9;rw [← hall,UZ] at k3;have q1:=U0 (XI k1);have q2:=U0 hm;omega
   ·exact h.dis m2 m ob _ b hne h7 h5 h8 h6
 have hok0:∀ v,RL (FP st.o all v)=true:=by
  intro v;rcases dY st.o all v with ⟨_,_,_,_,_,_,_,_,_,h1⟩ | ⟨h1,_⟩
  ·rw [h1]; rfl
  ·cases hcc:FP st.o all v <;> first | rfl | (rw [hcc] at h1; cases h1)
 have hcall:=hS w X' γb (GJ st.o (cs.map (FP st.o all)) tks vs) xs v [out] hsp (h.glob hg) (fun b hb=>h.high hg (hLP b ((hXo b).1 hb))) (by rw [hm]; exact hR) (by
  rw [hm];refine iI h (fun b _ hb=>?_) _ hv (fun m hm b hr hb=>?_) (fun m hm=>?_)
  ·rcases hb with hb | hb
   ·exact .inl (hLP b (hP b hb))
   ·exact ((hXf b).1 hb).1
  ·rcases hb with hb | hb
   ·exact hargs m hm b hr (hP b hb)
   ·exact ((hXf b).1 hb).2.2.2 m hm hr
  ·rw [hl] at hm;simp only [BJ] at hm;subst hm;exact ⟨hg0,.inl ⟨cs,_,ho,by rw [ZE (CU.2 (fun v hv=>by obtain ⟨u,_,rfl⟩:=CK.1 hv; exact hok0 u)),EJ,BP rfl]⟩⟩)
 refine hcall.mono ?_;rintro e w' ⟨x,he,γ',h1,h2,h3⟩;simp only [KY,hb] at h3;obtain ⟨hf,hsk,had⟩:=h3;have hok:out.all RL=true:=by
  unfold rY at hsk;split at hsk
  ·rename_i s s' hcs;cases cs with
   | nil=>simp at hcs
   | cons u r=>
    simp only [A0,vau] at hcs
    have:=hok0 u
    rw [hcs.1] at this;cases this
  ·cases hsk
  ·exact hsk
 have hmo:GV v [out]=EP out:=by cases v <;> rfl
 rw [hmo] at h1 h2;rw [U9 hf] at h2;refine ⟨x,he,?_⟩;generalize hF0:H2 st.o all cs++(match IF v||IB out with | true=>EY vs | false=>[])=F0;have hz:=(NN st.o F0 (FrzLe.refl _) h).1;have hzf:=(NN st.o F0 (FrzLe.refl _) h).2.1;have hon:=Av h F0 ho (fun _ _ _ _=>by simp);obtain ⟨hk,hkt,hko⟩:=Ca (G8 st.o all cs) hz;have hnh:n ∉ G8 st.o all cs:=by
  intro hn;obtain ⟨_,_,_,_,_,_,q,_⟩:=SX.1 hn;rw [ho] at q;cases q
 have hon2:DO ((st.ups (EM st.o F0)).ups (L9 (G8 st.o all cs))).o n=some (.box cs):=by rw [hko,BB hnh]; exact hon
 have hor0:=h.ob _ _ ho;simp only [ObRel] at hor0;obtain ⟨b0,c0,T0,hgn,hh0,hr0⟩:=hor0;have hob0:DO (EP out) 900000=some (.box (GU 900001 out)):=by rw [ZE hok,EJ,BP rfl]
 have hor:=h1.ob _ _ hob0;simp only [ObRel] at hor;obtain ⟨b1,c,T,hg,hh,hr⟩:=hor;have hbb:b1=b0:=by
  rw [hg,hg0,hgn] at had;simpa [SJ] using had
 subst hbb;have hg':γ' 900000=γ n:=by rw [hg,hgn]
 have hsz:=h1.keep.size;have hbn:∀ b,E7 γ st.o n b↔b=b1:=by
  intro b;constructor
  ·rintro ⟨ob,h5,h6⟩;rw [ho] at h5;cases h5;obtain ⟨ad,h7,h8⟩:=h6;rw [hgn] at h7;cases h7;exact h8.symm
  ·rintro rfl;exact ⟨_,ho,_,hgn,rfl⟩
 have hbn2:∀ b,E7 γ ((st.ups (EM st.o F0)).ups (L9 (G8 st.o all cs))).o n b↔b=b1:=by
  intro b;rw [← hbn b];simp only [E7,hon2,ho]
 have hbx:∀ l b,FE (γ n) (.box l) b↔b=b1:=by
  intro l b;rw [← hbn b];simp only [E7,ho,AC,exists_eq_left',FE]
 have hhb:∀ m∈G8 st.o all cs,∀ b,E7 γ st.o m b→E7 γ (st.ups (EM st.o F0)).o m b:=by
  rintro m hm b ⟨ob,h5,h6⟩;obtain ⟨hi2,e2,ag2,ks2,l2,k1,k2,k3⟩:=SX.1 hm;refine ⟨ob,?_,h6⟩;rw [(NN st.o F0 (FrzLe.refl _) h).2.2.2.2 m ?_]
  ·exact h5
  ·intro hmF;rw [← hF0] at hmF;rcases AV.1 hmF with h7 | h7
   ·obtain ⟨lo3,hi3,own3,e3,ag3,ks3,l3,q1,q2,q3⟩:=k8 h7;obtain ⟨i1,hi1⟩:=List.mem_iff_getElem?.1 k1;obtain ⟨i2,hi2⟩:=List.mem_iff_getElem?.1 q1;rw [← hall,UZ] at k3;rcases Nat.lt_trichotomy i1 i2 with hlt | hlt | hlt
    ·have:=XM hlt hi1 hi2
     omega
    ·subst hlt;rw [hi1] at hi2;simp only [AC,V.row.injEq,vaA] at hi2;obtain ⟨rfl,rfl⟩:=hi2;rw [k2] at q2;simp only [AC,Ob.row.injEq] at q2;obtain ⟨rfl,_⟩:=q2;rw [← hall,UZ,k3] at q3;simp at q3
    ·have:=XM hlt hi2 hi1
     omega
   ·have q1:m∈EY vs:=by
     split at h7
     ·exact h7
     ·cases h7
    rw [← hall,UZ] at k3
    have:=U0 (XI k1)
    have:=U0 q1
    omega
 have hlend:=hk.lend (n:=n) (ob':=.box (N5 cs)) (g':=γ n) hon2 rfl h1.keep (K:=X'.own)
  (fun b hlt hb=>by
   have hLb:=(hXo b).1 hb;rcases hLb with h5 | ⟨m,h6,h7⟩
   ·exact .inl ((hbn2 b).2 ((hbn b).1 h5))
   ·refine .inr ⟨.inr ⟨m,h6,hhb m h6 b h7⟩,?_⟩;exact (h.lt b (hLP b (.inr ⟨m,h6,h7⟩))).2)
  (fun b hb=>by
   have:=(hbx _ b).1 hb
   subst this;exact ⟨CW (h.lt _ ⟨n,_,ho,(hbx _ _).2 rfl⟩).1 hsz,.inl ((hbn2 _).2 rfl)⟩)
  (fun O v x hvx=>by
   refine VRel.cmp ?_ hvx;intro m ob1 hm;refine ⟨by by_cases e:n=m <;> simp [e],?_⟩;rw [EJ] at hm;by_cases e:n=m
   ·subst e;simp only [CQ,AC] at hm;subst hm;exact ⟨_,hon2,by simp [Ob.fits,YV]⟩
   ·rw [BB e] at hm;exact ⟨ob1,hm,ob1.fits_refl⟩)
  (by
   simp only [ObRel];refine ⟨b1,c,T,hgn,hh,?_⟩;have hcl:=hr.length;rw [YX,hlen] at hcl;refine VRels.of_get (by rw [YV,BK,hcl]) (fun j v x hv hx=>?_);rw [YV,CA] at hv;cases hcj:cs[j]? with
   | none=>rw [hcj] at hv; cases hv
   | some u=>
    rw [hcj] at hv;simp only [vav,AC] at hv;subst hv;simp only [VRel])
 obtain ⟨br1,br2,br3⟩:=vK hok h1;have hPf:∀ b,FD γ' (EP out) b→(w.heap.size≤b∧b < w'.heap.size)∨L b:=fun b hb=>by
  obtain ⟨q1,q2⟩:=h1.lt b hb;rcases q2 with q2 | q2
  ·exact .inl ⟨q2,q1⟩
  ·exact .inr ((hXo b).1 q2)
 have hb1P:FD γ' (EP out) b1:=⟨900000,_,hob0,⟨_,hg,rfl⟩⟩;have hLb1:L b1:=.inl ((hbn b1).2 rfl);have hsh:=hlend.shrink (F:=fun b=>(X.far b∨FD γ' (EP out) b)∧b≠b1) (fun b hb=>by
  refine ⟨?_,fun hbb=>hb.2 ((hbx _ b).1 hbb)⟩;rcases hb.1 with h5 | h5
  ·exact .inl (.inl h5)
  ·rcases hPf b h5 with h6 | h6 | ⟨m,h6,h7⟩
   ·exact .inr h6
   ·exact absurd ((hbn b).1 h6) hb.2
   ·exact .inl (.inr ⟨m,h6,hhb m h6 b h7⟩))
 have hfarX:∀ b,X.far b→X'.far b:=fun b hb=>(hXf b).2 ⟨.inr hb,fun hL=>h.nr b (hLP b hL) hb,fun m _ ⟨ob,q1,q2⟩=>h.nr b ⟨m,ob,q1,q2⟩ hb,fun m _ ⟨e,ag,ks,l,q1,q2⟩=>h.nr b ⟨m,_,q1,q2⟩ hb⟩
 have hO1:∀ b,DR ⟨X.own,fun b=>(X.far b∨FD γ' (EP out) b)∧b≠b1⟩ (fun m=>if n=m then γ n else γ m) (((st.ups (EM st.o F0)).ups (L9 (G8 st.o all cs))).up (.set n (.box (N5 cs)))).o b →
   ((IF v||IB out)=true→DR X' γ' (EP out) b):=by
  intro b hb hflag;rcases hb with ⟨m,ob,hm,hbm⟩ | ⟨hb | hb,_⟩
  ·simp only [St.up] at hm;rw [EJ] at hm;by_cases e:n=m
   ·subst e;simp only [CQ,AC] at hm hbm;subst hm
    have:=(hbx _ b).1 hbm
    subst this;exact .inl hb1P
   ·simp only [BB e] at hm hbm;rw [hko] at hm;split at hm
    ·cases hm
    rename_i hmh;obtain ⟨q1,q2⟩:=eJ h F0 (b:=b) (.inl ⟨m,ob,hm,hbm⟩);refine .inr ((hXf b).2 ⟨q1,fun hL=>?_,fun m' hm' hbl=>?_,fun m' hm'=>?_⟩)
    ·rcases hL with h5 | ⟨m2,h5,h6⟩
     ·obtain ⟨ob2,q3,q4⟩:E7 γ (st.ups (EM st.o F0)).o n b:=⟨_,hon,(hbx _ b).2 ((hbn b).1 h5)⟩;exact hz.dis n m ob2 ob b e q3 hm q4 hbm
     ·obtain ⟨ob2,q3,q4⟩:=hhb m2 h5 b h6;exact hz.dis m2 m ob2 ob b (fun e=>hmh (e ▸ h5)) q3 hm q4 hbm
    ·obtain ⟨lo3,hi3,own3,e3,ag3,ks3,l3,p1,p2,p3⟩:=k8 hm';obtain ⟨ob2,q3,q4⟩:=hbl;rw [p2,AC] at q3;subst q3;cases own3 with
     | false=>exact q4.elim
     | true=>exact q2 m' (by rw [← hF0]; exact vaJ _ hm') ⟨e3,ag3,ks3,l3,p2,q4⟩
    ·refine q2 m' ?_;rw [← hF0,hflag];exact vaG _ hm'
  ·exact .inr (hfarX b hb)
  ·exact .inl hb
 have hrows:=iC (B':=B.base) (O1:=fun b=>IB out=true→DR X' γ' (EP out) b) (g:=fun j=>γ' (900001+j)) nm out 0 (by omega) hsh (fun b hb hal=>hO1 b hb (by simp [hal])) (fun j e ag ks l hj=>by
   rw [BL];obtain ⟨q1,q2⟩:=br1 (fun m=>if n=m then γ n else γ m) j e ag ks l hj;refine ⟨q1,fun b hb=>⟨⟨.inr (q2 b hb),?_⟩,?_⟩⟩
   ·rintro rfl;exact br3 j e ag ks l _ hj hb ⟨_,hob0,_,hg,rfl⟩
   ·rcases hPf b (q2 b hb) with h5 | h5
    ·exact .inl (C2 h.keep.size h5.1)
    ·exact (h.lt b (hLP b h5)).2)
  (fun i j e ag ks l e' ag' ks' l' b hij q1 q2 q3 q4=>by
   rw [BL] at q3 q4;exact br2 i j e ag ks l e' ag' ks' l' b hij q1 q2 q3 q4)
 obtain ⟨γ4,F4,r1,r2,r3,r4,r5,r6⟩:=hrows;simp only [C8,BL] at r1 r3 r4 r5 r6;obtain ⟨hγn,hobn,_⟩:=r6 n hnm;have hon4:=hobn cs (by simp only [St.up,EJ,CQ]);simp only [CQ] at hγn;have hset:=r1.set (n:=n) (ob':=.box (GU nm out)) hon4 (by simp only [Ob.fits,YV,BK,YX,hlen]) (Keep.refl _ w') (fun b hb=>hb) (fun hown hcmp=>by
  simp only [ObRel];refine ⟨b1,c,T,by rw [hγn,hgn],hh,yZ hok h1 hr (fun j e ag ks l hj=>?_) (fun hal b _ hb=>hO1 b (r4 b (hown b hb)) (by simp [hal]))⟩;obtain ⟨q1,q2⟩:=r5 j e ag ks l hj;refine ⟨q1,?_⟩;have hjl:j < out.length:=by
   rcases DC j out.length with h' | h'
   ·exact h'
   ·rw [BZ h'] at hj; cases hj
  rw [EJ,BB (by omega)];exact q2)
 have hfin:=hset.shrink (F:=X.far) (fun b hb=>by
  refine r3 b ⟨.inl hb,fun e=>h.nr b (hLP b (e ▸ hLb1)) hb⟩ (fun j e ag ks l hj hbj=>?_);rcases hPf b ((br1 γ j e ag ks l hj).2 b hbj) with h5 | h5
  ·have:=h.fl b hb
   omega
  ·exact h.nr b (hLP b h5) hb)
 have hst:(st.ups (EM st.o F0++(L9 (G8 st.o all cs)++(.set n (.box (N5 cs)) :: (KG nm out++[.set n (.box (GU nm out))]))))) =
   (((((st.ups (EM st.o F0)).ups (L9 (G8 st.o all cs))).up (.set n (.box (N5 cs)))).ups (KG nm out)).up (.set n (.box (GU nm out)))):=by
  rw [LU,LU];simp only [St.ups];rw [LU];rfl
 rw [hst];refine ⟨_,hfin,oM hf (fun hhl b _ hb=>?_) h2⟩;rcases hb with ⟨m,ob,hm,hbm⟩ | hb
 ·simp only [St.up] at hm;rw [EJ] at hm;refine hO1 b (r4 b (.inl ?_)) (by simp [hhl]);by_cases e:n=m
  ·subst e;simp only [CQ,AC] at hm;subst hm;exact ⟨n,_,hon4,hbm⟩
  ·rw [BB e] at hm;exact ⟨m,ob,hm,hbm⟩
 ·exact .inr (hfarX b hb)
end
open Go Go.RowKit
section
variable {B:BT} {nt:Nat} {w0:World} {X:Zone} {γ:Nat→Value} {st st':St} {a:Act} {w:World} {P:Program} {E:Env}
theorem yU (h:Rel B nt w0 X γ st a w) (hg:GX B w0 X) {f:FuncId} {sp:DW} (hS:Snd P B f (fun vs=>(sp vs).get)) {vs:List V} {xs:List Value} (hv:VRels γ st.o w (DR X γ st.o) vs xs) {d:Nat} (hd9:d≠900000) {tks:List (List Kd)} {v:V} {us:List Upd} (he:(UO st.o d tks sp vs).get=some (v,us)) :
  Does P f xs w fun e w'=>∃ x,e = .returned x∧∃ γ',Rel B nt w0 X γ' (st.ups us) a w'∧VRel γ' (st.ups us).o w' (DR X γ' (st.ups us).o) v x:=by
 unfold UO at he;split at he
 ·rename_i hl;obtain ⟨r,out,hsp,he⟩:=R.toT_get he;unfold dP at he;split at he
  ·split at he
   ·rename_i cs;split at he
    ·rename_i hc;simp only [T.get,AC,AU] at he;obtain ⟨rfl,rfl⟩:=he;exact Un h hg hS hv hl hsp d hd9 (AO hc)
    ·simp [T.get] at he
   ·simp only [T.get,AC,AU] at he;obtain ⟨rfl,rfl⟩:=he;exact Up h hg hS hv hl hsp d hd9
   ·rename_i hnb hnv;simp only [T.get,AC,AU] at he;obtain ⟨rfl,rfl⟩:=he;exact Uo h hg hS hv hl hsp hnb hnv
  ·simp [T.get] at he
 ·rename_i n hl;split at he
  ·rename_i cs ho;split at he
   ·rename_i hib;obtain ⟨r,outs,hsp,he⟩:=R.toT_get he;unfold dO at he;split at he
    ·split at he
     ·rename_i hc;simp only [T.get,AC,AU] at he;obtain ⟨rfl,rfl⟩:=he;simp only [AH,vao] at hc;refine Um h hg hS hv hl ho rfl hsp hib (F9.1 hc.1) (hc.2.1.imp (fun h=>AO h) (fun h=>AO h)) (AO hc.2.2)
     ·simp [T.get] at he
    ·simp [T.get] at he
   ·simp [T.get] at he
  ·rename_i s ho;split at he
   ·rename_i hib;obtain ⟨r,outs,hsp,he⟩:=R.toT_get he;unfold dN at he;split at he
    ·simp only [T.get,AC,AU] at he;obtain ⟨rfl,rfl⟩:=he;exact Ul h hg hS hv hl ho hsp hib
    ·simp [T.get] at he
   ·simp [T.get] at he
  ·simp [T.get] at he
 ·simp [T.get] at he
def MT (l:LI):List Value:=l.map fun x=>Value.int .i64 x.toInt
def yY:V→Value
 | .int k n=>.int k n
 | _=>undef
def U8 (w:World) (v:Value):List V→List Value→Prop
 | [],[]=>True
 | [.clo f [.bor cs]],[y]=>∃ b c T,y = .func (.func f) #[] #[.pointer (some ⟨b,0,none⟩)]∧w.heap[b]?=some (.cells c T (0,0))∧c.toList=cs.map yY∧v.ownBlock≠some b
 | _,_=>False
def R5 (P:Program) (f:FuncId) (p:Ip):Prop:=
 ∀ (w:World) (v:Value) (l l':LI) (rs:List V) (ys:List Value),w.ownsRow 0 p.e 1 v l.length (MT l)→(∀ x∈l,AB.min≤x.toInt∧x.toInt≤AB.max)→l.length≤strMax →
  U8 w v rs ys→p.g rs l=some l' →
  Does P f (v :: ys) w fun e w'=>∃ x,e = .returned x∧w.grownBy w' v.ownBlock∧(∀ x∈l',AB.min≤x.toInt∧x.toInt≤AB.max) ∧
   (p.ret=true→w'.ownsRow 0 p.e 1 x l'.length (MT l')∧∀ b,x.ownBlock=some b→v.ownBlock=some b∨w.heap.size≤b) ∧
   (p.ret=false→w'.ownsRow 0 p.e 1 v l'.length (MT l'))
theorem Ux {w:World} {O:Nat→Prop} {l:LI} {xs:List Value} (hl:xs.length=l.length*1)
  (h:∀ i y,l[i]?=some y→Kd.RelAll w O [.z] (GD false y) 0 (fun j u=>xs[i*1+j]?=some u)):xs=MT l∧∀ x∈l,AB.min≤x.toInt∧x.toInt≤AB.max:=by
 have one:∀ (i:Nat) (y:IV),l[i]?=some y→xs[i]?=some (.int .i64 y.toInt)∧AB.min≤y.toInt∧y.toInt≤AB.max:=fun i y hy=>by
  have:=h i y hy
  simp only [Kd.RelAll,GD,B7,Nat.mul_one,C8] at this;obtain ⟨u,hu,hk⟩:=this;simp only [Kd.Rel] at hk;rw [hu,hk.1];exact ⟨rfl,hk.2⟩
 constructor
 ·apply List.ext_getElem?;intro i;unfold MT;rw [CA];cases hy:l[i]? with
  | none=>
   rw [List.getElem?_eq_none_iff] at hy;rw [BZ (by omega)];rfl
  | some y=>rw [(one i y hy).1]; rfl
 ·intro x hx;obtain ⟨i,hi⟩:=List.getElem?_of_mem hx;exact (one i x hi).2
theorem oY {w:World} {O:Nat→Prop} {l:LI} (h:∀ x∈l,AB.min≤x.toInt∧x.toInt≤AB.max) (i:Nat) (y:IV) (hy:l[i]?=some y) :
  Kd.RelAll w O [.z] (GD false y) 0 (fun j u=>(MT l)[i*1+j]?=some u):=by
 simp only [Kd.RelAll,GD,B7,Nat.mul_one,C8];refine ⟨.int .i64 y.toInt,?_,?_⟩
 ·unfold MT;rw [CA,hy];rfl
 ·simp only [Kd.Rel];exact ⟨trivial,h y (vaf hy)⟩
theorem Bo {γ:Nat→Value} {o:Store} {w:World} {O:Nat→Prop}:∀ {cs:List V} {xs:List Value},jL cs=true→VRels γ o w O cs xs→xs=cs.map yY
 | [],[],_,_=>rfl
 | [],_ :: _,_,h=>by simp only [VRels] at h
 | v :: cs,[],h,h'=>by simp only [VRels] at h'
 | v :: cs,x :: xs,h,h'=>by
  simp only [VRels] at h';unfold jL at h;split at h
  ·rename_i h0; cases h0
  ·rename_i n r h0;injection h0 with h1 h2
   subst h1 h2;have h3:=h'.1;simp only [VRel] at h3;rw [A0,← Bo h h'.2,h3.1];rfl
  ·cases h
theorem Hu (h:Rel B nt w0 X γ st a w) {v:Value} (hv:∀ m cs b,DO st.o m=some (.box cs)→FE (γ m) (.box cs) b→v.ownBlock≠some b) {rest rs:List V} {ys:List Value} (hr:VRels γ st.o w (DR X γ st.o) rest ys) (he:XB st.o rest=some rs):U8 w v rs ys:=by
 unfold XB at he;split at he
 ·simp only [AC] at he;subst he;cases ys with
  | nil=>trivial
  | cons y ys=>simp only [VRels] at hr
 ·rename_i f m i c;split at he
  ·rename_i cs hic ho;split at he
   ·rename_i hi;simp only [AC] at he;subst he;simp only [AH] at hic;obtain rfl:=F9.1 hic.1;obtain rfl:=F9.1 hic.2
    match ys,hr with
    | [y],hr=>
     simp only [VRels,B7] at hr;simp only [VRel] at hr;obtain ⟨cs',rfl,hc⟩:=hr;obtain ⟨b,c,T,hg,hh,hcs⟩:=h.ob m _ ho;have hc1:∃ x0,cs' = #[x0]∧x0 = .pointer (some ⟨b,0,none⟩):=by
      obtain ⟨l⟩:=cs'
      match l,hc with
      | [x0],hc=>
       simp only [VRels,B7,VRel,ho] at hc;obtain ⟨_,b',hb',rfl⟩:=hc;rw [hg] at hb';simp only [C0,AC,DH,B7] at hb';subst hb';exact ⟨_,rfl,rfl⟩
      | [],hc=>simp only [VRels] at hc
      | _ :: _ :: _,hc=>simp only [VRels,and_false] at hc
     obtain ⟨x0,rfl,rfl⟩:=hc1;exact ⟨b,c,T,rfl,hh,Bo hi hcs,hv m cs b ho ⟨_,hg,rfl⟩⟩
    | [],hr=>simp only [VRels] at hr
    | _ :: _ :: _,hr=>simp only [VRels,and_false] at hr
   ·cases he
  ·cases he
 ·cases he
theorem zb3 (h:Rel B nt w0 X γ st a w) {f:FuncId} {p:Ip} (hI:R5 P f p) {vs:List V} {xs:List Value} (hv:VRels γ st.o w (DR X γ st.o) vs xs) {d:Option Nat} (hd9:∀ d',d=some d'→d'≠900000) {v:V} {us:List Upd} (he:(ZK st.o d p vs).get=some (v,us)) :
  Does P f xs w fun e w'=>∃ x,e = .returned x∧∃ γ',Rel B nt w0 X γ' (st.ups us) a w'∧VRel γ' (st.ups us).o w' (DR X γ' (st.ups us).o) v x:=by
 unfold ZK at he;split at he
 ·rename_i n lo hi rest;cases xs with
  | nil=>simp only [VRels] at hv
  | cons sv ys=>
  simp only [VRels] at hv;obtain ⟨hs,hrest⟩:=hv;split at he
  ·rename_i e l rs hob hra;split at he
   ·rename_i hc;simp only [AH] at hc;obtain ⟨hc1,hc3,hc4⟩:=hc;have he2:=T.get_when he;clear he;obtain ⟨hc2,he⟩:=he2;obtain rfl:=F9.1 hc1;obtain rfl:=F9.1 hc2;obtain rfl:=F9.1 hc3;have he6:p.e < 1000000:=AO hc4;simp only [VRel,hob] at hs;obtain ⟨hlen,q,len,cap,q',hg,hvv,_,h2,h3,hm,_,h5⟩:=hs;rw [h5 rfl,va2,va2] at hvv;have hor:=h.ob n _ hob;simp only [ObRel] at hor;obtain ⟨hkp,hstr,xs,hx,hrx⟩:=hor;have hx':=hx.plain he6;have hlen':len=l.length:=by
     rcases hx'.2 with ⟨h6,h7⟩ | ⟨g,cap',cur,h6,_⟩
     ·rw [hg] at h6; simp only [CI] at h6; omega
     ·rw [hg] at h6; simp only [CI] at h6; exact h6.2.1
    subst hlen';have hsv:sv=γ n:=by rw [hvv,hg]
    subst hsv;obtain ⟨rfl,hrng⟩:=Ux hx.1 hrx;split at he
    ·rename_i l' hgl;have hrok:=Hu h (v:=γ n) (fun m cs b hm hb hne=>by
      have hnm:n≠m:=fun e=>by subst e; rw [hob] at hm; cases hm
      exact h.dis n m _ _ b hnm hob hm (by simp only [FE]; exact hne) hb) hrest hra
     have hdoes:=hI w (γ n) l l' rs ys hx' hrng hstr hrok hgl;split at he
     ·rename_i d' hret;obtain ⟨hk,he⟩:=T.get_when he;simp only [T.get,AC,AU] at he;obtain ⟨rfl,rfl⟩:=he;have hk:=AO hk;refine hdoes.mono ?_;rintro e w' ⟨x,rfl,hgrow,hrng',hr1,_⟩;obtain ⟨hown,hblk⟩:=hr1 hret;refine ⟨x,rfl,fun m=>if d'=m then x else γ m,?_,?_⟩
      ·refine Rel.new h [n] d' (hd9 d' rfl) (.row true p.e false [.z] l') x (Keep.grown hgrow (fun g hg'=>⟨n,by simp,_,hob,hg'⟩)) (fun b hb=>⟨(hown.lt b hb).2,?_⟩) (fun O' hO hcmp=>?_)
       ·rcases hblk b hb with h1 | h1
        ·exact .inr ⟨n,by simp,_,hob,h1⟩
        ·exact .inl h1
       ·simp only [ObRel];exact ⟨by simp,by omega,MT l',OwnRow.of hown he6,fun i y hy=>oY hrng' i y hy⟩
      ·simp only [St.ups,St.up,VRel,EJ,CQ];refine ⟨AX _,?_⟩;rcases hown.2 with ⟨h6,h7⟩ | ⟨g,cap',cur,h6,_,_,h8,h9,_⟩
       ·refine ⟨none,0,0,none,h6,?_,B4 _,by omega,AX _,by simp [maxLen],.inr rfl,fun _=>rfl⟩;rw [h6,h7]
       ·refine ⟨some ⟨g,0,none⟩,l'.length,cap',some ⟨g,0,none⟩,h6,by rw [h6]; simp,B4 _,AX _,h8,h9,.inl ?_,fun _=>rfl⟩;simp [Addr.add]
     ·rename_i hret;obtain ⟨hk,he⟩:=T.get_when he;simp only [T.get,AC,AU] at he;obtain ⟨rfl,rfl⟩:=he;have hk:=F9.1 hk;refine hdoes.mono ?_;rintro e w' ⟨x,rfl,hgrow,hrng',_,hr2⟩;have hown:=hr2 hret;refine ⟨x,rfl,γ,?_,by simp only [VRel]⟩;refine Rel.set h (ob':=.row true p.e false [.z] l') hob ⟨rfl,hk.symm⟩ (Keep.grown hgrow (fun g hg'=>hg')) (fun b hb=>hb) (fun hO hcmp=>?_);simp only [ObRel];exact ⟨by simp,by omega,MT l',OwnRow.of hown he6,fun i y hy=>oY hrng' i y hy⟩
     ·simp [T.get] at he
    ·simp [T.get] at he
   ·simp [T.get] at he
  ·simp [T.get] at he
 ·rename_i rest;cases xs with
  | nil=>simp only [VRels] at hv
  | cons sv ys=>
  simp only [VRels] at hv;obtain ⟨hs,hrest⟩:=hv;simp only [VRel] at hs;subst hs;split at he
  ·rename_i rs hra;split at he
   ·rename_i hgl;have hrok:=Hu h (v:=.slice none 0 0) (fun m cs b _ _ hne=>by simp [CD] at hne) hrest hra;have hdoes:=hI w (.slice none 0 0) [] [] rs ys (World.ownsRow_nil w 0 p.e _) (fun x hx=>by cases hx) (by simp) hrok hgl;split at he
    ·rename_i d' hret;obtain ⟨hk,he⟩:=T.get_when he;simp only [T.get,AC,AU] at he;obtain ⟨rfl,rfl⟩:=he;have he6:p.e < 1000000:=AO hk;refine hdoes.mono ?_;rintro e w' ⟨x,rfl,hgrow,hrng',hr1,_⟩;obtain ⟨hown,hblk⟩:=hr1 hret;refine ⟨x,rfl,fun m=>if d'=m then x else γ m,?_,?_⟩
     ·refine Rel.new h [] d' (hd9 d' rfl) (.row true p.e false [.z] []) x (Keep.grown hgrow (fun g hg'=>by simp [CD] at hg')) (fun b hb=>⟨(hown.lt b hb).2,?_⟩) (fun O' hO hcmp=>?_)
      ·rcases hblk b hb with h1 | h1
       ·simp [CD] at h1
       ·exact .inl h1
      ·simp only [ObRel];exact ⟨by simp,by simp,MT [],OwnRow.of hown he6,fun i y hy=>oY hrng' i y hy⟩
     ·simp only [St.ups,St.up,VRel,EJ,CQ];refine ⟨AX _,?_⟩;rcases hown.2 with ⟨h6,h7⟩ | ⟨g,cap',cur,h6,_,_,h8,h9,_⟩
      ·refine ⟨none,0,0,none,h6,?_,B4 _,by omega,AX _,by simp [maxLen],.inr rfl,fun _=>rfl⟩;rw [h6]
      ·refine ⟨some ⟨g,0,none⟩,0,cap',some ⟨g,0,none⟩,h6,by rw [h6]; simp,B4 _,AX _,B4 _,h9,.inl ?_,fun _=>rfl⟩;simp [Addr.add]
    ·rename_i hret;simp only [T.get,AC,AU] at he;obtain ⟨rfl,rfl⟩:=he;refine hdoes.mono ?_;rintro e w' ⟨x,rfl,hgrow,_,_,_⟩;refine ⟨x,rfl,γ,Rel.world h (Keep.grown hgrow (fun g hg'=>by simp [CD] at hg')),by simp only [VRel]⟩
    ·simp [T.get] at he
   ·simp [T.get] at he
  ·simp [T.get] at he
 ·simp [T.get] at he
def SpOK (P:Program) (B:BT) (E:Env) (w0:World) (X:Zone):Prop:=GX B w0 X∧(∀ f sp,lk E.sp f=some sp→Snd P B f (fun vs=>(sp vs).get))∧∀ f p,lk E.ip f=some p→R5 P f p
theorem SpOK.get (h:SpOK P B E w0 X) (f:FuncId):Snd P B f (fun vs=>(E6 (fun _=>R.no) E.sp f vs).get):=by
 rw [ZQ];cases hf:lk E.sp f with
 | none=>
  intro w X γ vs xs r out hsp;simp [R.get] at hsp
 | some sp=>exact h.2.1 f sp hf
theorem kJ (h:Rel B nt w0 X γ st a w):∀ l:List Operand,VRels γ st.o w (DR X γ st.o) (J6 (opd st) l) (l.map a.eval)
 | []=>by simp only [J6,CB,VRels]
 | x :: r=>by
  simp only [J6,A0,VRels];exact ⟨GG h x,kJ h r⟩
theorem qL (o:Oper) {f:FuncId} {xs:List Value} {v:V} {us:List Upd} (hr:(execOp a.eval o).run P w=(callFunc f xs.toArray).run P w)
  (hd:Does P f xs w fun e w'=>∃ x,e = .returned x∧∃ γ',Rel B nt w0 X γ' (st.ups us) a w'∧VRel γ' (st.ups us).o w' (DR X γ' (st.ups us).o) v x):OpWp P B nt w0 X a w o st v us:=by
 intro K Q hK;unfold Oper.wp;rw [hr];unfold Does at hd;split at hd
 ·rename_i g args w' hc;rw [hc,Oper.upon_enter];refine hd.mono ?_;rintro e w'' ⟨x,rfl,γ',h1,h2⟩;exact hK γ' x w'' h1 h2
 ·rename_i x w' hc;rw [hc,Oper.upon_value];obtain ⟨x',he,γ',h1,h2⟩:=hd;cases he;exact hK γ' x w' h1 h2
 ·rename_i row args w' hc;rw [hc,Oper.upon_row];refine Rows.mono hd ?_;rintro x w'' ⟨x',he,γ',h1,h2⟩;cases he;exact hK γ' x w'' h1 h2
 ·exact hd.elim
theorem ze0 (hT:TiOK P B E) (hSp:SpOK P B E w0 X) (h:Rel B nt w0 X γ st a w) (o:Oper) (hd9:∀ d,o.dst=some d→d≠900000) {c:Call} (ho:o.op = .call c) {v:V} {us:List Upd}
  (he:(EH E st.o (opd st) o.dst o.op).get=some (v,us)):OpWp P B nt w0 X a w o st v us:=by
 obtain ⟨callee,args,ats⟩:=c;cases callee with
 | builtin b=>exact zeZ hT h o hd9 ho he
 | invoke recv name=>
  rw [ho] at he;simp only [EH,SP] at he;simp [T.get] at he
 | value x=>
  rw [ho] at he;obtain ⟨args⟩:=args;have clo:∀ (x:Operand),o.op = .call ⟨.value x,⟨args⟩,ats⟩→∀ d,o.dst=some d→(match opd st x with
    | .clo f caps=>match W0 caps with
     | true=>UO st.o d (lS E ats.toList) (E6 (fun _=>R.no) E.sp f) (J6 (opd st) args++caps)
     | false=>.no
    | _=>.no).get=some (v,us)→OpWp P B nt w0 X a w o st v us:=by
   intro x ho d hd he;split at he
   ·rename_i f caps hclo;split at he
    case h_2=>simp [T.get] at he
    have hx:=GG h x;rw [hclo] at hx;simp only [VRel] at hx;obtain ⟨cs,hx1,hx2⟩:=hx;have hrel:=yU h hSp.1 (hSp.get f) ((kJ h args).append hx2) (hd9 d hd) he;refine qL o (xs:=args.map a.eval++cs.toList) ?_ hrel;obtain ⟨dst,op,type,pos,after,guard⟩:=o;simp only at ho;subst ho
    have:execOp a.eval { dst,op:=.call { callee:=.value x,args:=⟨args⟩,argTypes:=ats },type,pos,after,guard }=(do let d ← Deferred.ofValue (a.eval x) ((⟨args⟩:Array Operand).map a.eval); invoke d.target d.args):=rfl
    rw [this,hx1];have hla:(args.map a.eval).toArray++cs=(args.map a.eval++cs.toList).toArray:=by
     apply Array.ext';simp
    simp [Deferred.ofValue,invoke,hla]
   ·simp [T.get] at he
  cases x with
  | func f=>
   simp only [EH,SP,m8] at he;have hrun:∀ {f:Nat},o.op = .call ⟨.value (.func f),⟨args⟩,ats⟩→(execOp a.eval o).run P w=(callFunc f (args.map a.eval).toArray).run P w:=fun {f} ho=>by
    obtain ⟨dst,op,type,pos,after,guard⟩:=o;simp only at ho;subst ho
    have:execOp a.eval { dst,op:=.call { callee:=.value (.func f),args:=⟨args⟩,argTypes:=ats },type,pos,after,guard }=callFunc f (#[]++(⟨args⟩:Array Operand).map a.eval++#[]):=rfl
    rw [this];simp
   split at he
   ·rename_i p hp;exact qL o (xs:=args.map a.eval) (hrun ho) (zb3 h (hSp.2.2 f p hp) (kJ h args) hd9 he)
   ·split at he
    ·rename_i d hd;exact qL o (xs:=args.map a.eval) (hrun ho) (yU h hSp.1 (hSp.get f) (kJ h args) (hd9 d hd) he)
    ·simp [T.get] at he
  | tmp t=>
   simp only [EH,SP] at he;cases hd:o.dst with
   | none=>rw [hd] at he; simp [T.get] at he
   | some d=>rw [hd] at he; exact clo _ ho d hd he
  | const t=>
   simp only [EH,SP] at he;cases hd:o.dst with
   | none=>rw [hd] at he; simp [T.get] at he
   | some d=>rw [hd] at he; exact clo _ ho d hd he
  | global t=>
   simp only [EH,SP] at he;cases hd:o.dst with
   | none=>rw [hd] at he; simp [T.get] at he
   | some d=>rw [hd] at he; exact clo _ ho d hd he
theorem ze2 (hT:TiOK P B E) (h:Rel B nt w0 X γ st a w) (o:Oper) (hd9:∀ d,o.dst=some d→d≠900000) {s t:Nat} {x:Operand} (ho:o.op = .convert s t x) {v:V} {u:Upd} {us:List Upd}
  (he:(EH E st.o (opd st) o.dst o.op).get=some (v,u :: us)):OpWp P B nt w0 X a w o st v (u :: us):=by
 have hx:=GG h x;rw [ho] at he;simp only [EH] at he;split at he
 ·split at he
  ·simp [T.get] at he
  ·simp [T.get] at he
 ·rename_i b hop;rw [hop] at hx;simp only [VRel] at hx;split at he
  ·simp [T.get] at he
  ·rename_i e k1 kss hd hks hkss;split at he
   ·rename_i d hdst hde hkse;simp only [T.get,AC,AU,vau] at he;obtain ⟨rfl,rfl,rfl⟩:=he;have hu1:=VC hT hd;obtain ⟨d',hd1',_,_⟩:=(hT.kinds (t:=s) (by rw [hkss]; simp)).und;obtain ⟨d'',hd1'',_,hd2''⟩:=(hT.kinds (t:=e) (by rw [hkse]; simp)).und;rw [hde] at hd2'';obtain rfl:=hd2''.1 _ hkse;have hrun:(execOp a.eval o).run P w = .ok (.value (.slice (some ⟨w.heap.size,0,none⟩) b.size (grownCap w b.size 0 e))) (vaM w e b):=by
     unfold execOp;simp only [ho,hx.1,CN,Lib.run_convert_string_bytes w s t e b hd1' hu1 hd1'',CC,CO]
    have hsm:=lL;have hcg:=grownCap_ge w b.size 0 e;have hcm:grownCap w b.size 0 e≤maxLen:=grownCap_le_maxLen w b.size 0 e (C2 hx.2 hsm);have hcs:(Lib.bytesCells w e b).size=grownCap w b.size 0 e:=by
     have:b.data.size=b.size:=rfl
     simp only [Lib.bytesCells,Array.size_append,Array.size_map,Array.size_replicate,this];omega
    have hkp:Keep (fun _=>False) w (vaM w e b):=by
     refine ⟨?_,?_,?_,by rw [Lib.bytesWorld_size]; omega,fun j hj _=>Lib.bytesWorld_at_old w e b j hj⟩
     ·simp [vaM,World.freeze]; rfl
     ·simp [vaM,World.freeze]
     ·simp [vaM,World.freeze]; rfl
    have hn:=Rel.new h [] d (hd9 d hdst) (.row true (e+1000000) false [.int .u8] (b.data.toList.map fun b=>.int (b.toNat:Int))) (.slice (some ⟨w.heap.size,0,none⟩) b.size (grownCap w b.size 0 e)) (w':=vaM w e b) (hkp.mono (fun _ _ h=>h.elim))
     (by
      intro b1 hb;simp only [FE,CD,AC] at hb;subst hb;rw [Lib.bytesWorld_size];exact ⟨by omega,.inl (AX _)⟩)
     (by
      intro O' hO hcmp;simp only [ObRel];have hln:(b.data.toList.map fun b=>IV.int (b.toNat:Int)).length=b.size:=by simp
      refine ⟨by simp,by rw [hln]; exact hx.2,b.data.toList.map fun b=>.int .u8 b.toNat,?_,fun i y hy=>?_⟩
      ·rw [hln];refine ⟨by simp,.inr ⟨w.heap.size,grownCap w b.size 0 e,_,_,_,rfl,Lib.bytesWorld_at_new w e b,hcg,hcm,by rw [hcs]; simp,?_,.inr ⟨by omega,AX _⟩⟩⟩;simp only [Lib.bytesCells,vah,AM,A7];rw [List.take_append_of_le_length (by simp)];rw [CV (by simp)];simp
      ·rw [CA] at hy;cases hbi:b.data.toList[i]? with
       | none=>rw [hbi] at hy; cases hy
       | some c=>
        rw [hbi] at hy;simp only [vav,AC] at hy;subst hy;simp only [Kd.RelAll,GD,Kd.Rel,IV.toInt,AM,A7];refine ⟨⟨.int .u8 c.toNat,by simp [hbi],rfl,?_,?_⟩,trivial⟩
        ·simp [IntKind.min,vai]
        ·have:=c.toNat_lt
         simp [IntKind.max,vai,AR];omega)
    refine OpWp.value hrun hn ?_;simp only [St.ups,VRel,GW,CQ];refine ⟨by simp,some ⟨w.heap.size,0,none⟩,b.size,grownCap w b.size 0 e,some ⟨w.heap.size,0,none⟩,rfl,by simp,B4 _,AX _,hcg,hcm,.inl ?_,fun _=>rfl⟩;simp [Addr.add]
   ·simp [T.get] at he
  ·simp [T.get] at he
 ·split at he
  ·split at he
   ·simp [T.get] at he
   ·simp [T.get] at he
  ·simp [T.get] at he
def BldOK (P:Program) (B:BT) (E:Env):Prop:=(E.tyd B.T).d = .bld→∃ i,P.info? B.T=some i∧i.zero=some (.agg #[.pointer none,.slice none 0 0])
theorem Fd (hT:TiOK P B E) (hE:∀ t,t∈E.eqs→EqSnd P t (E.tyd t).ks) (hSp:SpOK P B E w0 X) (hB:BldOK P B E) (h:Rel B nt w0 X γ st a w) (o:Oper) (hd9:∀ d,o.dst=some d→d≠900000) {v:V} {us:List Upd}
  (he:(EH E st.o (opd st) o.dst o.op).get=some (v,us)):OpWp P B nt w0 X a w o st v us:=by
 cases ho:o.op with
 | move x=>exact Fc h o (.inl ho) he
 | assign x=>exact Fc h o (.inr ho) he
 | pick c x y=>exact zfc h o ho he
 | alloc t=>exact zeU hT h o hd9 ho hB he
 | box t x=>exact zeW h o hd9 ho he
 | build t parts=>exact zeX hT h o ho he
 | buildSlice t len parts=>exact zeY hT h o hd9 ho he
 | load t x=>exact ze8 hT h o ho he
 | store t p x=>exact zfe hT h o ho he
 | nilCheck x=>exact zfb h o ho he
 | binOp op t x y t'=>exact zeV hT hE h o ho he
 | unOp op t x=>exact zff h o ho he
 | convert s t x=>
  cases us with
  | nil=>exact ze1 hT h o ho he
  | cons u us=>exact ze2 hT h o hd9 ho he
 | makeFunc f first caps=>exact ze9 h o ho he
 | makeSlice t n m=>exact zfa hT h o hd9 ho he
 | slice t x lo hi mx=>exact zfd hT h o ho he
 | fieldAddr s x f=>exact ze5 hT h o ho he
 | field t x f=>exact ze4 hT h o ho he
 | indexAddr t x ix=>exact ze7 hT h o ho he
 | index t x ix=>exact ze6 hT h o ho he
 | extract x i=>exact ze3 h o ho he
 | call c=>exact ze0 hT hSp h o hd9 ho he
 | _=>rw [ho] at he; simp [EH,T.get] at he
end
open Go Go.RowKit
theorem f7:∀ {l:List V} {n:Nat},n∈FL l→n∈FA.go l
 | v :: r,n,h=>by
  simp only [FL,AV] at h;rcases h with h | h
  ·cases v <;> simp only [EX] at h <;> first | (cases h; done) | (simp only [FA.go,AV]; exact .inl h)
  ·cases v <;> simp only [FA.go,AV] <;> exact .inr (f7 h)
def Agree (o o':Store) (l:List Nat):Prop:=∀ n∈l,DO o' n=DO o n
theorem Agree.left {o o':Store} {l l':List Nat} (h:Agree o o' (l++l')):Agree o o' l:=fun n hn=>h n (vaJ _ hn)
theorem Agree.right {o o':Store} {l l':List Nat} (h:Agree o o' (l++l')):Agree o o' l':=fun n hn=>h n (vaG _ hn)
theorem Ex {o o':Store} {v:V} (h:Agree o o' (EX v)):LK o' v=LK o v:=by
 cases v <;> simp only [LK]
 all_goals rw [h _ (by simp [EX])]
theorem qF {o o':Store} {v:V} (h:Agree o o' (EX v)):RM o' v=RM o v:=by
 cases v <;> simp only [RM] <;> exact Ex h
theorem qD {o o':Store}:∀ {l:List V},Agree o o' (FL l)→S4 o' l=S4 o l
 | [],_=>rfl
 | v :: r,h=>by simp only [S4,Ex h.left,qD (l:=r) h.right]
theorem zW {o o':Store} {v:V} (h:Agree o o' (EX v)):SV o' v=SV o v:=by
 cases v <;> simp only [SV]
 rw [h _ (by simp [EX])]
theorem Jc {o o':Store} {v:V} (h:Agree o o' (EX v)):QD o' v=QD o v:=by
 cases v <;> simp only [QD]
 rw [h _ (by simp [EX])]
theorem zch {o o':Store} {k:Kd} {v:V} (h:Agree o o' (EX v)):RC o' k v=RC o k v:=by
 cases k <;> cases v <;> simp only [RC]
 rw [h _ (by simp [EX])]
theorem fA {o o':Store}:∀ {ks:List Kd} {l:List V},Agree o o' (FL l)→KL o' ks l=KL o ks l
 | [],[],_=>rfl
 | [],_ :: _,_=>rfl
 | _ :: _,[],_=>rfl
 | k :: ks,v :: r,h=>by simp only [KL,zch h.left,fA (l:=r) h.right]
theorem RP {v:V} {n:Nat} (h:n∈EX v):n∈FA v:=by
 cases v <;> simp only [EX] at h <;> first | exact h | cases h
theorem We {o o':Store} {ag:Bool} {ks:List Kd} {v:V} (h:Agree o o' (FA v)):PX o' ag ks v=PX o ag ks v:=by
 cases ag with
 | false=>
  simp only [PX];rw [fA (o:=o) (o':=o') (fun n hn=>h n (RP (by simpa [FL] using hn)))]
 | true=>
  cases v <;> simp only [PX]
  rw [fA h]
theorem Hi:∀ (a b:List V),FL (a++b)=FL a++FL b
 | [],b=>rfl
 | v :: r,b=>by simp [FL,Hi r b]
theorem Hj {l:List V} {v:V} {n:Nat} (hv:v∈l) (hn:n∈EX v):n∈FL l:=by
 induction l with
 | nil=>cases hv
 | cons u r ih=>
  simp only [FL,AV];rcases AP.1 hv with h | h
  ·subst h; exact .inl hn
  ·exact .inr (ih h)
theorem rK {l l':List V} (h:∀ v∈l,v∈l') {n:Nat} (hn:n∈FL l):n∈FL l':=by
 induction l with
 | nil=>simp [FL] at hn
 | cons u r ih=>
  simp only [FL,AV] at hn;rcases hn with hn | hn
  ·exact Hj (h u (AN ..)) hn
  ·exact ih (fun v hv=>h v (AW _ hv)) hn
theorem iQ {o o':Store} {ag:Bool} {ks:List Kd} {sz:Nat}:∀ {n:Nat} {cs:List V},Agree o o' (FL cs)→NG ag ks o' cs sz n=NG ag ks o cs sz n
 | 0,cs,_=>rfl
 | n+1,cs,h=>by
  simp only [NG];rw [iQ (n:=n) (cs:=MV cs sz) (fun m hm=>h m (by rw [Q6] at hm; exact rK (fun v hv=>va6 hv) hm))];cases ag with
  | true=>
   rw [We];intro m hm;simp only [FA,X6] at hm;exact h m (rK (fun v hv=>vaH hv) hm)
  | false=>
   simp only [PX];rw [fA (o:=o) (o':=o')];intro m hm;rw [fL] at hm;cases hc:cs[0]? with
   | none=>rw [hc] at hm; simp [FL,EX] at hm
   | some u=>
    rw [hc] at hm;simp only [vaj,FL,C9] at hm;exact h m (Hj (vaf hc) hm)
theorem XW {l:List V} {n:Nat} (h:n∈EZ l):n∈FL l:=by
 induction l with
 | nil=>simp [EZ] at h
 | cons v r ih=>
  simp only [FL,AV];cases v <;> simp only [EZ,AP] at h <;> first | exact .inr (ih h) | skip
  rcases h with h | h
  ·exact .inl (by simp [EX,h])
  ·exact .inr (ih h)
theorem eH {o o':Store}:∀ {l:List Nat},Agree o o' l→EM o' l=EM o l
 | [],_=>rfl
 | n :: r,h=>by
  simp only [EM];rw [h n (AN ..),eH (l:=r) (fun m hm=>h m (AW _ hm))]
theorem oF {o o':Store} {place:Nat→Option (Nat × Nat)}:∀ {cs:List V} {l:List (Nat × V)},(∀ i v,(i,v)∈l→Agree o o' (FA v))→L7 o' place cs l=L7 o place cs l
 | cs,[],_=>rfl
 | cs,(i,v) :: r,h=>by
  simp only [L7];have h1:RM o' v=RM o v:=qF (fun n hn=>h i v (AN ..) n (RP hn));rw [h1];split
  ·split
   ·exact oF (fun i v hv=>h i v (AW _ hv))
   ·rfl
  ·rfl
theorem iG {o o':Store} {d e:Nat} {ag:Bool} {ks:List Kd} {bytes:Nat} {s:V} {l:LI} (h:Agree o o' (EX s)):OV o' d e ag ks bytes s l=OV o d e ag ks bytes s l:=by
 cases s <;> simp only [OV]
 rw [h _ (by simp [EX])]
theorem W5 {o:Store} {n m:Nat} {cs:List V}:∀ {l:List Nat},n∈l→DO o n=some (.box cs)→m∈FL cs→m∈K1 o l
 | x :: r,hn,ho,hm=>by
  simp only [K1];rcases AP.1 hn with h | h
  ·subst h;rw [ho];exact vaJ _ hm
  ·have:=W5 h ho hm
   split
   ·exact vaG _ this
   ·exact this
theorem Sx {o o':Store} {d et:Nat} {e:TI} {tk:List Kd} {s x:V} (h:Agree o o' (EX s)):YW o' d et e tk s x=YW o d et e tk s x:=by
 unfold YW;simp only [iG h]
theorem Sv {o o':Store} {d et:Nat} {e:TI} {s x:V} (h:Agree o o' (EX s)) (h':Agree o o' (EX x++K1 o (EX x))):WT o' d et e s x=WT o d et e s x:=by
 have gen:(match SV o' x,QD o' x with
   | some l,some (ag,ks)=>match JC (.list e.agg e.ks) (.list ag ks) with
    | true=>OV o' d et e.agg e.ks e.bytes s l
    | false=>.no
   | _,_=>.no)=(match SV o x,QD o x with
   | some l,some (ag,ks)=>match JC (.list e.agg e.ks) (.list ag ks) with
    | true=>OV o d et e.agg e.ks e.bytes s l
    | false=>.no
   | _,_=>.no):=by
  simp only [zW h'.left,Jc h'.left,iG h]
 cases x
 case bview n c cap sz len=>
  simp only [WT];rw [h' n (by simp [EX])];split
  ·rename_i cs ho;simp only [iG h];split
   ·congr 1
    funext m
    rw [iQ (o:=o) (o':=o')];intro k hk;rw [Q6] at hk;exact h' k (vaG _ (W5 (by simp [EX]) ho (rK (fun v hv=>va6 hv) hk)))
   ·rfl
  ·rfl
 case zs=>simp only [WT,iG h]
 all_goals exact gen
theorem iH {o o':Store} {bs:List V} {tk:Option Kd} {v:V} (h:Agree o o' (EX v)):EV o' bs tk v=EV o bs tk v:=by
 cases v <;> simp only [EV]
 all_goals rw [h _ (by simp [EX])]
theorem pL {o o':Store} {bs:List V}:∀ {l:List V} {ks:List Kd},Agree o o' (FL l)→MC (fun k v=>J7 (EV o' bs k v)) ks l=MC (fun k v=>J7 (EV o bs k v)) ks l
 | [],ks,_=>by cases ks <;> rfl
 | v :: l,[],h=>by simp only [MC,iH h.left,pL (l:=l) h.right]
 | v :: l,k :: ks,h=>by simp only [MC,iH h.left,pL (l:=l) h.right]
theorem De {o o':Store} {bs:List V} {tk:Option Kd}:∀ {l:List V},Agree o o' (FL l)→l.map (EV o' bs tk)=l.map (EV o bs tk)
 | [],_=>rfl
 | v :: l,h=>by simp only [A0,iH h.left,De (l:=l) h.right]
theorem vC {o o':Store} {bs:List V} {ks:List Kd} {v:V} (h:Agree o o' (FA v)):LZ o' bs ks v=LZ o bs ks v:=by
 by_cases ha:∃ l,v = .agg l
 ·obtain ⟨l,rfl⟩:=ha;simp only [LZ,pL (o:=o) (o':=o') h]
 by_cases hc:∃ f l,v = .clo f l
 ·obtain ⟨f,l,rfl⟩:=hc;simp only [LZ,De (o:=o) (o':=o') (l:=l) (fun n hn=>h n (f7 hn))]
 have h1:∀ o,LZ o bs ks v=EV o bs ks.head? v:=by
  intro o;cases v <;> first | rfl | exact absurd ⟨_,rfl⟩ ha | exact absurd ⟨_,_,rfl⟩ hc
 rw [h1,h1];exact iH (fun n hn=>h n (RP hn))
theorem mN {o o':Store} {bs:List V}:∀ {l:List V} {tks:List (List Kd)},Agree o o' (HD l)→GJ o' bs tks l=GJ o bs tks l
 | [],tks,_=>by cases tks <;> rfl
 | v :: l,[],h=>by simp only [GJ,vC h.left,mN (l:=l) h.right]
 | v :: l,t :: ts,h=>by simp only [GJ,vC h.left,mN (l:=l) h.right]
theorem Ut {o o':Store} {all:List Nat} {v:V} (h:Agree o o' (EX v)):FP o' all v=FP o all v:=by
 cases v <;> simp only [FP]
 rw [h _ (by simp [EX])]
theorem Df {o o':Store} {all:List Nat}:∀ {l:List V},Agree o o' (FL l)→l.map (FP o' all)=l.map (FP o all)
 | [],_=>rfl
 | v :: l,h=>by simp only [A0,Ut h.left,Df (l:=l) h.right]
theorem Bc {o o':Store} {all:List Nat}:∀ {l:List V},Agree o o' (FL l)→G8 o' all l=G8 o all l
 | [],_=>rfl
 | v :: l,h=>by
  have ih:=Bc (all:=all) (l:=l) h.right;cases v <;> simp only [G8,ih]
  rw [h.left _ (by simp [EX])]
theorem Jd {o o':Store} {all:List Nat}:∀ {l:List V},Agree o o' (FL l)→H2 o' all l=H2 o all l
 | [],_=>rfl
 | v :: l,h=>by
  have ih:=Jd (all:=all) (l:=l) h.right;cases v <;> simp only [H2,ih]
  rw [h.left _ (by simp [EX])]
theorem zi6 {v:V} {n:Nat} (h:n∈K9 v):n∈FA v:=by
 cases v <;> simp only [K9] at h <;> try (cases h; done)
 case row=>simpa [FA,EX] using h
 case agg=>exact XW h
 case clo=>exact f7 (XW h)
 case tup l=>
  simp only [FA]
  induction l with
  | nil=>simp [K9.go] at h
  | cons v r ih=>
   cases v <;> simp only [K9.go,FA.go,AP,AV] at h ⊢ <;> first | exact .inr (ih h) | skip
   ·rcases h with h | h
    ·exact .inl (by simp [EX,h])
    ·exact .inr (ih h)
   ·rcases h with h | h
    ·exact .inl (XW h)
    ·exact .inr (ih h)
theorem uB:∀ {l:List V} {n:Nat},n∈EY l→n∈HD l
 | v :: l,n,h=>by
  simp only [EY,HD,AV] at h ⊢;exact h.imp zi6 uB
theorem fB:∀ {l:List V} {n:Nat},n∈FX l→n∈HD l
 | v :: l,n,h=>by
  simp only [HD,AV];cases v <;> simp only [FX,AP,AV] at h <;> first | exact .inr (fB h) | skip
  ·rcases h with h | h
   ·exact .inl (by simp [FA,EX,h])
   ·exact .inr (fB h)
  ·rename_i f caps;rcases h with h | h
   ·refine .inl ?_;simp only [FA];refine f7 ?_;clear fB
    induction caps with
    | nil=>simp [FX.lentC] at h
    | cons v r ih=>
     simp only [FL,AV];cases v <;> simp only [FX.lentC,AP] at h <;> first | exact .inr (ih h) | skip
     rcases h with h | h
     ·exact .inl (by simp [EX,h])
     ·exact .inr (ih h)
   ·exact .inr (fB h)
theorem yT {o o':Store} {d:Nat} {tks:List (List Kd)} {sp:DW} {vs:List V} (h:Agree o o' (HD vs++K1 o (HD vs))):UO o' d tks sp vs=UO o d tks sp vs:=by
 have hA:∀ bs,GJ o' bs tks vs=GJ o bs tks vs:=fun bs=>mN h.left
 have hF:∀ l,(∀ n∈l,n∈HD vs++K1 o (HD vs))→EM o' l=EM o l:=fun l hl=>eH (fun n hn=>h n (hl n hn))
 have hFv:EM o' (EY vs)=EM o (EY vs):=hF _ (fun n hn=>vaJ _ (uB hn));have hF0:EM o' []=EM o []:=rfl;have hPl:dP o' d vs=dP o d vs:=by
  funext v out
  unfold dP;split
  ·split
   ·rename_i cs;cases IB cs <;> simp only [hFv,hF0]
   ·simp only [hFv]
   ·cases IF v <;> simp only [hFv,hF0]
  ·rfl
 unfold UO;simp only [hA,hPl];split
 ·rfl
 ·rename_i n hl;have hn:n∈HD vs:=fB (by rw [hl]; exact AN ..);rw [h n (vaJ _ hn)];split
  ·rename_i cs ho;have hcs:Agree o o' (FL cs):=fun m hm=>h m (vaG _ (W5 hn ho hm))
   have hsh:∀ m∈H2 o (EZ cs++EY vs) cs,m∈HD vs++K1 o (HD vs):=by
    intro m hm;obtain ⟨lo,hi,_,_,_,_,_,h1,_⟩:=k8 hm;exact vaG _ (W5 hn ho (XW (XI h1)))
   have hBx:dO o' d n cs vs=dO o d n cs vs:=by
    funext v outs
    unfold dO;rw [Bc hcs,Jd hcs];split
    ·rename_i out;have h1:EM o' (H2 o (EZ cs++EY vs) cs++EY vs)=EM o (H2 o (EZ cs++EY vs) cs++EY vs):=hF _ (fun m hm=>(AV.1 hm).elim (hsh m) (fun hm=>vaJ _ (uB hm)));have h2:EM o' (H2 o (EZ cs++EY vs) cs++[])=EM o (H2 o (EZ cs++EY vs) cs++[]):=hF _ (fun m hm=>hsh m (by simpa using hm));cases (IF v||IB out) <;> simp only [h1,h2]
    ·rfl
   rw [Df hcs,hBx]
  ·have hBd:dN o' n vs=dN o n vs:=by
    funext v outs
    unfold dN;split
    ·cases IF v <;> simp only [hFv,hF0]
    ·rfl
   rw [hBd]
  ·rfl
 ·rfl
theorem Bp {o o':Store} {l:List V} (h:Agree o o' (HD l)):XB o' l=XB o l:=by
 unfold XB;split
 ·rfl
 ·rename_i f m i c;rw [h m (by simp [HD,FA,FA.go,EX])]
 ·rfl
theorem zb2 {o o':Store} {d:Option Nat} {p:Ip} {vs:List V} (h:Agree o o' (HD vs)):ZK o' d p vs=ZK o d p vs:=by
 unfold ZK;split
 ·rename_i n lo hi rest;rw [h n (by simp [HD,FA,EX]),Bp (fun k hk=>h k (by simp only [HD,AV]; exact .inr hk))]
 ·rename_i rest;rw [Bp (fun k hk=>h k (by simp only [HD,AV]; exact .inr hk))]
 ·rfl
theorem rI:∀ (cs:List V) (n:Nat) (vs:List V) {m:Nat},m∈FL (G7 cs n vs)→m∈FL cs∨m∈FL vs
 | cs,n,[],m,h=>by cases cs <;> cases n <;> exact .inl h
 | [],n,v :: vs,m,h=>by cases n <;> simp [G7,FL] at h
 | c :: r,0,v :: vs,m,h=>by
  simp only [G7,FL,AV] at h ⊢;rcases h with h | h
  ·exact .inr (.inl h)
  ·rcases rI r 0 vs h with h | h
   ·exact .inl (.inr h)
   ·exact .inr (.inr h)
 | c :: r,n+1,v :: vs,m,h=>by
  simp only [G7,FL,AV] at h ⊢;rcases h with h | h
  ·exact .inl (.inl h)
  ·rcases rI r n (v :: vs) h with h | h
   ·exact .inl (.inr h)
   ·exact .inr (by simpa [FL] using h)
theorem y0 {v:V} {m:Nat} (h:m∈FL (cells v)):m∈FA v:=by
 by_cases ha:∃ l,v = .agg l
 ·obtain ⟨l,rfl⟩:=ha;exact h
 ·have:cells v=[v]:=by cases v <;> first | rfl | exact absurd ⟨_,rfl⟩ ha
  rw [this] at h;exact RP (by simpa [FL] using h)
theorem Z2 {l:List V} {v:V} {n:Nat} (hv:v∈l) (hn:n∈FA v):n∈HD l:=by
 induction l with
 | nil=>cases hv
 | cons u r ih=>
  simp only [HD,AV];rcases AP.1 hv with h | h
  ·subst h; exact .inl hn
  ·exact .inr (ih h)
theorem Am {o:Store} {place:Nat→Option (Nat × Nat)}:∀ {l:List (Nat × V)} {cs cs':List V},L7 o place cs l=some cs'→∀ m∈FL cs',m∈FL cs∨∃ i v,(i,v)∈l∧m∈FA v
 | [],cs,cs',h,m,hm=>by
  simp only [L7,AC] at h;subst h;exact .inl hm
 | (i,v) :: r,cs,cs',h,m,hm=>by
  simp only [L7] at h;split at h
  ·split at h
   ·rcases Am h m hm with h1 | ⟨j,u,h1,h2⟩
    ·rcases rI _ _ _ h1 with h2 | h2
     ·exact .inl h2
     ·exact .inr ⟨i,v,AN ..,y0 h2⟩
    ·exact .inr ⟨j,u,AW _ h1,h2⟩
   ·cases h
  ·cases h
theorem Hq {z:List V}:∀ {n m:Nat},m∈FL (QA z n)→m∈FL z
 | 0,m,h=>by simp [QA,FL] at h
 | n+1,m,h=>by
  simp only [QA,Hi,AV] at h;exact h.elim id (Hq (n:=n))
theorem qK (ρ:Operand→V):∀ {l:List (Nat × Operand)} {i:Nat} {v:V},(i,v)∈LL ρ l→v∈(l.map (·.2)).map ρ
 | (j,x) :: r,i,v,h=>by
  simp only [LL,AP,AU] at h;simp only [A0,AP];rcases h with ⟨_,rfl⟩ | h
  ·exact .inl rfl
  ·exact .inr (qK ρ h)
theorem Hk:∀ {l:List V} {n:Nat},n∈HD l→∃ v∈l,n∈FA v
 | v :: r,n,h=>by
  simp only [HD,AV] at h;rcases h with h | h
  ·exact ⟨v,AN ..,h⟩
  ·obtain ⟨u,h1,h2⟩:=Hk h;exact ⟨u,AW _ h1,h2⟩
theorem nT {o:Store} {m:Nat}:∀ {l:List Nat},m∈K1 o l→∃ n∈l,∃ cs,DO o n=some (.box cs)∧m∈FL cs
 | n :: r,h=>by
  simp only [K1] at h;split at h
  ·rename_i cs ho;rcases AV.1 h with h | h
   ·exact ⟨n,AN ..,cs,ho,h⟩
   ·obtain ⟨k,h1,h2⟩:=nT h;exact ⟨k,AW _ h1,h2⟩
  ·obtain ⟨k,h1,h2⟩:=nT h;exact ⟨k,AW _ h1,h2⟩
theorem zT {o:Store} {l l':List Nat} (hs:∀ k∈l,k∈l') {n:Nat} (h:n∈K1 o l):n∈K1 o l':=by
 obtain ⟨k,h1,cs,h2,h3⟩:=nT h;exact W5 (hs k h1) h2 h3
theorem yW {v:V} {n:Nat}:∀ {l:List V},W0 l=true→v∈l→n∈FA v→n∈FA.go l
 | u :: r,hok,hv,hn=>by
  rcases AP.1 hv with h | h
  ·subst h;cases v <;> simp only [W0] at hok <;> first | (cases hok; done) | (simp only [FA,EX] at hn; simp only [FA.go,EX,AV]; first | exact .inl hn | (cases hn; done))
  ·have hr:W0 r=true:=by cases u <;> simp only [W0] at hok <;> first | exact hok | (cases hok; done)
   have:=yW hr h hn
   cases u <;> simp only [FA.go,AV] <;> exact .inr this
theorem Ad {E:Env} {o o':Store} {ρ:Operand→V} {d:Option Nat} {op:Op} (h:Agree o o' (NU E o ρ op)):EH E o' ρ d op=EH E o ρ d op:=by
 cases hq:Ha op with
 | true=>cases op <;> first | rfl | cases hq
 | false=>
 unfold NU at h;rw [hq] at h;replace h:Agree o o' (kQ E o ρ op):=h;unfold kQ at h;have hz:=h.left.right;have hd:=h.right;have hv:=h.left.left;clear h;have one:∀ {x:Operand} {n:Nat},x∈op.operands.toList→n∈FA (ρ x)→DO o' n=DO o n:=fun hx hn=>hv _ (Z2 (vaR hx) hn)
 have two:∀ {x:Operand} {n:Nat} {cs:List V},x∈op.operands.toList→n∈FA (ρ x)→DO o n=some (.box cs)→Agree o o' (FL cs):=fun hx hn ho m hm=>hd _ (W5 (Z2 (vaR hx) hn) ho hm)
 cases op
 case box t x=>
  simp only [EH];rw [qF (fun n hn=>one (x:=x) (by simp [CT]) (RP hn))]
 case build t parts=>
  have hp:∀ i v,(i,v)∈LL ρ parts.toList→Agree o o' (FA v):=fun i v hm n hn=>hv _ (Z2 (by have:=qK ρ hm; simpa [CT] using this) hn)
  simp only [EH,oF hp]
 case buildSlice t len parts=>
  have hp:∀ i v,(i,v)∈LL ρ parts.toList→Agree o o' (FA v):=fun i v hm n hn=>hv _ (Z2 (by have:=qK ρ hm; simpa [CT] using this) hn)
  simp only [EH];split
  ·rename_i d e hd1;simp only [uR,hd1] at hz;rw [oF hp];split
   ·rename_i cs hf;have hcs:Agree o o' (FL cs):=by
     intro m hm;rcases Am hf m hm with h1 | ⟨i,v,h1,h2⟩
     ·exact hz m (Hq h1)
     ·exact hp i v h1 m h2
    rw [iQ hcs,eH (fun m hm=>hcs m (XW hm))]
   ·rfl
  ·rfl
 case load t x=>
  simp only [EH];split
  ·rename_i n i c hx;rw [one (x:=x) (by simp [CT]) (by rw [hx]; simp [FA,EX])]
  ·rfl
  ·rfl
 case nilCheck x=>
  simp only [EH];split
  ·rename_i n i c hx;rw [one (x:=x) (by simp [CT]) (by rw [hx]; simp [FA,EX])]
  ·rfl
 case fieldAddr s x f=>
  simp only [EH];split
  ·split
   ·split
    ·rename_i n i c hx;rw [one (x:=x) (by simp [CT]) (by rw [hx]; simp [FA,EX])]
    ·rfl
    ·rfl
   ·rfl
  ·rfl
 case binOp op t x y t'=>
  simp only [EH];unfold iK;split <;> try rfl
  rename_i n i c hx hy;rw [one (x:=x) (by simp [CT]) (by rw [hx]; simp [FA,EX])]
 case convert s t x=>
  simp only [EH];split <;> try rfl
  rw [zW (fun n hn=>one (x:=x) (by simp [CT]) (RP hn)),Jc (fun n hn=>one (x:=x) (by simp [CT]) (RP hn))]
 case slice t x lo hi mx=>
  simp only [EH];split <;> try rfl
  ·rename_i n a b hx;rw [one (x:=x) (by simp [CT]) (by rw [hx]; simp [FA,EX])]
  ·rename_i n a c hx;rw [one (x:=x) (by simp [CT]) (by rw [hx]; simp [FA,EX])]
 case indexAddr t x ix=>
  simp only [EH];split
  ·split
   ·rfl
   ·rename_i n lo hi hx;rw [one (x:=x) (by simp [CT]) (by rw [hx]; simp [FA,EX])]
   ·rename_i n c cap sz len hx;rw [one (x:=x) (by simp [CT]) (by rw [hx]; simp [FA,EX])]
   ·rfl
  ·split
   ·rename_i n i0 c hx;rw [one (x:=x) (by simp [CT]) (by rw [hx]; simp [FA,EX])]
   ·rfl
   ·rfl
  ·rfl
 case store t p x=>
  simp only [EH];have hx:Agree o o' (FA (ρ x)):=fun n hn=>one (x:=x) (by simp [CT]) hn
  have hc:Agree o o' (FL (cells (ρ x))):=fun n hn=>hx n (y0 hn)
  unfold QH;split
  ·rename_i n i c hp;rw [one (x:=p) (by simp [CT]) (by rw [hp]; simp [FA,EX]),qF (fun n hn=>hx n (RP hn)),qD hc,eH (fun m hm=>hc m (XW hm))];simp only [fA hc]
  ·rfl
 case makeSlice t n m=>
  simp only [EH];split
  ·rename_i d e k1 n1 k2 m1 hd1 _ _;simp only [uR,hd1] at hz;rw [iQ hz];split
   ·rw [eH (fun m hm=>hz m (XW hm))]
   ·rfl
  ·rfl
 case call c=>
  obtain ⟨callee,args,ats⟩:=c;simp only [EH,SP];have hmem:∀ {x:Operand},x∈args.toList→x∈(Op.call ⟨callee,args,ats⟩).operands.toList:=fun {x} hx=>by
   simp only [CT,Call.operands,vah,AV];exact .inr hx
  have harg:∀ {x:Operand},x∈args.toList→Agree o o' (FA (ρ x)):=fun {x} hx n hn=>one (x:=x) (hmem hx) hn
  have hdp:∀ {x:Operand},x∈args.toList→Agree o o' (EX (ρ x)++K1 o (EX (ρ x))):=fun {x} hx n hn=>by
   rcases AV.1 hn with hn | hn
   ·exact harg hx n (RP hn)
   ·refine hd n (zT (fun k hk=>Z2 (vaR (hmem hx)) (RP hk)) hn)
  have hsub:∀ (l:List V),(∀ v∈l,∃ y∈(Op.call ⟨callee,args,ats⟩).operands.toList,∀ n∈FA v,n∈FA (ρ y))→Agree o o' (HD l++K1 o (HD l)):=by
   intro l hl n hn;have h1:∀ k∈HD l,k∈HD ((Op.call ⟨callee,args,ats⟩).operands.toList.map ρ):=by
    intro k hk;obtain ⟨v,hv1,hv2⟩:=Hk hk;obtain ⟨y,hy1,hy2⟩:=hl v hv1;exact Z2 (vaR hy1) (hy2 k hv2)
   rcases AV.1 hn with hn | hn
   ·exact hv n (h1 n hn)
   ·exact hd n (zT h1 hn)
  split
  ·split
   ·rename_i x t hx _;have hxm:x∈args.toList:=by rw [hx]; simp
    have:=hdp hxm
    unfold j4;split <;> try rfl
    ·rename_i n lo hi hr;rw [this.left n (by rw [hr]; simp [EX])]
    ·rename_i n c cap sz len hr;rw [this.left n (by rw [hr]; simp [EX])]
   ·rfl
  ·split
   ·rename_i s x t t' hx _;have hsm:s∈args.toList:=by rw [hx]; simp
    have hxm:x∈args.toList:=by rw [hx]; simp
    simp only [Sv (hdp hsm).left (hdp hxm),Sx (hdp hsm).left]
   ·rfl
  ·split
   ·rename_i x y t t' hx _;have hxm:x∈args.toList:=by rw [hx]; simp
    have hym:y∈args.toList:=by rw [hx]; simp
    unfold iU;split
    ·rename_i n c cap sz len n' c' cap' sz' len' h1 h2;rw [(hdp hxm).left n (by rw [h1]; simp [EX]),(hdp hym).left n' (by rw [h2]; simp [EX])];split
     ·rename_i cs cs' e ho ho' hde;rw [qD (o:=o) (o':=o') (l:=cs') (fun m hm=>(hdp hym).right m (W5 (by rw [h2]; simp [EX]) ho' hm))]
     ·rfl
    ·rfl
   ·rfl
  ·rfl
  ·rfl
  ·rename_i f d hcal;have hs:=hsub (args.toList.map ρ) (fun v hv=>by
    obtain ⟨y,hy,rfl⟩:=CK.1 hv;exact ⟨y,hmem hy,fun n hn=>hn⟩)
   unfold m8;rw [fI];split
   ·rw [zb2 hs.left]
   ·split
    ·rw [yT hs]
    ·rfl
  ·split
   ·rename_i f caps hx;split
    ·rename_i hok;rw [fI,yT (hsub _ (fun v hv=>by
      rcases AV.1 hv with hv | hv
      ·obtain ⟨y,hy,rfl⟩:=CK.1 hv;exact ⟨y,hmem hy,fun n hn=>hn⟩
      ·refine ⟨_,by simp only [CT,Call.operands,vah,AV]; exact .inl (AN ..),fun n hn=>?_⟩;rw [hx];simp only [FA];exact yW hok hv hn))]
    ·rfl
   ·rfl
  ·rfl
 case makeFunc f a b=>cases f <;> rfl
 all_goals rfl
open Go Go.RowKit
theorem qI {ρ ρ':Operand→V}:∀ {l:List (Nat × Operand)},(∀ x∈l.map (·.2),ρ x=ρ' x)→LL ρ l=LL ρ' l
 | [],_=>rfl
 | (i,x) :: r,h=>by
  simp only [LL,h x (by simp),qI (l:=r) (fun y hy=>h y (AW _ hy))]
theorem pO {ρ ρ':Operand→V}:∀ {l:List Operand},(∀ x∈l,ρ x=ρ' x)→J6 ρ l=J6 ρ' l
 | [],_=>rfl
 | x :: r,h=>by simp only [J6,h x (AN ..),pO (l:=r) (fun y hy=>h y (AW _ hy))]
theorem Ff {ρ ρ':Operand→V} {x:Option Operand} (h:∀ y∈x.toArray.toList,ρ y=ρ' y):x.map ρ=x.map ρ':=by
 cases x with
 | none=>rfl
 | some x=>simp only [vav,h x (by simp)]
theorem Wo {E:Env} {o:Store} {ρ ρ':Operand→V} {d:Option Nat} {op:Op} (h:∀ x∈op.operands.toList,ρ x=ρ' x):EH E o ρ d op=EH E o ρ' d op:=by
 cases op
 case build t ps=>simp only [EH,qI (l:=ps.toList) (fun x hx=>h x (by simpa [CT] using hx))]
 case buildSlice t n ps=>simp only [EH,qI (l:=ps.toList) (fun x hx=>h x (by simpa [CT] using hx))]
 case makeFunc f first caps=>
  cases f <;> simp only [EH]
  rw [pO (l:=caps.toList) (fun x hx=>h x (by simp only [CT,vah,AV]; exact .inr hx))]
 case slice t x lo hi mx=>
  have h1:ρ x=ρ' x:=h x (by simp [CT]);have h2:lo.map ρ=lo.map ρ':=Ff (fun y hy=>h y (by simp only [CT,vah,AV]; exact .inl (.inl (.inr hy))));have h3:hi.map ρ=hi.map ρ':=Ff (fun y hy=>h y (by simp only [CT,vah,AV]; exact .inl (.inr hy)));simp only [EH,h1,h2,h3]
 case call c=>
  obtain ⟨callee,args,ats⟩:=c;have ha:∀ x∈args.toList,ρ x=ρ' x:=fun x hx=>h x (by simp only [CT,Call.operands,vah,AV]; exact .inr hx)
  have hm:J6 ρ args.toList=J6 ρ' args.toList:=pO ha;simp only [EH,SP];split
  ·split
   ·rename_i x t hx _;rw [ha x (by rw [hx]; simp)]
   ·rfl
  ·split
   ·rename_i s x t t' hx _;rw [ha s (by rw [hx]; simp),ha x (by rw [hx]; simp)]
   ·rfl
  ·split
   ·rename_i x y t t' hx _;rw [ha x (by rw [hx]; simp),ha y (by rw [hx]; simp)]
   ·rfl
  ·simp only [hm]
  ·simp only [hm]
  ·simp only [hm]
  ·rename_i x _ _;have hxx:ρ x=ρ' x:=h x (by simp [CT,Call.operands]);simp only [hm,hxx]
  ·rfl
 all_goals first
  | rfl
  | (simp only [CT] at h; simp only [EH]; simp (config:={decide:=false}) only [AP,BX,CP,forall_eq_or_imp,forall_eq] at h; simp only [h])
structure SEq (s s':St):Prop where
 t:∀ i,s.get i=s'.get i
 o:∀ n,DO s.o n=DO s'.o n
theorem SEq.refl (s:St):SEq s s:=⟨fun _=>rfl,fun _=>rfl⟩
theorem SEq.symm {s s':St} (h:SEq s s'):SEq s' s:=⟨fun i=>(h.t i).symm,fun n=>(h.o n).symm⟩
theorem SEq.trans {a b c:St} (h:SEq a b) (k:SEq b c):SEq a c:=⟨fun i=>(h.t i).trans (k.t i),fun n=>(h.o n).trans (k.o n)⟩
theorem SEq.opd {s s':St} (h:SEq s s'):opd s=opd s':=by
 funext x
 cases x <;> simp only [FM.opd,h.t]
theorem SEq.put {s s':St} (h:SEq s s') (d:Option Nat) (v:V):SEq (s.put d v) (s'.put d v):=by
 cases d with
 | none=>exact h
 | some d=>exact ⟨fun i=>by simp only [St.put,St.get,RD]; split <;> first | rfl | exact h.t i,h.o⟩
theorem Zl (s:St) (d:Nat) (v:V) (i:Nat):(s.put (some d) v).get i=if d=i then v else s.get i:=by simp only [St.put,St.get,RD]
theorem SEq.up {s s':St} (h:SEq s s') (u:Upd):SEq (s.up u) (s'.up u):=by
 cases u with
 | new n ob=>exact ⟨fun i=>by rw [eQ,eQ,h.t],fun m=>by rw [GW,GW,h.o]⟩
 | set n ob=>exact ⟨h.t,fun m=>by simp only [St.up,EJ,h.o]⟩
 | kill n=>exact ⟨h.t,fun m=>by simp only [St.up,EJ,h.o]⟩
theorem SEq.ups:∀ {us:List Upd} {s s':St},SEq s s'→SEq (s.ups us) (s'.ups us)
 | [],_,_,h=>h
 | u :: r,_,_,h=>SEq.ups (us:=r) (h.up u)
theorem SEq.lit {s:St} {j:Nat} {b:Bool} (h:s.get j = .bool b):SEq s (NP s j b):=
 ⟨fun i=>by
  simp only [NP,St.get,RD];split
  ·rename_i e; subst e; exact h
  ·rfl,fun _=>rfl⟩
theorem lU:∀ {us:List Upd} {o o':Store},(∀ n,DO o n=DO o' n)→∀ n,DO (JV us o) n=DO (JV us o') n
 | [],_,_,h=>h
 | .set m ob :: r,o,o',h=>lU (us:=r) (fun n=>by rw [EJ,EJ,h])
 | .new m ob :: r,o,o',h=>lU (us:=r) (fun n=>by rw [EJ,EJ,h])
 | .kill m :: r,o,o',h=>lU (us:=r) (fun n=>by rw [EJ,EJ,h])
theorem VG:∀ {us:List Upd} {o:Store} {n:Nat},n ∉ IX us→DO (JV us o) n=DO o n
 | [],_,_,_=>rfl
 | .set m ob :: r,o,n,h=>by
  simp only [IX,AP,not_or] at h;rw [JV,VG h.2,EJ,BB (fun e=>h.1 e.symm)]
 | .new m ob :: r,o,n,h=>by
  simp only [IX,AP,not_or] at h;rw [JV,VG h.2,EJ,BB (fun e=>h.1 e.symm)]
 | .kill m :: r,o,n,h=>by
  simp only [IX,AP,not_or] at h;rw [JV,VG h.2,EJ,BB (fun e=>h.1 e.symm)]
theorem tY:∀ {us:List Upd} {o o':Store} {n:Nat},n∈IX us→DO (JV us o) n=DO (JV us o') n
 | [],_,_,_,h=>by simp [IX] at h
 | u :: r,o,o',n,h=>by
  by_cases hr:n∈IX r
  ·cases u <;> simp only [JV] <;> exact tY hr
  ·cases u <;> simp only [IX,AP,hr,CP] at h <;> subst h <;> simp only [JV] <;> rw [VG hr,VG hr,EJ,EJ,BP rfl,BP rfl]
theorem SEq.apD {s s':St} (h:SEq s s') (x:Dn):SEq (apD s x) (apD s' x):=⟨(h.put x.dst x.v).t,lU h.o⟩
theorem SEq.apDs:∀ {l:List Dn} {s s':St},SEq s s'→SEq (apDs s l) (apDs s' l)
 | [],_,_,h=>h
 | x :: r,_,_,h=>SEq.apDs (l:=r) (h.apD x)
theorem mK:∀ (l l':List Dn) (s:St),apDs s (l++l')=apDs (apDs s l) l'
 | [],_,_=>rfl
 | x :: r,l',s=>mK r l' (apD s x)
theorem Cm {n:Nat} {v:V} (hc:Y7 v=true) (hn:n ∉ EX v):F6.leaf n v=v:=by
 cases v <;> simp only [Y7] at hc <;> first | (cases hc; done) | rfl | skip
 ·simp only [EX,BJ] at hn;simp only [F6.leaf,IN.2 (fun e=>hn e.symm)]
 ·simp only [EX,BJ] at hn;simp only [F6.leaf,IN.2 (fun e=>hn e.symm)]
theorem jZ {n:Nat}:∀ {l:List V},Y8 l=true→n ∉ FL l→l.map (F6.leaf n)=l
 | [],_,_=>rfl
 | v :: r,hc,hn=>by
  simp only [Y8] at hc;split at hc
  ·rename_i h1;simp only [FL,AV,not_or] at hn;simp only [A0,Cm h1 hn.1,jZ hc hn.2]
  ·cases hc
theorem pF {n:Nat}:∀ {l:List V},PU.go l=true→n ∉ FA.go l→l.map (F6.leaf2 n)=l
 | [],_,_=>rfl
 | v :: r,hc,hn=>by
  by_cases ha:∃ l,v = .agg l
  ·obtain ⟨l,rfl⟩:=ha;simp only [PU.go] at hc;split at hc
   ·rename_i h1;simp only [FA.go,AV,not_or] at hn;simp only [A0,F6.leaf2,jZ h1 hn.1,pF hc hn.2]
   ·cases hc
  ·have h0:F6.leaf2 n v=F6.leaf n v:=by cases v <;> first | rfl | exact absurd ⟨_,rfl⟩ ha
   have h1:Y7 v=true∧PU.go r=true:=by
    cases v <;> simp only [PU.go,Y7] at hc ⊢ <;> first | (simp at hc; done) | (simpa using hc) | (cases hc; done) | exact absurd ⟨_,rfl⟩ ha
   have h2:n ∉ EX v∧n ∉ FA.go r:=by
    cases v <;> simp only [FA.go,AV,not_or] at hn <;> first | exact hn | exact absurd ⟨_,rfl⟩ ha
   simp only [A0,h0,Cm h1.1 h2.1,pF h1.2 h2.2]
theorem Iu {n:Nat} {v:V} (hc:PU v=true) (hn:n ∉ FA v):F6 n v=v:=by
 cases v <;> simp only [PU] at hc <;> first | rfl | skip
 case row a b c=>simp only [FA,EX,BJ] at hn; simp only [F6,IN.2 (fun e=>hn e.symm)]
 case ptr a b c=>simp only [FA,EX,BJ] at hn; simp only [F6,IN.2 (fun e=>hn e.symm)]
 case bview a b c d e=>simp only [FA,EX,BJ] at hn; simp only [F6,IN.2 (fun e=>hn e.symm)]
 case agg l=>simp only [F6,jZ hc hn]
 case tup l=>simp only [F6,pF hc hn]
 case clo f l=>
  have:n ∉ FL l:=fun h=>hn (f7 h)
  simp only [F6,jZ hc this]
theorem Iv {n:Nat}:∀ {l:List V},iR l=true→n ∉ HD l→l.map (F6 n)=l
 | [],_,_=>rfl
 | v :: r,hc,hn=>by
  simp only [iR] at hc;split at hc
  ·rename_i h1;simp only [HD,AV,not_or] at hn;simp only [A0,Iu h1 hn.1,Iv hc hn.2]
  ·cases hc
theorem kZ {n:Nat} {ob:Ob} (hc:nE ob=true) (hn:n ∉ f8 ob):HQ n (some ob)=some ob:=by
 cases ob with
 | box cs=>simp only [HQ,Iv hc hn]
 | row _ _ _ _ _=>rfl
 | bld _=>rfl
theorem Fj {p:Nat→Bool} {n:Nat} (hp:p n=true) (v:V):F6.leaf n (G2.leaf p v)=G2.leaf p v:=by
 cases v <;> simp only [G2.leaf] <;> first | rfl | skip
 all_goals
  rename_i m _ _;cases hm:p m with
  | true=>rfl
  | false=>
   simp only [F6.leaf];rw [IN.2 (fun e=>by subst e; rw [hp] at hm; cases hm)]
theorem kL {p:Nat→Bool} {n:Nat} (hp:p n=true):∀ (l:List V),(G2.go p l).map (F6.leaf n)=G2.go p l
 | []=>rfl
 | v :: r=>by simp only [G2.go,A0,Fj hp,kL hp r]
theorem zfk {p:Nat→Bool} {n:Nat} (hp:p n=true) (v:V):F6.leaf2 n (G2.leaf2 p v)=G2.leaf2 p v:=by
 by_cases ha:∃ l,v = .agg l
 ·obtain ⟨l,rfl⟩:=ha;simp only [G2.leaf2,F6.leaf2,kL hp]
 ·have h0:G2.leaf2 p v=G2.leaf p v:=by cases v <;> first | rfl | exact absurd ⟨_,rfl⟩ ha
  rw [h0]
  have:=Fj hp v
  cases hx:G2.leaf p v <;> rw [hx] at this <;> first | exact this | skip
  exfalso;cases v <;> simp only [G2.leaf] at hx <;> try (cases hx; done)
  all_goals (split at hx <;> cases hx)
theorem Fl {p:Nat→Bool} {n:Nat} (hp:p n=true):∀ (l:List V),(G2.go2 p l).map (F6.leaf2 n)=G2.go2 p l
 | []=>rfl
 | v :: r=>by simp only [G2.go2,A0,zfk hp,Fl hp r]
theorem Fo {p:Nat→Bool} {n:Nat} (hp:p n=true) (v:V):F6 n (G2 p v)=G2 p v:=by
 have key:∀ m,p m=false→BQ m n=false:=fun m hm=>IN.2 (fun e=>by subst e; rw [hp] at hm; cases hm)
 cases v <;> simp only [G2] <;> try rfl
 case row m _ _=>cases hm:p m <;> simp only [F6,key m,hm]
 case ptr m _ _=>cases hm:p m <;> simp only [F6,key m,hm]
 case bview m _ _ _ _=>cases hm:p m <;> simp only [F6,key m,hm]
 case agg l=>simp only [F6,kL hp]
 case tup l=>simp only [F6,Fl hp]
 case clo f l=>simp only [F6,kL hp]
theorem j8 (f:V→V):∀ l,MI.mapV f l=l.map f
 | []=>rfl
 | v :: r=>by simp only [MI.mapV,A0,j8 f r]
theorem zfm {p:Nat→Bool} {n:Nat} (hp:p n=true) (x:Option Ob):HQ n (MI p x)=MI p x:=by
 match x with
 | none=>rfl
 | some (.row _ _ _ _ _)=>rfl
 | some (.bld _)=>rfl
 | some (.box cs)=>
  simp only [MI,HQ,j8,List.map_map];congr 2;exact List.map_congr_left (fun v _=>Fo hp v)
structure Fr (n:Nat) (s:St):Prop where
 t:∀ i,F6 n (s.get i)=s.get i
 o:∀ m,HQ n (DO s.o m)=DO s.o m
theorem Fr.congr {n:Nat} {s s':St} (h:Fr n s) (e:SEq s s'):Fr n s':=⟨fun i=>by rw [← e.t]; exact h.t i,fun m=>by rw [← e.o]; exact h.o m⟩
theorem fK {n:Nat} {l:List Nat}:KN n l=false↔n ∉ l:=by
 rw [← fJ]; simp
theorem ZC:∀ {l l':List Nat},ST l l'=true↔∀ n∈l,n ∉ l'
 | [],l'=>by simp [ST]
 | m :: r,l'=>by
  simp only [ST];cases hb:KN m l' with
  | true=>simp [fJ.1 hb]
  | false=>simp [fK.1 hb,ZC (l:=r)]
theorem lV:∀ {us:List Upd} {s:St},(∀ n∈PA us,Fr n s)→PM us=true→SEq (s.ups us) ⟨s.t,JV us s.o⟩
 | [],s,_,_=>SEq.refl s
 | .kill m :: r,s,hf,ho=>by
  simp only [St.ups,JV];exact lV (us:=r) (s:=s.up (.kill m)) (fun n hn=>⟨(hf n hn).t,fun k=>by
   simp only [St.up,EJ];split
   ·rfl
   ·exact (hf n hn).o k⟩) ho
 | .set m ob :: r,s,hf,ho=>by
  simp only [PM,AH] at ho;simp only [St.ups,JV];exact lV (us:=r) (s:=s.up (.set m ob)) (fun n hn=>⟨(hf n hn).t,fun k=>by
   simp only [St.up,EJ];split
   ·exact kZ ho.1 (ZC.1 ho.2.1 n hn)
   ·exact (hf n hn).o k⟩) ho.2.2
 | .new m ob :: r,s,hf,ho=>by
  simp only [PM,AH] at ho;simp only [St.ups,JV];have hm:Fr m s:=hf m (by simp [PA]);have e:SEq (s.up (.new m ob)) (s.up (.set m ob)):=⟨fun i=>by rw [eQ,hm.t]; rfl,fun k=>by rw [GW,hm.o]; simp only [St.up,EJ]⟩;refine (e.ups (us:=r)).trans ?_;exact lV (us:=r) (s:=s.up (.set m ob)) (fun n hn=>⟨(hf n (by simp [PA,hn])).t,fun k=>by
   simp only [St.up,EJ];split
   ·exact kZ ho.1 (ZC.1 ho.2.1 n hn)
   ·exact (hf n (by simp [PA,hn])).o k⟩) ho.2.2
open Go Go.RowKit
def CmpP (p:Nat→Bool) (γ:Nat→Value) (o:Store) (γ':Nat→Value) (o':Store):Prop:=
 ∀ n ob',p n=false→DO o' n=some ob'→γ' n=γ n∧∃ ob,DO o n=some ob∧ob.fits ob'
section
variable {γ γ':Nat→Value} {o o':Store} {w:World} {O:Nat→Prop} {p:Nat→Bool}
theorem CmpP.but (hc:CmpP p γ o γ' o') {n:Nat} (hn:p n=false) {v:V} (hv:v = .any∨(∃ lo hi,v = .row n lo hi)∨(∃ i c,v = .ptr n i c)∨∃ c cap sz len,v = .bview n c cap sz len) {x:Value} (h:VRel γ o w O v x):VRel γ' o' w O v x:=by
 let f:Nat→Value:=fun m=>if m=n then γ' n else γ m
 rcases hv with rfl | ⟨lo,hi,rfl⟩ | ⟨i,c,rfl⟩ | ⟨c,cap,sz,len,rfl⟩
 ·simp only [VRel]
 ·simp only [VRel] at h ⊢;cases h':DO o' n with
  | none=>trivial
  | some ob'=>
   obtain ⟨hg,ob,ho,hf⟩:=hc n ob' hn h';rw [ho] at h;rw [hg];cases ob <;> cases ob' <;> simp only [Ob.fits] at hf <;> try trivial
   obtain ⟨rfl,hl⟩:=hf;exact ⟨by rw [← hl]; exact h.1,h.2⟩
 ·simp only [VRel] at h ⊢;cases h':DO o' n with
  | none=>trivial
  | some ob'=>
   obtain ⟨hg,ob,ho,hf⟩:=hc n ob' hn h';rw [ho] at h;rw [hg];cases ob <;> cases ob' <;> simp only [Ob.fits] at hf
   ·exact h
   ·obtain ⟨rfl,hl⟩:=hf;exact ⟨by rw [← hl]; exact h.1,h.2⟩
   ·exact h
 ·simp only [VRel] at h ⊢;cases h':DO o' n with
  | none=>trivial
  | some ob'=>
   obtain ⟨hg,ob,ho,hf⟩:=hc n ob' hn h';rw [ho] at h;rw [hg];cases ob <;> cases ob' <;> simp only [Ob.fits] at hf <;> try trivial
   exact ⟨h.1,h.2.1,by rw [← hf]; exact h.2.2.1,h.2.2.2⟩
theorem Fk (hc:CmpP p γ o γ' o') {v:V} {x:Value} (h:VRel γ o w O v x):VRel γ' o' w O (G2.leaf p v) x:=by
 cases v <;> simp only [G2.leaf]
 case row n lo hi=>
  cases hb:p n with
  | true=>simp only [VRel]
  | false=>exact hc.but hb (.inr (.inl ⟨_,_,rfl⟩)) h
 case ptr n i c=>
  cases hb:p n with
  | true=>simp only [VRel]
  | false=>exact hc.but hb (.inr (.inr (.inl ⟨_,_,rfl⟩))) h
 all_goals first
  | (simp only [VRel] at h ⊢; exact h)
  | simp only [VRel]
theorem kM (hc:CmpP p γ o γ' o'):∀ {l:List V} {xs:List Value},VRels γ o w O l xs→VRels γ' o' w O (G2.go p l) xs
 | [],[],_=>by simp only [G2.go,VRels]
 | [],_ :: _,h=>by simp only [VRels] at h
 | _ :: _,[],h=>by simp only [VRels] at h
 | v :: vs,x :: xs,h=>by
  simp only [VRels,G2.go] at h ⊢;exact ⟨Fk hc h.1,kM hc h.2⟩
theorem zfl (hc:CmpP p γ o γ' o') {v:V} {x:Value} (h:VRel γ o w O v x):VRel γ' o' w O (G2.leaf2 p v) x:=by
 cases v <;> simp only [G2.leaf2] <;> try exact Fk hc h
 simp only [VRel] at h ⊢;obtain ⟨cs,hx,hr⟩:=h;exact ⟨cs,hx,kM hc hr⟩
theorem Fm (hc:CmpP p γ o γ' o'):∀ {l:List V} {xs:List Value},VRels γ o w O l xs→VRels γ' o' w O (G2.go2 p l) xs
 | [],[],_=>by simp only [G2.go2,VRels]
 | [],_ :: _,h=>by simp only [VRels] at h
 | _ :: _,[],h=>by simp only [VRels] at h
 | v :: vs,x :: xs,h=>by
  simp only [VRels,G2.go2] at h ⊢;exact ⟨zfl hc h.1,Fm hc h.2⟩
theorem Fp (hc:CmpP p γ o γ' o') {v:V} {x:Value} (h:VRel γ o w O v x):VRel γ' o' w O (G2 p v) x:=by
 cases v <;> simp only [G2]
 case row n lo hi=>
  cases hb:p n with
  | true=>simp only [VRel]
  | false=>exact hc.but hb (.inr (.inl ⟨_,_,rfl⟩)) h
 case ptr n i c=>
  cases hb:p n with
  | true=>simp only [VRel]
  | false=>exact hc.but hb (.inr (.inr (.inl ⟨_,_,rfl⟩))) h
 case bview n c cap sz len=>
  cases hb:p n with
  | true=>simp only [VRel]
  | false=>exact hc.but hb (.inr (.inr (.inr ⟨_,_,_,_,rfl⟩))) h
 case agg l=>
  simp only [VRel] at h ⊢;obtain ⟨cs,hx,hr⟩:=h;exact ⟨cs,hx,kM hc hr⟩
 case tup l=>
  simp only [VRel] at h ⊢;obtain ⟨cs,hx,hr⟩:=h;exact ⟨cs,hx,Fm hc hr⟩
 case clo f l=>
  simp only [VRel] at h ⊢;obtain ⟨cs,hx,hr⟩:=h;exact ⟨cs,hx,kM hc hr⟩
 all_goals (simp only [VRel] at h ⊢; try exact h)
theorem Fq (hc:CmpP p γ o γ' o'):∀ {l:List V} {xs:List Value},VRels γ o w O l xs→VRels γ' o' w O (l.map (G2 p)) xs
 | [],[],_=>by simp only [CB,VRels]
 | [],_ :: _,h=>by simp only [VRels] at h
 | _ :: _,[],h=>by simp only [VRels] at h
 | v :: vs,x :: xs,h=>by
  simp only [VRels,A0] at h ⊢;exact ⟨Fp hc h.1,Fq hc h.2⟩
end
theorem nF (p:Nat→Bool):∀ (o:Store) (n:Nat),DO (Y9 p o) n=match p n with | true=>none | false=>MI p (DO o n)
 | [],n=>by simp only [Y9,DO,E6]; cases p n <;> rfl
 | (m,x) :: r,n=>by
  simp only [Y9];by_cases e:m=n
  ·subst e;cases hp:p m <;> simp only [EJ,CQ]
  ·cases hp:p m <;> simp only [EJ,BB e,nF p r n]
theorem zgI {p:Nat→Bool} {x:Option Ob} {ob:Ob} (h:MI p x=some ob):∃ ob0,x=some ob0∧MI p (some ob0)=some ob:=by
 cases x with
 | none=>simp [MI] at h
 | some ob0=>exact ⟨ob0,rfl,h⟩
theorem gE {p:Nat→Bool} {ob0 ob:Ob} (h:MI p (some ob0)=some ob):ob0.fits ob∧∀ g b,FE g ob b↔FE g ob0 b:=by
 cases ob0 <;> simp only [MI,AC] at h <;> subst h
 ·exact ⟨by simp [Ob.fits,j8],fun _ _=>Iff.rfl⟩
 ·exact ⟨⟨rfl,rfl⟩,fun _ _=>Iff.rfl⟩
 ·exact ⟨trivial,fun _ _=>Iff.rfl⟩
section
variable {B:BT} {nt:Nat} {w0:World} {X:Zone} {γ:Nat→Value} {st st':St} {a:Act} {w:World} {P:Program} {E:Env}
theorem Rel.less (h:Rel B nt w0 X γ st a w) {st':St} (ht:∀ i,st'.get i=st.get i∨st'.get i = .any) (ho:∀ n ob,DO st'.o n=some ob→DO st.o n=some ob):Rel B nt w0 X γ st' a w:=by
 have hP:∀ b,FD γ st'.o b→FD γ st.o b:=fun b ⟨n,ob,h1,h2⟩=>⟨n,ob,ho n ob h1,h2⟩
 have hO:∀ b,b < w.heap.size→DR X γ st'.o b→DR X γ st.o b:=fun b _ hb=>hb.imp_left (hP b)
 have hc:Cmp γ st.o γ st'.o:=fun n ob hn=>⟨rfl,ob,ho n ob hn,ob.fits_refl⟩
 refine ⟨h.sz,h.df,fun i=>?_,fun n ob hn=>(h.ob n ob (ho n ob hn)).later (fun _ _=>rfl) (Keep.refl _ w) hO hc,fun b hb=>h.lt b (hP b hb),fun n m ob ob' b hne h1 h2=>h.dis n m ob ob' b hne (ho n ob h1) (ho m ob' h2),h.keep,fun b hb=>h.nr b (hP b hb),h.fl,fun p hp ob h1=>h.pn p hp ob (ho _ ob h1)⟩;rcases ht i with h1 | h1
 ·rw [h1];exact VRel.mono (Keep.refl _ w) hO (VRel.cmp hc (h.tm i))
 ·rw [h1];simp only [VRel]
theorem Rel.lit (h:Rel B nt w0 X γ st a w) {i:Nat} {v:V} (hv:st.get i=v):Rel B nt w0 X γ ⟨(i,v) :: st.t,st.o⟩ a w:=by
 refine h.less (fun j=>?_) (fun _ _ h=>h);simp only [St.get,RD];by_cases e:i=j
 ·subst e;simp only [CQ];exact .inl hv.symm
 ·simp only [BB e];exact .inl trivial
theorem eC:∀ (ops:List Oper) (j d:Nat),OY ops j=some d→(ops[j]?).bind (·.dst)=some d
 | [],j,d,h=>by simp [OY] at h
 | o :: r,0,d,h=>by simpa [OY] using h
 | o :: r,j+1,d,h=>by simpa [OY] using eC r j d (by simpa [OY] using h)
theorem vW (h:Rel B nt w0 X γ st a w) {i:Nat} {c:Bool} (hv:st.get i = .bool c):a.tmps[i]?=some (.bool c):=by
 have:=h.tm i
 rw [hv] at this;simp only [VRel,vbp] at this;cases ht:a.tmps[i]? with
 | none=>rw [ht] at this; simp [undef] at this
 | some u=>rw [ht] at this; simp only [vaj] at this; rw [this]
theorem Ol (h:Rel B nt w0 X γ st a w) {i:Nat} (hv:st.get i = .tup []):a.tmps[i]?=none∨a.tmps[i]?=some (.tuple #[]):=by
 have:=h.tm i
 rw [hv] at this;simp only [VRel,vbp] at this;obtain ⟨cs,h1,h2⟩:=this;cases hl:cs.toList with
 | nil=>
  have e:cs = #[]:=by simpa using hl
  rw [e] at h1;cases ht:a.tmps[i]? with
  | none=>exact .inl rfl
  | some u=>rw [ht] at h1; simp only [vaj] at h1; rw [h1]; exact .inr rfl
 | cons x l=>rw [hl] at h2; simp only [VRels] at h2
theorem Rel.clear (h:Rel B nt w0 X γ st a w) (ds:List Nat):Rel B nt w0 X γ (NH ds st) a w:=by
 have hget:∀ n ob,DO (NH ds st).o n=some ob→O3 ds n=false∧∃ ob0,DO st.o n=some ob0∧MI (O3 ds) (some ob0)=some ob:=by
  intro n ob hn;simp only [NH,nF] at hn;split at hn
  ·cases hn
  ·rename_i hp;exact ⟨hp,zgI hn⟩
 have hP:∀ b,FD γ (NH ds st).o b→FD γ st.o b:=by
  rintro b ⟨n,ob,h1,h2⟩;obtain ⟨_,ob0,h3,h4⟩:=hget n ob h1;exact ⟨n,ob0,h3,((gE h4).2 _ _).1 h2⟩
 have hO:∀ b,b < w.heap.size→DR X γ (NH ds st).o b→DR X γ st.o b:=fun b _ hb=>hb.imp_left (hP b)
 have hc:CmpP (O3 ds) γ st.o γ (NH ds st).o:=by
  intro n ob' _ hn;obtain ⟨_,ob0,h3,h4⟩:=hget n ob' hn;exact ⟨rfl,ob0,h3,(gE h4).1⟩
 refine ⟨h.sz,h.df,fun i=>?_,fun n ob hn=>?_,fun b hb=>h.lt b (hP b hb),fun n m ob ob' b hne h1 h2 hb1 hb2=>?_,h.keep,fun b hb=>h.nr b (hP b hb),h.fl,fun p hp ob h1=>?_⟩
 ·have:(NH ds st).get i=G2 (O3 ds) (st.get i):=by
   simp only [NH,St.get];exact fE _ _ rfl _ _
  rw [this];exact VRel.mono (Keep.refl _ w) hO (Fp hc (h.tm i))
 ·obtain ⟨_,ob0,h3,h4⟩:=hget n ob hn;have hor:=h.ob n ob0 h3;cases ob0 with
  | box l=>
   simp only [MI,AC] at h4;subst h4;simp only [ObRel] at hor ⊢;obtain ⟨b,c,T,hg,hh,hr⟩:=hor;rw [j8];exact ⟨b,c,T,hg,hh,VRels.mono (Keep.refl _ w) hO (Fq hc hr)⟩
  | row own e ag ks l=>
   simp only [MI,AC] at h4;subst h4;exact hor.later (fun _ _=>rfl) (Keep.refl _ w) hO (fun m ob1 hm=>by
    obtain ⟨_,ob0,h5,h6⟩:=hget m ob1 hm;exact ⟨rfl,ob0,h5,(gE h6).1⟩)
  | bld s=>
   simp only [MI,AC] at h4;subst h4;simpa only [ObRel] using hor
 ·obtain ⟨_,ob0,h3,h4⟩:=hget n ob h1;obtain ⟨_,ob1,h5,h6⟩:=hget m ob' h2;exact h.dis n m ob0 ob1 b hne h3 h5 (((gE h4).2 _ _).1 hb1) (((gE h6).2 _ _).1 hb2)
 ·obtain ⟨_,ob0,h3,_⟩:=hget _ ob h1;exact h.pn p hp ob0 h3
theorem Rel.seq (h:Rel B nt w0 X γ st a w) (e:SEq st st'):Rel B nt w0 X γ st' a w:=
 h.less (fun i=>.inl (e.t i).symm) (fun n ob hn=>by rw [e.o]; exact hn)
end
theorem Uy {ds:List Nat} {n:Nat} (hn:O3 ds n=true) (s:St):Fr n (NH ds s):=by
 refine ⟨fun i=>?_,fun m=>?_⟩
 ·have:(NH ds s).get i=G2 (O3 ds) (s.get i):=by
   simp only [NH,St.get];exact fE _ _ rfl _ _
  rw [this];exact Fo hn _
 ·simp only [NH,nF];split
  ·rfl
  ·exact zfm hn _
def StepOK (E:Env) (all:List Oper) (o:Oper) (s:St) (D:Dn):Prop:=
 P6 E o.dst=true∧D.dst=o.dst∧D.tm=MK all o ∧
 match o.guard with
 | none=>(EH E s.o (opd s) o.dst o.op).get=some (D.v,D.us)∧D.rd=NU E s.o (opd s) o.op
 | some (j,b)=>(∃ dj c,OY all j=some dj∧s.get dj = .bool c ∧
  ((c=b∧(EH E s.o (opd s) o.dst o.op).get=some (D.v,D.us)∧D.rd=NU E s.o (opd s) o.op)∨(c≠b∧D.v = .tup []∧D.us=[]))) ∨
  (∃ dj,OY all j=some dj∧s.get dj = .tup []∧D.v = .tup []∧D.us=[])
def Steps (E:Env) (all:List Oper):List Oper→St→List Dn→Prop
 | [],_,[]=>True
 | o :: r,s,D :: Ds=>StepOK E all o s D∧Steps E all r (apD s D) Ds
 | _,_,_=>False
theorem StepOK.congr {E:Env} {all:List Oper} {o:Oper} {s s':St} {D:Dn} (h:StepOK E all o s D) (e:SEq s s'):StepOK E all o s' D:=by
 have hag:∀ (ρ:Operand→V) d op,EH E s'.o ρ d op=EH E s.o ρ d op:=fun ρ d op=>Ad (fun n _=>(e.o n).symm)
 have hdp:∀ l,K1 s'.o l=K1 s.o l:=by
  intro l
  induction l with
  | nil=>rfl
  | cons n r ih=>simp only [K1,ih,e.o]
 have hrd:∀ (ρ:Operand→V) op,NU E s'.o ρ op=NU E s.o ρ op:=fun ρ op=>by unfold NU kQ; rw [hdp]
 unfold StepOK at h ⊢;refine ⟨h.1,h.2.1,h.2.2.1,?_⟩;have h3:=h.2.2.2;rw [← e.opd];simp only [hag,hrd];split at h3
 ·exact h3
 ·rcases h3 with ⟨dj,c,h4,h5,h6⟩ | ⟨dj,h4,h5,h6⟩
  ·exact .inl ⟨dj,c,h4,by rw [← e.t]; exact h5,h6⟩
  ·exact .inr ⟨dj,h4,by rw [← e.t]; exact h5,h6⟩
theorem Steps.congr {E:Env} {all:List Oper}:∀ {l:List Oper} {s s':St} {Ds:List Dn},Steps E all l s Ds→SEq s s'→Steps E all l s' Ds
 | [],_,_,[],_,_=>trivial
 | [],_,_,_ :: _,h,_=>by simp [Steps] at h
 | _ :: _,_,_,[],h,_=>by simp [Steps] at h
 | o :: r,s,s',D :: Ds,h,e=>by
  simp only [Steps] at h ⊢;exact ⟨h.1.congr e,Steps.congr h.2 (e.apD D)⟩
theorem Ac {E:Env} {all:List Oper} {res:V × List (List V)}:∀ (l:List Oper) {s:St} {acc:List Dn} {k:List Dn→St→DP},P0 E all l s acc k=some res →
  ∃ Ds s',Steps E all l s Ds∧SEq s' (apDs s Ds)∧k (Ds.reverse++acc) s'=some res
 | [],s,acc,k,h=>⟨[],s,trivial,SEq.refl s,by simpa [P0] using h⟩
 | o :: r,s,acc,k,h=>by
  simp only [P0] at h;have hd:P6 E o.dst=true:=by
   cases hd:P6 E o.dst with
   | true=>rfl
   | false=>rw [hd] at h; cases h
  rw [hd] at h;simp only at h;have fin:∀ (s1:St) (D:Dn),SEq s s1→StepOK E all o s1 D→P0 E all r (apD s1 D) (D :: acc) k=some res →
    ∃ Ds s',Steps E all (o :: r) s Ds∧SEq s' (apDs s Ds)∧k (Ds.reverse++acc) s'=some res:=by
   intro s1 D e hs he;obtain ⟨Ds,s',h1,h2,h3⟩:=Ac r he;refine ⟨D :: Ds,s',⟨hs.congr e.symm,h1.congr (e.symm.apD D)⟩,h2.trans ((e.symm.apD D).apDs),?_⟩;simpa using h3
  split at h
  ·rename_i hg;obtain ⟨v,us,h1,h2⟩:=T.run_some h;exact fin s _ (SEq.refl s) ⟨hd,rfl,rfl,by rw [hg]; exact ⟨h1,rfl⟩⟩ h2
  ·rename_i j b hg;split at h
   ·rename_i dj hdj;split at h
    ·rename_i c hc;have hl:∀ c',(NP s dj c').get dj = .bool c':=fun c'=>by simp [NP,St.get,RD]
     cases c with
     | true=>
      have e:=SEq.lit hc;cases b with
      | true=>
       simp only at h;obtain ⟨v,us,h1,h2⟩:=T.run_some h;exact fin _ _ e ⟨hd,rfl,rfl,by rw [hg]; exact .inl ⟨dj,true,hdj,hl _,.inl ⟨rfl,h1,rfl⟩⟩⟩ h2
      | false=>exact fin _ _ e ⟨hd,rfl,rfl,by rw [hg]; exact .inl ⟨dj,true,hdj,hl _,.inr ⟨by simp,rfl,rfl⟩⟩⟩ h
     | false=>
      have e:=SEq.lit hc;cases b with
      | false=>
       simp only at h;obtain ⟨v,us,h1,h2⟩:=T.run_some h;exact fin _ _ e ⟨hd,rfl,rfl,by rw [hg]; exact .inl ⟨dj,false,hdj,hl _,.inl ⟨rfl,h1,rfl⟩⟩⟩ h2
      | true=>exact fin _ _ e ⟨hd,rfl,rfl,by rw [hg]; exact .inl ⟨dj,false,hdj,hl _,.inr ⟨by simp,rfl,rfl⟩⟩⟩ h
    ·rename_i hc;exact fin _ _ (SEq.refl s) ⟨hd,rfl,rfl,by rw [hg]; exact .inr ⟨dj,hdj,hc,rfl,rfl⟩⟩ h
    ·cases h
   ·cases h
theorem Steps.length {E:Env} {all:List Oper}:∀ {l:List Oper} {s:St} {Ds:List Dn},Steps E all l s Ds→Ds.length=l.length
 | [],_,[],_=>rfl
 | [],_,_ :: _,h=>by simp [Steps] at h
 | _ :: _,_,[],h=>by simp [Steps] at h
 | _ :: _,_,_ :: _,h=>by simp only [AM,Steps.length h.2]
theorem Steps.get {E:Env} {all:List Oper}:∀ {l:List Oper} {s:St} {Ds:List Dn} {i:Nat} {o:Oper} {D:Dn},Steps E all l s Ds→l[i]?=some o→Ds[i]?=some D→StepOK E all o (apDs s (Ds.take i)) D
 | [],_,_,_,_,_,_,h,_=>by simp at h
 | _ :: _,_,[],_,_,_,_,_,h=>by simp at h
 | o :: r,s,D :: Ds,0,_,_,h,h1,h2=>by
  simp only [BY,AC] at h1 h2;subst h1; subst h2;exact h.1
 | o :: r,s,D :: Ds,i+1,_,_,h,h1,h2=>by
  simp only [DI] at h1 h2;simp only [List.take_succ_cons,apDs];exact Steps.get h.2 h1 h2
def EQ (L:Nat→Bool):Nat→List Dn→List Dn
 | _,[]=>[]
 | i,D :: r=>match L i with | true=>D :: EQ L (i+1) r | false=>EQ L (i+1) r
theorem Z5 {L L':Nat→Bool}:∀ (l:List Dn) (i:Nat),(∀ j,i≤j→j < i+l.length→L j=L' j)→EQ L i l=EQ L' i l
 | [],_,_=>rfl
 | D :: r,i,h=>by
  simp only [EQ];rw [h i (AX i) (by simp),Z5 r (i+1) (fun j h1 h2=>h j (by omega) (by simp only [AM]; omega))]
theorem gF:∀ (l:List Dn) (i:Nat),EQ (fun _=>false) i l=[]
 | [],_=>rfl
 | D :: r,i=>by simp only [EQ,gF r]
theorem Ja:∀ (l:List Dn) (i:Nat),EQ (fun _=>true) i l=l
 | [],_=>rfl
 | D :: r,i=>by simp only [EQ,Ja r]
theorem Jb (k:Nat):∀ (l:List Dn) (i:Nat),EQ (fun j=>decide (j < i+k)) i l=l.take k
 | [],i=>by simp [EQ]
 | D :: r,i=>by
  cases k with
  | zero=>
   rw [Z5 (L':=fun _=>false) _ _ (fun j h1 h2=>by simp; omega),gF];rfl
  | succ k=>
   simp only [EQ];rw [show decide (i < i+(k+1))=true by simp];simp only [List.take_succ_cons,vau,vaA]
   have:=Jb k r (i+1)
   rw [show i+(k+1)=i+1+k by omega];exact this
theorem S8 {L L':Nat→Bool} {n:Nat}:∀ (l:List Dn) (i:Nat) {s s':St},DO s.o n=DO s'.o n→(∀ j D,l[j]?=some D→n∈IX D.us→L (i+j)=L' (i+j))→DO (apDs s (EQ L i l)).o n=DO (apDs s' (EQ L' i l)).o n
 | [],_,_,_,h,_=>h
 | D :: r,i,s,s',h,hl=>by
  have hr:∀ j E,r[j]?=some E→n∈IX E.us→L (i+1+j)=L' (i+1+j):=fun j E hj hn=>by
   have:=hl (j+1) E (by simpa using hj) hn
   rwa [show i+(j+1)=i+1+j by omega] at this
  have one:∀ {s:St},n ∉ IX D.us→DO (apD s D).o n=DO s.o n:=fun h=>VG h
  by_cases hn:n∈IX D.us
  ·have h0:=hl 0 D rfl hn;simp only [C8] at h0;simp only [EQ,h0];cases L' i with
   | true=>exact S8 r (i+1) (tY hn) hr
   | false=>exact S8 r (i+1) h hr
  ·simp only [EQ];cases L i <;> cases L' i <;> simp only [apDs]
   ·exact S8 r (i+1) h hr
   ·exact S8 r (i+1) (h.trans (one hn).symm) hr
   ·exact S8 r (i+1) ((one hn).trans h) hr
   ·exact S8 r (i+1) ((one hn).trans (h.trans (one hn).symm)) hr
theorem PT (s:St) (D:Dn) (t:Nat):(apD s D).get t=if D.dst=some t then D.v else s.get t:=by
 unfold apD;cases hd:D.dst with
 | none=>simp [St.put,St.get]
 | some d=>
  have:=Zl s d D.v t
  simp only [AC];exact this
theorem S7 {L L':Nat→Bool} {t:Nat}:∀ (l:List Dn) (i:Nat) {s s':St},s.get t=s'.get t→(∀ j D,l[j]?=some D→D.dst=some t→L (i+j)=L' (i+j))→(apDs s (EQ L i l)).get t=(apDs s' (EQ L' i l)).get t
 | [],_,_,_,h,_=>h
 | D :: r,i,s,s',h,hl=>by
  have hr:∀ j E,r[j]?=some E→E.dst=some t→L (i+1+j)=L' (i+1+j):=fun j E hj hn=>by
   have:=hl (j+1) E (by simpa using hj) hn
   rwa [show i+(j+1)=i+1+j by omega] at this
  by_cases hn:D.dst=some t
  ·have h0:=hl 0 D rfl hn;simp only [C8] at h0;simp only [EQ,h0];cases L' i with
   | true=>exact S7 r (i+1) (by rw [PT,PT,BP hn,BP hn]) hr
   | false=>exact S7 r (i+1) h hr
  ·simp only [EQ];cases L i <;> cases L' i <;> simp only [apDs]
   ·exact S7 r (i+1) h hr
   ·exact S7 r (i+1) (by rw [PT,BB hn]; exact h) hr
   ·exact S7 r (i+1) (by rw [PT,BB hn]; exact h) hr
   ·exact S7 r (i+1) (by rw [PT,PT,BB hn,BB hn]; exact h) hr
theorem r8 {L:Nat→Bool} {n:Nat}:∀ (l:List Dn) (i:Nat) {s:St},Fr n s→(∀ j D,l[j]?=some D→L (i+j)=true→PU D.v=true∧n ∉ FA D.v∧∀ u∈D.us,∀ m ob,(u = .new m ob∨u = .set m ob)→HQ n (some ob)=some ob)→Fr n (apDs s (EQ L i l))
 | [],_,_,h,_=>h
 | D :: r,i,s,h,hl=>by
  have hr:∀ j E,r[j]?=some E→L (i+1+j)=true→PU E.v=true∧n ∉ FA E.v∧∀ u∈E.us,∀ m ob,(u = .new m ob∨u = .set m ob)→HQ n (some ob)=some ob:=fun j E hj hn=>by
   refine hl (j+1) E (by simpa using hj) ?_
   rwa [show i+(j+1)=i+1+j by omega]
  simp only [EQ];cases hL:L i with
  | false=>exact r8 r (i+1) h hr
  | true=>
   refine r8 r (i+1) ?_ hr;obtain ⟨h1,h2,h3⟩:=hl 0 D rfl hL;refine ⟨fun t=>?_,?_⟩
   ·rw [PT];split
    ·exact Iu h1 h2
    ·exact h.t t
   ·have key:∀ (us:List Upd) (o:Store),(∀ u∈us,∀ m ob,(u = .new m ob∨u = .set m ob)→HQ n (some ob)=some ob)→(∀ m,HQ n (DO o m)=DO o m)→∀ m,HQ n (DO (JV us o) m)=DO (JV us o) m:=by
     intro us
     induction us with
     | nil=>intro o _ h; exact h
     | cons u us ih=>
      intro o hu ho;have hu':=fun u' hu'=>hu u' (AW _ hu')
      cases u with
      | kill k=>exact ih _ hu' (fun m=>by rw [EJ]; split <;> first | rfl | exact ho m)
      | set k ob=>exact ih _ hu' (fun m=>by rw [EJ]; split <;> first | exact hu _ (AN ..) k ob (.inr rfl) | exact ho m)
      | new k ob=>exact ih _ hu' (fun m=>by rw [EJ]; split <;> first | exact hu _ (AN ..) k ob (.inl rfl) | exact ho m)
    exact key D.us s.o h3 h.o
theorem r9 {L:Nat→Bool}:∀ (l l':List Dn) (i:Nat),EQ L i (l++l')=EQ L i l++EQ L (i+l.length) l'
 | [],l',i=>by simp [EQ]
 | D :: r,l',i=>by
  simp only [CS,EQ,AM];rw [show i+(r.length+1)=i+1+r.length by omega];cases L i <;> simp [r9 r l' (i+1)]
open Go Go.RowKit
theorem ZS:∀ (l:List (List Nat)) (i:Nat),HZ l i=(l[i]?).getD []
 | [],i=>by simp [HZ]
 | x :: r,0=>rfl
 | x :: r,i+1=>by simp only [HZ,ZS r i,DI]
theorem kA {acc:List (List Nat)} {j:Nat}:∀ {es:List Edge},j∈U5 acc es→∃ e∈es,vaY .any e=true∧(j=e.on∨j∈HZ acc e.on)
 | [],h=>by simp [U5] at h
 | e :: r,h=>by
  simp only [U5] at h;split at h
  ·rename_i hb;simp only [AP,AV] at h;rcases h with h | h | h
   ·exact ⟨e,AN ..,hb,.inl h⟩
   ·exact ⟨e,AN ..,hb,.inr h⟩
   ·obtain ⟨e',h1,h2⟩:=kA h;exact ⟨e',AW _ h1,h2⟩
  ·obtain ⟨e',h1,h2⟩:=kA h;exact ⟨e',AW _ h1,h2⟩
def S3 (acc:List Nat):List Nat→List Nat
 | []=>acc
 | n :: r=>match KN n acc with
  | true=>S3 acc r
  | false=>S3 (n :: acc) r
theorem XK (k:List Nat→List (List Nat)):∀ (l acc:List Nat),fM acc l k=k (S3 acc l)
 | [],_=>rfl
 | n :: r,acc=>by
  simp only [fM,S3];cases KN n acc with
  | true=>exact XK k r acc
  | false=>exact XK k r (n :: acc)
theorem pT {j:Nat}:∀ {l acc:List Nat},j∈S3 acc l→j∈acc∨j∈l
 | [],_,h=>.inl h
 | n :: r,acc,h=>by
  simp only [S3] at h;cases hb:KN n acc with
  | true=>
   rw [hb] at h;exact (pT h).imp_right (AW _)
  | false=>
   rw [hb] at h;rcases pT h with h1 | h1
   ·rcases AP.1 h1 with rfl | h1
    ·exact .inr (AN ..)
    ·exact .inl h1
   ·exact .inr (AW _ h1)
theorem Dk {j:Nat} {l:List Nat} (h:j∈S3 [] l):j∈l:=(pT h).resolve_left (by simp)
theorem qZ:∀ (l:List Oper) (acc:List (List Nat)) (i:Nat),i < acc.length→HZ (I1 acc l) i=HZ acc i
 | [],_,_,_=>rfl
 | o :: r,acc,i,h=>by
  simp only [I1,XK];rw [qZ r _ i (by simp; omega),ZS,ZS,vbw h]
theorem qY:∀ (l:List Oper) (acc:List (List Nat)) (i:Nat) (o:Oper),l[i]?=some o →
  ∃ acc',acc'.length=acc.length+i∧HZ (I1 acc l) (acc.length+i)=S3 [] (U5 acc' o.after.toList)∧∀ k,k < acc'.length→HZ acc' k=HZ (I1 acc l) k
 | [],_,_,_,h=>by simp at h
 | o :: r,acc,0,o',h=>by
  simp only [BY,AC] at h;subst h;refine ⟨acc,rfl,?_,fun k hk=>?_⟩
  ·simp only [I1,XK,C8];rw [qZ r _ acc.length (by simp),ZS];simp
  ·simp only [I1,XK];rw [qZ r _ k (by simp; omega),ZS,ZS,vbw hk]
 | o :: r,acc,i+1,o',h=>by
  simp only [DI] at h;obtain ⟨acc',h1,h2,h3⟩:=qY r (acc++[S3 [] (U5 acc o.after.toList)]) i o' h;simp only [AS,AM,A7] at h1 h2;refine ⟨acc',by omega,?_,fun k hk=>by rw [I1,XK]; exact h3 k hk⟩;rw [show acc.length+(i+1)=acc.length+(0+1)+i by omega,I1,XK];exact h2
theorem i6:∀ {l:List Oper} {k i:Nat} {o:Oper} {e:Edge},SU k l=true→l[i]?=some o→e∈o.after.toList→vaY .any e=true→e.on < k+i
 | [],_,_,_,_,_,h,_,_=>by simp at h
 | o :: r,k,0,o',e,hu,h,he,hb=>by
  simp only [BY,AC] at h;subst h;simp only [SU,AH] at hu;have key:∀ (es:List Edge),SU.go k es=true→e∈es→e.on < k:=by
   intro es
   induction es with
   | nil=>intro _ h; cases h
   | cons x es ih=>
    intro hg hm;simp only [SU.go] at hg;rcases AP.1 hm with h1 | h1
    ·subst h1;rw [hb] at hg;simp only [AH] at hg;exact AO hg.1
    ·split at hg
     ·simp only [AH] at hg;exact ih hg.2 h1
     ·exact ih hg h1
  exact key _ hu.1 he
 | o :: r,k,i+1,o',e,hu,h,he,hb=>by
  simp only [DI] at h;simp only [SU,AH] at hu
  have:=i6 hu.2 h he hb
  omega
section
variable {ops:List Oper}
def uS (ops:List Oper) (L:Nat→Bool):Prop:=∀ i o,ops[i]?=some o→L i=true→∀ e∈o.after.toList,vaY .any e=true→L e.on=true
theorem Ge (hu:SU 0 ops=true):∀ (i:Nat) {o:Oper},ops[i]?=some o→∀ j∈HZ (I1 [] ops) i,j < i:=by
 intro i
 induction i using vbq with
 | _ i ih=>
  intro o ho j hj;obtain ⟨acc',h1,h2,h3⟩:=qY ops [] i o ho;simp only [A7,BL] at h1 h2;rw [h2] at hj;obtain ⟨e,he,hb,h4⟩:=kA (Dk hj);have hlt:=i6 hu ho he hb;rw [BL] at hlt;rcases h4 with h4 | h4
  ·omega
  ·have hk:e.on < acc'.length:=by omega
   rw [h3 _ hk] at h4;have hlen:i < ops.length:=(BS.1 ho).1
   have:=ih e.on hlt (o:=ops[e.on]'(by omega)) (by simp [Nat.lt_trans hlt hlen]) j h4
   omega
theorem Gf {L:Nat→Bool} (hu:SU 0 ops=true) (hL:uS ops L):∀ (i:Nat) {o:Oper},ops[i]?=some o→(∀ e∈o.after.toList,vaY .any e=true→L e.on=true)→∀ j∈HZ (I1 [] ops) i,L j=true:=by
 intro i
 induction i using vbq with
 | _ i ih=>
  intro o ho hr j hj;obtain ⟨acc',h1,h2,h3⟩:=qY ops [] i o ho;simp only [A7,BL] at h1 h2;rw [h2] at hj;obtain ⟨e,he,hb,h4⟩:=kA (Dk hj);have hlt:=i6 hu ho he hb;rw [BL] at hlt;rcases h4 with h4 | h4
  ·subst h4;exact hr e he hb
  ·have hk:e.on < acc'.length:=by omega
   rw [h3 _ hk] at h4;have hlen:i < ops.length:=(BS.1 ho).1;have hg:ops[e.on]?=some (ops[e.on]'(by omega)):=by simp [Nat.lt_trans hlt hlen]
   exact ih e.on hlt hg (hL e.on _ hg (hr e he hb)) j h4
end
theorem zfh {d:Option Nat} {l:List Nat} (h:Fe d l=false):∀ t,d=some t→t ∉ l:=by
 rintro t rfl;exact fK.1 h
theorem zfg {d e:Option Nat} (h:qM d e=false):∀ t,d=some t→e≠some t:=by
 rintro t rfl h';subst h';simp only [qM] at h;exact IN.1 h rfl
theorem Fu {ps:List (List Nat)} {pi:List Nat} {i:Nat} {x:Dn}:∀ {l:List Dn} {k j:Nat} {y:Dn},ZW ps pi i x k l=true→l[j]?=some y→i≠k+j→fR pi (HZ ps (k+j)) i (k+j) x y=true
 | [],_,_,_,_,h,_=>by simp at h
 | z :: r,k,0,y,h,hy,hne=>by
  simp only [BY,AC] at hy;subst hy;simp only [ZW,AH,vao] at h;rcases h.1 with h1 | h1
  ·exact absurd (F9.1 h1) hne
  ·exact h1
 | z :: r,k,j+1,y,h,hy,hne=>by
  simp only [DI] at hy;simp only [ZW,AH] at h
  have:=Fu (k:=k+1) h.2 hy (by omega)
  rw [show k+(j+1)=k+1+j by omega];exact this
theorem Fs {ps:List (List Nat)} {all:List Dn}:∀ {l:List Dn} {k i:Nat} {x:Dn},fS ps all k l=true→l[i]?=some x→ZW ps (HZ ps (k+i)) (k+i) x 0 all=true
 | [],_,_,_,_,h=>by simp at h
 | z :: r,k,0,x,h,hx=>by
  simp only [BY,AC] at hx;subst hx;simp only [fS,AH] at h;exact h.1
 | z :: r,k,i+1,x,h,hx=>by
  simp only [DI] at hx;simp only [fS,AH] at h
  have:=Fs (k:=k+1) h.2 hx
  rw [show k+(i+1)=k+1+i by omega];exact this
theorem uX {ds:List Nat}:∀ {l:List Nat},iD ds l=true→∀ n∈l,O3 ds n=true
 | [],_,n,h=>by cases h
 | m :: r,h,n,hn=>by
  simp only [iD,AH] at h;rcases AP.1 hn with e | e
  ·subst e; exact h.1
  ·exact uX h.2 n e
theorem qH {ds:List Nat}:∀ {l:List Dn} {i:Nat} {x:Dn},fN ds l=true→l[i]?=some x→PU x.v=true∧PM x.us=true∧∀ n∈PA x.us,O3 ds n=true
 | [],_,_,_,h=>by simp at h
 | z :: r,0,x,h,hx=>by
  simp only [BY,AC] at hx;subst hx;simp only [fN,AH] at h;exact ⟨h.1,h.2.1,uX h.2.2.1⟩
 | z :: r,i+1,x,h,hx=>by
  simp only [DI] at hx;simp only [fN,AH] at h;exact qH h.2.2.2 hx
theorem Om {n:Nat}:∀ {us:List Upd},PM us=true→n ∉ UY us→∀ u∈us,∀ m ob,(u = .new m ob∨u = .set m ob)→HQ n (some ob)=some ob
 | [],_,_,u,hu,_,_,_=>by cases hu
 | u :: r,ho,hn,u',hu',m,ob,he=>by
  have h1:PM r=true∧n ∉ UY r∧(∀ m ob,(u = .new m ob∨u = .set m ob)→HQ n (some ob)=some ob):=by
   cases u with
   | kill k=>exact ⟨ho,hn,fun m ob h=>by rcases h with h | h <;> cases h⟩
   | set k ob'=>
    simp only [PM,AH] at ho;simp only [UY,AV,not_or] at hn;refine ⟨ho.2.2,hn.2,fun m ob h=>?_⟩;rcases h with h | h <;> cases h
    exact kZ ho.1 hn.1
   | new k ob'=>
    simp only [PM,AH] at ho;simp only [UY,AV,not_or] at hn;refine ⟨ho.2.2,hn.2,fun m ob h=>?_⟩;rcases h with h | h <;> cases h
    exact kZ ho.1 hn.1
  rcases AP.1 hu' with h | h
  ·subst h;exact h1.2.2 m ob he
  ·exact Om h1.1 h1.2.1 u' h m ob he
theorem tS {t:Nat}:∀ {l:List Operand},Operand.tmp t∈l→t∈X7 l
 | x :: r,h=>by
  rcases AP.1 h with h1 | h1
  ·subst h1; exact AN ..
  ·cases x <;> simp only [X7,AP] <;> first | exact .inr (tS h1) | exact tS h1
theorem zE {α:Type} {p q:α→Bool}:∀ {l:List α},(∀ x∈l,q x=true→p x=true)→(∃ x∈l,p x=true∧q x=false)→l.countP q < l.countP p
 | [],_,⟨_,h,_⟩=>by cases h
 | y :: r,h,⟨x,hx,h1,h2⟩=>by
  have hr:r.countP q≤r.countP p:=by
   clear hx;have h':∀ x∈r,q x=true→p x=true:=fun x hx=>h x (AW _ hx)
   exact List.countP_mono_left h'
  rcases AP.1 hx with e | e
  ·subst e;rw [vaQ h1,vbj (by simp [h2])];omega
  ·have:=zE (l:=r) (fun x hx=>h x (AW _ hx)) ⟨x,e,h1,h2⟩
   by_cases hq:q y=true
   ·rw [vaQ (h y (AN ..) hq),vaQ hq];omega
   ·rw [vbj hq];by_cases hp:p y=true
    ·rw [vaQ hp]; omega
    ·rw [vbj hp]; omega
section
variable {B:BT} {nt:Nat} {w0:World} {X:Zone} {γ:Nat→Value} {st st':St} {a:Act} {w:World} {P:Program} {E:Env}
variable (hT:TiOK P B E) (hE:∀ t,t∈E.eqs→EqSnd P t (E.tyd t).ks) (hSp:SpOK P B E w0 X) (hB:BldOK P B E) (hnt:E.nt=nt) (hn9:nt≤900000)
include hT hE hSp hB hnt hn9
theorem Wd {Q:Exit→Act→World→Prop} {ops:Array Oper} {s0:St} {Ds:List Dn} (hs:Steps E ops.toList ops.toList s0 Ds) (hfree:oK ops.toList Ds=true)
  (hfr:∀ n,O3 (W6 ops.toList) n=true→Fr n s0) (hQ:∀ γ' a' w',Rel B nt w0 X γ' (apDs s0 Ds) a' w'→Q .normal a' w') :
  ∀ (fuel:Nat) (listed:Array Bool) {γ:Nat→Value} {a:Act} {w:World},listed.size=ops.size→uS ops.toList (fun i=>listed.getD i false) →
   (vaI ops.size).countP (fun i=>!listed.getD i false)≤fuel→Rel B nt w0 X γ (apDs s0 (EQ (fun i=>listed.getD i false) 0 Ds)) a w→wpAny P .any ops Q fuel listed a w:=by
 have hlen:Ds.length=ops.size:=by simpa using hs.length
 simp only [oK,AH] at hfree;obtain ⟨hup,hone,hpairs⟩:=hfree;have hgd:∀ (listed:Array Bool) (i:Nat),listed.size=ops.size→i < ops.size→listed.getD i true=listed.getD i false:=fun listed i h1 h2=>by
  simp [Array.getD,h1,h2]
 have hready:∀ (listed:Array Bool) (i:Nat),listed.size=ops.size→(i∈vbG .any ops listed↔∃ o,ops.toList[i]?=some o∧listed.getD i false=false∧∀ e∈o.after.toList,vaY .any e=true→listed.getD e.on false=true):=by
  intro listed i hsz;simp only [vbG,List.mem_filter,vbn,AH,B1];constructor
  ·rintro ⟨h1,h2,h3⟩;refine ⟨ops[i],by simp [h1],by rw [← hgd listed i hsz h1]; exact h2,fun e he hb=>?_⟩;simp only [Array.getElem?_eq_getElem h1,vav,vaj,vbI,vao,B1] at h3;rcases h3 e (by simpa using he) with h4 | h4
   ·rw [hb] at h4; cases h4
   ·exact h4
  ·rintro ⟨o,ho,h2,h3⟩;obtain ⟨h1,rfl⟩:=BS.1 ho;simp only [CL] at h1;refine ⟨h1,by rw [hgd listed i hsz h1]; exact h2,?_⟩;simp only [Array.getElem?_eq_getElem h1,vav,vaj,vbI,vao,B1];intro e he;cases hb:vaY .any e with
   | false=>exact .inl rfl
   | true=>exact .inr (h3 e (by simpa using he) hb)
 have hend:∀ (listed:Array Bool) {γ:Nat→Value} {a:Act} {w:World},(∀ i,i < ops.size→listed.getD i false=true)→Rel B nt w0 X γ (apDs s0 (EQ (fun i=>listed.getD i false) 0 Ds)) a w→Q .normal a w:=by
  intro listed γ a w hall h;rw [Z5 (L':=fun _=>true) _ _ (fun j _ h2=>hall j (by omega)),Ja] at h;exact hQ γ a w h
 have hnil:∀ (listed:Array Bool),listed.size=ops.size→vbG .any ops listed=[]→∀ i,i < ops.size→listed.getD i false=true:=by
  intro listed hsz hr i
  induction i using vbq with
  | _ i ih=>
   intro hi;cases hL:listed.getD i false with
   | true=>rfl
   | false=>
    exfalso;have hm:i∈vbG .any ops listed:=by
     refine (hready listed i hsz).2 ⟨ops[i],by simp [hi],hL,fun e he hb=>?_⟩
     have:=i6 (i:=i) hup (by simp [hi]:ops.toList[i]?=some ops[i]) he hb
     exact ih e.on (by omega) (by omega)
    rw [hr] at hm;cases hm
 intro fuel
 induction fuel with
 | zero=>
  intro listed γ a w hsz hcl hcount h;have hall:∀ i,i < ops.size→listed.getD i false=true:=by
   intro i hi;have h0:(vaI ops.size).countP (fun i=>!listed.getD i false)=0:=by omega
   have:=(List.countP_eq_zero.1 h0) i (vbn.2 hi)
   simpa using this
  refine ⟨?_,hend listed hall h⟩;refine List.eq_nil_iff_forall_not_mem.2 (fun i hi=>?_);obtain ⟨o,ho,h2,_⟩:=(hready listed i hsz).1 hi;have h1:i < ops.size:=by simpa using (BS.1 ho).1
  rw [hall i h1] at h2;cases h2
 | succ fuel ih=>
  intro listed γ a w hsz hcl hcount h;refine ⟨fun hr=>hend listed (hnil listed hsz hr) h,fun i hi=>?_⟩;obtain ⟨o,ho,hLi,hedges⟩:=(hready listed i hsz).1 hi;have hi':i < ops.size:=by simpa using (BS.1 ho).1
  have hoi:ops[i]?=some o:=by simpa using ho
  obtain ⟨D,hD⟩:∃ D,Ds[i]?=some D:=⟨Ds[i]'(by omega),by simp [hlen,hi']⟩;generalize hLdef:(fun i=>listed.getD i false)=L at *;have hL:∀ j,listed.getD j false=L j:=fun j=>congrFun hLdef j
  simp only [hL] at hLi hedges;have hin:∀ j∈HZ (I1 [] ops.toList) i,L j=true:=Gf hup hcl i ho hedges;have hout:∀ j D',Ds[j]?=some D'→L j=true→i ∉ HZ (I1 [] ops.toList) j:=by
   intro j D' hj hLj hm;have hj':j < ops.size:=by have:=(BS.1 hj).1; omega
   have hoj:ops.toList[j]?=some ops[j]:=by simp [hj']
   have:=Gf hup hcl j hoj (hcl j _ hoj hLj) i hm
   rw [hLi] at this;cases this
  have hlt:∀ j,j∈HZ (I1 [] ops.toList) i→j < i:=Ge hup i ho;have hltj:∀ j D',Ds[j]?=some D'→i∈HZ (I1 [] ops.toList) j→i < j:=by
   intro j D' hj hm;have hj':j < ops.size:=by have:=(BS.1 hj).1; omega
   exact Ge hup j (by simp [hj']:ops.toList[j]?=some ops[j]) i hm
  have hpair:∀ j D',Ds[j]?=some D'→i≠j→fR (HZ (I1 [] ops.toList) i) (HZ (I1 [] ops.toList) j) i j D D'=true:=by
   intro j D' hj hne;have h1:=Fs (k:=0) hpairs hD;rw [BL] at h1;have h2:=Fu (k:=0) h1 hj (by omega)
   rwa [BL] at h2
  have hunord:∀ j D',Ds[j]?=some D'→i≠j→i ∉ HZ (I1 [] ops.toList) j→j ∉ HZ (I1 [] ops.toList) i →
    (∀ t,D'.dst=some t→t ∉ D.tm)∧(∀ t,D.dst=some t→D'.dst≠some t)∧(∀ n∈IX D'.us,n ∉ D.rd)∧(∀ n∈IX D.us,n ∉ IX D'.us):=by
   intro j D' hj hne h1 h2;have hp:=hpair j D' hj hne;simp only [fR,fK.2 h1,fK.2 h2,AH,B1] at hp;exact ⟨zfh hp.2.1,zfg hp.2.2.1,ZC.1 hp.2.2.2.1,ZC.1 hp.2.2.2.2⟩
  have hdiff:∀ j D',Ds[j]?=some D'→L j≠decide (j < i)→i≠j∧i ∉ HZ (I1 [] ops.toList) j∧j ∉ HZ (I1 [] ops.toList) i:=by
   intro j D' hj hne;cases hLj:L j with
   | true=>
    rw [hLj] at hne;have hji:¬ j < i:=fun h=>hne (by simp [h])
    have hij:i≠j:=fun e=>by subst e; rw [hLi] at hLj; cases hLj
    exact ⟨hij,hout j D' hj hLj,fun hm=>hji (hlt j hm)⟩
   | false=>
    rw [hLj] at hne;have hji:j < i:=by
     rcases DC j i with h | h
     ·exact h
     ·exact absurd (by simp; omega) hne
    refine ⟨by omega,fun hm=>?_,fun hm=>?_⟩
    ·have:=hltj j D' hj hm; omega
    ·have:=hin j hm; rw [hLj] at this; cases this
  have hstep:=Steps.get hs ho hD;have htake:apDs s0 (Ds.take i)=apDs s0 (EQ (fun j=>decide (j < i)) 0 Ds):=by
   have:=Jb i Ds 0
   rw [BL] at this;rw [this]
  rw [htake] at hstep;have hobj:∀ n∈D.rd,DO (apDs s0 (EQ L 0 Ds)).o n=DO (apDs s0 (EQ (fun j=>decide (j < i)) 0 Ds)).o n:=by
   intro n hn;refine S8 Ds 0 rfl (fun j D' hj hnm=>?_);rw [BL];refine vbN (fun hne=>?_);obtain ⟨h1,h2,h3⟩:=hdiff j D' hj hne;exact (hunord j D' hj h1 h2 h3).2.2.1 n hnm hn
  have htm:∀ t∈D.tm,(apDs s0 (EQ L 0 Ds)).get t=(apDs s0 (EQ (fun j=>decide (j < i)) 0 Ds)).get t:=by
   intro t ht;refine S7 Ds 0 rfl (fun j D' hj hnm=>?_);rw [BL];refine vbN (fun hne=>?_);obtain ⟨h1,h2,h3⟩:=hdiff j D' hj hne;exact (hunord j D' hj h1 h2 h3).1 t hnm ht
  have hafter:SEq (apD (apDs s0 (EQ L 0 Ds)) D) (apDs s0 (EQ (fun j=>(listed.setIfInBounds i true).getD j false) 0 Ds)):=by
   have hset:∀ j,(listed.setIfInBounds i true).getD j false=(L j||BQ j i):=by
    intro j;rw [← hL j];simp only [vbp,Array.getElem?_setIfInBounds,hsz];by_cases e:i=j
    ·subst e;simp [hi',vbl]
    ·rw [BB e,IN.2 (fun h=>e h.symm),Bool.or_false]
   rw [show (fun j=>(listed.setIfInBounds i true).getD j false)=(fun j=>L j||BQ j i) from funext hset];have hsplit:Ds=Ds.take i++D :: Ds.drop (i+1):=by
    have hi2:i < Ds.length:=by omega
    have h1:Ds[i]=D:=by have:=BS.1 hD; exact this.2
    rw [← h1];simp
   have hlate:∀ j D',(Ds.drop (i+1))[j]?=some D'→L (i+1+j)=true→(∀ t,D.dst=some t→D'.dst≠some t)∧∀ n∈IX D.us,n ∉ IX D'.us:=by
    intro j D' hj hLj;have hj':Ds[i+1+j]?=some D':=by rw [← hj,var]
    have h2:=hout _ D' hj' hLj;have h3:i+1+j ∉ HZ (I1 [] ops.toList) i:=fun hm=>by have:=hlt _ hm; omega
    exact ⟨(hunord _ D' hj' (by omega) h2 h3).2.1,(hunord _ D' hj' (by omega) h2 h3).2.2.2⟩
   have hli:(Ds.take i).length=i:=by simp; omega
   have hR:∀ s,apDs s (EQ (fun j=>L j||BQ j i) 0 Ds)=apDs (apD (apDs s (EQ L 0 (Ds.take i))) D) (EQ L (i+1) (Ds.drop (i+1))):=by
    intro s;rw [show EQ (fun j=>L j||BQ j i) 0 Ds=EQ (fun j=>L j||BQ j i) 0 (Ds.take i++D :: Ds.drop (i+1)) by rw [← hsplit]];rw [r9,mK,hli,BL];simp only [EQ,vbl,Bool.or_true,apDs];rw [Z5 (L':=L) (Ds.take i) 0 (fun j _ h2=>by rw [IN.2 (by omega),Bool.or_false]),Z5 (L':=L) (Ds.drop (i+1)) (i+1) (fun j h1 _=>by rw [IN.2 (by omega),Bool.or_false])]
   have hLs:∀ s,apDs s (EQ L 0 Ds)=apDs (apDs s (EQ L 0 (Ds.take i))) (EQ L (i+1) (Ds.drop (i+1))):=by
    intro s;rw [show EQ L 0 Ds=EQ L 0 (Ds.take i++D :: Ds.drop (i+1)) by rw [← hsplit]];rw [r9,mK,hli,BL];simp only [EQ,hLi]
   rw [hR,hLs];generalize apDs s0 (EQ L 0 (Ds.take i))=s1;refine ⟨fun t=>?_,fun n=>?_⟩
   ·by_cases e:D.dst=some t
    ·rw [PT,BP e]
     have:(apDs (apD s1 D) (EQ L (i+1) (Ds.drop (i+1)))).get t=(apDs (apD s1 D) (EQ (fun _=>false) (i+1) (Ds.drop (i+1)))).get t:=by
      refine S7 _ _ rfl (fun j D' hj hd=>?_);cases hLj:L (i+1+j) with
      | false=>rfl
      | true=>exact absurd hd ((hlate j D' hj hLj).1 t e)
     rw [this,gF];simp only [apDs];rw [PT,BP e]
    ·rw [PT,BB e];exact S7 _ _ (by rw [PT,BB e]) (fun _ _ _ _=>rfl)
   ·by_cases e:n∈IX D.us
    ·have:DO (apDs (apD s1 D) (EQ L (i+1) (Ds.drop (i+1)))).o n=DO (apDs (apD s1 D) (EQ (fun _=>false) (i+1) (Ds.drop (i+1)))).o n:=by
      refine S8 _ _ rfl (fun j D' hj hd=>?_);cases hLj:L (i+1+j) with
      | false=>rfl
      | true=>exact absurd hd ((hlate j D' hj hLj).2 n e)
     rw [this,gF];exact tY e
    ·have h1:DO (apD (apDs s1 (EQ L (i+1) (Ds.drop (i+1)))) D).o n=DO (apDs s1 (EQ L (i+1) (Ds.drop (i+1)))).o n:=VG e;rw [h1];exact S8 _ _ (VG e).symm (fun _ _ _ _=>rfl)
  have hnext:∀ γ' a' w',Rel B nt w0 X γ' (apD (apDs s0 (EQ L 0 Ds)) D) a' w'→wpAny P .any ops Q fuel (listed.setIfInBounds i true) a' w':=by
   intro γ' a' w' h';have hset:∀ j,(listed.setIfInBounds i true).getD j false=(L j||BQ j i):=by
    intro j;rw [← hL j];simp only [vbp,Array.getElem?_setIfInBounds,hsz];by_cases e:i=j
    ·subst e;simp [hi',vbl]
    ·rw [BB e,IN.2 (fun h=>e h.symm),Bool.or_false]
   refine ih (listed.setIfInBounds i true) (by simpa using hsz) ?_ ?_ (h'.seq hafter)
   ·intro j o' ho' hLj e he hb;simp only [hset] at hLj ⊢;by_cases e':j=i
    ·subst e';rw [ho] at ho';simp only [AC] at ho';subst ho';rw [hedges e he hb];rfl
    ·rw [IN.2 e',Bool.or_false] at hLj;rw [hcl j o' ho' hLj e he hb];rfl
   ·have:(vaI ops.size).countP (fun j=>!(listed.setIfInBounds i true).getD j false) < (vaI ops.size).countP (fun j=>!listed.getD j false):=by
     refine zE (fun j _ hj=>?_) ⟨i,vbn.2 hi',by rw [hL,hLi]; rfl,by rw [hset,vbl,Bool.or_true]; rfl⟩;rw [hset] at hj;rw [hL];cases hLj:L j <;> simp_all
    simp only [hL] at this hcount;omega
  obtain ⟨hok,hdst,htms,hguard⟩:=hstep;have hclean:=qH hone hD;have run:(EH E (apDs s0 (EQ (fun j=>decide (j < i)) 0 Ds)).o (opd (apDs s0 (EQ (fun j=>decide (j < i)) 0 Ds))) o.dst o.op).get=some (D.v,D.us)→D.rd=NU E (apDs s0 (EQ (fun j=>decide (j < i)) 0 Ds)).o (opd (apDs s0 (EQ (fun j=>decide (j < i)) 0 Ds))) o.op →
    (∀ x∈o.op.operands.toList,∀ t,x = .tmp t→t∈D.tm)→o.wp P a w (wpAny P .any ops Q fuel (listed.setIfInBounds i true)) Q:=by
   intro he hrd htmo;have h1:EH E (apDs s0 (EQ L 0 Ds)).o (opd (apDs s0 (EQ L 0 Ds))) o.dst o.op=EH E (apDs s0 (EQ (fun j=>decide (j < i)) 0 Ds)).o (opd (apDs s0 (EQ (fun j=>decide (j < i)) 0 Ds))) o.dst o.op:=by
    rw [Wo (ρ:=opd (apDs s0 (EQ L 0 Ds))) (ρ':=opd (apDs s0 (EQ (fun j=>decide (j < i)) 0 Ds))) (fun x hx=>?_)]
    ·exact Ad (fun n hn=>hobj n (by rw [hrd]; exact hn))
    ·cases x with
     | tmp t=>exact htm t (htmo _ hx t rfl)
     | _=>rfl
   rw [← h1] at he;have hn9':∀ d,o.dst=some d→d≠900000:=fun d hdd e=>by
    subst e;rw [hdd] at hok;simp only [P6] at hok;have h8:900000+1≤E.nt:=AO hok;omega
   refine Fd hT hE hSp hB h o hn9' he _ _ (fun γ' x w' h3 h4=>hnext γ' _ w' ?_);refine (h3.put hnt hok h4).seq ?_;have hfr':∀ n∈PA D.us,Fr n (apDs s0 (EQ L 0 Ds)):=by
    intro n hn;refine r8 Ds 0 (hfr n (hclean.2.2 n hn)) (fun j D' hj hLj=>?_);rw [BL] at hLj;have hne:i≠j:=fun e=>by subst e; rw [hLi] at hLj; cases hLj
    have hp:=hpair j D' hj hne;simp only [fR,fK.2 (hout j D' hj hLj),AH] at hp;have hdj:=ZC.1 hp.1 n hn;simp only [AV,not_or] at hdj;have hc':=qH hone hj;exact ⟨hc'.1,hdj.1,Om hc'.2.1 hdj.2⟩
   have:=(lV hfr' hclean.2.1).put o.dst D.v
   refine this.trans ?_;rw [← hdst];cases hdd:D.dst <;> exact ⟨fun t=>by simp only [apD,hdd,St.put]; try rfl,fun n=>by simp only [apD,St.put]⟩
  unfold wpOp;rw [hoi];simp only;have htmo:∀ x∈o.op.operands.toList,∀ t,x = .tmp t→t∈D.tm:=by
   rintro x hx t rfl
   have:=tS hx
   rw [htms];unfold MK;split
   ·split
    ·exact AW _ this
    ·exact this
   ·exact this
  split at hguard
  ·rename_i hg;rw [BP (by simp [C4,hg])];exact .inl (run hguard.1 hguard.2 htmo)
  ·rename_i j b hg;have skip:D.v = .tup []→D.us=[]→C4 o (yielded ops a.tmps)=false→(if C4 o (yielded ops a.tmps)=true then o.wp P a w (wpAny P .any ops Q fuel (listed.setIfInBounds i true)) Q∨(o.asks P a w∧LetsOut Q) else wpAny P .any ops Q fuel (listed.setIfInBounds i true) (a.put o.dst undef) w):=by
    intro h1 h2 h3;rw [BB (by rw [h3]; simp)];refine hnext γ _ w ?_;refine (h.put hnt hok (v:=.tup []) (x:=undef) (by simp only [VRel]; exact ⟨#[],rfl,by simp only [VRels]⟩)).seq ?_;rw [← hdst,← h1];cases hdd:D.dst <;> exact ⟨fun t=>by simp only [apD,hdd,St.put]; try rfl,fun n=>by simp only [apD,St.put,h2,JV]⟩
   have hdjm0:∀ dj,OY ops.toList j=some dj→dj∈D.tm:=by
    intro dj hdj;rw [htms];unfold MK;rw [hg];simp only [hdj];exact AN ..
   rcases hguard with ⟨dj,c,hdj,hc,hcase⟩ | ⟨dj,hdj,hc,h1,h2⟩
   case inr=>
    rw [← htm dj (hdjm0 dj hdj)] at hc;have hy:yielded ops a.tmps j=none:=by
     unfold yielded;rw [show ops[j]?=ops.toList[j]? by simp,eC _ _ _ hdj];rcases Ol h hc with h0 | h0 <;> simp [h0]
    exact skip h1 h2 (by simp [C4,hg,hy])
   have hdjm:dj∈D.tm:=by
    rw [htms];unfold MK;rw [hg];simp only [hdj];exact AN ..
   rw [← htm dj hdjm] at hc;have hy:yielded ops a.tmps j=some c:=by
    unfold yielded;rw [show ops[j]?=ops.toList[j]? by simp,eC _ _ _ hdj];simp [vW h hc]
   rcases hcase with ⟨rfl,h1,h2⟩ | ⟨hne,h1,h2⟩
   ·rw [BP (by simp [C4,hg,hy])];exact .inl (run h1 h2 htmo)
   ·exact skip h1 h2 (by simp [C4,hg,hy,hne])
theorem Wm {Q:Exit→Act→World→Prop} (hm:P.follows .mixedOrders=true) {r:V × List (List V)} {id:Nat} {ops:Array Oper} {k:St→DP} {γ:Nat→Value} {st:St} {a:Act} {w:World}
  (he:oA E ops.toList st k=some r) (h:Rel B nt w0 X γ st a w) (hk:∀ γ' st' a' w',Rel B nt w0 X γ' st' a' w'→k st'=some r→Q .normal a' w'):(Code.region id ops true).wp P Q a w:=by
 refine wp_region_any hm ?_;unfold oA at he;obtain ⟨Ds,s',h1,h2,h3⟩:=Ac ops.toList he;split at h3
 ·rename_i hf;simp only [C9,List.reverse_reverse] at hf;have h0:Rel B nt w0 X γ (NH (W6 ops.toList) st) a { w with drawn:=w.drawn+1 }:=(h.clear (W6 ops.toList)).world (Keep.drew _ w);refine Wd hT hE hSp hB hnt hn9 h1 hf (fun n hn=>Uy hn st) (fun γ' a' w' h'=>hk γ' s' a' w' (h'.seq h2.symm) h3) ops.size (Array.replicate ops.size false) (by simp) ?_ ?_ (γ:=γ) ?_
  ·intro i o ho hL;have hi:i < ops.size:=by simpa using (BS.1 ho).1
   simp [Array.getD,hi] at hL
  ·refine C2 (List.countP_le_length) ?_;simp
  ·rw [Z5 (L':=fun _=>false) _ _ (fun j _ _=>by simp [Array.getD]),gF];exact h0
 ·cases h3
end
open Go Go.RowKit
section
variable {B:BT} {nt:Nat} {w0:World} {X:Zone} {γ:Nat→Value} {st st':St} {a:Act} {w:World} {P:Program} {E:Env}
theorem jV (s:St):∀ (l:List Nat) (i:Nat),E6 .any (UU s l) i=s.get i∨E6 .any (UU s l) i = .any
 | [],i=>.inr rfl
 | j :: r,i=>by
  simp only [UU,RD];by_cases e:j=i
  ·subst e; simp
  ·simp only [BB e];exact jV s r i
theorem Bz (s:St):∀ (l:List Nat) (n:Nat) (ob:Ob),DO (eY s l) n=some ob→DO s.o n=some ob
 | [],n,ob,h=>by simp [eY,DO,E6] at h
 | j :: r,n,ob,h=>by
  simp only [eY,EJ] at h;split at h
  ·rename_i e;subst e;exact h
  ·exact Bz s r n ob h
theorem Rel.prune (h:Rel B nt w0 X γ st a w) (kp:Option (List Nat)):Rel B nt w0 X γ (prune kp st) a w:=by
 cases kp with
 | none=>exact h
 | some l=>exact h.less (fun i=>jV st l i) (fun _ _ h=>h)
theorem VRels.putOne {γ:Nat→Value} {o:Store} {w:World} {O:Nat→Prop} {v:V} {x:Value} (hv:VRel γ o w O v x):∀ {cs:List V} {xs:List Value} {c:Nat},VRels γ o w O cs xs→xs[c]?=some x→VRels γ o w O (G7 cs c [v]) xs
 | [],[],_,_,h=>by simp at h
 | [],_ :: _,_,h,_=>by simp only [VRels] at h
 | _ :: _,[],_,h,_=>by simp only [VRels] at h
 | u :: cs,y :: xs,0,h,hx=>by
  simp only [VRels] at h;simp only [BY,AC] at hx;subst hx
  have:G7 cs 0 []=cs:=by cases cs <;> rfl
  simp only [G7,this,VRels];exact ⟨hv,h.2⟩
 | u :: cs,y :: xs,c+1,h,hx=>by
  simp only [VRels] at h;simp only [DI] at hx;simp only [G7,VRels];exact ⟨h.1,VRels.putOne hv h.2 hx⟩
def Sk (γ:Nat→Value) (o:Store) (w:World) (a:Act) (x:Value):Loc→Prop
 | .tmp t=>x=a.tmps.getD t undef
 | .cell b c=>∃ cs bb T cc,DO o b=some (.box cs)∧γ b = .pointer (some ⟨bb,0,none⟩)∧w.heap[bb]?=some (.cells cc T (0,0))∧cc.toList[c]?=some x
def mF (γ:Nat→Value) (o:Store) (w:World) (a:Act) (x:Value):Loc→Prop
 | .tmp t=>x=a.tmps.getD t undef
 | .cell b c=>∀ cs,DO o b=some (.box cs)→∃ bb T cc,γ b = .pointer (some ⟨bb,0,none⟩)∧w.heap[bb]?=some (.cells cc T (0,0))∧cc.toList[c]?=some x
theorem Rel.at (h:Rel B nt w0 X γ st a w) (l:Loc) {v:V} (hv:pK st l=v) (hne:v≠.any):∃ x,VRel γ st.o w (DR X γ st.o) v x ∧
  Sk γ st.o w a x l:=by
 subst hv;cases l with
 | tmp t=>exact ⟨_,h.tm t,rfl⟩
 | cell b c=>
  simp only [pK] at hne ⊢;split at hne
  ·rename_i cs hob;have hor:=h.ob b _ hob;simp only [ObRel] at hor;obtain ⟨bb,cc,T,hg,hh,hr⟩:=hor;rw [fL] at hne ⊢;cases hc:cs[c]? with
   | none=>rw [hc] at hne; exact absurd rfl hne
   | some u=>
    obtain ⟨x,hx,hrx⟩:=hr.get hc;exact ⟨x,hrx,cs,bb,T,cc,hob,hg,hh,hx⟩
  ·exact absurd rfl hne
theorem Rel.putLoc {γ2:Nat→Value} {st2:St} (h2:Rel B nt w0 X γ2 st2 a w) (l:Loc) {v:V} {x:Value} (hv:VRel γ2 st2.o w (DR X γ2 st2.o) v x)
  (hx:mF γ2 st2.o w a x l):Rel B nt w0 X γ2 (putLoc st2 v l) a w:=by
 cases l with
 | tmp t=>
  simp only [mF] at hx;subst hx;refine ⟨h2.sz,h2.df,fun i=>?_,h2.ob,h2.lt,h2.dis,h2.keep,h2.nr,h2.fl,h2.pn⟩;simp only [FM.putLoc,St.get,RD];split
  ·rename_i e;subst e;exact hv
  ·exact h2.tm i
 | cell b c=>
  simp only [FM.putLoc];split
  ·rename_i cs hob;simp only [mF] at hx;obtain ⟨bb,T,cc,hg,hh,hcx⟩:=hx cs hob;have hob':∀ m,DO ((b,some (.box (G7 cs c [v]))) :: st2.o) m=if b=m then some (.box (G7 cs c [v])) else DO st2.o m:=fun m=>EJ ..
   have hlen:(G7 cs c [v]).length=cs.length:=by
    have key:∀ (cs:List V) (c:Nat),(G7 cs c [v]).length=cs.length:=by
     intro cs
     induction cs with
     | nil=>intro c; cases c <;> rfl
     | cons u r ih=>
      intro c;cases c with
      | zero=>
       have:G7 r 0 []=r:=by cases r <;> rfl
       simp [G7,this]
      | succ c=>simp [G7,ih]
    exact key cs c
   have hP:∀ b',FD γ2 ((b,some (.box (G7 cs c [v]))) :: st2.o) b'→FD γ2 st2.o b':=by
    rintro b' ⟨m,ob,hm,hb⟩;rw [hob'] at hm;split at hm
    ·rename_i e;subst e;simp only [AC] at hm;subst hm;exact ⟨_,_,hob,hb⟩
    ·exact ⟨m,ob,hm,hb⟩
   have hO:∀ b',b' < w.heap.size→DR X γ2 ((b,some (.box (G7 cs c [v]))) :: st2.o) b'→DR X γ2 st2.o b':=fun b' _ hb=>hb.imp_left (hP b')
   have hc:Cmp γ2 st2.o γ2 ((b,some (.box (G7 cs c [v]))) :: st2.o):=by
    intro m ob' hm;rw [hob'] at hm;split at hm
    ·rename_i e;subst e;simp only [AC] at hm;subst hm;exact ⟨rfl,_,hob,hlen.symm⟩
    ·exact ⟨rfl,ob',hm,ob'.fits_refl⟩
   refine ⟨h2.sz,h2.df,fun i=>VRel.mono (Keep.refl _ w) hO (VRel.cmp hc (h2.tm i)),fun m ob hm=>?_,fun b' hb=>h2.lt b' (hP b' hb),fun m1 m2 ob1 ob2 b' hne h3 h4 hb1 hb2=>?_,h2.keep,fun b' hb=>h2.nr b' (hP b' hb),h2.fl,fun p hp ob hm=>?_⟩
   ·simp only at hm ⊢;rw [hob'] at hm;split at hm
    ·rename_i e;subst e;simp only [AC] at hm;subst hm;have hor:=h2.ob _ _ hob;simp only [ObRel] at hor ⊢;obtain ⟨bb',cc',T',hg',hh',hr'⟩:=hor;rw [hg] at hg';simp only [C0,AC,DH,B7] at hg';subst hg';rw [hh] at hh';simp only [AC,Obj.cells.injEq] at hh';obtain ⟨rfl,rfl,_⟩:=hh';exact ⟨bb,cc,T,hg,hh,VRels.mono (Keep.refl _ w) hO (VRels.cmp hc (VRels.putOne hv hr' hcx))⟩
    ·exact (h2.ob m ob hm).later (fun _ _=>rfl) (Keep.refl _ w) hO hc
   ·have key:∀ m ob,DO ((b,some (.box (G7 cs c [v]))) :: st2.o) m=some ob→FE (γ2 m) ob b'→∃ ob0,DO st2.o m=some ob0∧FE (γ2 m) ob0 b':=by
     intro m ob hm hb;rw [hob'] at hm;split at hm
     ·rename_i e;subst e;simp only [AC] at hm;subst hm;exact ⟨_,hob,hb⟩
     ·exact ⟨ob,hm,hb⟩
    obtain ⟨o1,q1,q2⟩:=key m1 ob1 h3 hb1;obtain ⟨o2,q3,q4⟩:=key m2 ob2 h4 hb2;exact h2.dis m1 m2 o1 o2 b' hne q1 q3 q2 q4
   ·simp only at hm;rw [hob'] at hm;split at hm
    ·rename_i e;exact h2.pn p hp _ (e ▸ hob)
    ·exact h2.pn p hp ob hm
  ·exact h2
theorem Rel.canon1 (h:Rel B nt w0 X γ st a w) (c:Can):∃ γ',Rel B nt w0 X γ' (canon1 c st) a w:=by
 unfold FM.canon1;split
 ·exact ⟨γ,h⟩
 rename_i h9;have h9:=IN.1 h9;split
 ·rename_i hv;split
  ·rename_i hks;have hks':0 < c.ks.length:=AO hks;obtain ⟨x,hx,hat⟩:=h.at c.loc hv (by simp);simp only [VRel] at hx;have hadd:=h.add c.nm h9 (.row true c.e c.ag c.ks []) (.slice none 0 0) (fun b hb=>by simp [FE,CD] at hb) (fun O' hO'=>by
    simp only [ObRel];exact ⟨hks',by simp [strMax],[],⟨by simp,.inl ⟨rfl,rfl⟩⟩,fun i y hy=>by simp at hy⟩)
   have hadd:=hadd.shrink (F:=X.far) (fun b hb=>⟨hb,fun hb'=>by simp [FE,CD] at hb'⟩);refine ⟨_,hadd.putLoc c.loc (x:=x) ?_ ?_⟩
   ·simp only [VRel,GW,CQ];subst hx;exact ⟨AX _,none,0,0,none,rfl,rfl,AX _,AX _,AX _,by simp [maxLen],.inl rfl,fun _=>rfl⟩
   ·revert hat;cases c.loc with
    | tmp t=>exact fun hat=>hat
    | cell b k=>
     intro hat;obtain ⟨cs,bb,T,cc,q1,q2,q3,q4⟩:=hat;intro cs2 hcs2;rw [GW] at hcs2;split at hcs2
     ·cases hcs2
     ·rename_i hne;exact ⟨bb,T,cc,by simp only [BB hne]; exact q2,q3,q4⟩
  ·exact ⟨γ,h⟩
 ·rename_i n lo hi hv;split
  ·rename_i e ag ks l hn hlo hob;have hn':=IN.1 hn;obtain rfl:=F9.1 hlo;obtain ⟨x,hx,hat⟩:=h.at c.loc hv (by simp);simp only [VRel,hob] at hx;have hk:=h.kill n;have hor:=h.ob n _ hob;have hkb:∀ b,FE (γ n) (.row true e ag ks l) b→E7 γ st.o n b:=fun b hb=>⟨_,hob,hb⟩
   have hadd:=hk.add c.nm h9 (.row true e ag ks l) (γ n) (fun b hb=>⟨.inr (hkb b hb),(h.lt b ⟨n,_,hob,hb⟩).2⟩) (fun O' hO'=>by
    simp only [ObRel] at hor ⊢;obtain ⟨k1,k2,xs,k3,k4⟩:=hor;refine ⟨k1,k2,xs,k3,fun i y hy=>Kd.RelAll.mono (Keep.refl _ w) (fun b _ hb=>?_) (fun _ _ hu=>hu) (k4 i y hy)⟩;rcases hO' b hb with h1 | h1 | h1
    ·obtain ⟨m,ob1,q1,q2⟩:=h1;simp only [St.up] at q1;rw [EJ] at q1;split at q1
     ·cases q1
     ·exact .inl ⟨m,ob1,q1,q2⟩
    ·exact .inr h1
    ·obtain ⟨ob1,q1,q2⟩:=h1;exact .inl ⟨n,ob1,q1,q2⟩)
   have hadd:=hadd.shrink (F:=X.far) (fun b hb=>⟨.inl hb,fun hb'=>h.nr b ⟨n,_,hob,hb'⟩ hb⟩);refine ⟨_,hadd.putLoc c.loc (x:=x) ?_ ?_⟩
   ·simp only [VRel,GW,CQ];exact hx
   ·revert hat;cases c.loc with
    | tmp t=>exact fun hat=>hat
    | cell b k=>
     intro hat;obtain ⟨cs,bb,T,cc,q1,q2,q3,q4⟩:=hat;intro cs2 hcs2;rw [GW] at hcs2;split at hcs2
     ·cases hcs2
     ·rename_i hne;exact ⟨bb,T,cc,by simp only [BB hne]; exact q2,q3,q4⟩
  ·exact ⟨γ,h⟩
 ·exact ⟨γ,h⟩
theorem Rel.canons:∀ (l:List Can) {γ:Nat→Value} {st:St},Rel B nt w0 X γ st a w→∃ γ',Rel B nt w0 X γ' (canons l st) a w
 | [],γ,st,h=>⟨γ,h⟩
 | c :: r,γ,st,h=>by
  obtain ⟨γ1,h1⟩:=h.canon1 c;exact Rel.canons r h1
theorem Rel.restrict (h:Rel B nt w0 X γ st a w) (kp:KP):∃ γ',Rel B nt w0 X γ' (restrict kp st) a w:=by
 have h1:Rel B nt w0 X γ ⟨UU st kp.t,st.o⟩ a w:=h.less (fun i=>jV st kp.t i) (fun _ _ h=>h);obtain ⟨γ',h2⟩:=h1.canons kp.c;exact ⟨γ',h2.less (fun i=>jV _ kp.t i) (fun n ob=>Bz _ kp.o n ob)⟩
variable (hT:TiOK P B E) (hE:∀ t,t∈E.eqs→EqSnd P t (E.tyd t).ks) (hSp:SpOK P B E w0 X) (hB:BldOK P B E) (hnt:E.nt=nt) (hn9:nt≤900000)
include hT hE hSp hB hnt hn9
theorem oB {Q:Exit→Act→World→Prop} {r:V × List (List V)} {ops:Array Oper} {k:St→DP} :
  ∀ (l:List Oper) (i:Nat) {γ:Nat→Value} {st:St} {a:Act} {w:World},ops.toList.drop i=l→OZ E ops.toList l st k=some r→Rel B nt w0 X γ st a w →
   (∀ γ' st' a' w',Rel B nt w0 X γ' st' a' w'→k st'=some r→Q .normal a' w')→wpOps P ops Q (List.range' i l.length) a w
 | [],i,γ,st,a,w,hl,he,h,hk=>by
  simp only [OZ] at he;exact hk _ _ _ _ h he
 | o :: l,i,γ,st,a,w,hl,he,h,hk=>by
  have hoi:ops[i]?=some o:=by
   rw [← vaw]
   have:=congrArg (·[0]?) hl
   simpa using this
  have hl':ops.toList.drop (i+1)=l:=by
   have:=congrArg (AT 1) hl
   simpa using this
  simp only [AM,List.range'_succ,wpOps,hoi];simp only [OZ] at he;have hd:P6 E o.dst=true:=by
   cases hd:P6 E o.dst with
   | true=>rfl
   | false=>rw [hd] at he; cases he
  rw [hd] at he;simp only at he;have go:∀ {st:St},Rel B nt w0 X γ st a w→C4 o (yielded ops a.tmps)=true→((EH E st.o (opd st) o.dst o.op).run fun v us=>OZ E ops.toList l ((st.ups us).put o.dst v) k)=some r →
    (if C4 o (yielded ops a.tmps)=true then o.wp P a w (wpOps P ops Q (List.range' (i+1) l.length)) Q∨(o.asks P a w∧LetsOut Q) else wpOps P ops Q (List.range' (i+1) l.length) (a.put o.dst undef) w):=by
   intro st h hw he;rw [BP hw];obtain ⟨v,us,h1,h2⟩:=T.run_some he;refine .inl (Fd hT hE hSp hB h o (fun d hdd e=>by subst e; rw [hdd] at hd; simp only [P6] at hd; have h8:900000+1≤E.nt:=AO hd; omega) h1 _ _ (fun γ' x w' h3 h4=>?_));exact oB l (i+1) hl' h2 (h3.put hnt hd h4) hk
  have no:∀ {st:St},Rel B nt w0 X γ st a w→C4 o (yielded ops a.tmps)=false→OZ E ops.toList l (st.put o.dst (.tup [])) k=some r →
    (if C4 o (yielded ops a.tmps)=true then o.wp P a w (wpOps P ops Q (List.range' (i+1) l.length)) Q∨(o.asks P a w∧LetsOut Q) else wpOps P ops Q (List.range' (i+1) l.length) (a.put o.dst undef) w):=by
   intro st h hw he;rw [BB (by rw [hw]; simp)];exact oB l (i+1) hl' he (h.put hnt hd (by simp only [VRel]; exact ⟨#[],rfl,by simp only [VRels]⟩)) hk
  split at he
  ·rename_i hg;exact go h (by simp [C4,hg]) he
  ·rename_i j b hg;split at he
   ·rename_i dj hdj;split at he
    ·rename_i c hc;have hy:yielded ops a.tmps j=some c:=by
      unfold yielded;rw [show ops[j]?=ops.toList[j]? by simp,eC _ _ _ hdj];simp [vW h hc]
     have hlit:=h.lit hc;cases c with
     | true=>
      simp only at he;cases b with
      | true=>exact go (st:=st.put (some dj) (.bool true)) hlit (by simp [C4,hg,hy]) he
      | false=>exact no (st:=st.put (some dj) (.bool true)) hlit (by simp [C4,hg,hy]) he
     | false=>
      simp only at he;cases b with
      | false=>exact go (st:=st.put (some dj) (.bool false)) hlit (by simp [C4,hg,hy]) he
      | true=>exact no (st:=st.put (some dj) (.bool false)) hlit (by simp [C4,hg,hy]) he
    ·rename_i hc;have hy:yielded ops a.tmps j=none:=by
      unfold yielded;rw [show ops[j]?=ops.toList[j]? by simp,eC _ _ _ hdj];rcases Ol h hc with h0 | h0 <;> simp [h0]
     exact no h (by simp [C4,hg,hy]) he
    ·cases he
   ·cases he
def oD:Out→Exit
 | .normal=>.normal
 | .exit i=>.exit i
 | .ret=>.ret
omit hT hE hSp hB hnt hn9 in
theorem Cn (J:Nat→Prop) (h:∃ n,J n):∃ n,J n∧∀ m,J m→n≤m:=by
 obtain ⟨n,hn⟩:=h
 induction n using Nat.strongRecOn with
 | _ n ih=>
  by_cases hm:∃ m,m < n∧J m
  ·obtain ⟨m,h1,h2⟩:=hm;exact ih m h1 h2
  ·exact ⟨n,hn,fun m hJ=>Nat.le_of_not_lt (fun hlt=>hm ⟨m,hlt,hJ⟩)⟩
theorem W7 (hm:P.follows .mixedOrders=true) {r:V × List (List V)}:∀ (c:Code) {k:Out→St→DP} {Q:Exit→Act→World→Prop} {γ:Nat→Value} {st:St} {a:Act} {w:World},PZ E c st k=some r→Rel B nt w0 X γ st a w →
  (∀ o γ' st' a' w',Rel B nt w0 X γ' st' a' w'→k o st'=some r→Q (oD o) a' w')→c.wp P Q a w
 | .skip,k,Q,γ,st,a,w,he,h,hk=>wp_skip (hk .normal γ st a w h he)
 | .exit id,k,Q,γ,st,a,w,he,h,hk=>wp_exit (hk (.exit id) γ st a w h he)
 | .ret,k,Q,γ,st,a,w,he,h,hk=>wp_ret (hk .ret γ st a w h he)
 | .label _,k,Q,γ,st,a,w,he,h,hk=>by simp [PZ,J3] at he
 | .goto _,k,Q,γ,st,a,w,he,h,hk=>by simp [PZ,J3] at he
 | .scope _,k,Q,γ,st,a,w,he,h,hk=>by simp [PZ,J3] at he
 | .rangeFunc _ _ _ _,k,Q,γ,st,a,w,he,h,hk=>by simp [PZ,J3] at he
 | .region id ops draw,k,Q,γ,st,a,w,he,h,hk=>by
  simp only [PZ,J3] at he;cases draw with
  | true=>
   simp only at he;exact Wm hT hE hSp hB hnt hn9 hm he h (fun γ' st' a' w' h' hk'=>hk .normal γ' _ a' w' (h'.prune _) hk')
  | false=>
   simp only at he;refine wp_region ?_;rw [show ops.size=ops.toList.length by simp,List.range_eq_range'];exact oB hT hE hSp hB hnt hn9 ops.toList 0 rfl he h (fun γ' st' a' w' h' hk'=>hk .normal γ' _ a' w' (h'.prune _) hk')
 | .seq x y,k,Q,γ,st,a,w,he,h,hk=>by
  simp only [PZ,J3] at he;refine wp_seq (W7 hm x he h (fun o γ' st' a' w' h' hk'=>?_));cases o with
  | normal=>exact W7 hm y hk' h' hk
  | exit i=>exact hk (.exit i) γ' st' a' w' h' hk'
  | ret=>exact hk .ret γ' st' a' w' h' hk'
 | .cond c x y,k,Q,γ,st,a,w,he,h,hk=>by
  simp only [PZ,J3] at he;split at he
  ·rename_i b hc;have hcr:=GG h c;rw [hc] at hcr;simp only [VRel] at hcr;have hlit:Rel B nt w0 X γ (j7 st c b) a w:=by
    unfold j7;split
    ·exact h.lit hc
    ·exact h
   cases b with
   | true=>exact wp_cond_true hcr (W7 hm x he hlit hk)
   | false=>exact wp_cond_false hcr (W7 hm y he hlit hk)
  ·cases he
 | .block id c,k,Q,γ,st,a,w,he,h,hk=>by
  simp only [PZ,J3] at he;refine wp_block (W7 hm c he h (fun o γ' st' a' w' h' hk'=>?_));cases o with
  | normal=>exact hk .normal γ' st' a' w' h' hk'
  | ret=>exact hk .ret γ' st' a' w' h' hk'
  | exit i=>
   simp only [oD,Exit.inBlock];simp only [DS] at hk';cases hb:BQ i id with
   | true=>
    rw [hb] at hk';rw [BP (F9.1 hb)];exact hk .normal γ' st' a' w' h' hk'
   | false=>
    rw [hb] at hk';rw [BB (IN.1 hb)];exact hk (.exit i) γ' st' a' w' h' hk'
 | .loop c,k,Q,γ,st,a,w,he,h,hk=>by
  simp only [PZ,J3] at he;generalize E6 ⟨[],[],[]⟩ E.lp (ZF c)=kp at he
  let J:Act→World→Nat→Prop:=fun a w n=>∃ γ st,Rel B nt w0 X γ st a w∧RE c (J3 RE E c) kp n st k=some r
  obtain ⟨γr,hr⟩:=h.restrict kp;refine wp_loop (fun a w=>∃ n,J a w n) (fun a w=>(Classical.epsilon fun n=>J a w n∧∀ m,J a w m→n≤m)) ⟨_,γr,_,hr,he⟩ ?_;intro a w hI;have hleast:=Classical.epsilon_spec (Cn (J a w) hI);generalize (Classical.epsilon fun n=>J a w n∧∀ m,J a w m→n≤m)=n at hleast;obtain ⟨⟨γ1,st1,h1,he1⟩,_⟩:=hleast;cases n with
  | zero=>simp [RE] at he1
  | succ n=>
   simp only [RE] at he1;refine W7 hm c he1 h1 (fun o γ' st' a' w' h' hk'=>?_);obtain ⟨γr,hr⟩:=h'.restrict kp;cases o with
   | normal=>
    simp only [oD,Exit.then];have hJ:J a' w' n:=⟨γr,_,hr,hk'⟩;refine ⟨⟨n,hJ⟩,?_⟩
    have:=Classical.epsilon_spec (Cn (J a' w') ⟨n,hJ⟩)
    exact Nat.lt_succ_of_le (this.2 n hJ)
   | exit i=>exact hk (.exit i) γr _ a' w' hr hk'
   | ret=>exact hk .ret γr _ a' w' hr hk'
end
open Go Go.RowKit
theorem pY (o:Store) (bs:List V) (tk:Option Kd) (v:V):HO (J7 (EV o bs tk v))=true:=by
 cases v <;> simp only [EV] <;> repeat' split
 all_goals rfl
theorem pM (o:Store) (bs:List V):∀ (l:List V) (ks:List Kd),(MC (fun k v=>J7 (EV o bs k v)) ks l).all HO=true
 | [],ks=>by cases ks <;> rfl
 | v :: l,[]=>by simp [MC,pY,pM o bs l []]
 | v :: l,k :: ks=>by simp [MC,pY,pM o bs l ks]
theorem rO (o:Store) (ks:List Kd) (v:V):(match M3 o ks v with | .agg l=>l.all HO | v=>HO v)=true∧∀ l,M3 o ks v≠.tup l:=by
 by_cases hc:∃ l,v = .agg l
 ·obtain ⟨l,rfl⟩:=hc;simp only [M3];exact ⟨pM o [] l ks,fun l' h=>by cases h⟩
 ·have h1:M3 o ks v=J7 (EV o [] ks.head? v):=by cases v <;> first | rfl | exact absurd ⟨_,rfl⟩ hc
  have h2:=pY o [] ks.head? v;rw [h1];cases hx:J7 (EV o [] ks.head? v) <;> rw [hx] at h2 <;> simp only [HO] at h2 ⊢ <;> first | (cases h2; done) | (refine ⟨trivial,fun l h=>?_⟩; cases h)
theorem rQ (o:Store) (ks:List (List Kd)) (v:V):L8 (HL o ks v)=true:=by
 by_cases hc:∃ l,v = .tup l
 ·obtain ⟨l,rfl⟩:=hc;simp only [HL,L8];have key:∀ (l:List V) (ks:List (List Kd)),((HL.go o ks l).all fun v=>match v with | .agg l=>l.all HO | v=>HO v)=true:=by
   intro l
   induction l with
   | nil=>intro ks; cases ks <;> rfl
   | cons v l ih=>
    intro ks;cases ks with
    | nil=>simp only [HL.go,vay,AH]; exact ⟨(rO o [] v).1,ih []⟩
    | cons k ks=>simp only [HL.go,vay,AH]; exact ⟨(rO o k v).1,ih ks⟩
  exact key l ks
 ·have h1:HL o ks v=M3 o (ks.headD []) v:=by cases v <;> first | rfl | exact absurd ⟨_,rfl⟩ hc
  rw [h1];obtain ⟨h2,h3⟩:=rO o (ks.headD []) v;cases hx:M3 o (ks.headD []) v <;> rw [hx] at h2 <;> simp only [L8] at h2 ⊢ <;> first | exact h2 | exact absurd hx (h3 _)
theorem nA (o:Store) (all:List Nat) (cs:List V):(cs.map (FP o all)).all RL=true:=by
 refine CU.2 (fun v hv=>?_);obtain ⟨u,_,rfl⟩:=CK.1 hv;rcases dY o all u with ⟨_,_,_,_,_,_,_,_,_,h1⟩ | ⟨h1,_⟩
 ·rw [h1]; rfl
 ·cases hcc:FP o all u <;> first | rfl | (rw [hcc] at h1; cases h1)
section
variable {B:BT} {nt:Nat} {w0:World} {X:Zone} {γ:Nat→Value} {st st':St} {a:Act} {w:World} {P:Program} {E:Env}
theorem zeM (h:Rel B nt w0 X γ st a w) {n:Nat} {cs:List V} (ho:DO st.o n=some (.box cs)) {extra:List Nat} {m:Nat} (hm:m∈extra) {b:Nat} (hr:RowOf γ st.o m b) :
  ¬ (E7 γ st.o n b∨∃ m∈G8 st.o (EZ cs++extra) cs,E7 γ st.o m b):=by
 intro hLb;obtain ⟨e,ag,ks,l,h5,h6⟩:=hr;rcases hLb with ⟨ob,h7,h8⟩ | ⟨m2,h9,ob,h7,h8⟩
 ·have hne:n≠m:=by
   rintro rfl;rw [ho] at h5;cases h5
  exact h.dis n m ob _ b hne h7 h5 h8 h6
 ·by_cases hne:m2=m
  ·subst hne;obtain ⟨hi2,e2,ag2,ks2,l2,k1,k2,k3⟩:=SX.1 h9;rw [UZ] at k3;have q1:=U0 (XI k1);have q2:=U0 hm;omega
  ·exact h.dis m2 m ob _ b hne h7 h5 h8 h6
theorem Yy {p:Value} (h:Rel ⟨B.T,B.e,some p,B.ng,B.F⟩ nt w0 X γ st a w) {v:V} {x:Value} (hv:VRel γ st.o w (DR X γ st.o) v x) {ks:List (List Kd)} {vs:List V} {r:V} {out:List (List V)} (he:jE st.o ks (GN vs) v=some (r,out)) {g0:Value} (hp:p=SJ g0) :
  ∃ γ',Rel B.base 0 w0 X γ' ⟨[],GV r out⟩ J1 w∧VRel γ' (GV r out) w (DR X γ' (GV r out)) (M4 r) x∧KY vs r out g0 (γ' 900000):=by
 have hfar:∀ b,X.far b→DR X γ st.o b∧∀ b',b'=b→¬ FD γ st.o b':=fun b hb=>⟨.inr hb,fun b' e hP=>h.nr b' hP (e ▸ hb)⟩
 have hbd:∀ {n:Nat} {cs:List V} (ho:DO st.o n=some (.box cs)) (extra:List Nat),∃ γb,Rel B.base 0 w0 X γb ⟨[],EP (cs.map (FP st.o (EZ cs++extra)))⟩ J1 w∧γb 900000=γ n ∧
   ∀ b,FD γb (EP (cs.map (FP st.o (EZ cs++extra)))) b→E7 γ st.o n b∨∃ m∈G8 st.o (EZ cs++extra) cs,E7 γ st.o m b:=by
  intro n cs ho extra;exact h.bound ho extra (w1:=w0) (own1:=X.own) (F:=X.far) h.keep (fun b hb=>⟨.inr hb,fun ⟨ob,h1,h2⟩=>h.nr b ⟨n,ob,h1,h2⟩ hb,fun m _ ⟨ob,h1,h2⟩=>h.nr b ⟨m,ob,h1,h2⟩ hb,fun m _ ⟨ob,h1,h2⟩=>h.nr b ⟨m,ob,h1,h2⟩ hb⟩)
   (fun b hb=>by
    rcases hb with ⟨ob,h1,h2⟩ | ⟨m,_,ob,h1,h2⟩
    ·exact (h.lt b ⟨n,ob,h1,h2⟩).2
    ·exact (h.lt b ⟨m,ob,h1,h2⟩).2)
 have hbP:∀ {n b:Nat} {hs:List Nat},(E7 γ st.o n b∨∃ m∈hs,E7 γ st.o m b)→FD γ st.o b:=by
  rintro n b hs (⟨ob,h1,h2⟩ | ⟨m,_,ob,h1,h2⟩)
  ·exact ⟨n,ob,h1,h2⟩
  ·exact ⟨m,ob,h1,h2⟩
 unfold jE at he;split at he
 ·rename_i s0 hb;split at he
  ·rename_i s hob;simp only [AC,AU] at he;obtain ⟨rfl,rfl⟩:=he;obtain ⟨hR,hP⟩:=h.boundB hob (w1:=w0) (own1:=X.own) (F:=X.far) h.keep (fun b hb=>⟨.inr hb,fun ⟨ob,h1,h2⟩=>h.nr b ⟨_,ob,h1,h2⟩ hb⟩) (fun b ⟨ob,h1,h2⟩=>(h.lt b ⟨_,ob,h1,h2⟩).2);have hmo:GV (HL st.o ks v) [[.bld s]]=EP [.bld s]:=by cases HL st.o ks v <;> rfl
   have hf:=rQ st.o ks v;refine ⟨_,by rw [hmo]; exact hR,?_,?_⟩
   ·rw [hmo,U9 hf];refine rR h hv (fun b _ hb=>?_) (fun m hm b hr hb=>?_) ks
    ·exact hb.imp_left (fun hb=>by obtain ⟨ob,h1,h2⟩:=hP b hb; exact ⟨_,ob,h1,h2⟩)
    ·obtain ⟨e,ag,ks',l,q1,q2⟩:=hr;rcases hb with hb | hb
     ·obtain ⟨ob,h1,h2⟩:=hP b hb;refine h.dis 900000 m ob _ b ?_ h1 q1 h2 q2;rintro rfl;rw [hob] at q1;cases q1
     ·exact h.nr b ⟨m,_,q1,q2⟩ hb
   ·simp only [KY,hb];exact ⟨hf,rfl,(h.pn p rfl _ hob).trans hp⟩
  ·cases he
 ·rename_i cs0 hnb hb;split at he
  ·rename_i cs hob;simp only [AC,AU] at he;obtain ⟨rfl,rfl⟩:=he;obtain ⟨γb,hR,hg,hP⟩:=hbd hob (K9 v);have hmo:GV (HL st.o ks v) [cs.map (FP st.o (EZ cs++K9 v))]=EP (cs.map (FP st.o (EZ cs++K9 v))):=by cases HL st.o ks v <;> rfl
   have hf:=rQ st.o ks v;refine ⟨γb,by rw [hmo]; exact hR,?_,?_⟩
   ·rw [hmo,U9 hf];refine rR h hv (fun b _ hb=>hb.imp_left (fun hb=>hbP (hP b hb))) (fun m hm b hr hb=>?_) ks;rcases hb with hb | hb
    ·exact zeM h hob hm hr (hP b hb)
    ·obtain ⟨e,ag,ks',l,q1,q2⟩:=hr;exact h.nr b ⟨m,_,q1,q2⟩ hb
   ·simp only [KY,hb];refine ⟨hf,?_,?_⟩
    ·unfold rY;split
     ·exact absurd rfl (hnb _)
     ·exact absurd rfl (hnb _)
     ·exact nA _ _ _
    ·rw [hg];exact (h.pn p rfl _ hob).trans hp
  ·cases he
 ·rename_i hb;have fin9:∀ v,VRel γ st.o w (DR X γ st.o) v x→∃ γ',Rel B.base 0 w0 X γ' ⟨[],GV (HL st.o ks v) []⟩ J1 w∧VRel γ' (GV (HL st.o ks v) []) w (DR X γ' (GV (HL st.o ks v) [])) (M4 (HL st.o ks v)) x∧KY vs (HL st.o ks v) [] g0 (γ' 900000):=by
   intro v hv;have hf:=rQ st.o ks v;have hmo:GV (HL st.o ks v) []=[]:=by
    cases hx:HL st.o ks v <;> first | rfl | (rw [hx] at hf; simp only [L8,HO] at hf; cases hf)
   refine ⟨γ,?_,?_,?_⟩
   ·rw [hmo];refine ⟨rfl,rfl,fun i=>by simp only [St.get,E6,VRel],fun n ob hn=>?_,?_,?_,h.keep,?_,h.fl,fun p hp=>by cases hp⟩
    ·simp only [DO,E6] at hn; cases hn
    ·rintro b ⟨n,ob,hn,_⟩; simp only [DO,E6] at hn; cases hn
    ·intro n m ob ob' b _ hn; simp only [DO,E6] at hn; cases hn
    ·rintro b ⟨n,ob,hn,_⟩; simp only [DO,E6] at hn; cases hn
   ·rw [hmo,U9 hf];refine rR h hv (fun b _ hb=>?_) (fun m hm b hr hb=>?_) ks
    ·rcases hb with ⟨n,ob,hn,_⟩ | hb
     ·simp only [DO,E6] at hn; cases hn
     ·exact .inr hb
    ·rcases hb with ⟨n,ob,hn,_⟩ | hb
     ·simp only [DO,E6] at hn; cases hn
     ·obtain ⟨e,ag,ks',l,q1,q2⟩:=hr;exact h.nr b ⟨m,_,q1,q2⟩ hb
   ·simp only [KY,hb];cases hx:HL st.o ks v <;> first | (rw [hx] at hf; exact hf) | (rw [hx] at hf; simp only [L8,HO] at hf; cases hf)
  split at he
  ·rename_i n i c;split at he
   ·rename_i cs hob hc;simp only [AC,AU] at he;obtain ⟨rfl,rfl⟩:=he;obtain rfl:=F9.1 hc;obtain ⟨γb,hR,hg,hP⟩:=hbd hob [];refine ⟨γb,hR,?_,?_⟩
    ·simp only [VRel,hob] at hv;simp only [GV,M4,ER,VRel];rw [ZE (nA _ _ _),EJ,BP rfl,hg];exact ⟨trivial,hv.2⟩
    ·simp only [KY,hb,ZT];exact nA _ _ _
   ·cases he
  ·rename_i n lo hi;split at he
   ·rename_i e ag ks' l hob;split at he
    ·rename_i hlo;simp only [AC,AU] at he;obtain ⟨rfl,rfl⟩:=he;obtain rfl:=F9.1 hlo;obtain ⟨hpr,hpb⟩:=qU (γ':=fun m=>if m=900000 then x else γ m) (o':=[(900000,some (Ob.row true e ag ks' (l.take hi)))]) h hob hv;have hmo:GV (.vec e ag ks' (l.take hi)) []=[(900000,some (.row true e ag ks' (l.take hi)))]:=rfl;have obs:∀ m ob,DO [(900000,some (Ob.row true e ag ks' (l.take hi)))] m=some ob→m=900000∧ob = .row true e ag ks' (l.take hi):=fun m ob hn=>by
      rw [EJ] at hn;split at hn
      ·rename_i h9;simp only [AC] at hn;exact ⟨h9.symm,hn.symm⟩
      ·simp [DO,E6] at hn
     have ownP:∀ b,FD (fun m=>if m=900000 then x else γ m) [(900000,some (Ob.row true e ag ks' (l.take hi)))] b→E7 γ st.o n b:=by
      rintro b ⟨m,ob,hn,hb⟩;obtain ⟨rfl,rfl⟩:=obs m ob hn;exact hpb b (by simpa only [CQ] using hb)
     have hlt:∀ b,E7 γ st.o n b→FD γ st.o b:=fun b ⟨ob,h1,h2⟩=>⟨n,ob,h1,h2⟩
     have hO:∀ b,b < w.heap.size→DR X (fun m=>if m=900000 then x else γ m) [(900000,some (Ob.row true e ag ks' (l.take hi)))] b→DR X γ st.o b:=fun b _ hb=>hb.imp_left (fun hb=>hlt b (ownP b hb))
     rw [hmo];refine ⟨fun m=>if m=900000 then x else γ m,⟨rfl,rfl,fun i=>by simp only [St.get,E6,VRel],fun m ob hn=>?_,fun b hb=>h.lt b (hlt b (ownP b hb)),fun m m' ob ob' b hnm h1 h2=>?_,h.keep,fun b hb=>h.nr b (hlt b (ownP b hb)),h.fl,fun p hp=>by cases hp⟩,?_,?_⟩
     ·obtain ⟨rfl,rfl⟩:=obs m ob hn;simp only [ObRel,CQ] at hpr ⊢;obtain ⟨k1,k2,xs,k3,k4⟩:=hpr;exact ⟨k1,k2,xs,k3,fun i y hy=>Kd.RelAll.mono (Keep.refl _ w) hO (fun _ _ hu=>hu) (k4 i y hy)⟩
     ·obtain ⟨rfl,rfl⟩:=obs m ob h1;obtain ⟨rfl,rfl⟩:=obs m' ob' h2;exact absurd rfl hnm
     ·simp only [M4,VRel,EJ,CQ];refine ⟨AX _,?_⟩;simp only [VRel,hob] at hv;obtain ⟨hl,p,len,cap,p',hgm,hxx,_,h22,h33,hm4,_,h5⟩:=hv;have htl:(l.take hi).length=hi:=by rw [BC,vaz hl]
      rw [htl];rw [va2,va2] at hxx;refine ⟨p',hi,cap,p',hxx,by rw [hxx]; simp,B4 _,AX _,by omega,hm4,.inl ?_,fun _=>rfl⟩;cases p' <;> simp [Addr.add]
     ·simp only [KY,hb,ZT]
    ·cases he
   ·simp only [AC,AU] at he;obtain ⟨rfl,rfl⟩:=he;exact fin9 _ hv
  ·rename_i hnp;simp only [AC,AU] at he;obtain ⟨rfl,rfl⟩:=he;exact fin9 _ hv
theorem zY:∀ (vs:List V) (i j:Nat),E6 .any (eE i vs) j=if i≤j∧j < i+vs.length then ER (vs.getD (j - i) .any) else .any
 | [],i,j=>by
  rw [BB (by simp only [A7]; omega)];rfl
 | v :: r,i,j=>by
  simp only [eE,RD,zY r (i+1) j,AM];by_cases e:i=j
  ·subst e;simp
  ·rw [BB e];by_cases h:i+1≤j∧j < i+1+r.length
   ·rw [BP h,BP (by omega),show j - i=(j - (i+1))+1 by omega];simp
   ·rw [BB h,BB (by omega)]
theorem rP (hT:TiOK P B E) {w:World}:∀ {rs:List ResultVar} {l:List V},U7 E st rs=some l→Rel B nt w0 X γ st a w →
  ∃ xs:List Value,(rs.mapM fun r=>match r with | .tmp t=>pure (a.tmps.getD t undef) | .cell ad t=>do loadVar t (← asAddr (a.tmps.getD ad undef)):Sem (List Value)).run P w = .ok xs w∧VRels γ st.o w (DR X γ st.o) l xs
 | [],l,h,hR=>by
  simp only [U7,AC] at h;subst h;exact ⟨[],by simp,by simp only [VRels]⟩
 | .tmp t :: r,l,h,hR=>by
  simp only [U7] at h;split at h
  ·rename_i l' hl';simp only [AC] at h;subst h;obtain ⟨xs,h1,h2⟩:=rP hT hl' hR;refine ⟨a.tmps.getD t undef :: xs,?_,?_⟩
   ·simp only [List.mapM_cons,CN,CO,CC,h1]
   ·simp only [VRels];exact ⟨hR.tm t,h2⟩
  ·cases h
 | .cell ad t :: r,l,h,hR=>by
  simp only [U7] at h;split at h
  ·rename_i n i c hop;split at h
   ·rename_i cs hob;split at h
    ·rename_i v l' hv hl';simp only [AC] at h;subst h;obtain ⟨xs,h1,h2⟩:=rP hT hl' hR;have hx:=hR.tm ad;rw [hop] at hx;simp only [VRel,hob] at hx;obtain ⟨_,b,hg,hx⟩:=hx;have hor:=hR.ob n _ hob;simp only [ObRel] at hor;obtain ⟨b',cs',T,hg',hh,hr⟩:=hor;rw [hg] at hg';simp only [C0,AC,DH,B7] at hg';subst hg';obtain ⟨y,hy,hr'⟩:=Cj (hT.known (Ci hv)) hv hh hr;refine ⟨y :: xs,?_,?_⟩
     ·have hy':(do loadVar t (← asAddr (a.tmps.getD ad undef)):Sem Value).run P w = .ok y w:=by
       rw [hx];exact hy
      simp only [CN] at hy';simp only [List.mapM_cons,CN,hy',CO,CC,h1]
     ·simp only [VRels];exact ⟨hr',h2⟩
    ·cases h
   ·cases h
  ·cases h
theorem Wn {f:FuncId} {fn:Func} {code:Code} (hf:P.funcs[f]?=some fn) (hn:(fn.name == "runtime.NumGoroutine")=false) (hb:fn.body=some code) (hnt:E.nt=fn.ntmps) (hn9:B6 fn.ntmps 900000=true) {rs:List ResultVar} (hrs:fn.results.toList=rs)
  (rks:List (List Kd)) (hm:P.follows .mixedOrders=true) (hT:TiOK P B E) (hE:∀ t,t∈E.eqs→EqSnd P t (E.tyd t).ks) (hSp:∀ f sp,lk E.sp f=some sp→Snd P B f (fun vs=>(sp vs).get)) (hIp:∀ f p,lk E.ip f=some p→R5 P f p) (hB:BldOK P B E):Snd P B f (D1 E code rs rks):=by
 intro w X γ vs xs r out hsp hgl hxo hR hV;unfold D1 at hsp;split at hsp
 case h_2=>cases hsp
 rename_i hle;have hle':=AO hle;have hlen:xs.length=vs.length:=by rw [← hV.length,BK]
 refine Does.enter hf hn (by rw [hb]; rfl) (calls_of_wp hf hb ?_)
 let B':BT:=⟨B.T,B.e,some (SJ (γ 900000)),B.ng,B.F⟩
 have hT':TiOK P B' E:=fun t x ht=>⟨(hT t x ht).info,(hT t x ht).ks,(hT t x ht).by1,(hT t x ht).one,(hT t x ht).und⟩
 have hSp':SpOK P B' E w X:=⟨⟨hgl,hxo⟩,fun f sp hfs=>hSp f sp hfs,hIp⟩;have hB':BldOK P B' E:=hB;have hstart:Rel B' fn.ntmps w X γ ⟨eE 0 vs,IU vs⟩ { tmps:=xs.toArray++Array.replicate (fn.ntmps - xs.toArray.size) undef,defers:=[] } w:=by
  refine ⟨?_,rfl,fun i=>?_,fun n ob hnob=>?_,hR.lt,hR.dis,hR.keep,hR.nr,hR.fl,fun p hp ob _=>?_⟩
  ·simp;omega
  ·simp only [St.get,zY];split
   ·rename_i hi;have hi':i < vs.length:=by omega
    have h1:(vs.map ER)[i]?=some (ER vs[i]):=by simp [hi']
    obtain ⟨x,hx,hvx⟩:=hV.get h1;have h2:vs.getD (i - 0) .any=vs[i]:=by simp [hi']
    rw [h2];have h3:(xs.toArray++Array.replicate (fn.ntmps - xs.toArray.size) undef).getD i undef=x:=by
     rw [vbp,Array.getElem?_append_left (by simp; omega)];simp [hx]
    simp only [h3];exact hvx
   ·simp only [VRel]
  ·have:=hR.ob n ob hnob
   cases ob with
   | box l=>simpa only [ObRel] using this
   | row own e ag ks l=>cases own <;> simpa only [ObRel] using this
   | bld s=>simpa only [ObRel,BT.base] using this
  ·simp only [B',AC] at hp;exact hp
 refine W7 hT' hE hSp' hB' hnt (AO hn9) hm code hsp hstart (fun o γ' st' a' w' h' hk'=>?_);have fin:∀ l,U7 E st' rs=some l→jE st'.o rks (GN vs) (Z3 l)=some (r,out)→bodyPost P fn (fun e w'=>∃ x,e = .returned x∧∃ γ',Rel B.base 0 w X γ' ⟨[],GV r out⟩ J1 w'∧VRel γ' (GV r out) w' (DR X γ' (GV r out)) (M4 r) x∧KY vs r out (γ 900000) (γ' 900000)) .ret a' w':=by
  intro l hl he;obtain ⟨ys,hy1,hy2⟩:=rP (P:=P) hT' hl h';have hval:(results fn a'.tmps).run P w' = .ok (if h:ys.toArray.size=1 then ys.toArray[0] else .tuple ys.toArray) w':=by
   unfold results;rw [show fn.results=rs.toArray by rw [← hrs]];rw [Array.mapM_eq_mapM_toList];simp only [CN,Sem.run_map]
   erw [hy1]
   rfl
  have hrel:VRel γ' st'.o w' (DR X γ' st'.o) (Z3 l) (if h:ys.toArray.size=1 then ys.toArray[0] else .tuple ys.toArray):=by
   match l,ys,hy2 with
   | [],[],_=>simp only [Z3,VRel]; exact ⟨#[],by simp,by simp only [VRels]⟩
   | [v],[y],h2=>simp only [VRels] at h2; simpa [Z3] using h2.1
   | v :: v' :: l,y :: y' :: ys,h2=>simp only [Z3,VRel]; exact ⟨(y :: y' :: ys).toArray,by simp,by simpa using h2⟩
  obtain ⟨γ2,q1,q2,q3⟩:=Yy (B:=B) h' hrel he rfl;exact ⟨h'.df,_,hval,_,rfl,γ2,q1,q2,q3⟩
 cases o with
 | exit i=>simp [DV] at hk'
 | normal=>
  simp only [DV] at hk';split at hk'
  ·rename_i l hl;exact fin l hl hk'
  ·cases hk'
 | ret=>
  simp only [DV] at hk';split at hk'
  ·rename_i l hl;exact fin l hl hk'
  ·cases hk'
end
open Go Go.RowKit
def zB:V→Value→Bool
 | .int k n,.int k' n'=>k==k'&&(n==n'&&ZJ k n)
 | .bool b,.bool c=>b==c
 | .str s,.string s'=>s.size==0&&s'.size==0
 | .zs,.slice none 0 0=>true
 | .nilp,.pointer none=>true
 | .err true,.nilIface=>true
 | .any,_=>true
 | _,_=>false
def aM:List V→List Value→Bool
 | [],[]=>true
 | v :: vs,x :: xs=>zB v x&&aM vs xs
 | _,_=>false
def dB (P:Program) (T t:Nat) (ks:List Kd):TD→TypeDesc→Bool
 | .slice e,.slice e'=>e==e'
 | .struct fs,.struct fields=>fs==fields.toList.map (fun f=>(f.offset,f.type))&&fields.toList.all (fun f=>(P.info? f.type).isSome)
 | .array n e,.array n' e'=>n==n'&&e==e'
 | .ptr e,.pointer e'=>e==e'
 | .bld,_=>t==T
 | .iface,.interface _=>true
 | .leaf,d=>match ks with
  | [.int k]=>(match d with | .int k'=>k==k' | _=>false)
  | [.str]=>(match d with | .string=>true | _=>false)
  | [.bool]=>(match d with | .bool=>true | _=>false)
  | _=>true
 | _,_=>false
def lP (P:Program) (T t:Nat) (x:TI):Bool:=
 match P.info? t,P.underlying t with
 | some i,some d=>match i.zero with
  | some z=>i.size==x.size&&(i.bytes==x.bytes&&(z.cells.size==x.size&&(aM x.zero z.cells.toList&&(x.ks.length==x.size&&(B6 1 x.bytes&&((x.agg||x.size==1)&&(d.isRow==x.agg&&dB P T t x.ks x.d d)))))))
  | none=>false
 | _,_=>false
def gM (P:Program) (T:Nat):List (Nat × TI)→Bool
 | []=>true
 | (t,x) :: r=>lP P T t x&&gM P T r
theorem zjy {γ:Nat→Value} {o:Store} {w:World} {O:Nat→Prop} {v:V} {x:Value} (h:zB v x=true):VRel γ o w O v x:=by
 unfold zB at h;split at h
 ·simp only [AH,B8,ZJ,AQ] at h;obtain ⟨rfl,rfl,h1,h2⟩:=h;simp only [VRel];exact ⟨trivial,h1,h2⟩
 ·simp only [B8] at h;subst h;simp only [VRel]
 ·rename_i s s';simp only [AH,B8] at h;have e:∀ s:BA,s.size=0→s=CJ:=fun s hs=>by
   obtain ⟨⟨l⟩⟩:=s;cases l with
   | nil=>rfl
   | cons a l=>simp [AD] at hs
  simp only [VRel];rw [e s h.1,e s' h.2];exact ⟨rfl,by simp [ByteArray.size_empty]⟩
 ·simp only [VRel]
 ·simp only [VRel]
 ·simp only [VRel]
 ·simp only [VRel]
 ·cases h
theorem Ph {γ:Nat→Value} {o:Store} {w:World} {O:Nat→Prop}:∀ {l:List V} {xs:List Value},aM l xs=true→VRels γ o w O l xs
 | [],[],_=>by simp only [VRels]
 | [],_ :: _,h=>by simp [aM] at h
 | _ :: _,[],h=>by simp [aM] at h
 | v :: vs,x :: xs,h=>by
  simp only [aM,AH] at h;simp only [VRels];exact ⟨zjy h.1,Ph h.2⟩
theorem ziL {P:Program} {B:BT} {t:Nat} {x:TI} (h:lP P B.T t x=true):TISnd P B t x:=by
 unfold lP at h;split at h
 ·rename_i i d hi hd;split at h
  ·rename_i z hz;simp only [AH,B8,vao] at h;obtain ⟨h1,h2,h3,h4,h5,h6,h7,h8,h9⟩:=h;refine ⟨⟨i,z,hi,h1,h2,hz,h3,fun γ o w O=>Ph h4⟩,h5,AO h6,fun ha=>by rw [ha] at h7; simpa using h7,⟨d,hd,h8,?_⟩⟩;cases hx:x.d with
   | slice e=>rw [hx] at h9; cases d <;> simp only [dB] at h9 <;> first | (cases h9; done) | (simp only [B8] at h9; subst h9; rfl)
   | struct fs=>
    rw [hx] at h9;cases d <;> simp only [dB] at h9 <;> first | (cases h9; done) | skip
    rename_i fields;simp only [AH,B8,CU] at h9;exact ⟨fields,rfl,h9.1,h9.2⟩
   | array n e=>
    rw [hx] at h9;cases d <;> simp only [dB] at h9 <;> first | (cases h9; done) | skip
    simp only [AH,B8] at h9;obtain ⟨rfl,rfl⟩:=h9;rfl
   | ptr e=>rw [hx] at h9; cases d <;> simp only [dB] at h9 <;> first | (cases h9; done) | (simp only [B8] at h9; subst h9; rfl)
   | bld=>rw [hx] at h9; simp only [dB,B8] at h9; exact h9
   | iface=>rw [hx] at h9; cases d <;> simp only [dB] at h9 <;> first | (cases h9; done) | exact ⟨_,rfl⟩
   | leaf=>
    rw [hx] at h9;refine ⟨fun k hk=>?_,fun hk=>?_,fun hk=>?_⟩ <;> rw [hk] at h9 <;> cases d <;> simp only [dB] at h9 <;> first | (cases h9; done) | (simp only [B8] at h9; subst h9; rfl) | rfl
  ·cases h
 ·cases h
theorem No {P:Program} {B:BT} {E:Env} {ti:List (Nat × TI)} (he:E.ti=ti) (h:gM P B.T ti=true):TiOK P B E:=by
 subst he;have key:∀ (l:List (Nat × TI)),gM P B.T l=true→∀ t x,lk l t=some x→lP P B.T t x=true:=by
  intro l
  induction l with
  | nil=>intro _ t x hx; simp [lk] at hx
  | cons p r ih=>
   obtain ⟨j,y⟩:=p;intro hl t x hx;simp only [gM,AH] at hl;simp only [lk] at hx;split at hx
   ·rename_i hb;simp only [AC] at hx;subst hx;rw [← F9.1 hb];exact hl.1
   ·exact ih hl.2 t x hx
 exact fun t x ht=>ziL (key E.ti h t x ht)
def Z7 (P:Program) (t w:Nat):Bool:=match P.info? t with | some _=>P.cellsOf t==w | none=>false
def XT (ks:List Kd):Nat→List Kd
 | 0=>[]
 | n+1=>ks++XT ks n
def eG (P:Program) (g:Nat→Option (List Kd)):List Field→Nat→Option (List Kd)
 | [],_=>some []
 | f :: r,o=>match g f.type with
  | some ks=>match f.name != "_"&&(f.offset==o&&Z7 P f.type ks.length) with
   | true=>match eG P g r (o+ks.length) with
    | some ks'=>some (ks++ks')
    | none=>none
   | false=>none
  | none=>none
def SW (P:Program):Nat→Nat→Option (List Kd)
 | 0,_=>none
 | d+1,t=>match P.underlying t with
  | some (.int k)=>some [.int k]
  | some .bool=>some [.bool]
  | some (.struct fs)=>match P.stoodInHeld t with
   | true=>none
   | false=>eG P (SW P d) fs.toList 0
  | some (.array n e)=>match SW P d e with
   | some ks=>match Z7 P e ks.length with
    | true=>some (XT ks n)
    | false=>none
   | none=>none
  | _=>none
def jD (P:Program) (ti:List (Nat × TI)):List Nat→Bool
 | []=>true
 | t :: r=>(!(P.eqGuardType P.depth t))&&((match P.underlying t with | some d=>d.isRow | none=>false)&&(match SW P 10 t with | some ks=>JC.kdsEq (E6 TI.none ti t).ks ks | none=>false))&&jD P ti r
theorem eT:∀ {ks:List Kd} {l:List V},JQ ks l=true→l.length=ks.length
 | [],[],_=>rfl
 | [],_ :: _,h=>by simp [JQ] at h
 | k :: _,[],h=>by cases k <;> simp [JQ] at h
 | k :: ks,v :: l,h=>by
  cases k <;> cases v <;> simp only [JQ] at h <;> try (cases h; done)
  ·split at h
   ·simp [eT h]
   ·cases h
  ·simp [eT h]
theorem jS:∀ {ks ks':List Kd} {l:List V},JQ (ks++ks') l=true→JQ ks (l.take ks.length)=true∧JQ ks' (l.drop ks.length)=true
 | [],_,_,h=>⟨rfl,h⟩
 | k :: ks,ks',[],h=>by cases k <;> simp [JQ] at h
 | k :: ks,ks',v :: l,h=>by
  cases k <;> cases v <;> simp only [CS,JQ] at h <;> try (cases h; done)
  ·split at h
   ·rename_i hk;obtain ⟨h1,h2⟩:=jS h;simp only [AM,List.take_succ_cons,List.drop_succ_cons,JQ,hk];exact ⟨h1,h2⟩
   ·cases h
  ·obtain ⟨h1,h2⟩:=jS h;simp only [AM,List.take_succ_cons,List.drop_succ_cons,JQ];exact ⟨h1,h2⟩
theorem jC:∀ {a a':List V} {b b':List V} {c:Bool},a.length=a'.length→J2 (a++b) (a'++b')=some c→∃ c1 c2,J2 a a'=some c1∧J2 b b'=some c2∧c=(c1&&c2)
 | [],[],b,b',c,_,h=>⟨true,c,rfl,h,by simp⟩
 | [],_ :: _,_,_,_,hl,_=>by simp at hl
 | _ :: _,[],_,_,_,hl,_=>by simp at hl
 | x :: a,y :: a',b,b',c,hl,h=>by
  have hl':a.length=a'.length:=by simpa using hl
  cases x <;> cases y <;> simp only [CS,J2] at h ⊢ <;> try (cases h; done)
  ·split at h
   ·rename_i hk;split at h
    ·rename_i c0 h0;simp only [AC] at h;obtain ⟨c1,c2,h1,h2,h3⟩:=jC hl' h0;rw [h1];exact ⟨_,c2,rfl,h2,by rw [← h,h3,Bool.and_assoc]⟩
    ·cases h
   ·cases h
  ·split at h
   ·rename_i c0 h0;simp only [AC] at h;obtain ⟨c1,c2,h1,h2,h3⟩:=jC hl' h0;rw [h1];exact ⟨_,c2,rfl,h2,by rw [← h,h3,Bool.and_assoc]⟩
   ·cases h
theorem jB:∀ {a a':List V} {c:Bool},J2 a a'=some c→a.length=a'.length
 | [],[],_,_=>rfl
 | [],_ :: _,_,h=>by simp [J2] at h
 | x :: _,[],_,h=>by cases x <;> simp [J2] at h
 | x :: a,y :: a',c,h=>by
  cases x <;> cases y <;> simp only [J2] at h <;> try (cases h; done)
  ·split at h
   ·split at h
    ·rename_i h0;simp [jB h0]
    ·cases h
   ·cases h
  ·split at h
   ·rename_i h0;simp [jB h0]
   ·cases h
section
variable {P:Program} {γ:Nat→Value} {o:Store} {w:World} {O:Nat→Prop}
def TU (P:Program) (γ:Nat→Value) (o:Store) (w:World) (O:Nat→Prop) (t:Nat) (l:List V) (x:Value):Prop:=
 match P.underlying t with
 | some d=>match d.isRow with
  | true=>∃ xs,x = .agg xs∧VRels γ o w O l xs.toList
  | false=>∃ v,l=[v]∧VRel γ o w O v x
 | none=>False
theorem z7 {d t:Nat} {ks:List Kd} (h:SW P d t=some ks):∃ k,P.underlying t=some k∧(k.isRow=false→ks.length=1):=by
 cases d with
 | zero=>simp [SW] at h
 | succ d=>
  simp only [SW] at h;split at h
  ·rename_i hu; simp only [AC] at h; exact ⟨_,hu,fun _=>by rw [← h]; rfl⟩
  ·rename_i hu; simp only [AC] at h; exact ⟨_,hu,fun _=>by rw [← h]; rfl⟩
  ·rename_i hu; exact ⟨_,hu,fun h=>by simp [vbo] at h⟩
  ·rename_i hu; exact ⟨_,hu,fun h=>by simp [vbo] at h⟩
  ·cases h
theorem iP {t n off:Nat} {l:List V} {xs:Array Value} (hu:∃ k,P.underlying t=some k∧(k.isRow=false→n=1)) (hs:Z7 P t n=true) (hr:VRels γ o w O l xs.toList) (hl:off+n≤l.length) (W:World) :
  ∃ y,(part t xs off).run P W = .ok y W∧TU P γ o w O t ((l.drop off).take n) y:=by
 obtain ⟨k,hu,hn⟩:=hu;unfold Z7 at hs;split at hs
 ·rename_i i hi;simp only [B8] at hs;cases hrow:k.isRow with
  | true=>
   refine ⟨.agg (xs.extract off (off+n)),?_,?_⟩
   ·cases k <;> simp [vbo] at hrow <;> simp [part,isAgg,BI hu,run_sizeOf W hi,hs]
   ·unfold TU;rw [hu];simp only [hrow];refine ⟨_,rfl,?_⟩
    have:(xs.extract off (off+n)).toList=(xs.toList.drop off).take n:=by
     simp [vaE]
    rw [this];exact (hr.drop off).take n
  | false=>
   obtain rfl:=hn hrow;obtain ⟨v,hv⟩:∃ v,l[off]?=some v:=⟨l[off]'(by omega),BE _⟩;obtain ⟨y,hy,hyr⟩:=hr.get hv;have hy':xs[off]?=some y:=by simpa using hy
   refine ⟨y,?_,?_⟩
   ·cases k <;> simp [vbo] at hrow <;> simp [part,isAgg,BI hu,hy']
   ·unfold TU;rw [hu];simp only [hrow];refine ⟨v,?_,hyr⟩;rw [List.take_one,List.head?_drop,hv];rfl
 ·cases hs
def mE (P:Program) (γ:Nat→Value) (o:Store) (w:World) (O:Nat→Prop) (dd t:Nat) (ks:List Kd):Prop:=∀ (W:World) (x y:Value) (l l':List V) (c:Bool),JQ ks l=true→TU P γ o w O t l x→TU P γ o w O t l' y→J2 l l'=some c→(vbr dd t x y).run P W = .ok c W
theorem lN (l:List V) (off n:Nat):l.drop off=(l.drop off).take n++l.drop (off+n):=by
 rw [← List.drop_drop]; exact (List.take_append_drop n (l.drop off)).symm
theorem zZ {dd:Nat} {g:Nat→Option (List Kd)} (hg:∀ t ks,g t=some ks→mE P γ o w O dd t ks∧∃ k,P.underlying t=some k∧(k.isRow=false→ks.length=1)) {xs ys:Array Value} {l l':List V} (hx:VRels γ o w O l xs.toList) (hy:VRels γ o w O l' ys.toList) (hll:l.length=l'.length) (W:World) :
  ∀ (fs:List Field) (off:Nat) {ks:List Kd} {c:Bool},off≤l.length→eG P g fs off=some ks→JQ ks (l.drop off)=true→J2 (l.drop off) (l'.drop off)=some c→(Op.eqFields dd xs ys fs).run P W = .ok c W
 | [],off,ks,c,hoff,hf,hk,he=>by
  simp only [eG,AC] at hf;subst hf;have h0:=eT hk;have h1:l.drop off=[]:=List.length_eq_zero_iff.1 h0;have h2:l'.drop off=[]:=by
   have:=jB he
   rw [h1] at this;exact List.length_eq_zero_iff.1 this.symm
  rw [h1,h2] at he;simp only [J2,AC] at he;subst he;simp [Op.eqFields]
 | f :: r,off,ks,c,hoff,hf,hk,he=>by
  simp only [eG] at hf;split at hf
  ·rename_i ks1 hw;split at hf
   ·rename_i hb;split at hf
    ·rename_i ks2 hf2;simp only [AC] at hf;subst hf;simp only [AH,B8,bne_iff_ne,ne_eq] at hb;obtain ⟨hn,ho,hs⟩:=hb;obtain ⟨hrun,hu⟩:=hg _ _ hw;obtain ⟨hk1,hk2⟩:=jS hk;rw [List.drop_drop] at hk2;have hkl:=eT hk;simp only [CY,AS] at hkl;have hle:off+ks1.length≤l.length:=by omega
     rw [lN l off ks1.length,lN l' off ks1.length] at he;obtain ⟨c1,c2,h1,h2,h3⟩:=jC (by simp; omega) he;obtain ⟨a,ha,hac⟩:=iP (off:=off) hu hs hx hle W;obtain ⟨b,hb,hbc⟩:=iP (off:=off) hu hs hy (by omega) W;have he1:=hrun W a b _ _ c1 hk1 hac hbc h1;have ih:=zZ hg hx hy hll W r (off+ks1.length) hle hf2 hk2 h2;simp only [Op.eqFields,hn,ne_eq,not_false_eq_true,CQ,CN,ho,ha,hb,he1,CC];subst h3;cases c1
     ·simp
     ·simpa using ih
    ·cases hf
   ·cases hf
  ·cases hf
theorem z6 {dd e:Nat} {ks:List Kd} (hrun:mE P γ o w O dd e ks) (hu:∃ k,P.underlying e=some k∧(k.isRow=false→ks.length=1)) (hs:Z7 P e ks.length=true) {xs ys:Array Value} {l l':List V} (hx:VRels γ o w O l xs.toList) (hy:VRels γ o w O l' ys.toList) (hll:l.length=l'.length) (W:World) :
  ∀ (m i:Nat) {c:Bool},i*ks.length+m*ks.length=l.length→JQ (XT ks m) (l.drop (i*ks.length))=true→J2 (l.drop (i*ks.length)) (l'.drop (i*ks.length))=some c→(Op.eqItems dd e ks.length xs ys (List.range' i m)).run P W = .ok c W
 | 0,i,c,hl,hk,he=>by
  rw [CR (by omega),CR (by omega)] at he;simp only [J2,AC] at he;subst he;simp [Op.eqItems]
 | m+1,i,c,hl,hk,he=>by
  rw [vak,vby] at hl;obtain ⟨hk1,hk2⟩:=jS (ks:=ks) (ks':=XT ks m) hk;rw [List.drop_drop] at hk2;rw [lN l (i*ks.length) ks.length,lN l' (i*ks.length) ks.length] at he;obtain ⟨c1,c2,h1,h2,h3⟩:=jC (by simp; omega) he;obtain ⟨a,ha,hac⟩:=iP (off:=i*ks.length) hu hs hx (by omega) W;obtain ⟨b,hb,hbc⟩:=iP (off:=i*ks.length) hu hs hy (by omega) W;have he1:=hrun W a b _ _ c1 hk1 hac hbc h1;have ih:=z6 hrun hu hs hx hy hll W m (i+1) (by rw [vak,vby]; omega) (by rw [vak,vby]; exact hk2) (by rw [vak,vby]; exact h2);simp only [List.range'_succ,Op.eqItems,CN,ha,hb,he1,CC];subst h3;cases c1
  ·simp
  ·simpa using ih
theorem Ho (ks:List Kd):∀ n,(XT ks n).length=n*ks.length
 | 0=>by simp [XT]
 | n+1=>by simp only [XT,AS,Ho ks n,vak,vby]; omega
theorem n9 (dd:Nat):∀ (d t:Nat) (ks:List Kd),SW P d t=some ks→mE P γ o w O (dd+d) t ks
 | 0,t,ks,h=>by simp [SW] at h
 | d+1,t,ks,h=>by
  intro W x y l l' c hk hx hy he;have hll:=jB he;simp only [SW] at h;unfold TU at hx hy;split at h
  ·rename_i k hu;simp only [AC] at h;subst h;rw [hu] at hx hy;simp only at hx hy;obtain ⟨v,rfl,hx⟩:=hx;obtain ⟨v',rfl,hy⟩:=hy;cases v <;> simp only [JQ] at hk <;> try (cases hk; done)
   cases v' <;> simp only [J2] at he <;> try (cases he; done)
   simp only [VRel] at hx hy;obtain ⟨rfl,_⟩:=hx;obtain ⟨rfl,_⟩:=hy;split at he
   ·rename_i hkk;simp only [AC,B9] at he;have hkk:=eq_of_beq hkk;subst hkk;rw [show dd+(d+1)=(dd+d)+1 from rfl,run_equalIn_int W _ t _ k _ _ hu,he]
   ·cases he
  ·rename_i hu;simp only [AC] at h;subst h;rw [hu] at hx hy;simp only at hx hy;obtain ⟨v,rfl,hx⟩:=hx;obtain ⟨v',rfl,hy⟩:=hy;cases v <;> simp only [JQ] at hk <;> try (cases hk; done)
   cases v' <;> simp only [J2] at he <;> try (cases he; done)
   simp only [VRel] at hx hy;subst hx; subst hy;simp only [AC,B9] at he;rw [show dd+(d+1)=(dd+d)+1 from rfl,run_equalIn_bool W _ t _ _ hu,he]
  ·rename_i fs hu;rw [hu] at hx hy;simp only at hx hy;obtain ⟨xs,rfl,hx⟩:=hx;obtain ⟨ys,rfl,hy⟩:=hy;split at h
   ·cases h
   ·rename_i hst;have hfs:P.fieldsOf t=fs:=by simp [Program.fieldsOf,hu]
    rw [show dd+(d+1)=(dd+d)+1 from rfl,run_equalIn_struct W (dd+d) t xs ys (by rw [hfs]; exact hu) hst,hfs];exact zZ (fun t ks ht=>⟨n9 dd d t ks ht,z7 ht⟩) hx hy hll W fs.toList 0 (B4 _) h hk he
  ·rename_i m e hu;rw [hu] at hx hy;simp only at hx hy;obtain ⟨xs,rfl,hx⟩:=hx;obtain ⟨ys,rfl,hy⟩:=hy;split at h
   ·rename_i ks1 hw;split at h
    ·rename_i hs;simp only [AC] at h;subst h;have hs':=hs;unfold Z7 at hs';split at hs'
     ·rename_i i hi;simp only [B8] at hs';have hkl:=eT hk;rw [Ho] at hkl;rw [show dd+(d+1)=(dd+d)+1 from rfl,run_equalIn_array W (dd+d) xs ys hu hi,hs',List.range_eq_range'];exact z6 (n9 dd d e ks1 hw) (z7 hw) hs hx hy hll W m 0 (by omega) (by simpa using hk) (by simpa using he)
     ·cases hs'
    ·cases h
   ·cases h
  ·cases h
end
theorem Aa {P:Program} {E:Env} {ti:List (Nat × TI)} (hti:E.ti=ti) {l:List Nat} (h:jD P ti l=true):∀ t,t∈l→EqSnd P t (E.tyd t).ks:=by
 induction l with
 | nil=>intro t ht; cases ht
 | cons t r ih=>
  intro t' ht';simp only [jD,AH,B1] at h;rcases AP.1 ht' with e | e
  ·subst e;refine ⟨h.1.1,fun γ o w w' O l l' xs ys c hk hc hx hy=>?_⟩;obtain ⟨⟨_,h2,h3⟩,_⟩:=h;split at h3
   ·rename_i ks hn;have hks:(E.tyd t').ks=ks:=by
     unfold Env.tyd;rw [hti];exact o8 h3
    rw [hks] at hk;split at h2
    ·rename_i k hk2;have hcx:∀ {l:List V} {xs:Array Value},VRels γ o w O l xs.toList→TU P γ o w O t' l (.agg xs):=fun hx=>by
      unfold TU;rw [hk2];simp only [h2];exact ⟨_,rfl,hx⟩
     exact n9 (P:=P) (γ:=γ) (o:=o) (w:=w) (O:=O) 9990 10 t' ks hn w' (.agg xs) (.agg ys) l l' c hk (hcx hx) (hcx hy) hc
    ·cases h2
   ·cases h3
  ·exact ih h.2 t' e
open Go Go.RowKit
theorem Snd.mono {P:Program} {B:BT} {f:FuncId} {sp sp':T5} (h:Snd P B f sp) (hs:∀ vs r,sp' vs=some r→sp vs=some r):Snd P B f sp':=
 fun w X γ vs xs r out hsp=>h w X γ vs xs r out (hs vs _ hsp)
def DY (P:Program) (B:BT) (f:FuncId) (sp:DW):Prop:=Snd P B f (fun vs=>(sp vs).get)
mutual
def YE:Kd→IV→Prop
 | .int k,x=>k.min≤x.toInt∧x.toInt≤k.max
 | .bool,_=>True
 | .str,x=>x.toStr.size≤strMax
 | .list ag ks,x=>x.toList.length≤strMax∧∀ y∈x.toList,YF ks (GD ag y) 0
def YF:List Kd→(Nat→IV)→Nat→Prop
 | [],_,_=>True
 | k :: ks,f,j=>YE k (f j)∧YF ks f (j+1)
end
def wfL:V→Prop
 | .int k n=>k.min≤n∧n≤k.max
 | .str s=>s.size≤strMax
 | .list ag ks l=>l.length≤strMax∧∀ y∈l,YF ks (GD ag y) 0
 | .vec _ ag ks l=>l.length≤strMax∧∀ y∈l,YF ks (GD ag y) 0
 | .bld s=>s.size≤strMax
 | _=>True
def wfLs:List V→Prop
 | []=>True
 | v :: r=>wfL v∧wfLs r
def RW:V→Prop
 | .agg l=>wfLs l
 | .bor l=>wfLs l
 | v=>wfL v
def TK:List V→Prop
 | []=>True
 | v :: r=>RW v∧TK r
mutual
theorem Kd.Rel.wf {w:World} {O:Nat→Prop}:∀ {k:Kd} {x:IV} {v:Value},Kd.Rel w O k x v→YE k x
 | .int k,x,v,h=>by simp only [Kd.Rel] at h; simp only [YE]; exact h.2
 | .bool,x,v,h=>by simp only [YE]
 | .str,x,v,h=>by simp only [Kd.Rel] at h; simp only [YE]; exact h.2
 | .list ag ks,x,v,h=>by
  simp only [Kd.Rel] at h;obtain ⟨p,c,_,_,_,hl,hi⟩:=h;simp only [YE];refine ⟨hl,fun y hy=>?_⟩;obtain ⟨i,hi'⟩:=List.getElem?_of_mem hy;obtain ⟨b,o,_,_,_,hr⟩:=hi i y hi';exact Kd.RelAll.wf hr
theorem Kd.RelAll.wf {w:World} {O:Nat→Prop}:∀ {ks:List Kd} {f:Nat→IV} {j:Nat} {R:Nat→Value→Prop},Kd.RelAll w O ks f j R→YF ks f j
 | [],_,_,_,_=>by simp only [YF]
 | k :: ks,f,j,R,h=>by
  simp only [Kd.RelAll] at h;obtain ⟨⟨u,_,hr⟩,h2⟩:=h;simp only [YF];exact ⟨Kd.Rel.wf hr,Kd.RelAll.wf h2⟩
end
theorem VRel.wfL {γ:Nat→Value} {o:Store} {w:World} {O:Nat→Prop} {v:V} {x:Value} (h:VRel γ o w O v x):wfL v:=by
 cases v <;> simp only [FM.wfL] <;> simp only [VRel] at h
 ·exact h.2
 ·exact h.2
 ·have:=Kd.Rel.wf h
  simp only [YE,IV.toList] at this;exact this
theorem VRels.wfLs {γ:Nat→Value} {o:Store} {w:World} {O:Nat→Prop}:∀ {l:List V} {xs:List Value},VRels γ o w O l xs→wfLs l
 | [],[],_=>by simp only [FM.wfLs]
 | [],_ :: _,h=>by simp only [VRels] at h
 | _ :: _,[],h=>by simp only [VRels] at h
 | v :: vs,x :: xs,h=>by
  simp only [VRels] at h;simp only [FM.wfLs];exact ⟨h.1.wfL,VRels.wfLs h.2⟩
theorem zgr {B:BT} {γ:Nat→Value} {o:Store} {w:World} {O:Nat→Prop} {g:Value} {e:Nat} {ag:Bool} {ks:List Kd} {l:LI} (h:ObRel B γ o w O g (.row true e ag ks l)):wfL (.vec e ag ks l):=by
 simp only [ObRel] at h;obtain ⟨_,hl,xs,_,hr⟩:=h;simp only [FM.wfL];refine ⟨hl,fun y hy=>?_⟩;obtain ⟨i,hi⟩:=List.getElem?_of_mem hy;exact Kd.RelAll.wf (hr i y hi)
theorem zcp {B:BT} {nt:Nat} {w0:World} {X:Zone} {γ:Nat→Value} {a:Act} {w:World} {cs:List V} (h:Rel B nt w0 X γ ⟨[],EP cs⟩ a w):wfLs cs:=by
 by_cases hb:∃ s,cs=[.bld s]
 ·obtain ⟨s,rfl⟩:=hb
  have:=h.ob 900000 (.bld s) (by simp [EP,EJ])
  simp only [ObRel] at this;obtain ⟨b,v,p,_,_,_,_,_,hs⟩:=this;simp only [FM.wfLs,FM.wfL,B7];exact hs
 ·have he:EP cs=(900000,some (.box (GU 900001 cs))) :: K5 900001 cs:=n7 (fun s e=>hb ⟨s,e⟩);have hbox:=h.ob 900000 (.box (GU 900001 cs)) (by rw [he,EJ,BP rfl]);simp only [ObRel] at hbox;obtain ⟨b,c,T,_,_,hr⟩:=hbox;have hall:∀ (j:Nat) (v:V),cs[j]?=some v→FM.wfL v:=by
   intro j v hj;by_cases hv:∃ e ag ks l,v = .vec e ag ks l
   ·obtain ⟨e,ag,ks,l,rfl⟩:=hv;have hat:=gB (nr:=900001) hj
    have:=h.ob (900001+j) _ (show DO (EP cs) (900001+j)=_ by rw [he,EJ,BB (by omega)]; exact hat)
    exact zgr this
   ·have hbk:(GU 900001 cs)[j]?=some v:=by
     rw [dT,hj];cases v <;> first | rfl | exact absurd ⟨_,_,_,_,rfl⟩ hv
    obtain ⟨x,_,hx⟩:=hr.get hbk;exact hx.wfL
  clear hr he hb h
  induction cs with
  | nil=>simp only [FM.wfLs]
  | cons v r ih=>
   simp only [FM.wfLs];exact ⟨hall 0 v rfl,ih (fun j u hj=>hall (j+1) u (by simpa using hj))⟩
theorem vD {B:BT} {nt:Nat} {w0:World} {X:Zone} {γ:Nat→Value} {a:Act} {w:World} {O:Nat→Prop} {o:Store} {cs:Option (List V)} (hcs:∀ l,cs=some l→wfLs l):∀ {vs:List V} {xs:List Value},(∀ l,.bor l∈vs→cs=some l)→VRels γ o w O (vs.map ER) xs→TK vs
 | [],_,_,_=>by simp only [TK]
 | v :: r,[],_,h=>by simp only [A0,VRels] at h
 | v :: r,x :: xs,hb,h=>by
  simp only [A0,VRels] at h;simp only [TK];refine ⟨?_,vD (B:=B) (nt:=nt) (w0:=w0) (X:=X) (a:=a) hcs (fun l hl=>hb l (AW _ hl)) h.2⟩;have h1:=h.1;by_cases hbor:∃ l,v = .bor l
  ·obtain ⟨l,rfl⟩:=hbor;simp only [RW];exact hcs l (hb l (AN ..))
  ·by_cases hagg:∃ l,v = .agg l
   ·obtain ⟨l,rfl⟩:=hagg;simp only [ER,VRel] at h1;obtain ⟨cs',_,hr⟩:=h1;simp only [RW];exact hr.wfLs
   ·have:RW v=FM.wfL v:=by cases v <;> first | rfl | exact absurd ⟨_,rfl⟩ hbor | exact absurd ⟨_,rfl⟩ hagg
    rw [this];cases v <;> first | exact h1.wfL | exact absurd ⟨_,rfl⟩ hbor | exact absurd ⟨_,rfl⟩ hagg | (simp only [FM.wfL])
def MG:List V→Option (List V)→Prop
 | [],_=>True
 | .bor l :: r,c=>c=some l∧MG r c
 | _ :: r,c=>MG r c
theorem qG:∀ {vs:List V} {c:Option (List V)},MG vs c→∀ l,.bor l∈vs→c=some l
 | [],_,_,l,h=>by cases h
 | v :: r,c,ho,l,h=>by
  rcases AP.1 h with e | e
  ·subst e;exact ho.1
  ·cases v <;> simp only [MG] at ho <;> first | exact qG ho l e | exact qG ho.2 l e
theorem Ju {P:Program} {B:BT} {f:FuncId} {fn:Func} (E:Nat→Env) (sp:DW) (rks:List (List Kd)) (hf:P.funcs[f]?=some fn) {code:Code} {rs:List ResultVar} {nt:Nat}
  (hc:(fn.name == "runtime.NumGoroutine")=false∧fn.body=some code∧fn.ntmps=nt∧B6 nt 900000=true∧fn.results.toList=rs) (hnt:∀ N,(E N).nt=nt) (hm:P.follows .mixedOrders=true)
  (hT:∀ N,TiOK P B (E N)) (hE:∀ N t,t∈(E N).eqs→EqSnd P t ((E N).tyd t).ks) (hSp:∀ N f sp,lk (E N).sp f=some sp→DY P B f sp) (hIp:∀ N f p,lk (E N).ip f=some p→R5 P f p) (hB:∀ N,BldOK P B (E N))
  (h:∀ vs r,(MG vs (GN vs)→TK vs)→(sp vs).get=some r→∃ N,D1 (E N) code rs rks vs=some r):DY P B f sp:=by
 intro w X γ vs xs r out hsp hg hx hR hV;have hwf:MG vs (GN vs)→TK vs:=fun ho=>by
  refine vD (B:=B.base) (nt:=0) (w0:=w) (X:=X) (a:=J1) (cs:=GN vs) (fun l hl=>?_) (qG ho) hV;have hm:IU vs=EP l:=by simp only [IU,hl]
  rw [hm] at hR;exact zcp hR
 obtain ⟨N,hN⟩:=h vs _ hwf hsp;exact Wn hf hc.1 hc.2.1 ((hnt N).trans hc.2.2.1.symm) (by rw [hc.2.2.1]; exact hc.2.2.2.1) hc.2.2.2.2 rks hm (hT N) (hE N) (hSp N) (hIp N) (hB N) w X γ vs xs r out hN hg hx hR hV
abbrev ic (n:Nat):Int:=n
abbrev D0 (E:Env) (c:Code) (kp:KP) (n:Nat) (s:St) (k:Out→St→DP):DP:=RE c (J3 RE E c) kp n s k
abbrev DT (E:Env) (c:Code) (k:Out→St→DP):Out→St→DP:=Bw c (J3 RE E c) k
abbrev FG (E:Env) (c:Code) (s:St) (k:Out→St→DP):DP:=J3 RE E c s k
theorem EA (E:Env) (c:Code) (kp:KP) (n:Nat) (s:St) (k:Out→St→DP):D0 E c kp (n+1) s k=FG E c s (EW (fun s'=>D0 E c kp n s' k) kp k):=rfl
def D4 (fn:Func):Code:=match fn.body with | some c=>c | none=>.skip
def DL:Code→List Nat→Code
 | c,[]=>c
 | .seq a _,0 :: r=>DL a r
 | .seq _ b,_ :: r=>DL b r
 | .cond _ a _,0 :: r=>DL a r
 | .cond _ _ b,_ :: r=>DL b r
 | .block _ c,_ :: r=>DL c r
 | .loop c,_ :: r=>DL c r
 | .scope c,_ :: r=>DL c r
 | _,_=>.skip
open Go Go.RowKit
section
variable {P:Program} {B:BT} {f:FuncId}
theorem Does.of_calls {fn:Func} (hf:P.funcs[f]?=some fn) (hn:(fn.name == "runtime.NumGoroutine")=false) (hb:fn.body.isNone=false) {xs:List Value} {w:World} {R:Ending→World→Prop} (h:Calls P f xs.toArray w R):Does P f xs w R:=Does.enter hf hn hb h
theorem zcD {r:V} (h:∀ cs,r≠.bor cs) (hv:∀ e ag ks l,r≠.vec e ag ks l):GV r []=[]:=by
 cases r <;> first | rfl | exact absurd rfl (h _) | exact absurd rfl (hv _ _ _ _)
theorem QF {w:World} {X:Zone} {γ:Nat→Value} {vs:List V} {xs:List Value} {r:V} (hR:Rel B.base 0 w X γ ⟨[],IU vs⟩ J1 w) (hb:GN vs=none) (hr:L8 r=true)
  (h:Does P f xs w fun e w'=>∃ x,e = .returned x∧Keep (fun _=>False) w w'∧∀ O:Nat→Prop,(∀ b,O b→b < w.heap.size)→VRel γ [] w' O r x) :
  Does P f xs w fun e w'=>∃ x,e = .returned x∧∃ γ',Rel B.base 0 w X γ' ⟨[],GV r []⟩ J1 w'∧VRel γ' (GV r []) w' (DR X γ' (GV r [])) (M4 r) x∧KY vs r [] (γ 900000) (γ' 900000):=by
 have hm:IU vs=[]:=by simp only [IU,hb]
 rw [hm] at hR;have hnb:∀ cs,r≠.bor cs:=fun cs e=>by subst e; simp [L8,HO] at hr
 have hnv:∀ e ag ks l,r≠.vec e ag ks l:=fun e ag ks l h=>by subst h; simp [L8,HO] at hr
 rw [zcD hnb hnv,U9 hr];refine h.mono ?_;rintro e w' ⟨x,rfl,hk,hv⟩;refine ⟨x,rfl,γ,hR.world hk,hv _ (fun b hb=>?_),?_⟩
 ·rcases hb with ⟨n,ob,hn,_⟩ | hb
  ·simp [DO,E6] at hn
  ·exact hR.fl b hb
 ·simp only [KY,hb];cases r <;> first | exact hr | exact absurd rfl (hnb _) | exact absurd rfl (hnv _ _ _ _)
structure BldIs (B:BT) (w:World) (b:Nat) (p v:Value) (s:BA):Prop where
 self:p = .pointer none∨p = .pointer (some ⟨b,0,none⟩)
 heap:w.heap[b]?=some (.cells #[p,v] B.T (0,0))
 own:w.ownsRowF 0 B.e 1 v s.size (DB s)
 ne:v.ownBlock≠some b
 size:s.size≤strMax
theorem sN {w:World} {X:Zone} {γ:Nat→Value} {vs:List V} {xs:List Value} {r:V} {s s':BA} (hR:Rel B.base 0 w X γ ⟨[],IU vs⟩ J1 w) (hb:GN vs=some [.bld s]) (hr:L8 r=true) (hnl:∀ γ' o w' O x,VRel γ [] w O r x→VRel γ' o w' O r x)
  (h:∀ b v p,γ 900000 = .tuple #[.pointer (some ⟨b,0,none⟩),v]→BldIs B w b p v s→Does P f xs w fun e w'=>∃ x,e = .returned x∧(∃ p' v',BldIs B w' b p' v' s'∧Keep (fun k=>k=b∨v.ownBlock=some k) w w'∧∀ k,v'.ownBlock=some k→v.ownBlock=some k∨w.heap.size≤k)∧∀ O,VRel γ [] w O r x) :
  Does P f xs w fun e w'=>∃ x,e = .returned x∧∃ γ',Rel B.base 0 w X γ' ⟨[],GV r [[.bld s']]⟩ J1 w'∧VRel γ' (GV r [[.bld s']]) w' (DR X γ' (GV r [[.bld s']])) (M4 r) x∧KY vs r [[.bld s']] (γ 900000) (γ' 900000):=by
 have hm:IU vs=EP [.bld s]:=by simp only [IU,hb]
 have hmo:GV r [[.bld s']]=EP [.bld s']:=by cases r <;> rfl
 rw [hm] at hR;have hob:DO (EP [.bld s]) 900000=some (.bld s):=by simp [EP,EJ]
 have hor:=hR.ob 900000 _ hob;simp only [ObRel,BT.base] at hor;obtain ⟨b,v,p,hg,hp,hh,how,hne,hsz⟩:=hor;rw [hmo,U9 hr];refine (h b v p hg ⟨hp,hh,how,hne,hsz⟩).mono ?_;rintro e w' ⟨x,rfl,⟨p',v',hB,hk,hnew⟩,hx⟩;have hPb:∀ k,(k=b∨v.ownBlock=some k)→FD γ (EP [.bld s]) k:=by
  rintro k hk;refine ⟨900000,_,hob,⟨b,0,none⟩,v,hg,?_⟩;rcases hk with rfl | hk
  ·exact .inl rfl
  ·exact .inr hk
 have hXb:∀ k,(k=b∨v.ownBlock=some k)→k < w.heap.size∧X.own k∧¬ X.far k:=fun k hk=>by
  obtain ⟨h1,h2⟩:=hR.lt k (hPb k hk);exact ⟨h1,h2.resolve_left (by omega),hR.nr k (hPb k hk)⟩
 have hkX:Keep X.own w w':=hk.mono (fun k _ h=>(hXb k h).2.1);have hobs:∀ n ob,DO (EP [.bld s']) n=some ob→n=900000∧ob = .bld s':=by
  intro n ob hn;simp only [EP,EJ] at hn;split at hn
  ·rename_i e;simp only [AC] at hn;exact ⟨e.symm,hn.symm⟩
  ·simp [DO,E6] at hn
 have hP':∀ k,FD (fun _=>.tuple #[.pointer (some ⟨b,0,none⟩),v']) (EP [.bld s']) k→k=b∨v'.ownBlock=some k:=by
  rintro k ⟨n,ob,hn,hbk⟩;obtain ⟨rfl,rfl⟩:=hobs n ob hn;obtain ⟨a,v2,h1,h2⟩:=hbk;simp only [Value.tuple.injEq] at h1;have e1:a=⟨b,0,none⟩∧v2=v':=by
   have:=congrArg Array.toList h1
   simp at this;exact ⟨this.1.symm,this.2.symm⟩
  obtain ⟨rfl,rfl⟩:=e1;rcases h2 with h2 | h2
  ·exact .inl h2.symm
  ·exact .inr h2
 have hlt':∀ k,v'.ownBlock=some k→k < w'.heap.size:=by
  intro k hk;rcases hB.own.2 with ⟨rfl,_⟩ | ⟨g,cap,cur,fz,rfl,_,hgh,_⟩
  ·simp [CD] at hk
  ·simp only [CD,AC] at hk;subst hk;exact (DE.1 hgh).1
 refine ⟨x,rfl,fun _=>.tuple #[.pointer (some ⟨b,0,none⟩),v'],⟨rfl,rfl,fun i=>by simp only [St.get,E6,VRel],fun n ob hn=>?_,fun k hk2=>?_,fun n m ob ob' k hnm h1 h2=>?_,hkX,fun k hk2 hf=>?_,fun k hf=>CW (hR.fl k hf) hk.size,fun q hq=>by cases hq⟩,hnl _ _ _ _ _ (hx _),?_⟩
 ·obtain ⟨rfl,rfl⟩:=hobs n ob hn;simp only [ObRel,BT.base];exact ⟨b,v',p',rfl,hB.self,hB.heap,hB.own,hB.ne,hB.size⟩
 ·rcases hP' k hk2 with rfl | h2
  ·obtain ⟨h3,h4,_⟩:=hXb k (.inl rfl);exact ⟨CW h3 hk.size,.inr h4⟩
  ·refine ⟨hlt' k h2,?_⟩;rcases hnew k h2 with h3 | h3
   ·exact .inr (hXb k (.inr h3)).2.1
   ·exact .inl h3
 ·obtain ⟨rfl,rfl⟩:=hobs n ob h1;obtain ⟨rfl,rfl⟩:=hobs m ob' h2;exact absurd rfl hnm
 ·rcases hP' k hk2 with rfl | h2
  ·exact (hXb k (.inl rfl)).2.2 hf
  ·rcases hnew k h2 with h3 | h3
   ·exact (hXb k (.inr h3)).2.2 hf
   ·have:=hR.fl k hf
    omega
 ·simp only [KY,hb];exact ⟨hr,rfl,by rw [hg]; rfl⟩
theorem mX {w:World} {γ:Nat→Value} {s:BA} {O:Nat→Prop} {x:Value} {b:Nat} {v:Value} (hg:γ 900000 = .tuple #[.pointer (some ⟨b,0,none⟩),v]) (h:VRel γ (EP [.bld s]) w O (.ptr 900000 0 0) x):x = .pointer (some ⟨b,0,none⟩):=by
 simp only [VRel,EP,EJ,CQ] at h;obtain ⟨_,b',v',h1,rfl⟩:=h;rw [hg] at h1;simp only [Value.tuple.injEq] at h1
 have:=congrArg Array.toList h1
 simp at this;rw [this.1]
theorem Jt {w:World} {X:Zone} {γ:Nat→Value} {vs:List V} {xs:List Value} {e:Nat} {ag:Bool} {ks:List Kd} {l:LI} (hR:Rel B.base 0 w X γ ⟨[],IU vs⟩ J1 w) (hb:GN vs=none) (he:e < 1000000) (hks:0 < ks.length) (hl:l.length≤strMax)
  (h:Does P f xs w fun e' w'=>∃ v ys,e' = .returned v∧Keep (fun _=>False) w w'∧w'.ownsRow w.heap.size e ks.length v l.length ys∧∀ (O:Nat→Prop) i y,l[i]?=some y→Kd.RelAll w' O ks (GD ag y) 0 (fun j u=>ys[i*ks.length+j]?=some u)) :
  Does P f xs w fun e' w'=>∃ x,e' = .returned x∧∃ γ',Rel B.base 0 w X γ' ⟨[],GV (.vec e ag ks l) []⟩ J1 w'∧VRel γ' (GV (.vec e ag ks l) []) w' (DR X γ' (GV (.vec e ag ks l) [])) (M4 (.vec e ag ks l)) x∧KY vs (.vec e ag ks l) [] (γ 900000) (γ' 900000):=by
 have hm:IU vs=[]:=by simp only [IU,hb]
 rw [hm] at hR;have hmo:GV (.vec e ag ks l) []=[(900000,some (.row true e ag ks l))]:=rfl;rw [hmo];refine h.mono ?_;rintro e' w' ⟨v,ys,rfl,hk,hown,hel⟩;have hown0:w'.ownsRow 0 e ks.length v l.length ys:=by
  refine ⟨hown.1,?_⟩;rcases hown.2 with h1 | ⟨g,cap,cur,h1,_,h2,h3,h4,h5,h6⟩
  ·exact .inl h1
  ·exact .inr ⟨g,cap,cur,h1,B4 _,h2,h3,h4,h5,h6⟩
 have obs:∀ n ob,DO [(900000,some (Ob.row true e ag ks l))] n=some ob→n=900000∧ob = .row true e ag ks l:=fun n ob hn=>by
  rw [EJ] at hn;split at hn
  ·rename_i h9;simp only [AC] at hn;exact ⟨h9.symm,hn.symm⟩
  ·simp [DO,E6] at hn
 have hfresh:∀ b,v.ownBlock=some b→w.heap.size≤b∧b < w'.heap.size:=fun b hb=>hown.lt b hb
 have ownP:∀ b,FD (fun n=>if n=900000 then v else γ n) [(900000,some (Ob.row true e ag ks l))] b→v.ownBlock=some b:=by
  rintro b ⟨n,ob,hn,hb⟩;obtain ⟨rfl,rfl⟩:=obs n ob hn;simpa only [FE,CQ] using hb
 refine ⟨v,rfl,fun n=>if n=900000 then v else γ n,⟨hR.sz,hR.df,fun i=>by simp only [St.get,E6,VRel],fun n ob hn=>?_,fun b hb=>?_,fun n m ob ob' b hnm h1 h2=>?_,hk.mono (fun _ _ h=>h.elim),fun b hb hf=>?_,fun b hf=>CW (hR.fl b hf) hk.size,fun p hp=>by cases hp⟩,?_,?_⟩
 ·obtain ⟨rfl,rfl⟩:=obs n ob hn;simp only [ObRel,CQ];exact ⟨hks,hl,ys,OwnRow.of hown0 he,hel _⟩
 ·have:=hfresh b (ownP b hb)
  exact ⟨this.2,.inl this.1⟩
 ·obtain ⟨rfl,rfl⟩:=obs n ob h1;obtain ⟨rfl,rfl⟩:=obs m ob' h2;exact absurd rfl hnm
 ·have:=hfresh b (ownP b hb)
  have:=hR.fl b hf
  omega
 ·simp only [M4,VRel,EJ,CQ];refine ⟨AX _,?_⟩;rcases hown.2 with ⟨rfl,h0⟩ | ⟨g,cap,cur,rfl,_,h2,h3,h4,h5,h6⟩
  ·exact ⟨none,0,0,none,rfl,by rw [h0],B4 _,by rw [h0]; exact AX _,AX _,B4 _,.inl rfl,fun _=>rfl⟩
  ·refine ⟨some ⟨g,0,none⟩,l.length,cap,some ⟨g,0,none⟩,rfl,by simp,B4 _,AX _,h3,h4,.inl ?_,fun _=>rfl⟩;simp [Addr.add]
 ·simp only [KY,hb,ZT]
end
theorem ziv {w w':World} {O:Nat→Prop} (hO:∀ b,O b→b < w.heap.size) {g:Nat} {T:TypeId} {l:List BA} {c:Nat} (hg:w.heap.size≤g) (hh:w'.heap[g]?=some (.cells (l.map Value.string).toArray T (0,0))) (hc:l.length≤c) (hcm:c≤maxLen) (hl:l.length≤strMax)
  (hs:∀ s∈l,s.size≤strMax):Kd.Rel w' O (.list false [.str]) (.list (l.map IV.str)) (.slice (some ⟨g,0,none⟩) l.length c):=by
 simp only [Kd.Rel,IV.toList,BK];refine ⟨_,c,rfl,hc,hcm,hl,fun i y hy=>⟨g,0,rfl,fun h=>by have:=hO g h; omega,(DE.1 hh).1,?_⟩⟩;simp only [CA,DD] at hy;obtain ⟨s,hs1,rfl⟩:=hy;simp only [Kd.RelAll,AM,A7,BL,Nat.mul_one,C8,B7];refine ⟨.string s,?_,?_⟩
 ·simp only [vaL,hh];simp [hs1]
 ·simp only [Kd.Rel,GD,IV.toStr];exact ⟨trivial,hs s (vaf hs1)⟩
open Go Go.RowKit
theorem R.get_br (b:Bool) (x y:R):(R.br b x y).get=cond b x.get y.get:=by cases b <;> rfl
theorem R.get_ok (v:V) (o:List (List V)):(R.ok v o).get=some (v,o):=rfl
theorem R.get_no:R.no.get=none:=rfl
def DQ (n:Int):BA:=⟨(C5 n).toArray⟩
def FK (s:BA):Int:=match vbh s.data.toList with | .ok v=>v | .range=>Lib.atoiSat s.data.toList | _=>0
def KX (s:BA):Bool:=match vbh s.data.toList with | .ok _=>true | _=>false
def cutL (s sep:BA):BA:=⟨(vaN s.data.toList sep.data.toList).1.toArray⟩
def FW (s sep:BA):BA:=⟨(vaN s.data.toList sep.data.toList).2.1.toArray⟩
def Vj (s sep:BA):Bool:=(vaN s.data.toList sep.data.toList).2.2
def D3 (s sep:BA):List BA:=Lib.splitB sep 0 (Lib.countB s sep) s
def NE (c:Int):UInt8:=UInt8.ofNat c.toNat
def T3:DW
 | [.bor [.bld s],.str t]=>.br (decide (s.size+t.size≤strMax)) (.ok (.tup [.int .i64 (ic t.size),.err true]) [[.bld (s++t)]]) .no
 | _=>.no
def YR:DW
 | [.bor [.bld s],.int .u8 c]=>.br (decide (s.size+1≤strMax)) (.ok (.err true) [[.bld (s.push (NE c))]]) .no
 | _=>.no
def T2:DW
 | [.bor [.bld s]]=>.ok (.str s) [[.bld s]]
 | _=>.no
def OT:DW
 | [.int .i64 n]=>.ok (.str (DQ n)) []
 | _=>.no
def Q1:DW
 | [.str s]=>.ok (.tup [.int .i64 (FK s),.err (KX s)]) []
 | _=>.no
def T4:DW
 | [.str s,.str sep]=>.br (decide (s.size < 4294967281)) (.ok (.tup [.str (cutL s sep),.str (FW s sep),.bool (Vj s sep)]) []) .no
 | _=>.no
def ND:DW
 | [.str s,.str sep]=>.br (decide (s.size < 4294967281)&&decide (1≤sep.size)) (.ok (.list false [.str] ((D3 s sep).map IV.str)) []) .no
 | _=>.no
def E8 (n:Int):BA:=⟨(BV n.toNat).toArray⟩
def GY (s:BA):Int:=match Lib.parseMag s.data.toList with | .ok v=>(v:Int) | .range=>18446744073709551615 | _=>0
def JD (s:BA):Bool:=match Lib.parseMag s.data.toList with | .ok _=>true | _=>false
def PL (s cs:BA):BA:=⟨(Lib.trimRightB s.data.toList (cs.data.toList.headD 0)).toArray⟩
def H1 (s:BA) (n:Nat):BA:=⟨(Lib.repeatL s.data.toList n).toArray⟩
def GI (s p:BA):BA:=⟨(Lib.trimPrefix s.data.toList p.data.toList).toArray⟩
def OB (s p:BA):Bool:=Lib.hasPrefix s.data.toList p.data.toList
def hU:DW
 | [.int .u64 n,.int .i64 b]=>.br (decide (b=10)) (.ok (.str (E8 n)) []) .no
 | _=>.no
def hZ:DW
 | [.str s,.int .i64 b,.int .i64 c]=>.br (decide (b=10)&&decide (c=64)) (.ok (.tup [.int .u64 (GY s),.err (JD s)]) []) .no
 | _=>.no
def iB:DW
 | [.str s,.str cs]=>.br (decide (cs.size=1)&&decide ((cs.data.toList.headD 0).toNat < 128)) (.ok (.str (PL s cs)) []) .no
 | _=>.no
def YU:DW
 | [.str s,.int .i64 n]=>.br (decide (0≤n)&&decide (s.size*n.toNat≤strMax)) (.ok (.str (H1 s n.toNat)) []) .no
 | _=>.no
def YS:DW
 | [.str s,.str p]=>.ok (.tup [.str (GI s p),.bool (OB s p)]) []
 | _=>.no
def GO (l:List BA) (sep:BA):BA:=⟨(va4 (l.map (·.data.toList)) sep.data.toList).toArray⟩
def YT:DW
 | [.list false [.str] l,.str sep]=>.br (decide (l.length≤strMax)&&decide ((GO (l.map IV.toStr) sep).size≤strMax)) (.ok (.str (GO (l.map IV.toStr) sep)) []) .no
 | _=>.no
def F7:LI→BA→Int→Int
 | [],_,_ => -1
 | x :: l,s,i=>cond (s.toList==x.toStr.toList) i (F7 l s (i+1))
theorem Tk {l:List UInt8} {v:Int} (h:vbh l = .ok v):AB.min≤v∧v≤AB.max:=by
 have e1:AB.min = -9223372036854775808:=rfl;have e2:AB.max=9223372036854775807:=rfl;rw [e1,e2];unfold vbh at h;split at h
 ·cases h
 ·simp only at h;split at h
  ·cases h
  ·cases h
  ·rename_i u hu;split at h
   ·cases h
   ·split at h
    ·cases h
    ·simp only [Lib.NumEnd.ok.injEq] at h;subst h;split <;> omega
theorem vF (s:BA):AB.min≤FK s∧FK s≤AB.max:=by
 have e1:AB.min = -9223372036854775808:=rfl;have e2:AB.max=9223372036854775807:=rfl;unfold FK;split
 ·rename_i v hv;exact Tk hv
 ·unfold Lib.atoiSat;rw [e1,e2];split <;> omega
 ·rw [e1,e2]; omega
theorem ZL {n:Int} (h0:AB.min≤n) (h1:n≤AB.max):(DQ n).size≤21:=by
 have e1:AB.min = -9223372036854775808:=rfl;have e2:AB.max=9223372036854775807:=rfl;rw [e1] at h0;rw [e2] at h1
 have:=Lib.itoa_length_le n h0 h1
 simpa [DQ,AD] using this
theorem rH (s:BA):AJ.min≤GY s∧GY s≤AJ.max:=by
 have e1:AJ.min=0:=rfl;have e2:AJ.max=18446744073709551615:=rfl;unfold GY;split
 ·rename_i v hv
  have:=Lib.parseMag_lt hv
  rw [e1,e2]; omega
 ·rw [e1,e2]; omega
 ·rw [e1,e2]; omega
theorem qB {n:Int} (h0:0≤n) (h1:n≤18446744073709551615):(E8 n).size≤20:=by
 rcases Int.lt_or_le 0 n with h | h
 ·have hd:=Lib.numDigits_eq n.toNat (by omega) (by omega);have hl:=Lib.decDigits_length n.toNat;have hs:(E8 n).size=(BV n.toNat).length:=by simp [E8,AD]
  rw [hs,hl];split at hd <;> omega
 ·have:n=0:=by omega
  subst this;have hd:BV (0:Int).toNat=[UInt8.ofNat (48+0)]:=by rw [show (0:Int).toNat=0 from rfl,BV]; rfl
  unfold E8;rw [hd];decide
theorem Oi (s cs:BA):(PL s cs).size≤s.size:=by
 have:∀ (l:List UInt8) c,(Lib.trimRightB l c).length≤l.length:=fun l c=>by
  unfold Lib.trimRightB;rw [List.length_reverse]
  have:=(List.dropWhile_sublist (·==c) (l:=l.reverse)).length_le
  simpa using this
 have h:=this s.data.toList (cs.data.toList.headD 0);simp only [PL,AD,C7];simpa using h
theorem Oh (s p:BA):(GI s p).size≤s.size:=by
 simp only [GI,AD,C7,Lib.trimPrefix];split
 ·simp
 ·simp
theorem rM (s:BA) (n:Nat):(H1 s n).size=s.size*n:=by
 have:∀ (l:List UInt8) n,(Lib.repeatL l n).length=l.length*n:=fun l n=>by rw [Lib.repeatL_length,Nat.mul_comm]
 show (Lib.repeatL s.data.toList n).toArray.size=s.size*n;rw [C7,this,CL];rfl
theorem iW (s sep:BA):(cutL s sep).size≤s.size∧(FW s sep).size≤s.size:=by
 unfold cutL FW vaN;split
 ·simp only [AD,C7,BC,CY,CL];omega
 ·simp only [AD,C7,CL,A7];omega
theorem X1 (sep:BA):∀ (k:Nat) (s:BA),(Lib.splitB sep 0 k s).length≤k+1∧∀ p∈Lib.splitB sep 0 k s,p.size≤s.size
 | 0,s=>by simp [Lib.splitB]
 | k+1,s=>by
  unfold Lib.splitB;split
  ·simp
  ·obtain ⟨h1,h2⟩:=X1 sep k (s.extract ((Lib.indexB s sep).toNat+sep.size) s.size);refine ⟨by simp only [AM]; omega,fun p hp=>?_⟩;rcases AP.1 hp with h | h
   ·subst h;simp only [vbd];omega
   ·have:=h2 p h
    simp only [vbd] at this;omega
open Go Go.Proofs
def gQ:List (Nat × TI):=[
 (2,⟨1,8,false,[.z],[.int .i64 0],.leaf⟩),
 (3,⟨1,8,false,[.z],[.int .i64 0],.leaf⟩),
 (4,⟨1,1,false,[.bool],[.bool false],.leaf⟩),
 (5,⟨1,1,false,[.int .u8],[.int .u8 0],.leaf⟩),
 (6,⟨1,1,false,[.int .u8],[.int .u8 0],.leaf⟩),
 (7,⟨4,24,true,[.z,.z,.bool,.int .u8],[.int .i64 0,.int .i64 0,.bool false,.int .u8 0],.struct [(0,2),(1,3),(2,4),(3,6)]⟩),
 (8,⟨4,24,true,[.z,.z,.bool,.int .u8],[.int .i64 0,.int .i64 0,.bool false,.int .u8 0],.struct [(0,2),(1,3),(2,4),(3,6)]⟩),
 (9,⟨1,16,false,[.str],[.str ⟨#[]⟩],.leaf⟩),
 (22,⟨1,24,false,[.list false [.z]],[.zs],.slice 3⟩),
 (23,⟨1,24,false,[.list true [.z,.list false [.z],.list false [.z],.list false [.z],.list false [.z]]],[.zs],.slice 84⟩),
 (25,⟨4,64,true,[.z,.z,.list false [.z],.list true [.z,.list false [.z],.list false [.z],.list false [.z],.list false [.z]]],[.int .i64 0,.int .i64 0,.zs,.zs],.struct [(0,3),(1,3),(2,22),(3,23)]⟩),
 (26,⟨1,24,false,[.list true [.z,.z,.z,.z,.z,.z,.bool,.list false [.z]]],[.zs],.slice 40⟩),
 (27,⟨3,24,true,[.z,.z,.z],[.int .i64 0,.int .i64 0,.int .i64 0],.array 3 3⟩),
 (28,⟨1,24,false,[.list true [.z,.list false [.int .u64]]],[.zs],.slice 88⟩),
 (30,⟨6,64,true,[.z,.z,.z,.z,.z,.list true [.z,.list false [.int .u64]]],[.int .i64 0,.int .i64 0,.int .i64 0,.int .i64 0,.int .i64 0,.zs],.struct [(0,3),(1,3),(2,27),(5,28)]⟩),
 (32,⟨1,24,false,[.list true [.z,.z,.z,.z,.z,.z,.z,.z,.z,.z,.z,.z,.z,.z,.z,.bool,.z]],[.zs],.slice 38⟩),
 (34,⟨2,16,true,[.z,.z],[.int .i64 0,.int .i64 0],.struct [(0,3),(1,3)]⟩),
 (36,⟨10,80,true,[.z,.z,.z,.z,.z,.z,.z,.z,.z,.z],[.int .i64 0,.int .i64 0,.int .i64 0,.int .i64 0,.int .i64 0,.int .i64 0,.int .i64 0,.int .i64 0,.int .i64 0,.int .i64 0],.array 5 34⟩),
 (38,⟨17,136,true,[.z,.z,.z,.z,.z,.z,.z,.z,.z,.z,.z,.z,.z,.z,.z,.bool,.z],[.int .i64 0,.int .i64 0,.int .i64 0,.int .i64 0,.int .i64 0,.int .i64 0,.int .i64 0,.int .i64 0,.int .i64 0,.int .i64 0,.int .i64 0,.int .i64 0,.int .i64 0,.int .i64 0,.int .i64 0,.bool false,.int .i64 0],.struct [(0,3),(1,3),(2,36),(12,3),(13,3),(14,3),(15,4),(16,3)]⟩),
 (40,⟨8,80,true,[.z,.z,.z,.z,.z,.z,.bool,.list false [.z]],[.int .i64 0,.int .i64 0,.int .i64 0,.int .i64 0,.int .i64 0,.int .i64 0,.bool false,.zs],.struct [(0,3),(1,3),(2,3),(3,3),(4,3),(5,3),(6,4),(7,22)]⟩),
 (47,⟨1,24,false,[.list true [.z,.list true [.bool,.z,.z],.z,.z,.z,.z,.z,.z]],[.zs],.slice 55⟩),
 (51,⟨1,24,false,[.list true [.bool,.z,.z]],[.zs],.slice 127⟩),
 (53,⟨4,32,true,[.z,.z,.z,.z],[.int .i64 0,.int .i64 0,.int .i64 0,.int .i64 0],.array 4 3⟩),
 (55,⟨8,80,true,[.z,.list true [.bool,.z,.z],.z,.z,.z,.z,.z,.z],[.int .i64 0,.zs,.int .i64 0,.int .i64 0,.int .i64 0,.int .i64 0,.int .i64 0,.int .i64 0],.struct [(0,3),(1,51),(2,53),(6,3),(7,3)]⟩),
 (66,⟨1,24,false,[.list false [.str]],[.zs],.slice 9⟩),
 (69,⟨1,24,false,[.list false [.int .u8]],[.zs],.slice 5⟩),
 (84,⟨5,104,true,[.z,.list false [.z],.list false [.z],.list false [.z],.list false [.z]],[.int .i64 0,.zs,.zs,.zs,.zs],.struct [(0,3),(1,22),(2,22),(3,22),(4,22)]⟩),
 (85,⟨1,24,false,[.list false [.int .u64]],[.zs],.slice 103⟩),
 (88,⟨2,32,true,[.z,.list false [.int .u64]],[.int .i64 0,.zs],.struct [(0,3),(1,85)]⟩),
 (93,⟨1,24,false,[.list true [.z,.z]],[.zs],.slice 34⟩),
 (95,⟨1,8,false,[.list false []],[.nilp],.ptr 98⟩),
 (98,⟨1,24,true,[.list false [.str]],[.zs],.struct [(0,66)]⟩),
 (103,⟨1,8,false,[.int .u64],[.int .u64 0],.leaf⟩),
 (106,⟨1,8,false,[.list false []],[.nilp],.ptr 108⟩),
 (108,⟨2,32,true,[.list false [],.list false [.int .u8]],[.nilp,.zs],.bld⟩),
 (111,⟨6,48,true,[.bool,.z,.z,.z,.z,.z],[.bool false,.int .i64 0,.int .i64 0,.int .i64 0,.int .i64 0,.int .i64 0],.struct [(0,4),(1,3),(2,3),(3,3),(4,3),(5,3)]⟩),
 (120,⟨1,16,false,[.list false []],[.err true],.iface⟩),
 (127,⟨3,24,true,[.bool,.z,.z],[.bool false,.int .i64 0,.int .i64 0],.struct [(0,4),(1,3),(2,3)]⟩),
 (131,⟨1,24,false,[.list true [.z,.z,.z,.z,.z,.z,.z,.z,.z,.z]],[.zs],.slice 36⟩),
 (141,⟨1,8,false,[.list false []],[.nilp],.ptr 183⟩),
 (150,⟨1,24,false,[.list true [.bool,.z,.z,.z,.z,.z]],[.zs],.slice 111⟩),
 (152,⟨1,8,false,[.int .u64],[.int .u64 0],.leaf⟩),
 (183,⟨34,336,true,[.z,.z,.z,.z,.z,.list true [.z,.list false [.int .u64]],.z,.z,.z,.z,.z,.z,.z,.z,.z,.z,.z,.z,.z,.z,.z,.bool,.z,.list true [.z,.z,.z,.z,.z,.z,.z,.z,.z,.z],.list true [.bool,.z,.z],.z,.list true [.bool,.z,.z],.z,.z,.z,.z,.z,.z,.z],[.int .i64 0,.int .i64 0,.int .i64 0,.int .i64 0,.int .i64 0,.zs,.int .i64 0,.int .i64 0,.int .i64 0,.int .i64 0,.int .i64 0,.int .i64 0,.int .i64 0,.int .i64 0,.int .i64 0,.int .i64 0,.int .i64 0,.int .i64 0,.int .i64 0,.int .i64 0,.int .i64 0,.bool false,.int .i64 0,.zs,.zs,.int .i64 0,.zs,.int .i64 0,.int .i64 0,.int .i64 0,.int .i64 0,.int .i64 0,.int .i64 0,.int .i64 0],.struct [(0,30),(6,38),(23,131),(24,51),(25,55),(33,3)]⟩),
 (252,⟨11,88,true,[.z,.z,.z,.z,.z,.z,.z,.z,.z,.z,.z],[.int .i64 0,.int .i64 0,.int .i64 0,.int .i64 0,.int .i64 0,.int .i64 0,.int .i64 0,.int .i64 0,.int .i64 0,.int .i64 0,.int .i64 0],.struct [(0,3),(1,36)]⟩),
 (253,⟨1,24,false,[.list true [.z,.z,.z,.z,.z,.z,.z,.z,.z,.z,.z]],[.zs],.slice 252⟩),
 (272,⟨1,24,false,[.list true [.z,.z,.z,.z,.z,.z,.z,.z,.z,.z,.z]],[.zs],.slice 275⟩),
 (275,⟨11,88,true,[.z,.z,.z,.z,.z,.z,.z,.z,.z,.z,.z],[.int .i64 0,.int .i64 0,.int .i64 0,.int .i64 0,.int .i64 0,.int .i64 0,.int .i64 0,.int .i64 0,.int .i64 0,.int .i64 0,.int .i64 0],.struct [(0,36),(10,3)]⟩)]
def n8:List Nat:=[34,38,53,111,127]
noncomputable abbrev PR:Program:=Tryz.prog
theorem Nn:gM PR 108 gQ=true:=by kernel_rfl
theorem z8:jD PR gQ n8=true:=by kernel_rfl
theorem Dq:PR.follows .mixedOrders=true:=by kernel_rfl
theorem Tz:∃ i,PR.info? 108=some i∧i.zero=some (.agg #[.pointer none,.slice none 0 0]):=by
 refine ⟨(PR.info? 108).getD default,by kernel_rfl,by kernel_rfl⟩
theorem vR (_h:(E6 TI.none gQ 108).d = .bld):∃ i,PR.info? 108=some i∧i.zero=some (.agg #[.pointer none,.slice none 0 0]):=Tz
def D6 (sp:List (Nat × DW)) (lp:List (Nat × KP)) (nt N:Nat):Env:=⟨gQ,sp,[],lp,nt,N,n8,[]⟩
def kB (sp:List (Nat × DW)) (ip:List (Nat × Ip)) (lp:List (Nat × KP)) (nt N:Nat):Env:=⟨gQ,sp,[],lp,nt,N,n8,ip⟩
abbrev HF (fn:Func) (c:Code) (nt:Nat) (rs:List ResultVar):Prop:=(fn.name == "runtime.NumGoroutine")=false∧fn.body=some c∧fn.ntmps=nt∧B6 nt 900000=true∧fn.results.toList=rs
theorem D5 {fn:Func} {nt:Nat} {rs:List ResultVar} (h:(!(fn.name == "runtime.NumGoroutine")&&(fn.body.isSome&&(fn.ntmps==nt&&B6 nt 900000)))=true:=by kernel_rfl) (h2:fn.results.toList=rs:=by kernel_rfl):HF fn (D4 fn) nt rs:=by
 simp only [AH,B1,B8] at h;refine ⟨h.1,?_,h.2.2.1,h.2.2.2,h2⟩;unfold D4;cases hb:fn.body with
 | none=>rw [hb] at h; exact absurd h.2.1 (by decide)
 | some c=>rfl
noncomputable def wX:Code:=D4 Tryz.f5
theorem zaK:HF Tryz.f5 wX 39 [.tmp 0]:=D5
noncomputable def WX:Code:=D4 Tryz.f10
theorem zaJ:HF Tryz.f10 WX 100 [.tmp 8]:=D5
noncomputable def wW:Code:=D4 Tryz.f11
theorem zaI:HF Tryz.f11 wW 100 [.tmp 8]:=D5
noncomputable def NF:Code:=D4 Tryz.f15
theorem zaC:HF Tryz.f15 NF 63 [.cell 2 30]:=D5
noncomputable def wS:Code:=D4 Tryz.f16
theorem zaB:HF Tryz.f16 wS 58 [.cell 4 38]:=D5
noncomputable def wR:Code:=D4 Tryz.f17
theorem zaA:HF Tryz.f17 wR 24 [.tmp 6]:=D5
noncomputable def L4:Code:=D4 Tryz.f18
theorem Zp:HF Tryz.f18 L4 100 [.tmp 4]:=D5
noncomputable def JL:Code:=D4 Tryz.f19
theorem zbH:HF Tryz.f19 JL 88 [.cell 2 30,.tmp 3]:=D5
noncomputable def KZ:Code:=D4 Tryz.f20
theorem zbI:HF Tryz.f20 KZ 94 [.tmp 2]:=D5
noncomputable def UD:Code:=D4 Tryz.f21
theorem Zw:HF Tryz.f21 UD 59 [.tmp 2,.tmp 3]:=D5
noncomputable def WZ:Code:=D4 Tryz.f22
theorem za0:HF Tryz.f22 WZ 37 [.tmp 4]:=D5
noncomputable def wO:Code:=D4 Tryz.f23
theorem zao:HF Tryz.f23 wO 17 [.cell 2 55,.tmp 3]:=D5
noncomputable def WV:Code:=D4 Tryz.f24
theorem zap:HF Tryz.f24 WV 61 [.tmp 2]:=D5
noncomputable def wU:Code:=D4 Tryz.f25
theorem zaG:HF Tryz.f25 wU 38 [.tmp 4]:=D5
noncomputable def L5:Code:=D4 Tryz.f26
theorem zav:HF Tryz.f26 L5 59 [.tmp 6]:=D5
noncomputable def wT:Code:=D4 Tryz.f28
theorem zaE:HF Tryz.f28 wT 14 [.cell 0 30]:=D5
noncomputable def UC:Code:=D4 Tryz.f29
theorem Zv:HF Tryz.f29 UC 54 [.tmp 6]:=D5
noncomputable def xJ:Code:=D4 Tryz.f31
theorem zaZ:HF Tryz.f31 xJ 8 [.tmp 2]:=D5
noncomputable def xI:Code:=D4 Tryz.f32
theorem zaY:HF Tryz.f32 xI 46 [.cell 4 55]:=D5
noncomputable def WY:Code:=D4 Tryz.f34
theorem zaL:HF Tryz.f34 WY 37 [.tmp 6]:=D5
noncomputable def UM:Code:=D4 Tryz.f35
theorem zbv:HF Tryz.f35 UM 13 [.cell 4 55]:=D5
noncomputable def wV:Code:=D4 Tryz.f38
theorem zaH:HF Tryz.f38 wV 15 [.tmp 4]:=D5
noncomputable def MS:Code:=D4 Tryz.f39
theorem zaF:HF Tryz.f39 MS 113 [.tmp 4]:=D5
noncomputable def UJ:Code:=D4 Tryz.f40
theorem zaD:HF Tryz.f40 UJ 32 [.cell 4 36]:=D5
noncomputable def wB:Code:=D4 Tryz.f41
theorem Zu:HF Tryz.f41 wB 39 [.cell 4 38]:=D5
noncomputable def wA:Code:=D4 Tryz.f42
theorem Zt:HF Tryz.f42 wA 9 [.tmp 2]:=D5
noncomputable def xE:Code:=D4 Tryz.f44
theorem zaU:HF Tryz.f44 xE 38 [.tmp 2]:=D5
noncomputable def yL:Code:=D4 Tryz.f47
theorem zbG:HF Tryz.f47 yL 8 [.tmp 4]:=D5
noncomputable def yO:Code:=D4 Tryz.f48
theorem zbL:HF Tryz.f48 yO 26 [.tmp 2]:=D5
noncomputable def yM:Code:=D4 Tryz.f49
theorem zbJ:HF Tryz.f49 yM 24 [.tmp 4]:=D5
noncomputable def yR:Code:=D4 Tryz.f50
theorem zbO:HF Tryz.f50 yR 13 [.tmp 4]:=D5
noncomputable def yQ:Code:=D4 Tryz.f51
theorem zbN:HF Tryz.f51 yQ 11 [.tmp 2]:=D5
noncomputable def yP:Code:=D4 Tryz.f52
theorem zbM:HF Tryz.f52 yP 28 [.tmp 2]:=D5
noncomputable def Q3:Code:=D4 Tryz.f53
theorem zba:HF Tryz.f53 Q3 54 [.tmp 2]:=D5
noncomputable def yN:Code:=D4 Tryz.f54
theorem zbK:HF Tryz.f54 yN 10 []:=D5
noncomputable def xT:Code:=D4 Tryz.f55
theorem zbg:HF Tryz.f55 xT 33 [.cell 2 111,.tmp 3]:=D5
noncomputable def UE:Code:=D4 Tryz.f58
theorem Zy:HF Tryz.f58 UE 29 [.tmp 4,.tmp 5,.tmp 6]:=D5
noncomputable def wD:Code:=D4 Tryz.f59
theorem Zz:HF Tryz.f59 wD 37 [.tmp 2]:=D5
noncomputable def H5:Code:=D4 Tryz.f61
theorem zat:HF Tryz.f61 H5 87 [.cell 2 55]:=D5
noncomputable def wP:Code:=D4 Tryz.f62
theorem zaq:HF Tryz.f62 wP 47 [.tmp 2]:=D5
noncomputable def WW:Code:=D4 Tryz.f63
theorem zar:HF Tryz.f63 WW 26 []:=D5
noncomputable def UI:Code:=D4 Tryz.f64
theorem zaz:HF Tryz.f64 UI 26 [.tmp 4]:=D5
noncomputable def xY:Code:=D4 Tryz.f65
theorem zbo:HF Tryz.f65 xY 41 [.tmp 4]:=D5
noncomputable def yA:Code:=D4 Tryz.f66
theorem zbq:HF Tryz.f66 yA 16 [.cell 2 36]:=D5
noncomputable def Y4:Code:=D4 Tryz.f67
theorem zbk:HF Tryz.f67 Y4 75 [.tmp 4,.tmp 5]:=D5
noncomputable def N6:Code:=D4 Tryz.f68
theorem zay:HF Tryz.f68 N6 94 [.tmp 6]:=D5
noncomputable def wM:Code:=D4 Tryz.f69
theorem zam:HF Tryz.f69 wM 25 [.tmp 6]:=D5
noncomputable def N7:Code:=D4 Tryz.f70
theorem zbn:HF Tryz.f70 N7 75 [.tmp 8]:=D5
noncomputable def wZ:Code:=D4 Tryz.f71
theorem zaN:HF Tryz.f71 wZ 32 [.tmp 2]:=D5
noncomputable def wC:Code:=D4 Tryz.f72
theorem Zx:HF Tryz.f72 wC 66 [.tmp 6]:=D5
noncomputable def SM:Code:=D4 Tryz.f73
theorem Zo:HF Tryz.f73 SM 82 [.cell 2 38,.tmp 3,.tmp 4]:=D5
noncomputable def yE:Code:=D4 Tryz.f74
theorem zbu:HF Tryz.f74 yE 26 [.tmp 4]:=D5
noncomputable def dW:Code:=D4 Tryz.f75
theorem zbw:HF Tryz.f75 dW 165 [.tmp 2]:=D5
noncomputable def dX:Code:=D4 Tryz.f76
theorem zbx:HF Tryz.f76 dX 22 [.cell 2 55]:=D5
noncomputable def wN:Code:=D4 Tryz.f81
theorem zan:HF Tryz.f81 wN 16 [.cell 2 53]:=D5
noncomputable def xH:Code:=D4 Tryz.f84
theorem zaX:HF Tryz.f84 xH 8 [.tmp 0]:=D5
noncomputable def xO:Code:=D4 Tryz.f89
theorem za7:HF Tryz.f89 xO 16 [.tmp 4]:=D5
noncomputable def xF:Code:=D4 Tryz.f91
theorem zaV:HF Tryz.f91 xF 76 [.tmp 2,.tmp 3]:=D5
noncomputable def xR:Code:=D4 Tryz.f92
theorem zbe:HF Tryz.f92 xR 32 [.tmp 2]:=D5
noncomputable def wE:Code:=D4 Tryz.f93
theorem zaa:HF Tryz.f93 wE 25 [.tmp 4]:=D5
noncomputable def yF:Code:=D4 Tryz.f94
theorem zby:HF Tryz.f94 yF 9 [.tmp 4]:=D5
noncomputable def xQ:Code:=D4 Tryz.f95
theorem zbb:HF Tryz.f95 xQ 22 [.tmp 3]:=D5
noncomputable def L6:Code:=D4 Tryz.f96
theorem zbP:HF Tryz.f96 L6 94 [.tmp 4]:=D5
noncomputable def wH:Code:=D4 Tryz.f98
theorem zad:HF Tryz.f98 wH 14 [.tmp 6]:=D5
noncomputable def wF:Code:=D4 Tryz.f99
theorem zab:HF Tryz.f99 wF 18 [.tmp 6]:=D5
noncomputable def xU:Code:=D4 Tryz.f100
theorem zbh:HF Tryz.f100 xU 11 [.tmp 5]:=D5
noncomputable def wQ:Code:=D4 Tryz.f105
theorem zas:HF Tryz.f105 wQ 20 [.tmp 4]:=D5
noncomputable def UH:Code:=D4 Tryz.f106
theorem zau:HF Tryz.f106 UH 37 [.tmp 2]:=D5
noncomputable def yD:Code:=D4 Tryz.f107
theorem zbt:HF Tryz.f107 yD 35 [.tmp 4]:=D5
noncomputable def yB:Code:=D4 Tryz.f108
theorem zbr:HF Tryz.f108 yB 71 [.tmp 4]:=D5
noncomputable def yC:Code:=D4 Tryz.f109
theorem zbs:HF Tryz.f109 yC 16 [.tmp 2]:=D5
noncomputable def xW:Code:=D4 Tryz.f110
theorem zbj:HF Tryz.f110 xW 6 [.tmp 2]:=D5
noncomputable def Uk:Code:=D4 Tryz.f111
theorem zak:HF Tryz.f111 Uk 32 [.cell 6 36,.cell 7 36]:=D5
noncomputable def wL:Code:=D4 Tryz.f112
theorem zal:HF Tryz.f112 wL 12 [.tmp 2]:=D5
noncomputable def IQ:Code:=D4 Tryz.f113
theorem zaw:HF Tryz.f113 IQ 66 [.tmp 6,.tmp 7]:=D5
noncomputable def yI:Code:=D4 Tryz.f114
theorem zbD:HF Tryz.f114 yI 15 [.tmp 4]:=D5
noncomputable def xP:Code:=D4 Tryz.f115
theorem za9:HF Tryz.f115 xP 24 [.tmp 6]:=D5
noncomputable def xZ:Code:=D4 Tryz.f116
theorem zbp:HF Tryz.f116 xZ 14 [.cell 6 53]:=D5
noncomputable def w8:Code:=D4 Tryz.f117
theorem zaO:HF Tryz.f117 w8 66 [.tmp 2]:=D5
noncomputable def UN:Code:=D4 Tryz.f118
theorem zbA:HF Tryz.f118 UN 19 [.tmp 4]:=D5
noncomputable def v7:Code:=D4 Tryz.f119
theorem Zr:HF Tryz.f119 v7 46 [.cell 2 38]:=D5
noncomputable def v8:Code:=D4 Tryz.f120
theorem Zs:HF Tryz.f120 v8 11 [.tmp 2]:=D5
noncomputable def v6:Code:=D4 Tryz.f121
theorem Zq:HF Tryz.f121 v6 11 [.tmp 2]:=D5
noncomputable def xK:Code:=D4 Tryz.f122
theorem za1:HF Tryz.f122 xK 86 [.tmp 6]:=D5
noncomputable def xL:Code:=D4 Tryz.f123
theorem za2:HF Tryz.f123 xL 9 [.cell 2 53,.tmp 3]:=D5
noncomputable def SN:Code:=D4 Tryz.f124
theorem za3:HF Tryz.f124 SN 31 [.tmp 6,.tmp 7,.tmp 8]:=D5
noncomputable def m7:Code:=D4 Tryz.f126
theorem za4:HF Tryz.f126 m7 24 [.tmp 8]:=D5
noncomputable def xN:Code:=D4 Tryz.f141
theorem za6:HF Tryz.f141 xN 21 [.tmp 4]:=D5
noncomputable def xG:Code:=D4 Tryz.f144
theorem zaW:HF Tryz.f144 xG 19 [.tmp 2,.tmp 3]:=D5
noncomputable def xS:Code:=D4 Tryz.f145
theorem zbf:HF Tryz.f145 xS 43 [.tmp 2]:=D5
noncomputable def wG:Code:=D4 Tryz.f146
theorem zac:HF Tryz.f146 wG 30 [.tmp 8]:=D5
noncomputable def SO:Code:=D4 Tryz.f147
theorem zbz:HF Tryz.f147 SO 19 [.tmp 4]:=D5
noncomputable def wI:Code:=D4 Tryz.f148
theorem zae:HF Tryz.f148 wI 21 [.tmp 4]:=D5
noncomputable def wJ:Code:=D4 Tryz.f149
theorem zaf:HF Tryz.f149 wJ 21 [.tmp 4]:=D5
noncomputable def wK:Code:=D4 Tryz.f150
theorem zag:HF Tryz.f150 wK 7 [.tmp 2]:=D5
noncomputable def yH:Code:=D4 Tryz.f155
theorem zbC:HF Tryz.f155 yH 8 [.tmp 2]:=D5
noncomputable def UL:Code:=D4 Tryz.f156
theorem zbl:HF Tryz.f156 UL 40 [.tmp 2]:=D5
noncomputable def yG:Code:=D4 Tryz.f157
theorem zbB:HF Tryz.f157 yG 29 [.cell 4 34,.cell 5 34]:=D5
noncomputable def Y3:Code:=D4 Tryz.f158
theorem zax:HF Tryz.f158 Y3 88 [.tmp 4,.tmp 5]:=D5
noncomputable def OX:Code:=D4 Tryz.f159
theorem zbd:HF Tryz.f159 OX 33 [.tmp 6]:=D5
noncomputable def wY:Code:=D4 Tryz.f160
theorem zaM:HF Tryz.f160 wY 27 [.tmp 4]:=D5
noncomputable def IP:Code:=D4 Tryz.f162
theorem zai:HF Tryz.f162 IP 69 [.tmp 6,.tmp 7,.tmp 8]:=D5
noncomputable def UF:Code:=D4 Tryz.f163
theorem zah:HF Tryz.f163 UF 62 [.tmp 6,.tmp 7]:=D5
noncomputable def xB:Code:=D4 Tryz.f164
theorem zaR:HF Tryz.f164 xB 23 [.tmp 4]:=D5
noncomputable def w9:Code:=D4 Tryz.f165
theorem zaP:HF Tryz.f165 w9 54 [.tmp 6,.tmp 7,.tmp 8]:=D5
noncomputable def xM:Code:=D4 Tryz.f166
theorem za5:HF Tryz.f166 xM 23 [.tmp 4]:=D5
noncomputable def OW:Code:=D4 Tryz.f168
theorem zbc:HF Tryz.f168 OW 54 [.tmp 4]:=D5
noncomputable def xV:Code:=D4 Tryz.f190
theorem zbi:HF Tryz.f190 xV 9 [.tmp 2]:=D5
noncomputable def xX:Code:=D4 Tryz.f192
theorem zbm:HF Tryz.f192 xX 16 [.tmp 2]:=D5
noncomputable def yK:Code:=D4 Tryz.f193
theorem zbF:HF Tryz.f193 yK 12 [.cell 4 34]:=D5
noncomputable def yJ:Code:=D4 Tryz.f194
theorem zbE:HF Tryz.f194 yJ 2 [.cell 0 34]:=D5
noncomputable def yS:Code:=D4 Tryz.f195
theorem zbQ:HF Tryz.f195 yS 15 [.tmp 4]:=D5
noncomputable def UG:Code:=D4 Tryz.f196
theorem zaj:HF Tryz.f196 UG 43 [.tmp 4,.tmp 5,.tmp 6]:=D5
noncomputable def xD:Code:=D4 Tryz.f197
theorem zaT:HF Tryz.f197 xD 16 [.tmp 2]:=D5
noncomputable def xA:Code:=D4 Tryz.f198
theorem zaQ:HF Tryz.f198 xA 10 [.cell 4 36]:=D5
noncomputable def xC:Code:=D4 Tryz.f199
theorem zaS:HF Tryz.f199 xC 15 [.cell 4 36]:=D5
noncomputable def N8:Code:=D4 Tryz.f217
theorem zbR:HF Tryz.f217 N8 46 [.tmp 4,.cell 5 111]:=D5
noncomputable def UK:Code:=D4 Tryz.f218
theorem za8:HF Tryz.f218 UK 79 [.tmp 4]:=D5
open Go Go.Proofs Go.RowKit
theorem Keep.freeze {O:Nat→Prop} (w:World) (a:Addr) (n:Nat) (h:O a.block):Keep O w (w.freeze a n):=by
 unfold World.freeze;split
 ·exact Keep.refl _ _
 ·exact ⟨rfl,rfl,rfl,by simp,fun b _ hn=>by simp only [va3]; rw [BB (fun e:a.block=b=>hn (e ▸ h))]⟩
theorem Keep.setCell {O:Nat→Prop} (w:World) (a:Addr) (v:Value) (h:O a.block):Keep O w (w.setCell a v):=
 ⟨rfl,rfl,rfl,by simp [vbB],fun b _ hn=>Below.heap_setCell _ _ _ _ (fun e=>hn (e ▸ h))⟩
theorem fF {w:World} {b:Nat} {o:Obj} (h:w.heap[b]?=some o):b < w.heap.size:=(DE.1 h).1
theorem Ty:liesAt PR PR.depth 108 (2 / PR.cellsOf 108) 0 108 1=true:=by kernel_rfl
theorem vU:(PR.info? 108).map (·.size)=some 2:=by kernel_rfl
theorem Ok:(PR.info? 5).map (fun i=>(i.zero,i.size,i.bytes))=some (some (.int .u8 0),1,1):=by kernel_rfl
set_option maxHeartbeats 1000000 in
theorem Tx (b:Nat) (w:World) (h0:w.cell? ⟨b,0,none⟩=some (.pointer (some ⟨b,0,none⟩))) :
  Calls Tryz.prog 103 #[.pointer (some ⟨b,0,none⟩)] w fun e w'=>e = .returned (.tuple #[])∧w'=w:=by
 obtain ⟨j,hj,_⟩:=Option.map_eq_some_iff.1 vU
 go_enter Tryz.func103,Tryz.ntmps103
 go_wp2
 rw [Lib.run_neq_ptr_same w _ Tryz.underlying106 hj]
 go_wp2
 go_end0
 exact ⟨rfl,rfl⟩
set_option maxHeartbeats 1000000 in
theorem Tw (b:Nat) (w:World) (h0:w.cell? ⟨b,0,none⟩=some (.pointer none)) (hsh:w.shape? b=some (108,2)) (hfz:w.frozen? ⟨b,0,none⟩=false) :
  Calls Tryz.prog 103 #[.pointer (some ⟨b,0,none⟩)] w fun e w'=>e = .returned (.tuple #[])∧w'=w.setCell ⟨b,0,none⟩ (.pointer (some ⟨b,0,none⟩)):=by
 obtain ⟨j,hj,hjs⟩:=Option.map_eq_some_iff.1 vU
 go_enter Tryz.func103,Tryz.ntmps103
 go_wp2
 rw [Lib.run_to_unsafe w ⟨b,0,none⟩ Tryz.underlying106 Tryz.underlying211 hj (by rw [hjs]; decide) hsh (Nat.zero_lt_succ 1)];simp only [Result.andThen];rw [Oper.upon_value]
 go_wp2
 rw [run_callFunc_extern Tryz.func153 (by kernel_rfl) (by kernel_rfl) (by kernel_rfl) (e:=Extern.AbiNoEscape.same) (by kernel_rfl)];rw [Lib.run_noEscape];simp only [Result.andThen];rw [Oper.upon_value]
 go_wp2
 rw [Lib.run_from_unsafe w ⟨b,0,none⟩ Tryz.underlying211 Tryz.underlying106 hj hsh Ty];simp only [Result.andThen];rw [Oper.upon_value]
 go_wp2
 go_end0
 exact ⟨rfl,rfl⟩
theorem vS (b:Nat) (p v:Value) (w:World) (hp:p = .pointer none∨p = .pointer (some ⟨b,0,none⟩)) (hbk:w.heap[b]?=some (.cells #[p,v] 108 (0,0))) :
  Calls Tryz.prog 103 #[.pointer (some ⟨b,0,none⟩)] w fun e w'=>e = .returned (.tuple #[])∧w'.heap[b]?=some (.cells #[.pointer (some ⟨b,0,none⟩),v] 108 (0,0))∧Keep (fun k=>k=b) w w'∧w'.heap.size=w.heap.size:=by
 have hc0:w.cell? ⟨b,0,none⟩=some p:=by rw [Lib.cell_of_heap hbk]; rfl
 rcases hp with rfl | rfl
 ·refine (Tw b w hc0 (by simp [World.shape?,hbk]) (Lib.frozen_of_heap hbk 0)).mono ?_;rintro e w' ⟨rfl,rfl⟩;exact ⟨rfl,by simp [vbB,va3,hbk],Keep.setCell w ⟨b,0,none⟩ _ rfl,by simp [vbB]⟩
 ·refine (Tx b w hc0).mono ?_;rintro e w' ⟨rfl,rfl⟩;exact ⟨rfl,hbk,Keep.refl _ _,rfl⟩
def aT (b:Nat) (v:Value) (bs:List Value) (w w':World):Prop:=
 ∃ v',w'.heap[b]?=some (.cells #[.pointer (some ⟨b,0,none⟩),v'] 108 (0,0))∧w'.ownsRowF 0 5 1 v' bs.length bs∧v'.ownBlock≠some b ∧
  Keep (fun k=>k=b∨v.ownBlock=some k) w w'∧∀ k,v'.ownBlock=some k→v.ownBlock=some k∨w.heap.size≤k
theorem vT {b:Nat} {v v':Value} {bs:List Value} {w w1 w2:World} (hs1:w1.heap.size=w.heap.size) (hk1:Keep (fun k=>k=b) w w1)
  (hb2:w2.heap[b]?=some (.cells #[.pointer (some ⟨b,0,none⟩),v] 108 (0,0))) (hown:w2.ownsRowF 0 5 1 v' bs.length bs) (hk2:Keep (fun k=>v.ownBlock=some k) w1 w2) (hv:∀ k,v'.ownBlock=some k→v.ownBlock=some k∨w1.heap.size≤k) :
  aT b v bs w (w2.setCell ⟨b,1,none⟩ v'):=by
 have hput:=Lib.BuilderAtF.put (T:=108) (e:=5) (B4 b) hb2 hown (by decide);obtain ⟨_,v2,q1,q2,q3⟩:=hput;have e2:v2=v':=by
  have:(w2.setCell ⟨b,1,none⟩ v').heap[b]?=some (.cells #[.pointer (some ⟨b,0,none⟩),v'] 108 (0,0)):=by simp [vbB,va3,hb2]
  rw [this] at q1;simp at q1;exact q1.symm
 subst e2;refine ⟨v2,q1,q2,q3,?_,fun k hk=>by rw [← hs1]; exact hv k hk⟩;have h3:Keep (fun k=>k=b) w2 (w2.setCell ⟨b,1,none⟩ v2):=Keep.setCell w2 ⟨b,1,none⟩ v2 rfl;refine (hk1.mono (fun _ _ h=>Or.inl h)).trans ((hk2.mono (O':=fun k=>k=b∨v.ownBlock=some k) (fun _ _ h=>Or.inr h)).trans h3 (fun _ _ h=>Or.inl h)) (fun _ _ h=>h)
theorem Ba {w w':World} {v:Value} (hg:w.grownBy w' v.ownBlock):Keep (fun k=>v.ownBlock=some k) w w':=
 ⟨hg.os,hg.tape,hg.output,hg.size,fun b hb hn=>hg.block b hb (fun h=>hn h.symm)⟩
theorem XP {g n c k:Nat} (h:(Value.slice (some ⟨g,0,none⟩) n c).ownBlock=some k):k=g:=by
 simp only [CD,AC] at h;exact h.symm
theorem Tc {P:Program} (w:World) (t u ty e:TypeId) (i:TypeInfo) (ht:P.underlying t=some (.slice e)) (hu:P.underlying u=some .string) (hi:P.info? e=some i) (hz:i.zero=some (.int .u8 0)) (hsize:i.size=1) (hby:i.bytes=1)
  (v:Value) (n:Nat) (xs:List Value) (hown:w.ownsRowF 0 e 1 v n xs) (s:BA) (hbytes:n+s.size≤140737488355328) :
  ∃ v' w',(CZ #[t,u] ty #[v,.string s]).run P w = .ok v' w'∧w'.ownsRowF 0 e 1 v' (n+s.size) (xs++DB s)∧w.grownBy w' v.ownBlock∧∀ k,v'.ownBlock=some k→v.ownBlock=some k∨w.heap.size≤k:=by
 have h63:n+s.size≤maxLen:=by unfold maxLen; omega
 rcases hown.2 with ⟨rfl,rfl⟩ | ⟨g,cap,cur,fz,rfl,hbg,hg,hfz,hnc,hcm,hcs,htake⟩
 ·obtain ⟨v',w',h1,h2,h3,_⟩:=Lib.run_append_own_string (P:=P) w w.heap.size t u ty e i ht hu hi hz hsize hby (.slice none 0 0) 0 xs ⟨hown.1,.inl ⟨rfl,rfl⟩⟩ s h63 hbytes (AX _);refine ⟨v',w',h1,⟨h2.1,?_⟩,h3,fun k hk=>.inr ?_⟩
  ·rcases h2.2 with q | ⟨g,cap,cur,q1,_,q2,q3,q4,q5,q6⟩
   ·exact .inl q
   ·exact .inr ⟨g,cap,cur,(0,0),q1,B4 _,q2,B4 _,q3,q4,q5,q6⟩
  ·rcases h2.2 with ⟨rfl,_⟩ | ⟨g,cap,cur,rfl,q1,_⟩
   ·simp [CD] at hk
   ·rw [XP hk]; exact q1
 ·obtain ⟨v',w',h1,h2,h3,_⟩:=Lib.run_append_own_stringF (P:=P) w 0 t u ty e i ht hu hi hz hsize hby _ n xs hown s h63 hbytes (B4 _);refine ⟨v',w',h1,h2,h3,fun k hk=>?_⟩;have hsmall:n+s.size≤9223372036854775807:=by omega
  by_cases hroom:n+s.size≤cap
  ·have hr:=Lib.run_append_room_stringF (P:=P) w t u ty e i ht hu hi hsize g n cap cur fz hg (by simpa using hfz) s hroom (by simp at hcs; omega);rw [h1] at hr;simp only [vbi] at hr;obtain ⟨rfl,_⟩:=hr;exact .inl (by rw [XP hk]; rfl)
  ·have hxl:xs.length=n:=by simpa using hown.1
   have hr:=Lib.run_append_grow_string (P:=P) w t u ty e i (.int .u8 0) ht hu hi hz ⟨g,0,none⟩ n cap xs (by rw [hsize]; simpa using hxl) (hown.cells (g:=g) rfl) s (by omega) (by omega) (by rw [hby]; exact growslice_fits (by omega) (by omega));rw [h1] at hr;simp only [vbi] at hr;obtain ⟨rfl,_⟩:=hr;exact .inr (by rw [XP hk]; exact AX _)
theorem zjn {P:Program} {w:World} {ops:Array Oper} {rest:List Oper} {o:Oper} {a:Act} {Q:Exit→Act→World→Prop} (hgd:o.guard=none) (sl x:Operand) (t u:TypeId)
  (ho:o.op = .call { callee:=.builtin .append,args:=#[sl,x],argTypes:=#[t,u] })
  (e:TypeId) (i:TypeInfo) (ht:P.underlying t=some (.slice e)) (hu:P.underlying u=some .string) (hi:P.info? e=some i) (hz:i.zero=some (.int .u8 0)) (hsize:i.size=1) (hby:i.bytes=1)
  (v:Value) (n:Nat) (xs:List Value) (hs:a.eval sl=v) (hown:w.ownsRowF 0 e 1 v n xs) (s:BA) (hx:a.eval x = .string s) (hbytes:n+s.size≤140737488355328)
  (h:∀ v' w',w'.ownsRowF 0 e 1 v' (n+s.size) (xs++DB s)→w.grownBy w' v.ownBlock→(∀ k,v'.ownBlock=some k→v.ownBlock=some k∨w.heap.size≤k)→wpList P ops Q rest (a.put o.dst v') w'):wpList P ops Q (o :: rest) a w:=by
 refine wpList_plain hgd fun K hK=>?_
 obtain ⟨v',w',hr,h2,h3,h4⟩:=Tc (P:=P) w t u o.type e i ht hu hi hz hsize hby v n xs hown s hbytes;unfold Oper.wp execOp;simp only [ho,resolve,invoke,builtin,CN,CO,CC,List.map_toArray,A0,CB,hs,hx,hr];exact hK _ _ (h v' w' h2 h3 h4)
theorem Sz {P:Program} (w:World) (t ty e:TypeId) (i:TypeInfo) (ht:P.underlying t=some (.slice e)) (hi:P.info? e=some i) (hz:i.zero=some (.int .u8 0)) (hsize:i.size=1) (hby:i.bytes=1)
  (v:Value) (n:Nat) (xs:List Value) (hown:w.ownsRowF 0 e 1 v n xs) (ad:Addr) (c:Nat) (x:Int) (hx:w.cell? ad=some (.int .u8 x)) (hbytes:n+1≤140737488355328) :
  ∃ v' w',(CZ #[t,t] ty #[v,.slice (some ad) 1 c]).run P w = .ok v' w'∧w'.ownsRowF 0 e 1 v' (n+1) (xs++[.int .u8 x])∧w.grownBy w' v.ownBlock∧∀ k,v'.ownBlock=some k→v.ownBlock=some k∨w.heap.size≤k:=by
 have h63:n+1≤maxLen:=by unfold maxLen; omega
 have hnews:∀ j u,[Value.int .u8 x][j]?=some u→w.cell? (ad.add j)=some u:=by
  intro j u hj
  match j,hj with
  | 0,hj=>simp at hj; subst hj; obtain ⟨b,o,p⟩:=ad; cases p <;> simpa [Addr.add] using hx
 have h1c:∀ u∈[Value.int .u8 x],u.oneCell'=true:=fun u hu=>by simp at hu; subst hu; rfl
 rcases hown.2 with ⟨rfl,rfl⟩ | ⟨g,cap,cur,fz,rfl,hbg,hg,hfz,hnc,hcm,hcs,htake⟩
 ·obtain ⟨v',w',h1,h2,h3,_⟩:=run_append_own (P:=P) w w.heap.size t ty e i (.int .u8 0) 1 1 ht hi hz hsize hby rfl (by decide) (.slice none 0 0) 0 xs ⟨hown.1,.inl ⟨rfl,rfl⟩⟩ ad 1 c [.int .u8 x] rfl hnews h1c h63 (by omega) (AX _);refine ⟨v',w',h1,⟨h2.1,?_⟩,h3,fun k hk=>.inr ?_⟩
  ·rcases h2.2 with q | ⟨g,cap,cur,q1,_,q2,q3,q4,q5,q6⟩
   ·exact .inl q
   ·exact .inr ⟨g,cap,cur,(0,0),q1,B4 _,q2,B4 _,q3,q4,q5,q6⟩
  ·rcases h2.2 with ⟨rfl,_⟩ | ⟨g,cap,cur,rfl,q1,_⟩
   ·simp [CD] at hk
   ·rw [XP hk]; exact q1
 ·obtain ⟨v',w',h1,h2,h3,_⟩:=run_append_ownF (P:=P) w 0 t ty e i (.int .u8 0) 1 1 ht hi hz hsize hby rfl (by decide) _ n xs hown ad 1 c [.int .u8 x] rfl hnews h1c h63 (by omega) (B4 _);refine ⟨v',w',h1,h2,h3,fun k hk=>?_⟩;by_cases hroom:n+1≤cap
  ·have hr:=run_append_roomF (P:=P) w t ty e i ht hi g n cap cur fz hg (by rw [hsize]; simpa using hfz) ad 1 c [.int .u8 x] (by rw [hsize]; rfl) hnews h1c hroom (by rw [hsize]; simp at hcs ⊢; omega);rw [h1] at hr;simp only [vbi] at hr;obtain ⟨rfl,_⟩:=hr;exact .inl (by rw [XP hk]; rfl)
  ·have hxl:xs.length=n:=by simpa using hown.1
   have hr:=run_append_grow (P:=P) w t ty e i (.int .u8 0) ht hi hz ⟨g,0,none⟩ n cap xs (by rw [hsize]; simpa using hxl) (hown.cells (g:=g) rfl) ad 1 c [.int .u8 x] (by rw [hsize]; rfl) hnews (by omega) (by omega) (by rw [hby]; exact growslice_fits (by omega) (by omega));rw [h1] at hr;simp only [vbi] at hr;obtain ⟨rfl,_⟩:=hr;exact .inr (by rw [XP hk]; exact AX _)
theorem zjm {P:Program} {w:World} {ops:Array Oper} {rest:List Oper} {o:Oper} {a:Act} {Q:Exit→Act→World→Prop} (hgd:o.guard=none) (sl x:Operand) (t:TypeId)
  (ho:o.op = .call { callee:=.builtin .append,args:=#[sl,x],argTypes:=#[t,t] })
  (e:TypeId) (i:TypeInfo) (ht:P.underlying t=some (.slice e)) (hi:P.info? e=some i) (hz:i.zero=some (.int .u8 0)) (hsize:i.size=1) (hby:i.bytes=1)
  (v:Value) (n:Nat) (xs:List Value) (hs:a.eval sl=v) (hown:w.ownsRowF 0 e 1 v n xs) (ad:Addr) (c:Nat) (y:Int) (hx:a.eval x = .slice (some ad) 1 c) (hc:w.cell? ad=some (.int .u8 y)) (hbytes:n+1≤140737488355328)
  (h:∀ v' w',w'.ownsRowF 0 e 1 v' (n+1) (xs++[.int .u8 y])→w.grownBy w' v.ownBlock→(∀ k,v'.ownBlock=some k→v.ownBlock=some k∨w.heap.size≤k)→wpList P ops Q rest (a.put o.dst v') w'):wpList P ops Q (o :: rest) a w:=by
 refine wpList_plain hgd fun K hK=>?_
 obtain ⟨v',w',hr,h2,h3,h4⟩:=Sz (P:=P) w t o.type e i ht hi hz hsize hby v n xs hown ad c y hc hbytes;unfold Oper.wp execOp;simp only [ho,resolve,invoke,builtin,CN,CO,CC,List.map_toArray,A0,CB,hs,hx,hr];exact hK _ _ (h v' w' h2 h3 h4)
theorem qO {w:World} {e:Nat} {v:Value} {bs:List Value} {n k:Nat} (hown:w.ownsRowF 0 e 1 v n bs) (hk:v.ownBlock=some k):k < w.heap.size:=by
 rcases hown.2 with ⟨rfl,_⟩ | ⟨g,cap,cur,fz,rfl,_,hg,_⟩
 ·simp [CD] at hk
 ·rw [XP hk];exact fF hg
set_option maxHeartbeats 2000000 in
theorem Ug (b:Nat) (p v:Value) (bs:List Value) (s:BA) (w:World) (hp:p = .pointer none∨p = .pointer (some ⟨b,0,none⟩)) (hbk:w.heap[b]?=some (.cells #[p,v] 108 (0,0)))
  (hown:w.ownsRowF 0 5 1 v bs.length bs) (hne:v.ownBlock≠some b) (hlen:bs.length+s.size≤140737488355328) :
  Calls Tryz.prog 60 #[.pointer (some ⟨b,0,none⟩),.string s] w fun e w'=>e = .returned (.tuple #[.int .i64 s.size,.nilIface])∧aT b v (bs++Lib.strCells s) w w':=by
 obtain ⟨i0,hi,hz0,hz1,hz2⟩:=info_parts Ok
 go_enter Tryz.func60,Tryz.ntmps60
 go_wp2_with (go_at_call 103; refine (vS b p v _ hp hbk).mono ?_)
 rintro e w1 ⟨rfl,hb1,hk1,hs1⟩;have HS:Hid (w1.heap.size=w.heap.size):=hs1;clear hs1;have hown1:w1.ownsRowF 0 5 1 v bs.length bs:=ZV hown (fun k hk=>hk1.block k (qO hown hk) (fun e=>hne (e ▸ hk)));have c0:w1.cell? ⟨b,0,none⟩=some (.pointer (some ⟨b,0,none⟩)):=by rw [Lib.cell_of_heap hb1]; rfl
 have c1:w1.cell? ⟨b,1,none⟩=some v:=by rw [Lib.cell_of_heap hb1]; rfl
 go_wp2_with (at_builtin; refine zjn rfl _ _ 69 9 rfl 5 i0 Tryz.underlying69 Tryz.underlying9 hi hz0 hz1 hz2 _ _ _ rfl hown1 s rfl hlen ?_)
 intro v' w2 hown' hgrow hblk;have hlt:b < w1.heap.size:=fF hb1;have hb2:w2.heap[b]?=some (.cells #[.pointer (some ⟨b,0,none⟩),v] 108 (0,0)):=by
  rw [hgrow.block b hlt (fun e=>hne e.symm)];exact hb1
 have d0:w2.cell? ⟨b,0,none⟩=some (.pointer (some ⟨b,0,none⟩)):=by rw [Lib.cell_of_heap hb2]; rfl
 have d1:w2.cell? ⟨b,1,none⟩=some v:=by rw [Lib.cell_of_heap hb2]; rfl
 have f1:w2.frozen? ⟨b,1,none⟩=false:=Lib.frozen_of_heap hb2 1;have hX:Hid (aT b v (bs++Lib.strCells s) w (w2.setCell ⟨b,1,none⟩ v')):=vT HS hk1 hb2 (by simpa [Lib.strCells_length] using hown') (Ba hgrow) hblk;clear hblk HS;obtain ⟨ao,n',cap,rfl⟩:∃ ao n' cap,v' = .slice ao n' cap:=by
  rcases hown'.2 with ⟨hv,_⟩ | ⟨g,cap,cur,fz,hv,_⟩
  ·exact ⟨_,_,_,hv⟩
  ·exact ⟨_,_,_,hv⟩
 go_wp2
 go_ret2
 exact ⟨rfl,hX⟩
set_option maxHeartbeats 2000000 in
theorem Uf (b:Nat) (p v:Value) (bs:List Value) (c:Int) (w:World) (hp:p = .pointer none∨p = .pointer (some ⟨b,0,none⟩)) (hbk:w.heap[b]?=some (.cells #[p,v] 108 (0,0)))
  (hown:w.ownsRowF 0 5 1 v bs.length bs) (hne:v.ownBlock≠some b) (hlen:bs.length+1≤140737488355328) :
  Calls Tryz.prog 97 #[.pointer (some ⟨b,0,none⟩),.int .u8 c] w fun e w'=>e = .returned .nilIface∧aT b v (bs++[.int .u8 c]) w w':=by
 obtain ⟨i0,hi,hz0,hz1,hz2⟩:=info_parts Ok
 go_enter Tryz.func97,Tryz.ntmps97
 go_wp2_with (go_at_call 103; refine (vS b p v _ hp hbk).mono ?_)
 rintro e w1 ⟨rfl,hb1,hk1,hs1⟩;have HS:Hid (w1.heap.size=w.heap.size):=hs1;clear hs1;have hown1:w1.ownsRowF 0 5 1 v bs.length bs:=ZV hown (fun k hk=>hk1.block k (qO hown hk) (fun e=>hne (e ▸ hk)));have c0:w1.cell? ⟨b,0,none⟩=some (.pointer (some ⟨b,0,none⟩)):=by rw [Lib.cell_of_heap hb1]; rfl
 have c1:w1.cell? ⟨b,1,none⟩=some v:=by rw [Lib.cell_of_heap hb1]; rfl
 have hlt:b < w1.heap.size:=fF hb1
 go_wp2_with (at_builtin; refine zjm rfl _ _ 69 rfl 5 i0 Tryz.underlying69 hi hz0 hz1 hz2 _ _ _ rfl (hown1.alloc _) ⟨w1.heap.size,0,none⟩ 1 c rfl (by rw [Lib.cell_of_heap (heap_alloc_new w1 _)]; rfl) hlen ?_)
 intro v' w2 hown' hgrow hblk;have hb2:w2.heap[b]?=some (.cells #[.pointer (some ⟨b,0,none⟩),v] 108 (0,0)):=by
  rw [hgrow.block b (by simp; omega) (fun e=>hne e.symm),Lib.alloc_old w1 _ b hlt];exact hb1
 have d0:w2.cell? ⟨b,0,none⟩=some (.pointer (some ⟨b,0,none⟩)):=by rw [Lib.cell_of_heap hb2]; rfl
 have d1:w2.cell? ⟨b,1,none⟩=some v:=by rw [Lib.cell_of_heap hb2]; rfl
 have f1:w2.frozen? ⟨b,1,none⟩=false:=Lib.frozen_of_heap hb2 1;have hX:Hid (aT b v (bs++[.int .u8 c]) w (w2.setCell ⟨b,1,none⟩ v')):=vT HS hk1 hb2 (by simpa using hown') (((Keep.alloc (fun k=>v.ownBlock=some k) w1 _)).trans (Ba hgrow) (fun _ _ h=>h)) (fun k hk=>(hblk k hk).imp_right (fun h=>by first | omega | (simp at h; omega)));clear hblk HS;obtain ⟨ao,n',cap,rfl⟩:∃ ao n' cap,v' = .slice ao n' cap:=by
  rcases hown'.2 with ⟨hv,_⟩ | ⟨g,cap,cur,fz,hv,_⟩
  ·exact ⟨_,_,_,hv⟩
  ·exact ⟨_,_,_,hv⟩
 go_wp2
 go_ret
 exact ⟨rfl,hX⟩
def OU (b:Nat) (p v:Value) (n:Nat) (bs:List Value) (w w':World):Prop:=
 w'.heap[b]?=some (.cells #[p,v] 108 (0,0))∧w'.ownsRowF 0 5 1 v n bs∧Keep (fun k=>k=b∨v.ownBlock=some k) w w'
theorem zit {b g cap:Nat} {p:Value} {bs:List Value} {w:World} (hbk:w.heap[b]?=some (.cells #[p,.slice (some ⟨g,0,none⟩) bs.length cap] 108 (0,0))) (hown:w.ownsRowF 0 5 1 (.slice (some ⟨g,0,none⟩) bs.length cap) bs.length bs) (hne:(Value.slice (some ⟨g,0,none⟩) bs.length cap).ownBlock≠some b) :
  OU b p (.slice (some ⟨g,0,none⟩) bs.length cap) bs.length bs w (w.drew.freeze ⟨g,0,none⟩ bs.length):=by
 have hA:Lib.BuilderAtF 108 5 0 b p bs w.drew:=⟨B4 _,_,hbk,hown,hne⟩;have c1:w.drew.cell? ⟨b,1,none⟩=some (.slice (some ⟨g,0,none⟩) bs.length cap):=by
  have:w.drew.heap[b]?=some (.cells #[p,.slice (some ⟨g,0,none⟩) bs.length cap] 108 (0,0)):=hbk
  rw [Lib.cell_of_heap this]; rfl
 obtain ⟨_,v',q1,q2,q3⟩:=hA.froze c1;have hk:Keep (fun k=>k=g) w (w.drew.freeze ⟨g,0,none⟩ bs.length):=(Keep.drew _ w).trans (Keep.freeze (O:=fun k=>k=g) w.drew ⟨g,0,none⟩ _ rfl) (fun _ _ h=>h);have hgb:b≠g:=fun e=>hne (by simp [CD,e])
 have hb2:(w.drew.freeze ⟨g,0,none⟩ bs.length).heap[b]?=some (.cells #[p,.slice (some ⟨g,0,none⟩) bs.length cap] 108 (0,0)):=(hk.block b (fF hbk) hgb).trans hbk;have e:v' = .slice (some ⟨g,0,none⟩) bs.length cap:=by
  rw [hb2] at q1;simp at q1;exact q1.symm
 subst e;exact ⟨hb2,q2,hk.mono (fun k _ h=>.inr (by rw [h]; rfl))⟩
set_option maxHeartbeats 1000000 in
theorem Ue (b g cap:Nat) (p:Value) (l:List UInt8) (w:World) (h0:l≠[]) (hbk:w.heap[b]?=some (.cells #[p,.slice (some ⟨g,0,none⟩) l.length cap] 108 (0,0)))
  (hown:w.ownsRowF 0 5 1 (.slice (some ⟨g,0,none⟩) l.length cap) l.length (Lib.byteCells l)) (hne:(Value.slice (some ⟨g,0,none⟩) l.length cap).ownBlock≠some b) :
  Calls Tryz.prog 56 #[.pointer (some ⟨b,0,none⟩)] w fun e w'=>e = .returned (.string ⟨l.toArray⟩)∧OU b p (.slice (some ⟨g,0,none⟩) l.length cap) l.length (Lib.byteCells l) w w':=by
 have hl0:l.length≠0:=by simpa using h0
 obtain ⟨cur,fz,hg,hnc,hcm,hcs⟩:∃ cur fz,w.heap[g]?=some (.cells cur 5 fz)∧l.length≤cap∧cap≤maxLen∧cur.size=cap*1:=by
  rcases hown.2 with ⟨hv,_⟩ | ⟨g',cap',cur,fz,hv,_,q1,_,q2,q3,q4,_⟩
  ·cases hv
  ·injection hv with ha _ hc
   injection ha with ha
   injection ha with hgg
   subst hgg; subst hc;exact ⟨cur,fz,q1,q2,q3,q4⟩
 have c1:w.drew.cell? ⟨b,1,none⟩=some (.slice (some ⟨g,0,none⟩) l.length cap):=by
  have:w.drew.heap[b]?=some (.cells #[p,.slice (some ⟨g,0,none⟩) l.length cap] 108 (0,0)):=hbk
  rw [Lib.cell_of_heap this]; rfl
 have hSD:(Builtin.unsafeSliceData_ #[69] 165 #[.slice (some ⟨g,0,none⟩) l.length cap]).run Tryz.prog w.drew = .ok (.pointer (some ⟨g,0,none⟩)) w.drew:=
  Lib.run_unsafeSliceData_row _ _ _ _ _ _ (by omega)
 have hcells:PR.cellsOf 5=1:=by kernel_rfl
 have hUS:(Builtin.unsafeString_ #[165,3] 9 #[.pointer (some ⟨g,0,none⟩),.int .i64 l.length]).run Tryz.prog w.drew = .ok (.string ⟨l.toArray⟩) (w.drew.freeze ⟨g,0,none⟩ l.length):=by
  refine Lib.run_unsafeString_row w.drew 165 3 9 5 Tryz.underlying165 hcells g cur.size (by have hg':w.drew.heap[g]?=some (.cells cur 5 fz):=hg; simp [World.shape?,hg']) l h0 (by omega) (by unfold maxLen at hcm; omega) ?_;intro j x hx
  have:=hown.cells (g:=g) rfl j (.int .u8 x.toNat) (by simp [Lib.byteCells,hx])
  exact this
 have hP:Hid (OU b p (.slice (some ⟨g,0,none⟩) l.length cap) l.length (Lib.byteCells l) w (w.drew.freeze ⟨g,0,none⟩ l.length)):=by
  have:=zit (bs:=Lib.byteCells l) (by rw [Lib.byteCells_length]; exact hbk) (by rw [Lib.byteCells_length]; exact hown) (by rw [Lib.byteCells_length]; exact hne)
  rw [Lib.byteCells_length] at this;exact this
 clear hcells hcs hg hnc hcm hl0
 go_enter Tryz.func56,Tryz.ntmps56
 go_wp2
 go_region
 all_goals (go_wp2; go_ret; exact ⟨rfl,hP⟩)
set_option maxHeartbeats 2000000 in
theorem Ub (b:Nat) (p:Value) (w:World) (hbk:w.heap[b]?=some (.cells #[p,.slice none 0 0] 108 (0,0))) :
  Calls Tryz.prog 56 #[.pointer (some ⟨b,0,none⟩)] w fun e w'=>e = .returned (.string ⟨#[]⟩)∧OU b p (.slice none 0 0) 0 [] w w':=by
 have hUS:∀ (W:World) (q:Option Addr),(Builtin.unsafeString_ #[165,3] 9 #[.pointer q,.int .i64 0]).run Tryz.prog W = .ok (.string .empty) W:=fun W q=>Lib.run_unsafeString_none W _ _ _ q
 have c1:w.drew.cell? ⟨b,1,none⟩=some (.slice none 0 0):=by
  have:w.drew.heap[b]?=some (.cells #[p,.slice none 0 0] 108 (0,0)):=hbk
  rw [Lib.cell_of_heap this]; rfl
 have hSD:(Builtin.unsafeSliceData_ #[69] 165 #[.slice none 0 0]).run Tryz.prog w.drew = .ok (.pointer none) w.drew:=rfl;have hP:Hid (OU b p (.slice none 0 0) 0 [] w w.drew):=⟨hbk,⟨rfl,.inl ⟨rfl,rfl⟩⟩,Keep.drew _ w⟩
 go_enter Tryz.func56,Tryz.ntmps56
 go_wp2
 go_region
 all_goals (go_wp2; go_ret; exact ⟨rfl,hP⟩)
set_option maxHeartbeats 2000000 in
theorem Uc (b g:Nat) (p:Value) (cur:Array Value) (fz:Nat × Nat) (w:World) (hbk:w.heap[b]?=some (.cells #[p,.slice (some ⟨g,0,none⟩) 0 0] 108 (0,0))) (hg:w.heap[g]?=some (.cells cur 5 fz)) (hown:w.ownsRowF 0 5 1 (.slice (some ⟨g,0,none⟩) 0 0) 0 []) :
  Calls Tryz.prog 56 #[.pointer (some ⟨b,0,none⟩)] w fun e w'=>e = .returned (.string ⟨#[]⟩)∧OU b p (.slice (some ⟨g,0,none⟩) 0 0) 0 [] w w':=by
 have hUS:∀ (W:World) (q:Option Addr),(Builtin.unsafeString_ #[165,3] 9 #[.pointer q,.int .i64 0]).run Tryz.prog W = .ok (.string .empty) W:=fun W q=>Lib.run_unsafeString_none W _ _ _ q
 have hlt:b < w.heap.size:=fF hbk;have c1:w.drew.cell? ⟨b,1,none⟩=some (.slice (some ⟨g,0,none⟩) 0 0):=by
  have:w.drew.heap[b]?=some (.cells #[p,.slice (some ⟨g,0,none⟩) 0 0] 108 (0,0)):=hbk
  rw [Lib.cell_of_heap this]; rfl
 have hSD:(Builtin.unsafeSliceData_ #[69] 165 #[.slice (some ⟨g,0,none⟩) 0 0]).run Tryz.prog w.drew = .ok (.pointer (some ⟨w.drew.heap.size,0,none⟩)) (w.drew.alloc (.view ⟨g,0,none⟩ 5)):=
  Lib.run_unsafeSliceData_zero w.drew _ _ 5 Tryz.underlying165 ⟨g,0,none⟩ 0 (5,cur.size) (by have hg':w.drew.heap[g]?=some (.cells cur 5 fz):=hg; simp [World.shape?,hg'])
 have c2:(w.drew.alloc (.view ⟨g,0,none⟩ 5)).cell? ⟨b,1,none⟩=some (.slice (some ⟨g,0,none⟩) 0 0):=by
  have:(w.drew.alloc (.view ⟨g,0,none⟩ 5)).heap[b]?=_:=(Lib.alloc_old w.drew _ b hlt).trans hbk
  rw [Lib.cell_of_heap this]; rfl
 have c3:(w.alloc (.view ⟨g,0,none⟩ 5)).drew.cell? ⟨b,1,none⟩=some (.slice (some ⟨g,0,none⟩) 0 0):=c2;have c0:w.cell? ⟨b,1,none⟩=some (.slice (some ⟨g,0,none⟩) 0 0):=c1;have hP:∀ W:World,W.heap=(w.drew.alloc (.view ⟨g,0,none⟩ 5)).heap→W.os=w.os→W.tape=w.tape→W.output=w.output→OU b p (.slice (some ⟨g,0,none⟩) 0 0) 0 [] w W:=by
  intro W h1 h2 h3 h4;have hk:Keep (fun k=>k=b∨(Value.slice (some ⟨g,0,none⟩) 0 0).ownBlock=some k) w W:=by
   have:=Keep.alloc (fun _=>False) w.drew (.view ⟨g,0,none⟩ 5)
   exact ⟨h2,h3,h4,by rw [h1]; exact this.size,fun k hk _=>by rw [h1]; exact this.block k hk (fun h=>h)⟩
  have hblk:∀ k,k < w.heap.size→W.heap[k]?=w.heap[k]?:=fun k hk=>by
   rw [h1]; exact (Keep.alloc (fun _=>False) w.drew (.view ⟨g,0,none⟩ 5)).block k hk (fun h=>h)
  exact ⟨(hblk b hlt).trans hbk,ZV hown (fun k hk=>hblk k (qO hown hk)),hk⟩
 have hP:Hid (∀ W:World,W.heap=(w.drew.alloc (.view ⟨g,0,none⟩ 5)).heap→W.os=w.os→W.tape=w.tape→W.output=w.output→OU b p (.slice (some ⟨g,0,none⟩) 0 0) 0 [] w W):=hP
 go_enter Tryz.func56,Tryz.ntmps56
 go_wp2
 go_region
 all_goals (go_wp2; go_ret; exact ⟨rfl,hP _ rfl rfl rfl rfl⟩)
set_option maxHeartbeats 2000000 in
theorem Ud (b g cap:Nat) (p:Value) (w:World) (hc0:cap≠0) (hbk:w.heap[b]?=some (.cells #[p,.slice (some ⟨g,0,none⟩) 0 cap] 108 (0,0))) (hown:w.ownsRowF 0 5 1 (.slice (some ⟨g,0,none⟩) 0 cap) 0 []) :
  Calls Tryz.prog 56 #[.pointer (some ⟨b,0,none⟩)] w fun e w'=>e = .returned (.string ⟨#[]⟩)∧OU b p (.slice (some ⟨g,0,none⟩) 0 cap) 0 [] w w':=by
 have hUS:∀ (W:World) (q:Option Addr),(Builtin.unsafeString_ #[165,3] 9 #[.pointer q,.int .i64 0]).run Tryz.prog W = .ok (.string .empty) W:=fun W q=>Lib.run_unsafeString_none W _ _ _ q
 have c1:w.drew.cell? ⟨b,1,none⟩=some (.slice (some ⟨g,0,none⟩) 0 cap):=by
  have:w.drew.heap[b]?=some (.cells #[p,.slice (some ⟨g,0,none⟩) 0 cap] 108 (0,0)):=hbk
  rw [Lib.cell_of_heap this]; rfl
 have hSD:(Builtin.unsafeSliceData_ #[69] 165 #[.slice (some ⟨g,0,none⟩) 0 cap]).run Tryz.prog w.drew = .ok (.pointer (some ⟨g,0,none⟩)) w.drew:=
  Lib.run_unsafeSliceData_row _ _ _ _ _ _ hc0
 clear hc0;have hP:Hid (OU b p (.slice (some ⟨g,0,none⟩) 0 cap) 0 [] w w.drew):=⟨hbk,hown,Keep.drew _ w⟩
 go_enter Tryz.func56,Tryz.ntmps56
 go_wp2
 go_region
 all_goals (go_wp2; go_ret; exact ⟨rfl,hP⟩)
theorem zis (s:BA):DB s=vbE s.data.toList:=by
 simp [DB,vbE]
theorem Ua (b:Nat) (p v:Value) (s:BA) (w:World) (hbk:w.heap[b]?=some (.cells #[p,v] 108 (0,0))) (hown:w.ownsRowF 0 5 1 v s.size (DB s)) (hne:v.ownBlock≠some b) :
  Calls Tryz.prog 56 #[.pointer (some ⟨b,0,none⟩)] w fun e w'=>e = .returned (.string s)∧OU b p v s.size (DB s) w w':=by
 obtain ⟨⟨l⟩⟩:=s;rw [zis] at hown ⊢
 change w.ownsRowF 0 5 1 v l.length (vbE l) at hown
 change Calls Tryz.prog 56 #[.pointer (some ⟨b,0,none⟩)] w fun e w'=>e = .returned (.string ⟨l.toArray⟩)∧OU b p v l.length (vbE l) w w'
 by_cases h0:l=[]
 ·subst h0;rcases hown.2 with ⟨rfl,_⟩ | ⟨g,cap,cur,fz,rfl,_,hg,_⟩
  ·exact Ub b p w hbk
  ·by_cases hc:cap=0
   ·subst hc;exact Uc b g p cur fz w hbk hg hown
   ·exact Ud b g cap p w hc hbk hown
 ·rcases hown.2 with ⟨rfl,hz⟩ | ⟨g,cap,cur,fz,rfl,_⟩
  ·exact absurd (vaK hz) h0
  ·exact Ue b g cap p l w h0 hbk hown hne
end Go.FM
namespace Go.Proofs
open Go.Shelf
def Tryz.lays156_ren:Go.Shelf.Ren:=⟨fun | 156=>45 | 165=>87 | 166=>60 | 169=>56 | 240=>103 | 241=>137 | 276=>153 | 277=>179 | n=>n,fun | 31=>66 | 9=>9 | 3=>3 | 4=>4 | 0=>0 | 20=>20 | 72=>108 | 76=>121 | 70=>106 | 37=>69 | 75=>120 | 127=>165 | 164=>211 | 5=>5 | 80=>114 | n=>n,fun | n=>n⟩
theorem Tryz.lays156:Go.Proofs.Lays.n156 Tryz.prog Tryz.lays156_ren:= by constructor <;> first | kernel_rfl | (intro _; kernel_rfl)
theorem Tryz.Builder_Extra_156:Builder.Extra Tryz.prog Tryz.lays156_ren:={
 sizeBuilder:=by kernel_rfl
 liesBuilder:=by kernel_rfl
 t5:=Tryz.underlying5
 a5:=Tryz.isAgg5
 z5:=Tryz.sizeOf5
 v5:=Tryz.zeroValue5
 infoByte:=by kernel_rfl
 cellsByte:=by kernel_rfl
 sizeByte:=by kernel_rfl
 neB5:=by decide }
open Go.RowKit in
theorem Tryz.strings_Join_none (a:Option Addr) (c:Nat) (sep:BA) (w:World) :
 Calls Tryz.prog 45 #[.slice a 0 c,.string sep] w fun e w'=>e = .returned (.string ⟨#[]⟩)∧w'=w:=Any.strings_Join_none Tryz.lays156 Tryz.Builder_Extra_156 a c sep w
open Go.RowKit in
theorem Tryz.strings_Join (bk o c:Nat) (xs:List BA) (sep:BA) (w:World) (hcells:∀ (j:Nat) x,xs[j]?=some x→w.cell? ⟨bk,o+j,none⟩=some (.string x)) (hbk:bk < w.heap.size) (hN:xs.length≤140737488355328) (hcap:xs.length≤c) (hlen:(Lib.join (xs.map (·.data.toList)) sep.data.toList).length≤140737488355328) :
 Calls Tryz.prog 45 #[.slice (some ⟨bk,o,none⟩) xs.length c,.string sep] w fun e w'=>e = .returned (.string ⟨(Lib.join (xs.map (·.data.toList)) sep.data.toList).toArray⟩)∧Below w.heap.size w w':=Any.strings_Join Tryz.lays156 Tryz.Builder_Extra_156 bk o c xs sep w hcells hbk hN hcap hlen
def Tryz.lays162_ren:Go.Shelf.Ren:=⟨fun | 162=>85 | 232=>130 | 227=>131 | 234=>132 | 236=>133 | 228=>174 | 271=>175 | 151=>176 | 120=>208 | 197=>181 | 152=>209 | 260=>210 | 137=>102 | 119=>223 | 224=>212 | 225=>211 | 217=>152 | 266=>191 | n=>n,fun | 9=>9 | 4=>4 | 3=>3 | 5=>5 | 117=>195 | 116=>194 | 0=>0 | 124=>198 | 21=>21 | 105=>231 | 46=>152 | 119=>279 | 139=>282 | 138=>281 | n=>n,fun | 3=>4 | 4=>5 | n=>n⟩
theorem Tryz.lays162:Go.Proofs.Lays.n162 Tryz.prog Tryz.lays162_ren:={
 mixed:=by kernel_rfl
 f119:=Tryz.func223.trans (congrArg some (by kernel_rfl))
 f120:=Tryz.func208.trans (congrArg some (by kernel_rfl))
 f137:=Tryz.func102.trans (congrArg some (by kernel_rfl))
 f151:=Tryz.func176.trans (congrArg some (by kernel_rfl))
 f152:=Tryz.func209.trans (congrArg some (by kernel_rfl))
 f162:=Tryz.func85.trans (congrArg some (by kernel_rfl))
 f197:=Tryz.func181.trans (congrArg some (by kernel_rfl))
 f217:=Tryz.func152.trans (congrArg some (by kernel_rfl))
 f224:=Tryz.func212.trans (congrArg some (by kernel_rfl))
 f225:=Tryz.func211.trans (congrArg some (by kernel_rfl))
 f227:=Tryz.func131.trans (congrArg some (by kernel_rfl))
 f228:=Tryz.func174.trans (congrArg some (by kernel_rfl))
 f232:=Tryz.func130.trans (congrArg some (by kernel_rfl))
 f234:=Tryz.func132.trans (congrArg some (by kernel_rfl))
 f236:=Tryz.func133.trans (congrArg some (by kernel_rfl))
 f260:=Tryz.func210.trans (congrArg some (by kernel_rfl))
 f266:=Tryz.func191.trans (congrArg some (by kernel_rfl))
 f271:=Tryz.func175.trans (congrArg some (by kernel_rfl))
 t0:=Tryz.underlying0
 a0:=Tryz.isAgg0
 z0:=Tryz.sizeOf0
 v0:=Tryz.zeroValue0
 t3:=Tryz.underlying3
 a3:=Tryz.isAgg3
 z3:=Tryz.sizeOf3
 v3:=Tryz.zeroValue3
 t4:=Tryz.underlying4
 a4:=Tryz.isAgg4
 z4:=Tryz.sizeOf4
 v4:=Tryz.zeroValue4
 t5:=Tryz.underlying5
 a5:=Tryz.isAgg5
 z5:=Tryz.sizeOf5
 v5:=Tryz.zeroValue5
 t9:=Tryz.underlying9
 a9:=Tryz.isAgg9
 z9:=Tryz.sizeOf9
 v9:=Tryz.zeroValue9
 t21:=Tryz.underlying21
 a21:=Tryz.isAgg21
 z21:=Tryz.sizeOf21
 v21:=Tryz.zeroValue21
 t46:=Tryz.underlying152
 a46:=Tryz.isAgg152
 z46:=Tryz.sizeOf152
 v46:=Tryz.zeroValue152
 t105:=Tryz.underlying231
 a105:=Tryz.isAgg231
 z105:=Tryz.sizeOf231
 v105:=Tryz.zeroValue231
 t116:=Tryz.underlying194
 a116:=Tryz.isAgg194
 z116:=Tryz.sizeOf194
 t117:=Tryz.underlying195
 a117:=Tryz.isAgg195
 z117:=Tryz.sizeOf195
 v117:=Tryz.zeroValue195
 t119:=Tryz.underlying279
 a119:=Tryz.isAgg279
 z119:=Tryz.sizeOf279
 t124:=Tryz.underlying198
 a124:=Tryz.isAgg198
 z124:=Tryz.sizeOf198
 v124:=Tryz.zeroValue198
 t138:=Tryz.underlying281
 a138:=Tryz.isAgg281
 z138:=Tryz.sizeOf281
 v138:=Tryz.zeroValue281
 t139:=Tryz.underlying282
 a139:=Tryz.isAgg282
 z139:=Tryz.sizeOf282
 v139:=Tryz.zeroValue282
 g3:=by kernel_rfl
 g4:=by kernel_rfl }
open Go.RowKit in
theorem Tryz.strings_TrimRight_one (s:BA) (c:UInt8) (hc:c.toNat < 128) (w:World) (hs:s.size≤9223372036854775807) :
 Calls Tryz.prog 85 #[.string s,.string ⟨#[c]⟩] w fun e w'=>e = .returned (.string ⟨(Lib.trimRightB s.data.toList c).toArray⟩)∧w'=w:=Any.strings_TrimRight_one Tryz.lays162 s c hc w hs
def Tryz.lays137_ren:Go.Shelf.Ren:=⟨fun | 137=>102 | 217=>152 | 266=>191 | n=>n,fun | 9=>9 | 5=>5 | 3=>3 | n=>n,fun | n=>n⟩
theorem Tryz.lays137:Go.Proofs.Lays.n137 Tryz.prog Tryz.lays137_ren:= by constructor <;> first | kernel_rfl | (intro _; kernel_rfl)
open Go.RowKit in
theorem Tryz.strings_IndexByte (s:BA) (c:Int) (w:World) :
 Calls Tryz.prog 102 #[.string s,.int .u8 c] w fun e w'=>e = .returned (.int .i64 (Lib.indexByte s.data.toList c.toNat.toUInt8))∧w'=w:=Any.strings_IndexByte Tryz.lays137 s c w
def Tryz.lays103_ren:Go.Shelf.Ren:=⟨fun | 103=>57 | 210=>101 | 206=>151 | n=>n,fun | 9=>9 | 4=>4 | 24=>115 | 3=>3 | n=>n,fun | n=>n⟩
theorem Tryz.lays103:Go.Proofs.Lays.n103 Tryz.prog Tryz.lays103_ren:= by constructor <;> first | kernel_rfl | (intro _; kernel_rfl)
open Go.RowKit in
theorem Tryz.strings_CutPrefix (s p:BA) (w:World) :
 Calls Tryz.prog 57 #[.string s,.string p] w fun e w'=>e = .returned (.tuple #[.string ⟨(Lib.trimPrefix s.data.toList p.data.toList).toArray⟩,.bool (Lib.hasPrefix s.data.toList p.data.toList)])∧w'=w:=Any.strings_CutPrefix Tryz.lays103 s p w
def Tryz.lays283_ren:Go.Shelf.Ren:=⟨fun | 283=>170 | n=>n,fun | 3=>3 | 9=>9 | 4=>4 | n=>n,fun | n=>n⟩
theorem Tryz.lays283:Go.Proofs.Lays.n283 Tryz.prog Tryz.lays283_ren:= by constructor <;> first | kernel_rfl | (intro _; kernel_rfl)
open Go.Lib in
theorem Tryz.internal_strconv_small (i:Nat) (h:i < 100) (w:World) :
 Calls Tryz.prog 170 #[.int .i64 i] w fun e w'=>e = .returned (.string ⟨(Lib.decDigits i).toArray⟩)∧w'=w:=Any.internal_strconv_small Tryz.lays283 i h w
def Tryz.laysM284_ren:Go.Shelf.Ren:=⟨fun | 284=>171 | 129=>204 | 317=>203 | 318=>205 | n=>n,fun | 53=>103 | 3=>3 | 212=>262 | 0=>0 | 4=>4 | 46=>152 | 5=>5 | 9=>9 | n=>n,fun | 17=>0 | n=>n⟩
theorem Tryz.laysM284:Go.Proofs.LaysM.n284 Tryz.prog Tryz.laysM284_ren:={
 mixed:=by kernel_rfl
 f129:=Tryz.func204.trans (congrArg some (by kernel_rfl))
 f284:=Tryz.func171.trans (congrArg some (by kernel_rfl))
 f317:=Tryz.func203.trans (congrArg some (by kernel_rfl))
 f318:=Tryz.func205.trans (congrArg some (by kernel_rfl))
 t0:=Tryz.underlying0
 a0:=Tryz.isAgg0
 z0:=Tryz.sizeOf0
 v0:=Tryz.zeroValue0
 t3:=Tryz.underlying3
 a3:=Tryz.isAgg3
 z3:=Tryz.sizeOf3
 v3:=Tryz.zeroValue3
 t4:=Tryz.underlying4
 a4:=Tryz.isAgg4
 z4:=Tryz.sizeOf4
 v4:=Tryz.zeroValue4
 t5:=Tryz.underlying5
 a5:=Tryz.isAgg5
 z5:=Tryz.sizeOf5
 v5:=Tryz.zeroValue5
 t9:=Tryz.underlying9
 a9:=Tryz.isAgg9
 z9:=Tryz.sizeOf9
 v9:=Tryz.zeroValue9
 t46:=Tryz.underlying152
 a46:=Tryz.isAgg152
 z46:=Tryz.sizeOf152
 v46:=Tryz.zeroValue152
 t53:=Tryz.underlying103
 a53:=Tryz.isAgg103
 z53:=Tryz.sizeOf103
 v53:=Tryz.zeroValue103
 t212:=Tryz.underlying262
 a212:=Tryz.isAgg262
 z212:=Tryz.sizeOf262
 v212:=Tryz.zeroValue262
 g17:=by kernel_rfl
 i0:=by kernel_rfl
 i3:=by kernel_rfl
 i4:=by kernel_rfl
 i5:=by kernel_rfl
 i9:=by kernel_rfl
 i46:=by kernel_rfl
 i53:=by kernel_rfl
 i212:=by kernel_rfl
 m17:=by kernel_rfl }
open Go.Lib in
theorem Tryz.internal_strconv_numDigits (u:Nat) (h1:1≤u) (h2:u < 18446744073709551616) (w:World) (htab:Lib.TabIs Tryz.prog w "internal/strconv.uint64pow10" .u64 Lib.pow10Tab) :
 Calls Tryz.prog 171 #[.int .u64 u] w fun e w'=>e = .returned (.int .i64 (Lib.nDigits u))∧w'=w:=Any.internal_strconv_numDigits Tryz.laysM284 u h1 h2 w htab
def Tryz.lays285_ren:Go.Shelf.Ren:=⟨fun | 285=>172 | n=>n,fun | 37=>69 | 53=>103 | 3=>3 | 4=>4 | 51=>234 | 9=>9 | 5=>5 | 0=>0 | n=>n,fun | n=>n⟩
theorem Tryz.lays285:Go.Proofs.Lays.n285 Tryz.prog Tryz.lays285_ren:= by constructor <;> first | kernel_rfl | (intro _; kernel_rfl)
open Go.RowKit Go.Sort Go.Lib in
theorem Tryz.internal_strconv_formatBase10 (blk off cap:Nat) (u:Nat) (d:Array UInt8) (w:World) (hH:Holds (fun (b:UInt8)=>Value.int .u8 (b.toNat:Int)) w blk off d) (hu:u < 10 ^ d.size) (hu64:u < 18446744073709551616) (hsz:d.size < 4611686018427387904) :
 Calls Tryz.prog 172 #[.slice (some ⟨blk,off,none⟩) d.size cap,.int .u64 u] w fun e w'=>
  e = .returned (.tuple #[])∧∃ (n v':Nat) (dk:Array UInt8),w'=(putRow (fun (b:UInt8)=>Value.int .u8 (b.toNat:Int)) w blk off dk).drewN n∧FmtInv d.size u 0 v' dk:=Any.internal_strconv_formatBase10 Tryz.lays285 blk off cap u d w hH hu hu64 hsz
def Tryz.laysM171_ren:Go.Shelf.Ren:=⟨fun | 171=>43 | 243=>82 | 246=>128 | 283=>170 | 284=>171 | 285=>172 | 286=>173 | 129=>204 | 317=>203 | 318=>205 | 319=>206 | 320=>207 | 337=>221 | 338=>222 | n=>n,fun | 3=>3 | 9=>9 | 2=>2 | 4=>4 | 171=>225 | 0=>0 | 53=>103 | 37=>69 | 5=>5 | 173=>228 | 212=>262 | 51=>234 | 20=>20 | 213=>263 | 46=>152 | 232=>296 | 233=>297 | n=>n,fun | 17=>0 | 18=>6 | 19=>7 | n=>n⟩
theorem Tryz.laysM171:Go.Proofs.LaysM.n171 Tryz.prog Tryz.laysM171_ren:={
 mixed:=by kernel_rfl
 f129:=Tryz.func204.trans (congrArg some (by kernel_rfl))
 f171:=Tryz.func43.trans (congrArg some (by kernel_rfl))
 f243:=Tryz.func82.trans (congrArg some (by kernel_rfl))
 f246:=Tryz.func128.trans (congrArg some (by kernel_rfl))
 f283:=Tryz.func170.trans (congrArg some (by kernel_rfl))
 f284:=Tryz.func171.trans (congrArg some (by kernel_rfl))
 f285:=Tryz.func172.trans (congrArg some (by kernel_rfl))
 f286:=Tryz.func173.trans (congrArg some (by kernel_rfl))
 f317:=Tryz.func203.trans (congrArg some (by kernel_rfl))
 f318:=Tryz.func205.trans (congrArg some (by kernel_rfl))
 f319:=Tryz.func206.trans (congrArg some (by kernel_rfl))
 f320:=Tryz.func207.trans (congrArg some (by kernel_rfl))
 f337:=Tryz.func221.trans (congrArg some (by kernel_rfl))
 f338:=Tryz.func222.trans (congrArg some (by kernel_rfl))
 t0:=Tryz.underlying0
 a0:=Tryz.isAgg0
 z0:=Tryz.sizeOf0
 v0:=Tryz.zeroValue0
 t2:=Tryz.underlying2
 a2:=Tryz.isAgg2
 z2:=Tryz.sizeOf2
 v2:=Tryz.zeroValue2
 t3:=Tryz.underlying3
 a3:=Tryz.isAgg3
 z3:=Tryz.sizeOf3
 v3:=Tryz.zeroValue3
 t4:=Tryz.underlying4
 a4:=Tryz.isAgg4
 z4:=Tryz.sizeOf4
 v4:=Tryz.zeroValue4
 t5:=Tryz.underlying5
 a5:=Tryz.isAgg5
 z5:=Tryz.sizeOf5
 v5:=Tryz.zeroValue5
 t9:=Tryz.underlying9
 a9:=Tryz.isAgg9
 z9:=Tryz.sizeOf9
 v9:=Tryz.zeroValue9
 t20:=Tryz.underlying20
 a20:=Tryz.isAgg20
 z20:=Tryz.sizeOf20
 v20:=Tryz.zeroValue20
 t37:=Tryz.underlying69
 a37:=Tryz.isAgg69
 z37:=Tryz.sizeOf69
 v37:=Tryz.zeroValue69
 t46:=Tryz.underlying152
 a46:=Tryz.isAgg152
 z46:=Tryz.sizeOf152
 v46:=Tryz.zeroValue152
 t51:=Tryz.underlying234
 a51:=Tryz.isAgg234
 z51:=Tryz.sizeOf234
 v51:=Tryz.zeroValue234
 t53:=Tryz.underlying103
 a53:=Tryz.isAgg103
 z53:=Tryz.sizeOf103
 v53:=Tryz.zeroValue103
 t171:=Tryz.underlying225
 a171:=Tryz.isAgg225
 z171:=Tryz.sizeOf225
 v171:=Tryz.zeroValue225
 t173:=Tryz.underlying228
 a173:=Tryz.isAgg228
 z173:=Tryz.sizeOf228
 v173:=Tryz.zeroValue228
 t212:=Tryz.underlying262
 a212:=Tryz.isAgg262
 z212:=Tryz.sizeOf262
 v212:=Tryz.zeroValue262
 t213:=Tryz.underlying263
 a213:=Tryz.isAgg263
 z213:=Tryz.sizeOf263
 t232:=Tryz.underlying296
 a232:=Tryz.isAgg296
 z232:=Tryz.sizeOf296
 v232:=Tryz.zeroValue296
 t233:=Tryz.underlying297
 a233:=Tryz.isAgg297
 z233:=Tryz.sizeOf297
 v233:=Tryz.zeroValue297
 g17:=by kernel_rfl
 g18:=by kernel_rfl
 g19:=by kernel_rfl
 i0:=by kernel_rfl
 i2:=by kernel_rfl
 i3:=by kernel_rfl
 i4:=by kernel_rfl
 i5:=by kernel_rfl
 i9:=by kernel_rfl
 i20:=by kernel_rfl
 i37:=by kernel_rfl
 i46:=by kernel_rfl
 i51:=by kernel_rfl
 i53:=by kernel_rfl
 i171:=by kernel_rfl
 i173:=by kernel_rfl
 i212:=by kernel_rfl
 i232:=by kernel_rfl
 i233:=by kernel_rfl
 m17:=by kernel_rfl
 m18:=by kernel_rfl
 m19:=by kernel_rfl }
open Go.RowKit Go.Sort Go.Lib in
theorem Tryz.strconv_Itoa (n:Int) (h0 : -9223372036854775808≤n) (h1:n≤9223372036854775807) (w:World) (htab:Lib.TabIs Tryz.prog w "internal/strconv.uint64pow10" .u64 Lib.pow10Tab) :
 Calls Tryz.prog 43 #[.int .i64 n] w fun e w'=>e = .returned (.string ⟨(Lib.itoa n).toArray⟩)∧∃ k os,w'=grow (w.drewN k) os:=Any.strconv_Itoa Tryz.laysM171 n h0 h1 w htab
def Tryz.laysC172_ren:Go.Shelf.Ren:=⟨fun | 172=>90 | 244=>142 | 245=>143 | 247=>184 | 279=>185 | 280=>186 | 281=>187 | 282=>188 | 287=>214 | 316=>215 | 171=>43 | 205=>216 | 321=>225 | 322=>226 | 243=>82 | 246=>128 | 283=>170 | 284=>171 | 285=>172 | 286=>173 | 129=>204 | 317=>203 | 318=>205 | 319=>206 | 320=>207 | 337=>221 | 338=>222 | n=>n,fun | 9=>9 | 3=>3 | 75=>120 | 76=>121 | 4=>4 | 5=>5 | 167=>240 | 37=>69 | 0=>0 | 85=>241 | 2=>2 | 168=>243 | 53=>103 | 175=>246 | 46=>152 | 210=>268 | 127=>165 | 145=>288 | 143=>286 | 21=>21 | 171=>225 | 173=>228 | 212=>262 | 51=>234 | 20=>20 | 213=>263 | 232=>296 | 233=>297 | 80=>114 | n=>n,fun | 15=>2 | 16=>3 | 17=>0 | 18=>6 | 19=>7 | n=>n⟩
theorem Tryz.laysC172:Go.Proofs.LaysC.n172 Tryz.prog Tryz.laysC172_ren:={
 mixed:=by kernel_rfl
 f129:=Tryz.func204.trans (congrArg some (by kernel_rfl))
 f171:=Tryz.func43.trans (congrArg some (by kernel_rfl))
 f172:=Tryz.func90.trans (congrArg some (by kernel_rfl))
 f205:=Tryz.func216.trans (congrArg some (by kernel_rfl))
 f243:=Tryz.func82.trans (congrArg some (by kernel_rfl))
 f244:=Tryz.func142.trans (congrArg some (by kernel_rfl))
 f245:=Tryz.func143.trans (congrArg some (by kernel_rfl))
 f246:=Tryz.func128.trans (congrArg some (by kernel_rfl))
 f247:=Tryz.func184.trans (congrArg some (by kernel_rfl))
 f279:=Tryz.func185.trans (congrArg some (by kernel_rfl))
 f280:=Tryz.func186.trans (congrArg some (by kernel_rfl))
 f281:=Tryz.func187.trans (congrArg some (by kernel_rfl))
 f282:=Tryz.func188.trans (congrArg some (by kernel_rfl))
 f283:=Tryz.func170.trans (congrArg some (by kernel_rfl))
 f284:=Tryz.func171.trans (congrArg some (by kernel_rfl))
 f285:=Tryz.func172.trans (congrArg some (by kernel_rfl))
 f286:=Tryz.func173.trans (congrArg some (by kernel_rfl))
 f287:=Tryz.func214.trans (congrArg some (by kernel_rfl))
 f316:=Tryz.func215.trans (congrArg some (by kernel_rfl))
 f317:=Tryz.func203.trans (congrArg some (by kernel_rfl))
 f318:=Tryz.func205.trans (congrArg some (by kernel_rfl))
 f319:=Tryz.func206.trans (congrArg some (by kernel_rfl))
 f320:=Tryz.func207.trans (congrArg some (by kernel_rfl))
 f321:=Tryz.func225.trans (congrArg some (by kernel_rfl))
 f322:=Tryz.func226.trans (congrArg some (by kernel_rfl))
 f337:=Tryz.func221.trans (congrArg some (by kernel_rfl))
 f338:=Tryz.func222.trans (congrArg some (by kernel_rfl))
 t0:=Tryz.underlying0
 a0:=Tryz.isAgg0
 z0:=Tryz.sizeOf0
 v0:=Tryz.zeroValue0
 t2:=Tryz.underlying2
 a2:=Tryz.isAgg2
 z2:=Tryz.sizeOf2
 v2:=Tryz.zeroValue2
 t3:=Tryz.underlying3
 a3:=Tryz.isAgg3
 z3:=Tryz.sizeOf3
 v3:=Tryz.zeroValue3
 t4:=Tryz.underlying4
 a4:=Tryz.isAgg4
 z4:=Tryz.sizeOf4
 v4:=Tryz.zeroValue4
 t5:=Tryz.underlying5
 a5:=Tryz.isAgg5
 z5:=Tryz.sizeOf5
 v5:=Tryz.zeroValue5
 t9:=Tryz.underlying9
 a9:=Tryz.isAgg9
 z9:=Tryz.sizeOf9
 v9:=Tryz.zeroValue9
 t20:=Tryz.underlying20
 a20:=Tryz.isAgg20
 z20:=Tryz.sizeOf20
 v20:=Tryz.zeroValue20
 t21:=Tryz.underlying21
 a21:=Tryz.isAgg21
 z21:=Tryz.sizeOf21
 v21:=Tryz.zeroValue21
 t37:=Tryz.underlying69
 a37:=Tryz.isAgg69
 z37:=Tryz.sizeOf69
 v37:=Tryz.zeroValue69
 t46:=Tryz.underlying152
 a46:=Tryz.isAgg152
 z46:=Tryz.sizeOf152
 v46:=Tryz.zeroValue152
 t51:=Tryz.underlying234
 a51:=Tryz.isAgg234
 z51:=Tryz.sizeOf234
 v51:=Tryz.zeroValue234
 t53:=Tryz.underlying103
 a53:=Tryz.isAgg103
 z53:=Tryz.sizeOf103
 v53:=Tryz.zeroValue103
 t75:=Tryz.underlying120
 a75:=Tryz.isAgg120
 z75:=Tryz.sizeOf120
 v75:=Tryz.zeroValue120
 t76:=Tryz.underlying121
 a76:=Tryz.isAgg121
 z76:=Tryz.sizeOf121
 v76:=Tryz.zeroValue121
 t85:=Tryz.underlying241
 a85:=Tryz.isAgg241
 z85:=Tryz.sizeOf241
 v85:=Tryz.zeroValue241
 t127:=Tryz.underlying165
 a127:=Tryz.isAgg165
 z127:=Tryz.sizeOf165
 v127:=Tryz.zeroValue165
 t143:=Tryz.underlying286
 a143:=Tryz.isAgg286
 z143:=Tryz.sizeOf286
 v143:=Tryz.zeroValue286
 t145:=Tryz.underlying288
 a145:=Tryz.isAgg288
 z145:=Tryz.sizeOf288
 v145:=Tryz.zeroValue288
 t167:=Tryz.underlying240
 a167:=Tryz.isAgg240
 z167:=Tryz.sizeOf240
 v167:=Tryz.zeroValue240
 t168:=Tryz.underlying243
 a168:=Tryz.isAgg243
 z168:=Tryz.sizeOf243
 v168:=Tryz.zeroValue243
 t171:=Tryz.underlying225
 a171:=Tryz.isAgg225
 z171:=Tryz.sizeOf225
 v171:=Tryz.zeroValue225
 t173:=Tryz.underlying228
 a173:=Tryz.isAgg228
 z173:=Tryz.sizeOf228
 v173:=Tryz.zeroValue228
 t175:=Tryz.underlying246
 a175:=Tryz.isAgg246
 z175:=Tryz.sizeOf246
 v175:=Tryz.zeroValue246
 t210:=Tryz.underlying268
 a210:=Tryz.isAgg268
 z210:=Tryz.sizeOf268
 v210:=Tryz.zeroValue268
 t212:=Tryz.underlying262
 a212:=Tryz.isAgg262
 z212:=Tryz.sizeOf262
 v212:=Tryz.zeroValue262
 t213:=Tryz.underlying263
 a213:=Tryz.isAgg263
 z213:=Tryz.sizeOf263
 t232:=Tryz.underlying296
 a232:=Tryz.isAgg296
 z232:=Tryz.sizeOf296
 v232:=Tryz.zeroValue296
 t233:=Tryz.underlying297
 a233:=Tryz.isAgg297
 z233:=Tryz.sizeOf297
 v233:=Tryz.zeroValue297
 g15:=by kernel_rfl
 g16:=by kernel_rfl
 g17:=by kernel_rfl
 g18:=by kernel_rfl
 g19:=by kernel_rfl
 t80:=Tryz.underlying114
 a80:=Tryz.isAgg114
 z80:=Tryz.sizeOf114
 v80:=Tryz.zeroValue114
 i0:=by kernel_rfl
 i2:=by kernel_rfl
 i3:=by kernel_rfl
 i4:=by kernel_rfl
 i5:=by kernel_rfl
 i9:=by kernel_rfl
 i20:=by kernel_rfl
 i21:=by kernel_rfl
 i37:=by kernel_rfl
 i46:=by kernel_rfl
 i51:=by kernel_rfl
 i53:=by kernel_rfl
 i75:=by kernel_rfl
 i76:=by kernel_rfl
 i80:=by kernel_rfl
 i85:=by kernel_rfl
 i127:=by kernel_rfl
 i143:=by kernel_rfl
 i145:=by kernel_rfl
 i167:=by kernel_rfl
 i168:=by kernel_rfl
 i171:=by kernel_rfl
 i173:=by kernel_rfl
 i175:=by kernel_rfl
 i210:=by kernel_rfl
 i212:=by kernel_rfl
 i232:=by kernel_rfl
 i233:=by kernel_rfl
 m15:=by kernel_rfl
 m16:=by kernel_rfl
 m17:=by kernel_rfl
 m18:=by kernel_rfl
 m19:=by kernel_rfl
 c0:=by kernel_rfl
 c2:=by kernel_rfl
 c3:=by kernel_rfl
 c4:=by kernel_rfl
 c5:=by kernel_rfl
 c9:=by kernel_rfl
 c20:=by kernel_rfl
 c21:=by kernel_rfl
 c37:=by kernel_rfl
 c46:=by kernel_rfl
 c51:=by kernel_rfl
 c53:=by kernel_rfl
 c75:=by kernel_rfl
 c76:=by kernel_rfl
 c80:=by kernel_rfl
 c85:=by kernel_rfl
 c127:=by kernel_rfl
 c143:=by kernel_rfl
 c145:=by kernel_rfl
 c167:=by kernel_rfl
 c168:=by kernel_rfl
 c171:=by kernel_rfl
 c173:=by kernel_rfl
 c175:=by kernel_rfl
 c210:=by kernel_rfl
 c212:=by kernel_rfl
 c213:=by kernel_rfl
 c232:=by kernel_rfl
 c233:=by kernel_rfl }
open Go.RowKit in
theorem Tryz.strconv_Atoi_ok (s:BA) (hmax:s.size≤9223372036854775806) (v:Int) (h:Lib.atoiAll s.data.toList = .ok v) (w:World) :
 Calls Tryz.prog 90 #[.string s] w fun e w'=>e = .returned (.tuple #[.int .i64 v,.nilIface])∧(w'=w∨∃ t,w'=Lib.bytesWorld w 5 t):=Any.strconv_Atoi_ok Tryz.laysC172 s hmax v h w
open Go.RowKit in
theorem Tryz.strconv_Atoi_syntax (s:BA) (hlim:s.size≤281474976710656) (h:Lib.atoiAll s.data.toList=Lib.NumEnd.syntax) (ev:Value) (w:World) (hv:w.cell? ⟨2,0,none⟩=some ev) (hev:ev = .nilIface∨∃ te pe,ev = .iface te pe) :
 Calls Tryz.prog 90 #[.string s] w fun e w'=>∃ N,e = .returned (.tuple #[.int .i64 (0),.iface 243 (.pointer (some ⟨N,0,none⟩))])∧w.heap.size≤N∧w'.heap[N]?=some (.cells #[.string ⟨#[65,116,111,105]⟩,.string s,ev] 268 (0,0))∧Below w.heap.size w w':=Any.strconv_Atoi_syntax Tryz.laysC172 s hlim h ev w hv hev
open Go.RowKit in
theorem Tryz.strconv_Atoi_range (s:BA) (hlim:s.size≤281474976710656) (h:Lib.atoiAll s.data.toList = .range) (ev:Value) (w:World) (hv:w.cell? ⟨3,0,none⟩=some ev) (hev:ev = .nilIface∨∃ te pe,ev = .iface te pe) :
 Calls Tryz.prog 90 #[.string s] w fun e w'=>∃ N,e = .returned (.tuple #[.int .i64 (Lib.atoiSat s.data.toList),.iface 243 (.pointer (some ⟨N,0,none⟩))])∧w.heap.size≤N∧w'.heap[N]?=some (.cells #[.string ⟨#[65,116,111,105]⟩,.string s,ev] 268 (0,0))∧Below w.heap.size w w':=Any.strconv_Atoi_range Tryz.laysC172 s hlim h ev w hv hev
def Tryz.laysPu14_ren:Go.Shelf.Ren:=⟨fun | 14=>189 | 16=>214 | 17=>143 | 19=>225 | 20=>226 | 21=>185 | 22=>186 | 23=>187 | 24=>188 | 25=>215 | 27=>43 | 26=>216 | 28=>82 | 29=>128 | 30=>170 | 31=>171 | 32=>172 | 33=>173 | 35=>204 | 34=>203 | 36=>205 | 37=>206 | 38=>207 | 39=>221 | 40=>222 | n=>n,fun | 9=>9 | 3=>3 | 22=>103 | 24=>120 | 25=>246 | 4=>4 | 34=>240 | 5=>5 | 36=>152 | 37=>69 | 0=>0 | 39=>243 | 21=>21 | 44=>268 | 47=>165 | 50=>288 | 48=>286 | 2=>2 | 52=>225 | 55=>228 | 59=>262 | 60=>234 | 20=>20 | 61=>263 | 65=>296 | 66=>297 | 67=>114 | n=>n,fun | 0=>2 | 1=>3 | 2=>0 | 3=>6 | 4=>7 | n=>n⟩
theorem Tryz.laysPu14:Go.Proofs.LaysPu.n14 Tryz.prog Tryz.laysPu14_ren:={
 mixed:=by kernel_rfl
 f14:=Tryz.func189.trans (congrArg some (by kernel_rfl))
 f16:=Tryz.func214.trans (congrArg some (by kernel_rfl))
 f17:=Tryz.func143.trans (congrArg some (by kernel_rfl))
 f19:=Tryz.func225.trans (congrArg some (by kernel_rfl))
 f20:=Tryz.func226.trans (congrArg some (by kernel_rfl))
 f21:=Tryz.func185.trans (congrArg some (by kernel_rfl))
 f22:=Tryz.func186.trans (congrArg some (by kernel_rfl))
 f23:=Tryz.func187.trans (congrArg some (by kernel_rfl))
 f24:=Tryz.func188.trans (congrArg some (by kernel_rfl))
 f25:=Tryz.func215.trans (congrArg some (by kernel_rfl))
 f26:=Tryz.func216.trans (congrArg some (by kernel_rfl))
 f27:=Tryz.func43.trans (congrArg some (by kernel_rfl))
 f28:=Tryz.func82.trans (congrArg some (by kernel_rfl))
 f29:=Tryz.func128.trans (congrArg some (by kernel_rfl))
 f30:=Tryz.func170.trans (congrArg some (by kernel_rfl))
 f31:=Tryz.func171.trans (congrArg some (by kernel_rfl))
 f32:=Tryz.func172.trans (congrArg some (by kernel_rfl))
 f33:=Tryz.func173.trans (congrArg some (by kernel_rfl))
 f34:=Tryz.func203.trans (congrArg some (by kernel_rfl))
 f35:=Tryz.func204.trans (congrArg some (by kernel_rfl))
 f36:=Tryz.func205.trans (congrArg some (by kernel_rfl))
 f37:=Tryz.func206.trans (congrArg some (by kernel_rfl))
 f38:=Tryz.func207.trans (congrArg some (by kernel_rfl))
 f39:=Tryz.func221.trans (congrArg some (by kernel_rfl))
 f40:=Tryz.func222.trans (congrArg some (by kernel_rfl))
 t0:=Tryz.underlying0
 a0:=Tryz.isAgg0
 z0:=Tryz.sizeOf0
 v0:=Tryz.zeroValue0
 i0:=by kernel_rfl
 t2:=Tryz.underlying2
 a2:=Tryz.isAgg2
 z2:=Tryz.sizeOf2
 v2:=Tryz.zeroValue2
 i2:=by kernel_rfl
 t3:=Tryz.underlying3
 a3:=Tryz.isAgg3
 z3:=Tryz.sizeOf3
 v3:=Tryz.zeroValue3
 i3:=by kernel_rfl
 t4:=Tryz.underlying4
 a4:=Tryz.isAgg4
 z4:=Tryz.sizeOf4
 v4:=Tryz.zeroValue4
 i4:=by kernel_rfl
 t5:=Tryz.underlying5
 a5:=Tryz.isAgg5
 z5:=Tryz.sizeOf5
 v5:=Tryz.zeroValue5
 i5:=by kernel_rfl
 t9:=Tryz.underlying9
 a9:=Tryz.isAgg9
 z9:=Tryz.sizeOf9
 v9:=Tryz.zeroValue9
 i9:=by kernel_rfl
 t20:=Tryz.underlying20
 a20:=Tryz.isAgg20
 z20:=Tryz.sizeOf20
 v20:=Tryz.zeroValue20
 i20:=by kernel_rfl
 t21:=Tryz.underlying21
 a21:=Tryz.isAgg21
 z21:=Tryz.sizeOf21
 v21:=Tryz.zeroValue21
 i21:=by kernel_rfl
 t22:=Tryz.underlying103
 a22:=Tryz.isAgg103
 z22:=Tryz.sizeOf103
 v22:=Tryz.zeroValue103
 i22:=by kernel_rfl
 t24:=Tryz.underlying120
 a24:=Tryz.isAgg120
 z24:=Tryz.sizeOf120
 v24:=Tryz.zeroValue120
 i24:=by kernel_rfl
 t25:=Tryz.underlying246
 a25:=Tryz.isAgg246
 z25:=Tryz.sizeOf246
 v25:=Tryz.zeroValue246
 i25:=by kernel_rfl
 t34:=Tryz.underlying240
 a34:=Tryz.isAgg240
 z34:=Tryz.sizeOf240
 v34:=Tryz.zeroValue240
 i34:=by kernel_rfl
 c34:=by kernel_rfl
 t36:=Tryz.underlying152
 a36:=Tryz.isAgg152
 z36:=Tryz.sizeOf152
 v36:=Tryz.zeroValue152
 i36:=by kernel_rfl
 t37:=Tryz.underlying69
 a37:=Tryz.isAgg69
 z37:=Tryz.sizeOf69
 v37:=Tryz.zeroValue69
 i37:=by kernel_rfl
 t39:=Tryz.underlying243
 a39:=Tryz.isAgg243
 z39:=Tryz.sizeOf243
 v39:=Tryz.zeroValue243
 i39:=by kernel_rfl
 t44:=Tryz.underlying268
 a44:=Tryz.isAgg268
 z44:=Tryz.sizeOf268
 v44:=Tryz.zeroValue268
 i44:=by kernel_rfl
 t47:=Tryz.underlying165
 a47:=Tryz.isAgg165
 z47:=Tryz.sizeOf165
 v47:=Tryz.zeroValue165
 i47:=by kernel_rfl
 t48:=Tryz.underlying286
 a48:=Tryz.isAgg286
 z48:=Tryz.sizeOf286
 v48:=Tryz.zeroValue286
 i48:=by kernel_rfl
 t50:=Tryz.underlying288
 a50:=Tryz.isAgg288
 z50:=Tryz.sizeOf288
 v50:=Tryz.zeroValue288
 i50:=by kernel_rfl
 t52:=Tryz.underlying225
 a52:=Tryz.isAgg225
 z52:=Tryz.sizeOf225
 v52:=Tryz.zeroValue225
 i52:=by kernel_rfl
 t55:=Tryz.underlying228
 a55:=Tryz.isAgg228
 z55:=Tryz.sizeOf228
 v55:=Tryz.zeroValue228
 i55:=by kernel_rfl
 t59:=Tryz.underlying262
 a59:=Tryz.isAgg262
 z59:=Tryz.sizeOf262
 v59:=Tryz.zeroValue262
 i59:=by kernel_rfl
 t60:=Tryz.underlying234
 a60:=Tryz.isAgg234
 z60:=Tryz.sizeOf234
 v60:=Tryz.zeroValue234
 i60:=by kernel_rfl
 t61:=Tryz.underlying263
 a61:=Tryz.isAgg263
 z61:=Tryz.sizeOf263
 t65:=Tryz.underlying296
 a65:=Tryz.isAgg296
 z65:=Tryz.sizeOf296
 v65:=Tryz.zeroValue296
 i65:=by kernel_rfl
 t66:=Tryz.underlying297
 a66:=Tryz.isAgg297
 z66:=Tryz.sizeOf297
 v66:=Tryz.zeroValue297
 i66:=by kernel_rfl
 t67:=Tryz.underlying114
 a67:=Tryz.isAgg114
 z67:=Tryz.sizeOf114
 v67:=Tryz.zeroValue114
 i67:=by kernel_rfl
 g0:=by kernel_rfl
 m0:=by kernel_rfl
 g1:=by kernel_rfl
 m1:=by kernel_rfl
 g2:=by kernel_rfl
 m2:=by kernel_rfl
 g3:=by kernel_rfl
 m3:=by kernel_rfl
 g4:=by kernel_rfl
 m4:=by kernel_rfl }
open Go.RowKit in
theorem Tryz.strconv_ParseUint_10_at64_ok (s:BA) (hmax:s.size≤9223372036854775806) (u:Nat) (h:Lib.parseUintB 64 s.data.toList = .ok u) (w:World) :
 Calls Tryz.prog 189 #[.string s,.int .i64 10,.int .i64 64] w fun e w'=>e = .returned (.tuple #[.int .u64 u,.nilIface])∧(w'=w∨w'=Lib.bytesWorld w 5 s):=Any.strconv_ParseUint_10_at64_ok Tryz.laysPu14 s hmax u h w
open Go.RowKit in
theorem Tryz.strconv_ParseUint_10_at64_syntax (s:BA) (hlim:s.size≤281474976710656) (h:Lib.parseUintB 64 s.data.toList=Lib.NumEnd.syntax) (ev:Value) (w:World) (hv:w.cell? ⟨2,0,none⟩=some ev) (hev:ev = .nilIface∨∃ te pe,ev = .iface te pe) :
 Calls Tryz.prog 189 #[.string s,.int .i64 10,.int .i64 64] w fun e w'=>∃ N,e = .returned (.tuple #[.int .u64 0,.iface 243 (.pointer (some ⟨N,0,none⟩))])∧w.heap.size≤N∧w'.heap[N]?=some (.cells #[.string ⟨#[80,97,114,115,101,85,105,110,116]⟩,.string s,ev] 268 (0,0))∧Below w.heap.size w w':=Any.strconv_ParseUint_10_at64_syntax Tryz.laysPu14 s hlim h ev w hv hev
open Go.RowKit in
theorem Tryz.strconv_ParseUint_10_at64_range (s:BA) (hlim:s.size≤281474976710656) (h:Lib.parseUintB 64 s.data.toList = .range) (ev:Value) (w:World) (hv:w.cell? ⟨3,0,none⟩=some ev) (hev:ev = .nilIface∨∃ te pe,ev = .iface te pe) :
 Calls Tryz.prog 189 #[.string s,.int .i64 10,.int .i64 64] w fun e w'=>∃ N,e = .returned (.tuple #[.int .u64 18446744073709551615,.iface 243 (.pointer (some ⟨N,0,none⟩))])∧w.heap.size≤N∧w'.heap[N]?=some (.cells #[.string ⟨#[80,97,114,115,101,85,105,110,116]⟩,.string s,ev] 268 (0,0))∧Below w.heap.size w w':=Any.strconv_ParseUint_10_at64_range Tryz.laysPu14 s hlim h ev w hv hev
def Tryz.lays145_ren:Go.Shelf.Ren:=⟨fun | 145=>104 | 220=>154 | 219=>183 | 217=>152 | 225=>211 | 224=>212 | 267=>213 | 266=>191 | 314=>224 | n=>n,fun | 9=>9 | 4=>4 | 59=>117 | 3=>3 | 5=>5 | 46=>152 | 146=>235 | 51=>234 | n=>n,fun | 1=>1 | n=>n⟩
theorem Tryz.lays145:Go.Proofs.Lays.n145 Tryz.prog Tryz.lays145_ren:={
 mixed:=by kernel_rfl
 f145:=Tryz.func104.trans (congrArg some (by kernel_rfl))
 f217:=Tryz.func152.trans (congrArg some (by kernel_rfl))
 f219:=Tryz.func183.trans (congrArg some (by kernel_rfl))
 f220:=Tryz.func154.trans (congrArg some (by kernel_rfl))
 f224:=Tryz.func212.trans (congrArg some (by kernel_rfl))
 f225:=Tryz.func211.trans (congrArg some (by kernel_rfl))
 f266:=Tryz.func191.trans (congrArg some (by kernel_rfl))
 f267:=Tryz.func213.trans (congrArg some (by kernel_rfl))
 f314:=Tryz.func224.trans (congrArg some (by kernel_rfl))
 t3:=Tryz.underlying3
 a3:=Tryz.isAgg3
 z3:=Tryz.sizeOf3
 v3:=Tryz.zeroValue3
 t4:=Tryz.underlying4
 a4:=Tryz.isAgg4
 z4:=Tryz.sizeOf4
 v4:=Tryz.zeroValue4
 t5:=Tryz.underlying5
 a5:=Tryz.isAgg5
 z5:=Tryz.sizeOf5
 v5:=Tryz.zeroValue5
 t9:=Tryz.underlying9
 a9:=Tryz.isAgg9
 z9:=Tryz.sizeOf9
 v9:=Tryz.zeroValue9
 t46:=Tryz.underlying152
 a46:=Tryz.isAgg152
 z46:=Tryz.sizeOf152
 v46:=Tryz.zeroValue152
 t51:=Tryz.underlying234
 a51:=Tryz.isAgg234
 z51:=Tryz.sizeOf234
 v51:=Tryz.zeroValue234
 t59:=Tryz.underlying117
 a59:=Tryz.isAgg117
 z59:=Tryz.sizeOf117
 v59:=Tryz.zeroValue117
 t146:=Tryz.underlying235
 a146:=Tryz.isAgg235
 z146:=Tryz.sizeOf235
 v146:=Tryz.zeroValue235
 g1:=by kernel_rfl }
open Go.RowKit Go.Lib in
theorem Tryz.strings_Cut (s sep:BA) (m:Int) (w:World) (hs:s.size < 4294967281) (hm:w.cell? ⟨1,0,none⟩=some (.int .i64 m)) :
 Calls Tryz.prog 104 #[.string s,.string sep] w fun e w'=>e = .returned (.tuple #[.string ⟨(Lib.cut s.data.toList sep.data.toList).1.toArray⟩,.string ⟨(Lib.cut s.data.toList sep.data.toList).2.1.toArray⟩,.bool (Lib.cut s.data.toList sep.data.toList).2.2])∧∃ n,w'=w.drewN n:=Any.strings_Cut Tryz.lays145 s sep m w hs hm
def Tryz.lays189_ren:Go.Shelf.Ren:=⟨fun | 189=>201 | 125=>220 | 257=>219 | 128=>236 | 129=>204 | 294=>227 | 295=>228 | 296=>229 | 297=>230 | 298=>231 | 299=>232 | 216=>233 | 300=>234 | 301=>235 | 328=>237 | 329=>238 | 330=>239 | 331=>240 | 332=>241 | 215=>242 | 343=>243 | n=>n,fun | 28=>22 | 3=>3 | 46=>152 | 0=>0 | 51=>234 | 53=>103 | 4=>4 | 183=>291 | 182=>290 | 131=>144 | 5=>5 | 9=>9 | 218=>298 | 222=>301 | 228=>303 | 229=>174 | n=>n,fun | n=>n⟩
theorem Tryz.lays189:Go.Proofs.Lays.n189 Tryz.prog Tryz.lays189_ren:= by constructor <;> first | kernel_rfl | (intro _; kernel_rfl)
open Go.Sort Go.RowKit in
theorem Tryz.slices_Sort_int (blk off cap:Nat) (zs:List Int) (w:World) (hH:Holds (Value.int .i64) w blk off zs.toArray) (hblk:blk < w.heap.size) (hsz:zs.length < 4611686018427387904) :
 Calls Tryz.prog 201 #[.slice (some ⟨blk,off,none⟩) zs.length cap] w fun e w'=>
  e = .returned (.tuple #[])∧∃ n os,w'=grow (putRow (Value.int .i64) (Sort.ahead w n) blk off (zs.mergeSort fun x y=>decide (x≤y)).toArray) os:=Any.slices_Sort_int Tryz.lays189 blk off cap zs w hH hblk hsz
def Tryz.lays146_ren:Go.Shelf.Ren:=⟨fun | 146=>46 | 221=>88 | 268=>138 | 138=>139 | 143=>140 | 195=>180 | 197=>181 | 218=>182 | 219=>183 | 260=>210 | 217=>152 | 225=>211 | 224=>212 | 267=>213 | 266=>191 | 314=>224 | n=>n,fun | 9=>9 | 31=>66 | 3=>3 | 4=>4 | 0=>0 | 105=>231 | 21=>21 | 5=>5 | 46=>152 | 119=>279 | 139=>282 | 138=>281 | 146=>235 | 51=>234 | n=>n,fun | 1=>1 | 3=>4 | 4=>5 | n=>n⟩
theorem Tryz.lays146:Go.Proofs.Lays.n146 Tryz.prog Tryz.lays146_ren:={
 mixed:=by kernel_rfl
 f138:=Tryz.func139.trans (congrArg some (by kernel_rfl))
 f143:=Tryz.func140.trans (congrArg some (by kernel_rfl))
 f146:=Tryz.func46.trans (congrArg some (by kernel_rfl))
 f195:=Tryz.func180.trans (congrArg some (by kernel_rfl))
 f197:=Tryz.func181.trans (congrArg some (by kernel_rfl))
 f217:=Tryz.func152.trans (congrArg some (by kernel_rfl))
 f218:=Tryz.func182.trans (congrArg some (by kernel_rfl))
 f219:=Tryz.func183.trans (congrArg some (by kernel_rfl))
 f221:=Tryz.func88.trans (congrArg some (by kernel_rfl))
 f224:=Tryz.func212.trans (congrArg some (by kernel_rfl))
 f225:=Tryz.func211.trans (congrArg some (by kernel_rfl))
 f260:=Tryz.func210.trans (congrArg some (by kernel_rfl))
 f266:=Tryz.func191.trans (congrArg some (by kernel_rfl))
 f267:=Tryz.func213.trans (congrArg some (by kernel_rfl))
 f268:=Tryz.func138.trans (congrArg some (by kernel_rfl))
 f314:=Tryz.func224.trans (congrArg some (by kernel_rfl))
 t0:=Tryz.underlying0
 a0:=Tryz.isAgg0
 z0:=Tryz.sizeOf0
 v0:=Tryz.zeroValue0
 t3:=Tryz.underlying3
 a3:=Tryz.isAgg3
 z3:=Tryz.sizeOf3
 v3:=Tryz.zeroValue3
 t4:=Tryz.underlying4
 a4:=Tryz.isAgg4
 z4:=Tryz.sizeOf4
 v4:=Tryz.zeroValue4
 t5:=Tryz.underlying5
 a5:=Tryz.isAgg5
 z5:=Tryz.sizeOf5
 v5:=Tryz.zeroValue5
 t9:=Tryz.underlying9
 a9:=Tryz.isAgg9
 z9:=Tryz.sizeOf9
 v9:=Tryz.zeroValue9
 t21:=Tryz.underlying21
 a21:=Tryz.isAgg21
 z21:=Tryz.sizeOf21
 v21:=Tryz.zeroValue21
 t31:=Tryz.underlying66
 a31:=Tryz.isAgg66
 z31:=Tryz.sizeOf66
 v31:=Tryz.zeroValue66
 t46:=Tryz.underlying152
 a46:=Tryz.isAgg152
 z46:=Tryz.sizeOf152
 v46:=Tryz.zeroValue152
 t51:=Tryz.underlying234
 a51:=Tryz.isAgg234
 z51:=Tryz.sizeOf234
 v51:=Tryz.zeroValue234
 t105:=Tryz.underlying231
 a105:=Tryz.isAgg231
 z105:=Tryz.sizeOf231
 v105:=Tryz.zeroValue231
 t119:=Tryz.underlying279
 a119:=Tryz.isAgg279
 z119:=Tryz.sizeOf279
 t138:=Tryz.underlying281
 a138:=Tryz.isAgg281
 z138:=Tryz.sizeOf281
 v138:=Tryz.zeroValue281
 t139:=Tryz.underlying282
 a139:=Tryz.isAgg282
 z139:=Tryz.sizeOf282
 v139:=Tryz.zeroValue282
 t146:=Tryz.underlying235
 a146:=Tryz.isAgg235
 z146:=Tryz.sizeOf235
 v146:=Tryz.zeroValue235
 g1:=by kernel_rfl
 g3:=by kernel_rfl
 g4:=by kernel_rfl }
open Go.RowKit Go.Lib in
theorem Tryz.strings_Split (s sep:BA) (m:Int) (w:World) (hs:s.size < 4294967281) (hm:w.cell? ⟨1,0,none⟩=some (.int .i64 m)) (h1:1≤sep.size) :
 Calls Tryz.prog 46 #[.string s,.string sep] w fun e w'=>
  e = .returned (.slice (some ⟨w.heap.size,0,none⟩) (Lib.countB s sep+1) (Lib.countB s sep+1))∧w'=w.alloc (.cells ((Lib.splitB sep 0 (Lib.countB s sep) s).map Value.string).toArray 9):=Any.strings_Split Tryz.lays146 (by kernel_rfl) s sep m w hs hm h1
def Tryz.lays105_ren:Go.Shelf.Ren:=⟨fun | 105=>86 | 212=>134 | 99=>135 | 165=>87 | 166=>60 | 170=>136 | 169=>56 | 263=>177 | 264=>178 | 206=>151 | 240=>103 | 241=>137 | 276=>153 | 277=>179 | n=>n,fun | 9=>9 | 3=>3 | 4=>4 | 20=>20 | 0=>0 | 46=>152 | 109=>199 | 5=>5 | 72=>108 | 76=>121 | 51=>234 | 146=>235 | 53=>103 | 148=>237 | 70=>106 | 37=>69 | 75=>120 | 127=>165 | 164=>211 | 80=>114 | n=>n,fun | n=>n⟩
theorem Tryz.lays105:Go.Proofs.Lays.n105 Tryz.prog Tryz.lays105_ren:= by constructor <;> first | kernel_rfl | (intro _; kernel_rfl)
theorem Tryz.Builder_Extra_105:Builder.Extra Tryz.prog Tryz.lays105_ren:={
 sizeBuilder:=by kernel_rfl
 liesBuilder:=by kernel_rfl
 t5:=Tryz.underlying5
 a5:=Tryz.isAgg5
 z5:=Tryz.sizeOf5
 v5:=Tryz.zeroValue5
 infoByte:=by kernel_rfl
 cellsByte:=by kernel_rfl
 sizeByte:=by kernel_rfl
 neB5:=by decide }
open Go.RowKit Go.Lib in
theorem Tryz.strings_Repeat (s:BA) (c:Nat) (w:World) (hc:c≤9223372036854775807) (hlen:s.size*c≤140737488355328) :
 Calls Tryz.prog 86 #[.string s,.int .i64 c] w fun e w'=>e = .returned (.string ⟨(Lib.repeatL s.data.toList c).toArray⟩)∧Below w.heap.size w w':=Any.strings_Repeat Tryz.lays105 Tryz.Builder_Extra_105 s c w hc hlen
def Tryz.laysNm220_ren:Go.Shelf.Ren:=⟨fun | 20=>202 | n=>n,fun | 22=>22 | 3=>3 | 4=>4 | 0=>0 | n=>n,fun | n=>n⟩
theorem Tryz.laysNm220:Go.Proofs.Lays2.n20 Tryz.prog Tryz.laysNm220_ren:={
 mixed:=by kernel_rfl
 f20:=Tryz.func202.trans (congrArg some (by kernel_rfl))
 t0:=Tryz.underlying0
 a0:=Tryz.isAgg0
 z0:=Tryz.sizeOf0
 v0:=Tryz.zeroValue0
 t3:=Tryz.underlying3
 a3:=Tryz.isAgg3
 z3:=Tryz.sizeOf3
 v3:=Tryz.zeroValue3
 t4:=Tryz.underlying4
 a4:=Tryz.isAgg4
 z4:=Tryz.sizeOf4
 v4:=Tryz.zeroValue4
 t22:=Tryz.underlying22
 a22:=Tryz.isAgg22
 z22:=Tryz.sizeOf22
 v22:=Tryz.zeroValue22
 i3:=by kernel_rfl }
open Go.RowKit Go.Lib Go.Sort in
theorem Tryz.slices_Compact_int (blk off cap:Nat) (zs:List Int) (w:World) (hH:Holds (Value.int .i64) w blk off zs.toArray) (hsz:zs.length≤9223372036854775807) (hcap:zs.length≤cap) :
 Calls Tryz.prog 202 #[.slice (some ⟨blk,off,none⟩) zs.length cap] w fun e w'=>e = .returned (.slice (some ⟨blk,off,none⟩) (Lib.compact zs).length cap)∧∃ q,w'=putRow (Value.int .i64) (Sort.ahead w q) blk off (Lib.compact zs++List.replicate (zs.length - (Lib.compact zs).length) 0).toArray:=Any.slices_Compact_int Tryz.laysNm220 blk off cap zs w hH hsz hcap
open Go.RowKit Go.Lib Go.Sort in
theorem Tryz.slices_Compact_int_empty (a:Option Addr) (cap:Nat) (w:World) :
 Calls Tryz.prog 202 #[.slice a 0 cap] w fun e w'=>e = .returned (.slice a 0 cap)∧w'=w:=Any.slices_Compact_int_empty Tryz.laysNm220 a cap w
open Go.RowKit Go.Sort in
theorem Tryz.slices_Sort_int_none (p:Option Addr) (cap:Nat) (w:World) :
 Calls Tryz.prog 201 #[.slice p 0 cap] w fun e w'=>e = .returned (.tuple #[])∧w'=w:=Any.slices_Sort_int_none Tryz.lays189 p cap w
def Tryz.laysSlH6_f200_ren:Go.Shelf.Ren:=⟨fun | 6=>200 | n=>n,fun | 22=>22 | 23=>3 | 25=>91 | 3=>3 | 0=>0 | 4=>4 | n=>n,fun | n=>n⟩
theorem Tryz.laysSlH6_f200:Go.Proofs.SlLaysH.n6 Tryz.prog Tryz.laysSlH6_f200_ren:={
 mixed:=by kernel_rfl
 f6:=⟨Tryz.f200.name,by decide,Tryz.func200.trans (congrArg some (by kernel_rfl))⟩
 t0:=Tryz.underlying0
 a0:=Tryz.isAgg0
 z0:=Tryz.sizeOf0
 v0:=Tryz.zeroValue0
 t3:=Tryz.underlying3
 a3:=Tryz.isAgg3
 z3:=Tryz.sizeOf3
 v3:=Tryz.zeroValue3
 t4:=Tryz.underlying4
 a4:=Tryz.isAgg4
 z4:=Tryz.sizeOf4
 v4:=Tryz.zeroValue4
 t22:=Tryz.underlying22
 a22:=Tryz.isAgg22
 z22:=Tryz.sizeOf22
 v22:=Tryz.zeroValue22
 a23:=Tryz.isAgg3
 z23:=Tryz.sizeOf3
 t25:=Tryz.underlying91
 a25:=Tryz.isAgg91
 z25:=Tryz.sizeOf91
 v25:=Tryz.zeroValue91 }
open Go.RowKit Go.Lib in
theorem Tryz.slices_IndexFunc_empty {α:Type} [Inhabited α] (a:Option Addr) (c:Nat) (fv:Value) (w:World) :
 Calls Tryz.prog 200 #[.slice a 0 c,fv] w fun e w'=>e = .returned (.int .i64 (-1))∧w'=w:=AnyE.slices_IndexFunc_empty Tryz.laysSlH6_f200 a c fv w
def Tryz.laysSlH10_f167_ren:Go.Shelf.Ren:=⟨fun | 10=>167 | 6=>200 | n=>n,fun | 22=>22 | 23=>3 | 25=>91 | 3=>3 | 4=>4 | 0=>0 | n=>n,fun | n=>n⟩
theorem Tryz.laysSlH10_f167:Go.Proofs.SlLaysH.n10 Tryz.prog Tryz.laysSlH10_f167_ren:={
 mixed:=by kernel_rfl
 f6:=⟨Tryz.f200.name,by decide,Tryz.func200.trans (congrArg some (by kernel_rfl))⟩
 f10:=⟨Tryz.f167.name,by decide,Tryz.func167.trans (congrArg some (by kernel_rfl))⟩
 t0:=Tryz.underlying0
 a0:=Tryz.isAgg0
 z0:=Tryz.sizeOf0
 v0:=Tryz.zeroValue0
 t3:=Tryz.underlying3
 a3:=Tryz.isAgg3
 z3:=Tryz.sizeOf3
 v3:=Tryz.zeroValue3
 t4:=Tryz.underlying4
 a4:=Tryz.isAgg4
 z4:=Tryz.sizeOf4
 v4:=Tryz.zeroValue4
 t22:=Tryz.underlying22
 a22:=Tryz.isAgg22
 z22:=Tryz.sizeOf22
 v22:=Tryz.zeroValue22
 a23:=Tryz.isAgg3
 z23:=Tryz.sizeOf3
 t25:=Tryz.underlying91
 a25:=Tryz.isAgg91
 z25:=Tryz.sizeOf91
 v25:=Tryz.zeroValue91 }
open Go.RowKit Go.Lib Go.Sort in
theorem Tryz.slices_DeleteFunc {α:Type} [Inhabited α] (enc:α→Value) (hO:OneCell enc) (p:α→Bool) (g:Nat) (lb:Array Value) (eg:∀ args w,(callFunc g args).run Tryz.prog w = .ok (.enter g args) w) (zr:α) (v23:∀ w,(zeroValue 3).run Tryz.prog w = .ok (enc zr) w) (blk off cap:Nat) (d:Array α) (w:World) (hp:PredAt Tryz.prog g lb enc p w) (hpo:PredOver Tryz.prog g lb enc p blk off d.size w) (hH:Holds enc w blk off d) (hsz:d.size≤9223372036854775807) (hcap:d.size≤cap) :
 Calls Tryz.prog 167 #[.slice (some ⟨blk,off,none⟩) d.size cap,.func (.func g) #[] lb] w fun e w'=>e = .returned (.slice (some ⟨blk,off,none⟩) (d.toList.filter fun x=>!p x).length cap)∧∃ q,w'=putRow enc (Sort.ahead w q) blk off ((d.toList.filter fun x=>!p x)++List.replicate (d.size - (d.toList.filter fun x=>!p x).length) zr).toArray:=AnyE.slices_DeleteFunc Tryz.laysSlH10_f167 enc hO p g lb eg zr v23 blk off cap d w hp hpo hH hsz hcap
end Go.Proofs
