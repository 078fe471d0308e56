/-
  A small machine that reckons what a call comes to; the functions of the program, one by one. (THE SMALL MACHINE (24): a call., THE SMALL MACHINE (25): a call that lends a variable., THE SMALL MACHINE (26): a call, as an operation., and so on.)
-/
import Derived.Test.YtlolknmmmnbbgaaGreatDoorPa
import Derived.Lib.ConvBytes
import Derived.Lib.AtoiAll
import Derived.Lib.ItoaLen
import Derived.Lib.SplitLaws
import Derived.Lib.TrimByte
import Derived.Lib.Repeat
import Derived.Lib.Join
import Derived.Test.YtlolknmmmnbbgaaGreatDoorProg
import Derived.Shelf.Strings.BuilderK
set_option linter.all false
set_option maxRecDepth 100000
open Array renaming length_toList→CP,getElem?_eq_some_iff→C9,getElem?_toList→vau,toList_append→vaz,getElem?_modify→vaW,getD_eq_getD_getElem?→vbi,all_eq_true_iff_forall_mem→vbz
open Bool renaming and_eq_true→AG,not_eq_true'→BW,and_true→CR,or_eq_true→vaT
open ByteArray renaming size→AH,empty→CH
open Decidable renaming byContradiction→vbH
open Go.Addr.mk renaming injEq→C5
open Go.Builtin renaming append_→CV
open Go.IntKind renaming i64→AB,u64→AJ,bits→AO,signed→vaj
open Go.Lib renaming decDigits→C3,strCells→C6,bytesWorld→vaJ,byteCells→vbw,splitB→vbB
open Go.Op renaming operands→CO,equalIn→vbk
open Go.Region renaming wanted→C0,binds→vaS,ready→vbx
open Go.Result renaming andThen_ok→B4
open Go.Result.ok renaming injEq→va8
open Go.Sem renaming run_bind→CK,run_pure→CL
open Go.TypeDesc renaming isRow→vbh
open Go.Value renaming ownBlock→B5
open Go.Value.pointer renaming injEq→CS
open Go.Value.slice renaming injEq→CD
open Go.World renaming cell?→vay,setCell→vbs
open List renaming length_cons→AM,drop→AQ,length_append→AR,mem_cons_self→AU,mem_append→AV,mem_cons_of_mem→AW,mem_cons→AX,map_cons→AZ,mem_singleton→A4,getElem?_eq_getElem→A5,length_nil→A6,length_take→A8,getElem?_cons_zero→BP,getElem?_eq_some_iff→BQ,getElem?_eq_none→BU,map_nil→B6,getElem?_map→B8,length_map→B9,all_eq_true→CN,take_of_length_le→CW,not_mem_nil→CY,drop_of_length_le→C4,length_drop→C7,getElem?_cons_succ→DA,size_toArray→vac,append_nil→vad,cons_append→vaf,mem_of_getElem?→vah,getElem?_drop→van,mem_map→vao,eq_nil_of_length_eq_zero→vap,mem_append_right→vaD,mem_append_left→vaI,countP_cons_of_pos→vaL,mem_map_of_mem→vaM,range→vaQ,mem_of_mem_drop→vaX,mem_of_mem_take→vaY,countP_cons_of_neg→vbb,mem_range→vbg,getElem?_append_left→vbo
open List.cons renaming injEq→va7
open Nat renaming le_of_ble_eq_true→AN,le_refl→AT,zero_add→BK,beq→BM,ble→BS,zero_le→B2,le_trans→CE,lt_of_lt_of_le→CU,add_zero→CZ,lt_or_ge→C1,add_mul→vae,min_eq_left→vaw,sub_zero→vaU,beq_refl→vbe,one_mul→vbq
open Option renaming map_eq_some_iff→C8,getD_some→vaq,map_some→vaH
open Option.some renaming injEq→AC
open Prod.mk renaming injEq→AS
namespace Go.FM
open Go Go.RowKit
section
variable {B:BT} {nt:Nat} {w0:World} {X:Zone} {γ:Nat→Value} {st st':St} {a:Act} {w:World} {P:Program} {E:Env}
theorem bX (h:Rel B nt w0 X γ st a w) (ns:List Nat) {b:Nat} (hb:DH X γ (st.ups (EC st.o ns)).o b):DH X γ st.o b∧∀ m∈ns,¬ RowOf γ st.o m b:=by
 obtain ⟨h1,h2,h3,h4,h5⟩:=MH st.o ns (FrzLe.refl _) h;refine ⟨h2.owned hb,?_⟩;rintro m hm ⟨e,ag,ks,l,ho,hob⟩;rcases hb with ⟨m',ob',hm',hb'⟩ | hb
 ·by_cases e1:m=m'
  ·subst e1;rcases h2 m with h6 | ⟨e',ag',ks',l',h6,h7⟩
   ·rw [h6,ho] at hm'
    have:=h4 m hm true e ag ks l (by rw [h6,ho])
    cases this
   ·rw [h7,AC] at hm';subst hm';exact hb'.elim
  ·rcases h2 m' with h6 | ⟨e',ag',ks',l',h6,h7⟩
   ·rw [h6] at hm';exact h.dis m m' _ ob' b e1 ho hm' hob hb'
   ·rw [h7,AC] at hm';subst hm';exact hb'.elim
 ·exact h.near ⟨m,_,ho,hob⟩ hb
theorem lJ (h:Rel B nt w0 X γ st a w) (hg:GX B w0 X) {f:FuncId} {sp:QO} (hS:Snd P B f sp) {vs:List V} {xs:List Value} (hv:VRels γ st.o w (DH X γ st.o) vs xs) (hl:E0 vs=[]) {tks:List (List Kd)} {v:V} {out:List (List V)}
  (hsp:sp (FK st.o [] tks vs)=some (v,out)) :
  Does P f xs w fun e w'=>∃ x,e = .returned x∧∃ γ',Rel B.base 0 w ⟨fun _=>False,fun b=>DH X γ st.o b∧∀ m∈EF vs,¬ RowOf γ st.o m b⟩ γ' ⟨[],F5 v out⟩ IQ w' ∧
   VRel γ' (F5 v out) w' (DH ⟨fun _=>False,fun b=>DH X γ st.o b∧∀ m∈EF vs,¬ RowOf γ st.o m b⟩ γ' (F5 v out)) (LE v) x∧XX v=true∧out=[]:=by
 have hb:FD (FK st.o [] tks vs)=none:=bH.2 hl;have hm:HO (FK st.o [] tks vs)=[]:=by simp only [HO,hb]
 have hR:Rel B.base 0 w ⟨fun _=>False,fun b=>DH X γ st.o b∧∀ m∈EF vs,¬ RowOf γ st.o m b⟩ γ ⟨[],[]⟩ IQ w:=by
  refine ⟨rfl,rfl,fun i=>by simp only [St.get,EL,VRel],fun n ob hn=>?_,?_,?_,Keep.refl _ w,?_,?_,fun p hp=>by cases hp⟩
  ·simp only [DF,EL] at hn; cases hn
  ·rintro b ⟨n,ob,hn,_⟩; simp only [DF,EL] at hn; cases hn
  ·intro n m ob ob' b _ hn; simp only [DF,EL] at hn; cases hn
  ·rintro b ⟨n,ob,hn,_⟩; simp only [DF,EL] at hn; cases hn
  ·rintro b ⟨hb | hb,_⟩
   ·exact (h.lt b hb).1
   ·exact h.fl b hb
 have:=hS w ⟨fun _=>False,fun b=>DH X γ st.o b∧∀ m∈EF vs,¬ RowOf γ st.o m b⟩ γ (FK st.o [] tks vs) xs v out hsp (h.glob hg) (fun _ hf=>hf.elim) (by rw [hm]; exact hR) (by
  rw [hm];refine fH h (fun b _ hb=>?_) [] hv (fun m hm b hr hb=>?_) (fun m hm=>by rw [hl] at hm; cases hm)
  ·rcases hb with ⟨n,ob,hn,_⟩ | hb
   ·simp only [DF,EL] at hn; cases hn
   ·exact hb.1
  ·rcases hb with ⟨n,ob,hn,_⟩ | hb
   ·simp only [DF,EL] at hn; cases hn
   ·exact hb.2 m hm hr)
 refine this.mono ?_;rintro e w' ⟨x,he,γ',h1,h2,h3⟩;refine ⟨x,he,γ',h1,h2,?_⟩;simp only [J0,hb] at h3;cases out with
 | nil=>exact ⟨h3,rfl⟩
 | cons _ _=>exact h3.elim
theorem iX (h:Rel B nt w0 X γ st a w) {w':World} {X':Zone} (hX:∀ b,¬ X'.own b) {γ':Nat→Value} {st':St} {a':Act} (hc:Rel B.base 0 w X' γ' st' a' w') (F:Nat→Prop) (hF:∀ b,F b→X.far b∨(w.heap.size≤b∧b < w'.heap.size)):Rel B nt w0 ⟨X.own,F⟩ γ st a w':=
 (h.fresh (hc.keep) (fun b _ hb=>(hX b hb).elim)).shrink hF
theorem XH {cs:List V} (h:cs.all P3=true):EG cs=(900000,some (.box (FZ 900001 cs))) :: KA 900001 cs:=by
 refine mI (fun s he=>?_);subst he;simp [P3,G2] at h
theorem v6 {w':World} {X':Zone} {γ':Nat→Value} {cs:List V} (hok:cs.all P3=true) (_:Rel B.base 0 w X' γ' ⟨[],EG cs⟩ IQ w') {c:Array Value}
  (hr:VRels γ' (EG cs) w' (DH X' γ' (EG cs)) (FZ 900001 cs) c.toList) {γf:Nat→Value} {of:Store} {nm:Nat}
  (hrow:∀ j e ag ks l,cs[j]?=some (.vec e ag ks l)→γf (nm+j)=γ' (900001+j)∧DF of (nm+j)=some (.row true e ag ks l)) {O':Nat→Prop} (hO:HL cs=true→∀ b,b < w'.heap.size→O' b→DH X' γ' (EG cs) b) :
  VRels γf of w' O' (FZ nm cs) c.toList:=by
 have hl:=hr.length;rw [WZ] at hl;refine VRels.of_get (by rw [WZ,hl]) (fun j v x hv hx=>?_);rw [bG] at hv;cases hcj:cs[j]? with
 | none=>rw [hcj] at hv; cases hv
 | some u=>
  rw [hcj] at hv;simp only [vaH,AC] at hv;have hb:(FZ 900001 cs)[j]?=some (match (generalizing:=false) u with | .vec _ _ _ l=>.row (900001+j) 0 l.length | v=>v):=by rw [bG,hcj]; rfl
  have hux:=hr.get' hb hx;have huok:P3 u=true:=CN.1 hok u (vah hcj);by_cases hvec:∃ e ag ks l,u = .vec e ag ks l
  ·obtain ⟨e,ag,ks,l,rfl⟩:=hvec;simp only at hv hux;subst hv;obtain ⟨h1,h2⟩:=hrow j e ag ks l hcj;have hat:=dJ (nr:=900001) hcj;have hat':DF (EG cs) (900001+j)=some (.row true e ag ks l):=by
    rw [XH hok,D5,A2 (by omega)];exact hat
   simp only [VRel,hat'] at hux;simp only [VRel,h2,h1];exact hux
  ·have hf:G2 u=true:=by cases u <;> first | exact huok | exact absurd ⟨_,_,_,_,rfl⟩ hvec
   have hvu:v=u:=by cases u <;> first | exact hv.symm | exact absurd ⟨_,_,_,_,rfl⟩ hvec
   have hux':VRel γ' (EG cs) w' (DH X' γ' (EG cs)) u x:=by cases u <;> first | exact hux | exact absurd ⟨_,_,_,_,rfl⟩ hvec
   subst hvu;exact gO hf (fun hv=>hO (fF (vah hcj) hv)) hux'
theorem sS {w':World} {X':Zone} {γ':Nat→Value} {cs:List V} (hok:cs.all P3=true) (hc:Rel B.base 0 w X' γ' ⟨[],EG cs⟩ IQ w') :
  (∀ (γ:Nat→Value) j e ag ks l,cs[j]?=some (.vec e ag ks l)→ObRel B.base γ [] w' (fun b=>HL cs=true→DH X' γ' (EG cs) b) (γ' (900001+j)) (.row true e ag ks l)∧∀ b,(γ' (900001+j)).ownBlock=some b→E1 γ' (EG cs) b) ∧
  (∀ i j e ag ks l e' ag' ks' l' b,i≠j→cs[i]?=some (.vec e ag ks l)→cs[j]?=some (.vec e' ag' ks' l')→(γ' (900001+i)).ownBlock=some b→(γ' (900001+j)).ownBlock=some b→False) ∧
  (∀ j e ag ks l b,cs[j]?=some (.vec e ag ks l)→(γ' (900001+j)).ownBlock=some b→EM γ' (EG cs) 900000 b→False):=by
 have hat:∀ {j e ag ks l},cs[j]?=some (V.vec e ag ks l)→DF (EG cs) (900001+j)=some (.row true e ag ks l):=by
  intro j e ag ks l hj;rw [XH hok,D5,A2 (by omega)];exact dJ hj
 refine ⟨fun γ j e ag ks l hj=>⟨?_,fun b hb=>⟨_,_,hat hj,hb⟩⟩,?_,?_⟩
 ·have hr:=hc.ob _ _ (hat hj);simp only [ObRel] at hr ⊢;obtain ⟨k1,k2,xs,k3,k4⟩:=hr;refine ⟨k1,k2,xs,k3,fun i y hy=>Kd.RelAll.mono (Keep.refl _ w') (fun b _ hb=>?_) (fun _ _ hu=>hu) (k4 i y hy)⟩;exact hb (fF (vah hj) rfl)
 ·intro i j e ag ks l e' ag' ks' l' b hij h1 h2 hb1 hb2;exact hc.dis _ _ _ _ b (by omega) (hat h1) (hat h2) hb1 hb2
 ·rintro j e ag ks l b hj hb ⟨ob,h1,h2⟩;exact hc.dis _ _ _ _ b (by omega) (hat hj) h1 hb h2
theorem Pj (h:Rel B nt w0 X γ st a w) (hg:GX B w0 X) {f:FuncId} {sp:QO} (hS:Snd P B f sp) {vs:List V} {xs:List Value} (hv:VRels γ st.o w (DH X γ st.o) vs xs) (hl:E0 vs=[]) {tks:List (List Kd)} {v:V} {out:List (List V)}
  (hsp:sp (FK st.o [] tks vs)=some (v,out)) (hnb:∀ cs,v≠.bor cs) (hnv:∀ e ag ks l,v≠.vec e ag ks l) :
  Does P f xs w fun e w'=>∃ x,e = .returned x∧∃ γ',Rel B nt w0 X γ' (st.ups (EC st.o (match HN v with | true=>EF vs | false=>[]))) a w' ∧
   VRel γ' (st.ups (EC st.o (match HN v with | true=>EF vs | false=>[]))).o w' (DH X γ' (st.ups (EC st.o (match HN v with | true=>EF vs | false=>[]))).o) v x:=by
 refine (lJ h hg hS hv hl hsp).mono ?_;rintro e w' ⟨x,he,γ',h1,h2,h3,rfl⟩;have hf:K8 v=true:=by cases v <;> first | exact h3 | exact absurd rfl (hnb _) | exact absurd rfl (hnv _ _ _ _)
 have hmo:F5 v []=[]:=by cases v <;> first | rfl | exact absurd rfl (hnb _) | exact absurd rfl (hnv _ _ _ _)
 rw [hmo] at h1 h2;rw [S0 hf] at h2;have hz:=(MH st.o (match HN v with | true=>EF vs | false=>[]) (FrzLe.refl _) h).1;have hp:=iX hz (fun b hb=>hb) h1 X.far (fun b hb=>.inl hb);refine ⟨x,he,γ,hp,mW hf (fun hhl b _ hb=>?_) h2⟩
 have:=bX h _ hb
 rw [hhl] at this;exact .inr this
theorem Pi (h:Rel B nt w0 X γ st a w) (hg:GX B w0 X) {f:FuncId} {sp:QO} (hS:Snd P B f sp) {vs:List V} {xs:List Value} (hv:VRels γ st.o w (DH X γ st.o) vs xs) (hl:E0 vs=[]) {tks:List (List Kd)} {cs:List V} {out:List (List V)}
  (hsp:sp (FK st.o [] tks vs)=some (.bor cs,out)) (d:Nat) (hd9:d≠900000) (hn9:1000*(d+1)+cs.length≤900000) :
  Does P f xs w fun e w'=>∃ x,e = .returned x∧∃ γ',Rel B nt w0 X γ' (st.ups (EC st.o (match HL cs with | true=>EF vs | false=>[])++(JJ (1000*(d+1)) cs++[.new d (.box (FZ (1000*(d+1)) cs))]))) a w' ∧
   VRel γ' (st.ups (EC st.o (match HL cs with | true=>EF vs | false=>[])++(JJ (1000*(d+1)) cs++[.new d (.box (FZ (1000*(d+1)) cs))]))).o w'
    (DH X γ' (st.ups (EC st.o (match HL cs with | true=>EF vs | false=>[])++(JJ (1000*(d+1)) cs++[.new d (.box (FZ (1000*(d+1)) cs))]))).o) (.ptr d 0 0) x:=by
 refine (lJ h hg hS hv hl hsp).mono ?_;rintro e w' ⟨x,he,γ',h1,h2,h3,rfl⟩;simp only [XX] at h3;have hmo:F5 (.bor cs) []=EG cs:=rfl;rw [hmo] at h1 h2;generalize hX':(⟨fun _=>False,fun b=>DH X γ st.o b∧∀ m∈EF vs,¬ RowOf γ st.o m b⟩:Zone)=X' at h1 h2;have hXo:∀ b,¬ X'.own b:=fun b hb=>by rw [← hX'] at hb; exact hb
 have hz:=(MH st.o (match HL cs with | true=>EF vs | false=>[]) (FrzLe.refl _) h).1;have hPf:∀ b,E1 γ' (EG cs) b→w.heap.size≤b∧b < w'.heap.size:=fun b hb=>by
  obtain ⟨q1,q2⟩:=h1.lt b hb;exact ⟨q2.resolve_right (hXo b),q1⟩
 have hp:=iX hz hXo h1 (fun b=>X.far b∨E1 γ' (EG cs) b) (fun b hb=>hb.imp_right (hPf b));obtain ⟨br1,br2,br3⟩:=sS h3 h1;have hO1:∀ b,DH ⟨X.own,fun b=>X.far b∨E1 γ' (EG cs) b⟩ γ (st.ups (EC st.o (match HL cs with | true=>EF vs | false=>[]))).o b→(HL cs=true→DH X' γ' (EG cs) b):=by
  intro b hb hal;rw [hal] at hb;have key:DH X γ (st.ups (EC st.o (EF vs))).o b∨E1 γ' (EG cs) b:=by
   rcases hb with hb | hb | hb
   ·exact .inl (.inl hb)
   ·exact .inl (.inr hb)
   ·exact .inr hb
  rcases key with hb | hb
  ·have:=bX h _ hb
   exact .inr (by rw [← hX']; exact this)
  ·exact .inl hb
 obtain ⟨γd,F',r1,r2,r3,r4,r5,r6⟩:=fC (B':=B.base) (g:=fun j=>γ' (900001+j)) (1000*(d+1)) cs 0 (by omega) hp hO1 (fun j e ag ks l hj=>by
   rw [BK];obtain ⟨q1,q2⟩:=br1 γ j e ag ks l hj;exact ⟨q1,fun b hb=>⟨.inr (q2 b hb),.inl (CE h.keep.size (hPf b (q2 b hb)).1)⟩⟩)
  (fun i j e ag ks l e' ag' ks' l' b hij q1 q2 q3 q4=>by
   rw [BK] at q3 q4;exact br2 i j e ag ks l e' ag' ks' l' b hij q1 q2 q3 q4)
 simp only [CZ,BK] at r1 r3 r4 r5 r6;have hob0:DF (EG cs) 900000=some (.box (FZ 900001 cs)):=by rw [XH h3,D5,BJ rfl]
 have hor:=h1.ob _ _ hob0;simp only [ObRel] at hor;obtain ⟨b0,c,T,hg,hh,hr⟩:=hor;have hb0P:E1 γ' (EG cs) b0:=⟨900000,_,hob0,⟨_,hg,rfl⟩⟩;have hadd:=r1.add d hd9 (.box (FZ (1000*(d+1)) cs)) (γ' 900000) (fun b hb=>by
   obtain ⟨ad,q1,q2⟩:=hb;rw [hg] at q1;simp only [CS,AC] at q1;subst q1;simp only at q2;subst q2;exact ⟨r3 b0 (.inr hb0P) (fun j e ag ks l hj hb=>br3 j e ag ks l b0 hj hb ⟨_,hob0,_,hg,rfl⟩),.inl (CE h.keep.size (hPf b0 hb0P).1)⟩)
  (fun O' hO'=>by
   simp only [ObRel];refine ⟨b0,c,T,hg,hh,v6 h3 h1 hr (fun j e ag ks l hj=>?_) (fun hal b _ hb=>hO1 b (r4 b (hO' b hb)) hal)⟩;obtain ⟨q1,q2⟩:=r5 j e ag ks l hj;refine ⟨by rw [A2 (by omega)]; exact q1,?_⟩;rw [F6,A2 (by omega),q2];rfl)
 have hfin:=hadd.shrink (F:=X.far) (fun b hb=>by
   have hlt:=h.fl b hb;refine ⟨r3 b (.inl hb) (fun j e ag ks l hj hbj=>?_),fun hbb=>?_⟩
   ·have:=hPf b ((br1 γ j e ag ks l hj).2 b hbj)
    omega
   ·obtain ⟨ad,q1,q2⟩:=hbb;rw [hg] at q1;simp only [CS,AC] at q1;subst q1;simp only at q2;subst q2
    have:=hPf b0 hb0P
    omega)
 refine ⟨x,he,_,by rw [KT,KT]; exact hfin,?_⟩;rw [KT,KT];simp only [St.ups,VRel,F6,CM];simp only [LE,D8,VRel,hob0] at h2;exact h2
theorem Pk (h:Rel B nt w0 X γ st a w) (hg:GX B w0 X) {f:FuncId} {sp:QO} (hS:Snd P B f sp) {vs:List V} {xs:List Value} (hv:VRels γ st.o w (DH X γ st.o) vs xs) (hl:E0 vs=[]) {tks:List (List Kd)} {e:Nat} {ag:Bool} {ks:List Kd} {l:LI} {out:List (List V)}
  (hsp:sp (FK st.o [] tks vs)=some (.vec e ag ks l,out)) (d:Nat) (hd9:d≠900000) :
  Does P f xs w fun e' w'=>∃ x,e' = .returned x∧∃ γ',Rel B nt w0 X γ' (st.ups (EC st.o (EF vs)++[.new d (.row true e ag ks l)])) a w' ∧
   VRel γ' (st.ups (EC st.o (EF vs)++[.new d (.row true e ag ks l)])).o w' (DH X γ' (st.ups (EC st.o (EF vs)++[.new d (.row true e ag ks l)])).o) (.row d 0 l.length) x:=by
 refine (lJ h hg hS hv hl hsp).mono ?_;rintro e' w' ⟨x,he,γ',h1,h2,h3,rfl⟩;have hmo:F5 (.vec e ag ks l) []=[(900000,some (.row true e ag ks l))]:=rfl;rw [hmo] at h1 h2;generalize hX':(⟨fun _=>False,fun b=>DH X γ st.o b∧∀ m∈EF vs,¬ RowOf γ st.o m b⟩:Zone)=X' at h1 h2;have hXo:∀ b,¬ X'.own b:=fun b hb=>by rw [← hX'] at hb; exact hb
 have hz:=(MH st.o (EF vs) (FrzLe.refl _) h).1;have hPf:∀ b,E1 γ' [(900000,some (.row true e ag ks l))] b→w.heap.size≤b∧b < w'.heap.size:=fun b hb=>by
  obtain ⟨q1,q2⟩:=h1.lt b hb;exact ⟨q2.resolve_right (hXo b),q1⟩
 have hp:=iX hz hXo h1 (fun b=>X.far b∨E1 γ' [(900000,some (.row true e ag ks l))] b) (fun b hb=>hb.imp_right (hPf b));have hO1:∀ b,DH ⟨X.own,fun b=>X.far b∨E1 γ' [(900000,some (.row true e ag ks l))] b⟩ γ (st.ups (EC st.o (EF vs))).o b→DH X' γ' [(900000,some (.row true e ag ks l))] b:=by
  intro b hb;have key:DH X γ (st.ups (EC st.o (EF vs))).o b∨E1 γ' [(900000,some (.row true e ag ks l))] b:=by
   rcases hb with hb | hb | hb
   ·exact .inl (.inl hb)
   ·exact .inl (.inr hb)
   ·exact .inr hb
  rcases key with hb | hb
  ·have:=bX h _ hb
   exact .inr (by rw [← hX']; exact this)
  ·exact .inl hb
 have hob0:DF [(900000,some (.row true e ag ks l))] 900000=some (.row true e ag ks l):=by rw [D5,BJ rfl]
 have hor:=h1.ob _ _ hob0;simp only [ObRel] at hor;obtain ⟨k1,k2,ys,k3,k4⟩:=hor;have hg0:∀ b,E2 (γ' 900000) (.row true e ag ks l) b→E1 γ' [(900000,some (.row true e ag ks l))] b:=fun b hb=>⟨900000,_,hob0,hb⟩
 have hadd:=hp.add d hd9 (.row true e ag ks l) (γ' 900000) (fun b hb=>⟨.inr (hg0 b hb),.inl (CE h.keep.size (hPf b (hg0 b hb)).1)⟩)
  (fun O' hO'=>by
   simp only [ObRel];exact ⟨k1,k2,ys,k3,fun i y hy=>Kd.RelAll.mono (Keep.refl _ w') (fun b _ hb=>hO1 b (hO' b hb)) (fun _ _ hu=>hu) (k4 i y hy)⟩)
 have hfin:=hadd.shrink (F:=X.far) (fun b hb=>by
   have hlt:=h.fl b hb;refine ⟨.inl hb,fun hbb=>?_⟩
   have:=hPf b (hg0 b hbb)
   omega)
 refine ⟨x,he,_,by rw [KT]; exact hfin,?_⟩;rw [KT];simp only [St.ups,VRel,F6,CM];simp only [LE,VRel,hob0] at h2;exact h2
theorem zgh {γ:Nat→Value} {o:Store} {w:World} {O O':Nat→Prop} (hO:∀ b,b < w.heap.size→O' b→O b) {v:V} {y:Kd × IV} {x:Value} (he:rJ v=some y) (hv:VRel γ o w O v x):Kd.Rel w O' y.1 y.2 x:=by
 cases v <;> simp only [rJ] at he <;> first | (cases he; done) | skip
 all_goals
  simp only [AC] at he;subst he;simp only [VRel] at hv
 case list ag ks l=>exact Kd.Rel.mono (Keep.refl _ w) hO hv
 all_goals
  simp only [Kd.Rel,IV.toInt,IV.toBool,IV.toStr];exact hv
theorem Jy {γ:Nat→Value} {o:Store} {w:World} {O O':Nat→Prop} (hO:∀ b,b < w.heap.size→O' b→O b) :
  ∀ {cs:List V} {y:List Kd × LI} {xs:List Value} {j:Nat} {f:Nat→IV} {R:Nat→Value→Prop},d7 cs=some y→VRels γ o w O cs xs→(∀ i,f (j+i)=J7 y.2 i)→(∀ i u,xs[i]?=some u→R (j+i) u)→Kd.RelAll w O' y.1 f j R
 | [],y,xs,j,f,R,he,hv,hf,hR=>by
  simp only [d7,AC] at he;subst he;simp only [Kd.RelAll]
 | v :: cs,y,[],j,f,R,he,hv,hf,hR=>by simp only [VRels] at hv
 | v :: cs,y,x :: xs,j,f,R,he,hv,hf,hR=>by
  simp only [d7] at he;split at he
  ·rename_i a b ha hb;simp only [AC] at he;subst he;simp only [VRels] at hv;simp only [Kd.RelAll];refine ⟨⟨x,by have:=hR 0 x rfl; simpa using this,?_⟩,Jy hO hb hv.2 (fun i=>?_) (fun i u hu=>?_)⟩
   ·have h0:=hf 0;simp only [CZ,J7] at h0;rw [h0];exact zgh hO ha hv.1
   ·rw [show j+1+i=j+(i+1) by omega,hf];rfl
   ·rw [show j+1+i=j+(i+1) by omega];exact hR (i+1) u (by simpa using hu)
  ·cases he
theorem Pq (h:Rel B nt w0 X γ st a w) {v:V} {x:Value} (hv:VRel γ st.o w (DH X γ st.o) v x) {γb:Nat→Value} {bo:Store} {O':Nat→Prop} (hO:∀ b,b < w.heap.size→O' b→DH X γ st.o b)
  (hrow:∀ m∈EN [v],∀ b,RowOf γ st.o m b→¬ O' b) (hl:∀ m∈E0.lentC [v],∀ b,EM γ st.o m b→¬ O' b):VRel γb bo w O' (D8.go (K6 st.o v)) x:=by
 by_cases hp:∃ n i c,v = .ptr n i c
 ·obtain ⟨n,i,c,rfl⟩:=hp;simp only [K6];split
  ·rename_i cs hic ho;split
   ·rename_i y hy;simp only [AG] at hic;obtain rfl:=FG.1 hic.1;obtain rfl:=FG.1 hic.2;simp only [VRel,ho] at hv;obtain ⟨_,b,hg,rfl⟩:=hv;obtain ⟨b',c,T,hg',hh,hc⟩:=h.ob n _ ho;rw [hg] at hg';simp only [CS,AC,C5,BY] at hg';subst hg';simp only [D8.go,VRel];refine ⟨b,0,rfl,hl n (by simp [E0.lentC]) b ⟨_,ho,⟨_,hg,rfl⟩⟩,?_,Jy hO hy hc (fun i=>by rw [BK]) (fun i u hu=>?_)⟩
    ·rcases C1 b w.heap.size with h1 | h1
     ·exact h1
     ·rw [Array.getElem?_eq_none h1] at hh;cases hh
    ·simp only [vay,hh,BK];simpa using hu
   ·simp only [D8.go,VRel]
  ·simp only [D8.go,VRel]
 ·have h1:K6 st.o v=HG (EB st.o [] none v):=by cases v <;> first | rfl | exact absurd ⟨_,_,_,rfl⟩ hp
  have h2:D8.go (HG (EB st.o [] none v))=HG (EB st.o [] none v):=by cases EB st.o [] none v <;> rfl
  rw [h1,h2];exact kY h hv hO hrow [] none
theorem vV (h:Rel B nt w0 X γ st a w) {γb:Nat→Value} {bo:Store} {O':Nat→Prop} (hO:∀ b,b < w.heap.size→O' b→DH X γ st.o b) :
  ∀ {l:List V} {xs:List Value},VRels γ st.o w (DH X γ st.o) l xs→(∀ m∈EN l,∀ b,RowOf γ st.o m b→¬ O' b)→(∀ m∈E0.lentC l,∀ b,EM γ st.o m b→¬ O' b) →
   VRels γb bo w O' ((l.map (K6 st.o)).map D8.go) xs
 | [],[],_,_,_=>by simp only [B6,VRels]
 | [],x :: xs,hv,_,_=>by simp only [VRels] at hv
 | v :: l,[],hv,_,_=>by simp only [VRels] at hv
 | v :: l,x :: xs,hv,hr,hl=>by
  simp only [VRels,AZ] at hv ⊢;exact ⟨Pq h hv.1 hO (fun m hm=>hr m (X7 v l m (.inl hm))) (fun m hm=>hl m (iE v l m (.inl hm))),
   vV h hO hv.2 (fun m hm=>hr m (X7 v l m (.inr hm))) (fun m hm=>hl m (iE v l m (.inr hm)))⟩
theorem Og (h:Rel B nt w0 X γ st a w) {v:V} {x:Value} (hv:VRel γ st.o w (DH X γ st.o) v x) {γb:Nat→Value} {bo:Store} {O':Nat→Prop} (hO:∀ b,b < w.heap.size→O' b→DH X γ st.o b)
  (hrow:∀ m∈JY v,∀ b,RowOf γ st.o m b→¬ O' b) (hl:∀ m∈E0 [v],∀ b,EM γ st.o m b→¬ O' b) (ks:List Kd):VRel γb bo w O' (D8 (LO st.o ks v)) x:=by
 by_cases hc:(∃ f l,v = .clo f l)∨(∃ n i c,v = .ptr n i c)
 ·rcases hc with ⟨f,l,rfl⟩ | ⟨n,i,c,rfl⟩
  ·simp only [LO,D8,VRel] at hv ⊢;obtain ⟨cs,hx,hr⟩:=hv;exact ⟨cs,hx,vV h hO hr hrow (fun m hm=>hl m (by simpa [E0] using hm))⟩
  ·simp only [LO,D8,VRel]
 ·have h1:LO st.o ks v=IR st.o [] ks v:=by cases v <;> first | rfl | exact absurd (.inl ⟨_,_,rfl⟩) hc | exact absurd (.inr ⟨_,_,_,rfl⟩) hc
  have h2:E0 [v]=[]:=by cases v <;> first | rfl | exact absurd (.inl ⟨_,_,rfl⟩) hc | exact absurd (.inr ⟨_,_,_,rfl⟩) hc
  rw [h1];exact sP h hv hO hrow (fun m hm=>by rw [h2] at hm; cases hm) [] ks
theorem sM (h:Rel B nt w0 X γ st a w) {γb:Nat→Value} {bo:Store} {O':Nat→Prop} (hO:∀ b,b < w.heap.size→O' b→DH X γ st.o b) :
  ∀ {l:List V} {tks:List (List Kd)} {xs:List Value},VRels γ st.o w (DH X γ st.o) l xs→(∀ m∈EF l,∀ b,RowOf γ st.o m b→¬ O' b)→(∀ m∈E0 l,∀ b,EM γ st.o m b→¬ O' b) →
   VRels γb bo w O' ((JI st.o tks l).map D8) xs
 | [],tks,[],_,_,_=>by cases tks <;> simp only [JI,B6,VRels]
 | [],tks,x :: xs,hv,_,_=>by simp only [VRels] at hv
 | v :: l,tks,[],hv,_,_=>by simp only [VRels] at hv
 | v :: l,tks,x :: xs,hv,hr,hl=>by
  simp only [VRels] at hv;have h1:∀ ks,VRel γb bo w O' (D8 (LO st.o ks v)) x:=fun ks=>Og h hv.1 hO (fun m hm=>hr m (by simp only [EF,AV]; exact .inl hm)) (fun m hm=>hl m (by
   cases v <;> simp_all [E0])) ks
  have h2:∀ tks,VRels γb bo w O' ((JI st.o tks l).map D8) xs:=fun tks=>sM h hO hv.2 (fun m hm=>hr m (by simp only [EF,AV]; exact .inr hm)) (fun m hm=>hl m (by
   cases v <;> simp_all [E0]))
  cases tks with
  | nil=>simp only [JI,AZ,VRels]; exact ⟨h1 _,h2 _⟩
  | cons k ks=>simp only [JI,AZ,VRels]; exact ⟨h1 _,h2 _⟩
theorem Pp (o:Store) (v:V):∀ cs,K6 o v≠.bor cs:=by
 intro cs he;by_cases hp:∃ n i c,v = .ptr n i c
 ·obtain ⟨n,i,c,rfl⟩:=hp;simp only [K6] at he;split at he
  ·split at he <;> cases he
  ·cases he
 ·have h1:K6 o v=HG (EB o [] none v):=by cases v <;> first | rfl | exact absurd ⟨_,_,_,rfl⟩ hp
  rw [h1] at he;cases hx:EB o [] none v <;> rw [hx] at he <;> simp only [HG] at he <;> cases he
theorem s8 (o:Store):∀ l:List V,FD.borC (l.map (K6 o))=none
 | []=>rfl
 | v :: r=>by
  have:=Pp o v
  simp only [AZ];cases hx:K6 o v <;> simp only [FD.borC,s8 o r]
  exact absurd hx (this _)
theorem s9 (o:Store):∀ (l:List V) (tks:List (List Kd)),FD (JI o tks l)=none
 | [],tks=>by cases tks <;> rfl
 | v :: r,tks=>by
  obtain ⟨ks,tks',he⟩:∃ ks tks',JI o tks (v :: r)=LO o ks v :: JI o tks' r:=by
   cases tks with
   | nil=>exact ⟨[],[],rfl⟩
   | cons k ks=>exact ⟨k,ks,rfl⟩
  have ih:=s9 o r tks';rw [he];by_cases hc:(∃ f l,v = .clo f l)∨(∃ n i c,v = .ptr n i c)
  ·rcases hc with ⟨f,l,rfl⟩ | ⟨n,i,c,rfl⟩
   ·simp only [LO,FD,s8,ih]
   ·simp only [LO,FD,ih]
  ·have h1:LO o ks v=IR o [] ks v:=by cases v <;> first | rfl | exact absurd (.inl ⟨_,_,rfl⟩) hc | exact absurd (.inr ⟨_,_,_,rfl⟩) hc
   have h2:E0 [v]=[]:=by cases v <;> first | rfl | exact absurd (.inl ⟨_,_,rfl⟩) hc | exact absurd (.inr ⟨_,_,_,rfl⟩) hc
   have h3:=(bH (o:=o) (bs:=[]) (l:=[v]) (tks:=[ks])).2 h2;simp only [FK] at h3;rw [h1];cases hx:IR o [] ks v <;> rw [hx] at h3 <;> simp only [FD] at h3 ⊢ <;> first | exact ih | (cases h3; done) | skip
   cases hy:FD.borC _ with
   | none=>simpa only using ih
   | some cs=>rw [hy] at h3; cases h3
theorem Pl (h:Rel B nt w0 X γ st a w) (hg:GX B w0 X) {f:FuncId} {sp:QO} (hS:Snd P B f sp) {vs:List V} {xs:List Value} (hv:VRels γ st.o w (DH X γ st.o) vs xs) {tks:List (List Kd)} {b:Bool}
  (hsp:sp (JI st.o tks vs)=some (.bool b,[])) :
  Does P f xs w fun e w'=>∃ x,e = .returned x∧∃ γ',Rel B nt w0 X γ' st a w'∧VRel γ' st.o w' (DH X γ' st.o) (.bool b) x:=by
 have hb:FD (JI st.o tks vs)=none:=s9 _ _ _;have hm:HO (JI st.o tks vs)=[]:=by simp only [HO,hb]
 generalize hX':(⟨fun _=>False,fun b=>DH X γ st.o b∧(∀ m∈EF vs,¬ RowOf γ st.o m b)∧∀ m∈E0 vs,¬ EM γ st.o m b⟩:Zone)=X';have hXo:∀ b,¬ X'.own b:=fun b hb=>by rw [← hX'] at hb; exact hb
 have hXf:∀ b,X'.far b→DH X γ st.o b∧(∀ m∈EF vs,¬ RowOf γ st.o m b)∧∀ m∈E0 vs,¬ EM γ st.o m b:=fun b hb=>by rw [← hX'] at hb; exact hb
 have hO:∀ b,DH X' γ [] b→X'.far b:=fun b hb=>by
  rcases hb with ⟨n,ob,hn,_⟩ | hb
  ·simp only [DF,EL] at hn; cases hn
  ·exact hb
 have hR:Rel B.base 0 w X' γ ⟨[],[]⟩ IQ w:=by
  refine ⟨rfl,rfl,fun i=>by simp only [St.get,EL,VRel],fun n ob hn=>?_,?_,?_,Keep.refl _ w,?_,?_,fun p hp=>by cases hp⟩
  ·simp only [DF,EL] at hn; cases hn
  ·rintro b ⟨n,ob,hn,_⟩; simp only [DF,EL] at hn; cases hn
  ·intro n m ob ob' b _ hn; simp only [DF,EL] at hn; cases hn
  ·rintro b ⟨n,ob,hn,_⟩; simp only [DF,EL] at hn; cases hn
  ·intro b hb;rcases (hXf b hb).1 with hb | hb
   ·exact (h.lt b hb).1
   ·exact h.fl b hb
 have:=hS w X' γ (JI st.o tks vs) xs (.bool b) [] hsp (h.glob hg) (fun b hb=>(hXo b hb).elim) (by rw [hm]; exact hR) (by
  rw [hm];exact sM h (fun b _ hb=>(hXf b (hO b hb)).1) hv (fun m hm b hr hb=>(hXf b (hO b hb)).2.1 m hm hr) (fun m hm b hr hb=>(hXf b (hO b hb)).2.2 m hm hr))
 refine this.mono ?_;rintro e w' ⟨x,he,γ',h1,h2,_⟩;have hp:=iX h hXo h1 X.far (fun b hb=>.inl hb);exact ⟨x,he,γ,hp,by simpa only [LE,D8,VRel] using h2⟩
end
open Go Go.RowKit
mutual
theorem VRel.leaves {γ γ':Nat→Value} {o o':Store} {w:World} {O:Nat→Prop} (h1:∀ n lo hi x,VRel γ o w O (.row n lo hi) x→VRel γ' o' w O (.row n lo hi) x) (h2:∀ n i c x,VRel γ o w O (.ptr n i c) x→VRel γ' o' w O (.ptr n i c) x)
  (h3:∀ n c cap sz len x,VRel γ o w O (.bview n c cap sz len) x→VRel γ' o' w O (.bview n c cap sz len) x):∀ {v:V} {x:Value},VRel γ o w O v x→VRel γ' o' w O v x
 | .any,_,_=>by simp only [VRel]
 | .int _ _,_,h=>by simpa only [VRel] using h
 | .bool _,_,h=>by simpa only [VRel] using h
 | .str _,_,h=>by simpa only [VRel] using h
 | .list _ _ _,_,h=>by simpa only [VRel] using h
 | .zs,_,h=>by simpa only [VRel] using h
 | .row _ _ _,_,h=>h1 _ _ _ _ h
 | .ptr _ _ _,_,h=>h2 _ _ _ _ h
 | .iptr _ _ _,_,h=>by simpa only [VRel] using h
 | .bview _ _ _ _ _,_,h=>h3 _ _ _ _ _ _ h
 | .agg l,x,h=>by
  simp only [VRel] at h ⊢;obtain ⟨cs,hx,hr⟩:=h;exact ⟨cs,hx,VRels.leaves h1 h2 h3 hr⟩
 | .tup l,x,h=>by
  simp only [VRel] at h ⊢;obtain ⟨cs,hx,hr⟩:=h;exact ⟨cs,hx,VRels.leaves h1 h2 h3 hr⟩
 | .err _,_,h=>by simpa only [VRel] using h
 | .nilp,_,h=>by simpa only [VRel] using h
 | .clo _ l,x,h=>by
  simp only [VRel] at h ⊢;obtain ⟨cs,hx,hr⟩:=h;exact ⟨cs,hx,VRels.leaves h1 h2 h3 hr⟩
 | .bor _,_,h=>by simp only [VRel] at h
 | .vec _ _ _ _,_,h=>by simp only [VRel] at h
 | .bld _,_,h=>by simp only [VRel] at h
theorem VRels.leaves {γ γ':Nat→Value} {o o':Store} {w:World} {O:Nat→Prop} (h1:∀ n lo hi x,VRel γ o w O (.row n lo hi) x→VRel γ' o' w O (.row n lo hi) x) (h2:∀ n i c x,VRel γ o w O (.ptr n i c) x→VRel γ' o' w O (.ptr n i c) x)
  (h3:∀ n c cap sz len x,VRel γ o w O (.bview n c cap sz len) x→VRel γ' o' w O (.bview n c cap sz len) x):∀ {l:List V} {xs:List Value},VRels γ o w O l xs→VRels γ' o' w O l xs
 | [],[],_=>by simp only [VRels]
 | [],_ :: _,h=>by simp only [VRels] at h
 | _ :: _,[],h=>by simp only [VRels] at h
 | v :: vs,x :: xs,h=>by
  simp only [VRels] at h ⊢;exact ⟨VRel.leaves h1 h2 h3 h.1,VRels.leaves h1 h2 h3 h.2⟩
end
section
variable {B:BT} {nt:Nat} {w0:World} {X:Zone} {γ:Nat→Value} {st st':St} {a:Act} {w:World} {P:Program} {E:Env}
theorem y6:∀ (hs:List Nat) {st:St} {X:Zone},Rel B nt w0 X γ st a w →
  Rel B nt w0 ⟨X.own,fun b=>X.far b∨∃ m∈hs,EM γ st.o m b⟩ γ (st.ups (LA hs)) a w∧(st.ups (LA hs)).t=st.t∧∀ m,DF (st.ups (LA hs)).o m=if m∈hs then none else DF st.o m
 | [],st,X,h=>⟨h.shrink (fun b hb=>by simpa using hb),rfl,fun m=>by simp [LA,St.ups]⟩
 | n :: r,st,X,h=>by
  obtain ⟨h1,h2,h3⟩:=y6 r (h.kill n);have hob:∀ m,DF (st.up (.kill n)).o m=if n=m then none else DF st.o m:=fun m=>by simp only [St.up,D5]
  refine ⟨?_,h2,fun m=>?_⟩
  ·simp only [LA,St.ups];refine h1.shrink (fun b hb=>?_);rcases hb with hb | ⟨m,hm,hb⟩
   ·exact .inl (.inl hb)
   ·by_cases e:n=m
    ·subst e;exact .inl (.inr hb)
    ·rcases AX.1 hm with h4 | h4
     ·exact absurd h4.symm e
     ·obtain ⟨ob,p1,p2⟩:=hb;exact .inr ⟨m,h4,ob,by rw [hob,A2 e]; exact p1,p2⟩
  ·simp only [LA,St.ups];rw [h3,hob];by_cases h4:m∈r
   ·simp [h4]
   ·by_cases h5:n=m
    ·subst h5;simp
    ·have:¬ m=n:=fun e=>h5 e.symm
     simp [h4,h5,this]
theorem yJ (h:Rel B nt w0 X γ st a w) (ns:List Nat) {n:Nat} {ob:Ob} (ho:DF st.o n=some ob) (hb:∀ e ag ks l,ob≠.row true e ag ks l):DF (st.ups (EC st.o ns)).o n=some ob:=by
 obtain ⟨_,h2,_⟩:=MH st.o ns (FrzLe.refl _) h;rcases h2 n with h3 | ⟨e,ag,ks,l,h3,_⟩
 ·rw [h3,ho]
 ·rw [ho,AC] at h3;exact absurd h3 (hb _ _ _ _)
theorem Rel.boundB (h:Rel B nt w0 X γ st a w) {n:Nat} {s:BA} (ho:DF st.o n=some (.bld s)) {w1:World} {own1 F:Nat→Prop} (hk:Keep own1 w1 w)
  (hF:∀ b,F b→DH X γ st.o b∧¬ EM γ st.o n b) (hown:∀ b,EM γ st.o n b→w1.heap.size≤b∨own1 b) :
  Rel B.base 0 w1 ⟨own1,F⟩ (fun _=>γ n) ⟨[],EG [.bld s]⟩ IQ w∧∀ b,E1 (fun _=>γ n) (EG [.bld s]) b→EM γ st.o n b:=by
 have hP:∀ b,E1 (fun _=>γ n) (EG [.bld s]) b→EM γ st.o n b:=by
  rintro b ⟨m,ob,hm,hb⟩;simp only [EG] at hm;rw [D5] at hm;split at hm
  ·simp only [AC] at hm;subst hm;exact ⟨_,ho,hb⟩
  ·simp only [DF,EL] at hm; cases hm
 refine ⟨⟨rfl,rfl,fun i=>by simp only [St.get,EL,VRel],fun m ob hm=>?_,fun b hb=>?_,?_,hk,?_,?_,fun p hp=>by cases hp⟩,hP⟩
 ·simp only [EG] at hm;rw [D5] at hm;split at hm
  ·simp only [AC] at hm;subst hm
   have:=h.ob n _ ho
   simpa only [ObRel,BT.base] using this
  ·simp only [DF,EL] at hm; cases hm
 ·obtain ⟨ob,h1,h2⟩:=hP b hb;exact ⟨(h.lt b ⟨n,ob,h1,h2⟩).1,hown b (hP b hb)⟩
 ·intro m1 m2 ob1 ob2 b hne h1 h2 _ _;simp only [EG] at h1 h2;rw [D5] at h1 h2;split at h1
  ·split at h2
   ·omega
   ·simp only [DF,EL] at h2; cases h2
  ·simp only [DF,EL] at h1; cases h1
 ·intro b hb hf;exact (hF b hf).2 (hP b hb)
 ·intro b hb;rcases (hF b hb).1 with h1 | h1
  ·exact (h.lt b h1).1
  ·exact h.fl b h1
theorem Pg (h:Rel B nt w0 X γ st a w) (hg:GX B w0 X) {f:FuncId} {sp:QO} (hS:Snd P B f sp) {vs:List V} {xs:List Value} (hv:VRels γ st.o w (DH X γ st.o) vs xs) {n:Nat} (hl:E0 vs=[n]) {s s':BA} (ho:DF st.o n=some (.bld s))
  {tks:List (List Kd)} {v:V} (hsp:sp (FK st.o [.bld s] tks vs)=some (v,[[.bld s']])) (hib:gZ (FD (FK st.o [.bld s] tks vs))=true) :
  Does P f xs w fun e w'=>∃ x,e = .returned x∧∃ γ',Rel B nt w0 X γ' (st.ups (EC st.o (match HN v with | true=>EF vs | false=>[])++[.set n (.bld s')])) a w' ∧
   VRel γ' (st.ups (EC st.o (match HN v with | true=>EF vs | false=>[])++[.set n (.bld s')])).o w' (DH X γ' (st.ups (EC st.o (match HN v with | true=>EF vs | false=>[])++[.set n (.bld s')])).o) v x:=by
 have hL:∀ b,EM γ st.o n b→w.heap.size≤b∨EM γ st.o n b:=fun b hb=>.inr hb
 obtain ⟨hR,hP⟩:=h.boundB ho (w1:=w) (own1:=EM γ st.o n) (F:=fun b=>DH X γ st.o b∧¬ EM γ st.o n b∧∀ m∈EF vs,¬ RowOf γ st.o m b) (Keep.refl _ w) (fun b hb=>⟨hb.1,hb.2.1⟩) hL;generalize hX':(⟨EM γ st.o n,fun b=>DH X γ st.o b∧¬ EM γ st.o n b∧∀ m∈EF vs,¬ RowOf γ st.o m b⟩:Zone)=X' at hR;have hXf:∀ b,X'.far b↔(DH X γ st.o b∧¬ EM γ st.o n b∧∀ m∈EF vs,¬ RowOf γ st.o m b):=fun b=>by rw [← hX']
 have hXo:∀ b,X'.own b↔EM γ st.o n b:=fun b=>by rw [← hX']
 have hnP:∀ b,EM γ st.o n b→E1 γ st.o b:=fun b ⟨ob,h1,h2⟩=>⟨n,ob,h1,h2⟩
 rcases (bH (o:=st.o) (bs:=[.bld s]) (l:=vs) (tks:=tks)).1 with hb | hb
 ·rw [hb] at hib;cases hib
 ·have hm:HO (FK st.o [.bld s] tks vs)=EG [.bld s]:=by simp only [HO,hb]
  have hcall:=hS w X' (fun _=>γ n) (FK st.o [.bld s] tks vs) xs v [[.bld s']] hsp (h.glob hg) (fun b hb=>h.high hg (hnP b ((hXo b).1 hb))) (by rw [hm]; exact hR) (by
   rw [hm];refine fH h (fun b _ hb=>?_) [.bld s] hv (fun m hm b hr hb=>?_) (fun m hm=>?_)
   ·rcases hb with hb | hb
    ·exact .inl (hnP b (hP b hb))
    ·exact ((hXf b).1 hb).1
   ·rcases hb with hb | hb
    ·obtain ⟨e,ag,ks,l,h5,h6⟩:=hr;obtain ⟨ob,h7,h8⟩:=hP b hb;have hne:n≠m:=by
      rintro rfl;rw [ho] at h5;cases h5
     exact h.dis n m ob _ b hne h7 h5 h8 h6
    ·exact ((hXf b).1 hb).2.2 m hm hr
   ·rw [hl] at hm;simp only [A4] at hm;subst hm;exact ⟨rfl,.inr ⟨s,s,ho,by simp [EG,D5]⟩⟩)
  refine hcall.mono ?_;rintro e w' ⟨x,he,γ',h1,h2,h3⟩;simp only [J0,hb] at h3;obtain ⟨hf,_,had⟩:=h3;have hmo:F5 v [[.bld s']]=EG [.bld s']:=by cases v <;> rfl
  rw [hmo] at h1 h2;rw [S0 hf] at h2;refine ⟨x,he,?_⟩;generalize hF0:(match HN v with | true=>EF vs | false=>[])=F0;have hz:=(MH st.o F0 (FrzLe.refl _) h).1;have hon:=yJ h F0 ho (fun _ _ _ _=>by simp);have hob0:DF (EG [.bld s']) 900000=some (.bld s'):=by simp [EG,D5]
  have hor:=h1.ob _ _ hob0;have hor0:=h.ob _ _ ho;simp only [ObRel] at hor hor0;obtain ⟨b1,v1,p1,hg1,_⟩:=hor;obtain ⟨b0,v0,p0,hg0,_⟩:=hor0;have hbb:b1=b0:=by
   rw [hg1,hg0] at had;simpa [QP] using had
  subst hbb;have hbl:∀ b,EM γ (st.ups (EC st.o F0)).o n b↔EM γ st.o n b:=fun b=>by simp only [EM,hon,ho]
  have hOP:∀ b,E2 (γ' 900000) (.bld s') b→E1 γ' (EG [.bld s']) b:=fun b hb=>⟨_,_,hob0,hb⟩
  have hsz:=h1.keep.size;have hlend:=hz.lend (n:=n) (ob':=.bld s') (g':=γ' 900000) hon had h1.keep (K:=X'.own) (fun b _ hb=>.inl ((hbl b).2 ((hXo b).1 hb)))
   (fun b hb=>by
    obtain ⟨q1,q2⟩:=h1.lt b (hOP b hb);exact ⟨q1,q2.elim .inr (fun hb=>.inl ((hbl b).2 ((hXo b).1 hb)))⟩)
   (fun O v x hvx=>VRel.leaves (fun m lo hi x hx=>by
     simp only [VRel] at hx ⊢;rw [D5];by_cases e:n=m
     ·subst e; simp only [CM]
     ·simp only [A2 e]; exact hx) (fun m i c x hx=>by
     simp only [VRel] at hx ⊢;rw [D5];by_cases e:n=m
     ·subst e;simp only [CM];rw [hon] at hx;obtain ⟨rfl,b,v',hg,hxx⟩:=hx;rw [hg0] at hg;simp only [Value.tuple.injEq,Array.mk.injEq,va7,CS,AC,C5,BY] at hg;refine ⟨rfl,b1,v1,hg1,?_⟩;rw [hxx,hg.1]
     ·simp only [A2 e]; exact hx) (fun m c cap sz len x hx=>by
     simp only [VRel] at hx ⊢;rw [D5];by_cases e:n=m
     ·subst e; simp only [CM]
     ·simp only [A2 e]; exact hx) hvx)
   (by
    have hor:=h1.ob _ _ hob0;simpa only [ObRel,BT.base] using hor)
  have hfin:=hlend.shrink (F:=X.far) (fun b hb=>⟨.inl hb,fun hbb=>by
   obtain ⟨q1,q2⟩:=h1.lt b (hOP b hbb)
   have:=h.fl b hb
   rcases q2 with q2 | q2
   ·omega
   ·exact h.nr b (hnP b ((hXo b).1 q2)) hb⟩)
  refine ⟨_,by rw [KT]; exact hfin,?_⟩;rw [KT];refine mW hf (fun hhl b hlt hb=>?_) h2;rw [hhl] at hF0;simp only at hF0;rcases hb with ⟨m,ob,hm,hbm⟩ | hb
  ·simp only [St.ups,St.up] at hm;rw [D5] at hm;by_cases e:n=m
   ·subst e;simp only [CM,AC] at hm hbm;subst hm;exact .inl (hOP b hbm)
   ·simp only [A2 e] at hm hbm;obtain ⟨q1,q2⟩:=bX h F0 (b:=b) (.inl ⟨m,ob,hm,hbm⟩);refine .inr ((hXf b).2 ⟨q1,fun hbn=>?_,by rw [hF0]; exact q2⟩);obtain ⟨ob2,q3,q4⟩:=(hbl b).2 hbn;exact hz.dis n m ob2 ob b e q3 hm q4 hbm
  ·refine .inr ((hXf b).2 ⟨.inr hb,fun hbn=>h.nr b (hnP b hbn) hb,fun m _ ⟨e,ag,ks,l,q1,q2⟩=>h.nr b ⟨m,_,q1,q2⟩ hb⟩)
theorem jI {o:Store} {all:List Nat} {n:Nat}:∀ {cs:List V},n∈G9 o all cs→∃ lo hi own e ag ks l,.row n lo hi∈cs∧DF o n=some (.row own e ag ks l)∧(own&&(BM lo 0&&BM (G7 n all) 1))=false
 | [],h=>by simp [G9] at h
 | v :: r,h=>by
  have up:n∈G9 o all r→∃ lo hi own e ag ks l,.row n lo hi∈v :: r∧DF o n=some (.row own e ag ks l)∧(own&&(BM lo 0&&BM (G7 n all) 1))=false:=fun h'=>by
   obtain ⟨lo,hi,own,e,ag,ks,l,h1,h2,h3⟩:=jI h';exact ⟨lo,hi,own,e,ag,ks,l,AW _ h1,h2,h3⟩
  cases v
  case row m lo hi=>
   simp only [G9] at h;split at h
   ·rename_i own e ag ks l hob;split at h
    ·exact up h
    ·rename_i hb;rcases AX.1 h with h1 | h1
     ·subst h1;exact ⟨lo,hi,own,e,ag,ks,l,AU ..,hob,hb⟩
     ·exact up h1
   ·exact up h
  all_goals exact up h
theorem Ph (h:Rel B nt w0 X γ st a w) (hg:GX B w0 X) {f:FuncId} {sp:QO} (hS:Snd P B f sp) {vs:List V} {xs:List Value} (hv:VRels γ st.o w (DH X γ st.o) vs xs) {n:Nat} (hl:E0 vs=[n]) {cs:List V} (ho:DF st.o n=some (.box cs)) {all:List Nat} (hall:EN cs++EF vs=all)
  {tks:List (List Kd)} {v:V} {out:List V} (hsp:sp (FK st.o (cs.map (E7 st.o all)) tks vs)=some (v,[out])) (hib:gZ (FD (FK st.o (cs.map (E7 st.o all)) tks vs))=true) {nm:Nat} (hlen:out.length=cs.length) (hnm:n < nm∨nm+out.length≤n) (hn9:nm+out.length≤900000) :
  Does P f xs w fun e w'=>∃ x,e = .returned x∧∃ γ',Rel B nt w0 X γ' (st.ups (EC st.o (G9 st.o all cs++(match HN v||HL out with | true=>EF vs | false=>[])) ++
     (LA (GJ st.o all cs)++(.set n (.box (MZ cs)) :: (JJ nm out++[.set n (.box (FZ nm out))]))))) a w' ∧
   VRel γ' (st.ups (EC st.o (G9 st.o all cs++(match HN v||HL out with | true=>EF vs | false=>[])) ++
     (LA (GJ st.o all cs)++(.set n (.box (MZ cs)) :: (JJ nm out++[.set n (.box (FZ nm out))]))))).o w' (DH X γ' (st.ups (EC st.o (G9 st.o all cs++(match HN v||HL out with | true=>EF vs | false=>[])) ++
     (LA (GJ st.o all cs)++(.set n (.box (MZ cs)) :: (JJ nm out++[.set n (.box (FZ nm out))]))))).o) v x:=by
 let L:Nat→Prop:=fun b=>EM γ st.o n b∨∃ m∈GJ st.o all cs,EM γ st.o m b
 have hLP:∀ b,L b→E1 γ st.o b:=by
  rintro b (⟨ob,h1,h2⟩ | ⟨m,_,ob,h1,h2⟩)
  ·exact ⟨n,ob,h1,h2⟩
  ·exact ⟨m,ob,h1,h2⟩
 have hbound:=h.bound ho (EF vs) (w1:=w) (own1:=L) (F:=fun b=>DH X γ st.o b∧¬ L b∧(∀ m∈G9 st.o all cs,¬ EM γ st.o m b)∧∀ m∈EF vs,¬ RowOf γ st.o m b) (Keep.refl _ w)
  (fun b hb=>⟨hb.1,fun h1=>hb.2.1 (.inl h1),fun m hm h1=>hb.2.1 (.inr ⟨m,by rw [← hall]; exact hm,h1⟩),by rw [hall]; exact hb.2.2.1⟩) (fun b hb=>.inr (by rw [hall] at hb; exact hb))
 rw [hall] at hbound;obtain ⟨γb,hR,hg0,hP⟩:=hbound;generalize hX':(⟨L,fun b=>DH X γ st.o b∧¬ L b∧(∀ m∈G9 st.o all cs,¬ EM γ st.o m b)∧∀ m∈EF vs,¬ RowOf γ st.o m b⟩:Zone)=X' at hR;have hXf:∀ b,X'.far b↔(DH X γ st.o b∧¬ L b∧(∀ m∈G9 st.o all cs,¬ EM γ st.o m b)∧∀ m∈EF vs,¬ RowOf γ st.o m b):=fun b=>by rw [← hX']
 have hXo:∀ b,X'.own b↔L b:=fun b=>by rw [← hX']
 have hb:FD (FK st.o (cs.map (E7 st.o all)) tks vs)=some (cs.map (E7 st.o all)):=by
  rcases (bH (o:=st.o) (bs:=cs.map (E7 st.o all)) (l:=vs) (tks:=tks)).1 with hb | hb
  ·rw [hb] at hib; cases hib
  ·exact hb
 have hm:HO (FK st.o (cs.map (E7 st.o all)) tks vs)=EG (cs.map (E7 st.o all)):=by simp only [HO,hb]
 have hargs:∀ m∈EF vs,∀ b,RowOf γ st.o m b→¬ L b:=by
  intro m hm b hr hLb;obtain ⟨e,ag,ks,l,h5,h6⟩:=hr;rcases hLb with ⟨ob,h7,h8⟩ | ⟨m2,h9,ob,h7,h8⟩
  ·have hne:n≠m:=by
    rintro rfl;rw [ho] at h5;cases h5
   exact h.dis n m ob _ b hne h7 h5 h8 h6
  ·by_cases hne:m2=m
   ·subst hne;obtain ⟨hi2,e2,ag2,ks2,l2,k1,k2,k3⟩:=Q2.1 h9;rw [← hall,SQ] at k3;have q1:=SR (VM k1);have q2:=SR hm;omega
   ·exact h.dis m2 m ob _ b hne h7 h5 h8 h6
 have hok0:∀ v,P3 (E7 st.o all v)=true:=by
  intro v;rcases bL st.o all v with ⟨_,_,_,_,_,_,_,_,_,h1⟩ | ⟨h1,_⟩
  ·rw [h1]; rfl
  ·cases hcc:E7 st.o all v <;> first | rfl | (rw [hcc] at h1; cases h1)
 have hcall:=hS w X' γb (FK st.o (cs.map (E7 st.o all)) tks vs) xs v [out] hsp (h.glob hg) (fun b hb=>h.high hg (hLP b ((hXo b).1 hb))) (by rw [hm]; exact hR) (by
  rw [hm];refine fH h (fun b _ hb=>?_) _ hv (fun m hm b hr hb=>?_) (fun m hm=>?_)
  ·rcases hb with hb | hb
   ·exact .inl (hLP b (hP b hb))
   ·exact ((hXf b).1 hb).1
  ·rcases hb with hb | hb
   ·exact hargs m hm b hr (hP b hb)
   ·exact ((hXf b).1 hb).2.2.2 m hm hr
  ·rw [hl] at hm;simp only [A4] at hm;subst hm;exact ⟨hg0,.inl ⟨cs,_,ho,by rw [XH (CN.2 (fun v hv=>by obtain ⟨u,_,rfl⟩:=vao.1 hv; exact hok0 u)),D5,BJ rfl]⟩⟩)
 refine hcall.mono ?_;rintro e w' ⟨x,he,γ',h1,h2,h3⟩;simp only [J0,hb] at h3;obtain ⟨hf,hsk,had⟩:=h3;have hok:out.all P3=true:=by
  unfold pS at hsk;split at hsk
  ·rename_i s s' hcs;cases cs with
   | nil=>simp at hcs
   | cons u r=>
    simp only [AZ,va7] at hcs
    have:=hok0 u
    rw [hcs.1] at this;cases this
  ·cases hsk
  ·exact hsk
 have hmo:F5 v [out]=EG out:=by cases v <;> rfl
 rw [hmo] at h1 h2;rw [S0 hf] at h2;refine ⟨x,he,?_⟩;generalize hF0:G9 st.o all cs++(match HN v||HL out with | true=>EF vs | false=>[])=F0;have hz:=(MH st.o F0 (FrzLe.refl _) h).1;have hzf:=(MH st.o F0 (FrzLe.refl _) h).2.1;have hon:=yJ h F0 ho (fun _ _ _ _=>by simp);obtain ⟨hk,hkt,hko⟩:=y6 (GJ st.o all cs) hz;have hnh:n ∉ GJ st.o all cs:=by
  intro hn;obtain ⟨_,_,_,_,_,_,q,_⟩:=Q2.1 hn;rw [ho] at q;cases q
 have hon2:DF ((st.ups (EC st.o F0)).ups (LA (GJ st.o all cs))).o n=some (.box cs):=by rw [hko,A2 hnh]; exact hon
 have hor0:=h.ob _ _ ho;simp only [ObRel] at hor0;obtain ⟨b0,c0,T0,hgn,hh0,hr0⟩:=hor0;have hob0:DF (EG out) 900000=some (.box (FZ 900001 out)):=by rw [XH hok,D5,BJ rfl]
 have hor:=h1.ob _ _ hob0;simp only [ObRel] at hor;obtain ⟨b1,c,T,hg,hh,hr⟩:=hor;have hbb:b1=b0:=by
  rw [hg,hg0,hgn] at had;simpa [QP] using had
 subst hbb;have hg':γ' 900000=γ n:=by rw [hg,hgn]
 have hsz:=h1.keep.size;have hbn:∀ b,EM γ st.o n b↔b=b1:=by
  intro b;constructor
  ·rintro ⟨ob,h5,h6⟩;rw [ho] at h5;cases h5;obtain ⟨ad,h7,h8⟩:=h6;rw [hgn] at h7;cases h7;exact h8.symm
  ·rintro rfl;exact ⟨_,ho,_,hgn,rfl⟩
 have hbn2:∀ b,EM γ ((st.ups (EC st.o F0)).ups (LA (GJ st.o all cs))).o n b↔b=b1:=by
  intro b;rw [← hbn b];simp only [EM,hon2,ho]
 have hbx:∀ l b,E2 (γ n) (.box l) b↔b=b1:=by
  intro l b;rw [← hbn b];simp only [EM,ho,AC,exists_eq_left',E2]
 have hhb:∀ m∈GJ st.o all cs,∀ b,EM γ st.o m b→EM γ (st.ups (EC st.o F0)).o m b:=by
  rintro m hm b ⟨ob,h5,h6⟩;obtain ⟨hi2,e2,ag2,ks2,l2,k1,k2,k3⟩:=Q2.1 hm;refine ⟨ob,?_,h6⟩;rw [(MH st.o F0 (FrzLe.refl _) h).2.2.2.2 m ?_]
  ·exact h5
  ·intro hmF;rw [← hF0] at hmF;rcases AV.1 hmF with h7 | h7
   ·obtain ⟨lo3,hi3,own3,e3,ag3,ks3,l3,q1,q2,q3⟩:=jI h7;obtain ⟨i1,hi1⟩:=List.mem_iff_getElem?.1 k1;obtain ⟨i2,hi2⟩:=List.mem_iff_getElem?.1 q1;rw [← hall,SQ] at k3;rcases Nat.lt_trichotomy i1 i2 with hlt | hlt | hlt
    ·have:=VQ hlt hi1 hi2
     omega
    ·subst hlt;rw [hi1] at hi2;simp only [AC,V.row.injEq,vba] at hi2;obtain ⟨rfl,rfl⟩:=hi2;rw [k2] at q2;simp only [AC,Ob.row.injEq] at q2;obtain ⟨rfl,_⟩:=q2;rw [← hall,SQ,k3] at q3;simp at q3
    ·have:=VQ hlt hi2 hi1
     omega
   ·have q1:m∈EF vs:=by
     split at h7
     ·exact h7
     ·cases h7
    rw [← hall,SQ] at k3
    have:=SR (VM k1)
    have:=SR q1
    omega
 have hlend:=hk.lend (n:=n) (ob':=.box (MZ cs)) (g':=γ n) hon2 rfl h1.keep (K:=X'.own)
  (fun b hlt hb=>by
   have hLb:=(hXo b).1 hb;rcases hLb with h5 | ⟨m,h6,h7⟩
   ·exact .inl ((hbn2 b).2 ((hbn b).1 h5))
   ·refine .inr ⟨.inr ⟨m,h6,hhb m h6 b h7⟩,?_⟩;exact (h.lt b (hLP b (.inr ⟨m,h6,h7⟩))).2)
  (fun b hb=>by
   have:=(hbx _ b).1 hb
   subst this;exact ⟨CU (h.lt _ ⟨n,_,ho,(hbx _ _).2 rfl⟩).1 hsz,.inl ((hbn2 _).2 rfl)⟩)
  (fun O v x hvx=>by
   refine VRel.cmp ?_ hvx;intro m ob1 hm;refine ⟨by by_cases e:n=m <;> simp [e],?_⟩;rw [D5] at hm;by_cases e:n=m
   ·subst e;simp only [CM,AC] at hm;subst hm;exact ⟨_,hon2,by simp [Ob.fits,WX]⟩
   ·rw [A2 e] at hm;exact ⟨ob1,hm,ob1.fits_refl⟩)
  (by
   simp only [ObRel];refine ⟨b1,c,T,hgn,hh,?_⟩;have hcl:=hr.length;rw [WZ,hlen] at hcl;refine VRels.of_get (by rw [WX,B9,hcl]) (fun j v x hv hx=>?_);rw [WX,B8] at hv;cases hcj:cs[j]? with
   | none=>rw [hcj] at hv; cases hv
   | some u=>
    rw [hcj] at hv;simp only [vaH,AC] at hv;subst hv;simp only [VRel])
 obtain ⟨br1,br2,br3⟩:=sS hok h1;have hPf:∀ b,E1 γ' (EG out) b→(w.heap.size≤b∧b < w'.heap.size)∨L b:=fun b hb=>by
  obtain ⟨q1,q2⟩:=h1.lt b hb;rcases q2 with q2 | q2
  ·exact .inl ⟨q2,q1⟩
  ·exact .inr ((hXo b).1 q2)
 have hb1P:E1 γ' (EG out) b1:=⟨900000,_,hob0,⟨_,hg,rfl⟩⟩;have hLb1:L b1:=.inl ((hbn b1).2 rfl);have hsh:=hlend.shrink (F:=fun b=>(X.far b∨E1 γ' (EG out) b)∧b≠b1) (fun b hb=>by
  refine ⟨?_,fun hbb=>hb.2 ((hbx _ b).1 hbb)⟩;rcases hb.1 with h5 | h5
  ·exact .inl (.inl h5)
  ·rcases hPf b h5 with h6 | h6 | ⟨m,h6,h7⟩
   ·exact .inr h6
   ·exact absurd ((hbn b).1 h6) hb.2
   ·exact .inl (.inr ⟨m,h6,hhb m h6 b h7⟩))
 have hfarX:∀ b,X.far b→X'.far b:=fun b hb=>(hXf b).2 ⟨.inr hb,fun hL=>h.nr b (hLP b hL) hb,fun m _ ⟨ob,q1,q2⟩=>h.nr b ⟨m,ob,q1,q2⟩ hb,fun m _ ⟨e,ag,ks,l,q1,q2⟩=>h.nr b ⟨m,_,q1,q2⟩ hb⟩
 have hO1:∀ b,DH ⟨X.own,fun b=>(X.far b∨E1 γ' (EG out) b)∧b≠b1⟩ (fun m=>if n=m then γ n else γ m) (((st.ups (EC st.o F0)).ups (LA (GJ st.o all cs))).up (.set n (.box (MZ cs)))).o b →
   ((HN v||HL out)=true→DH X' γ' (EG out) b):=by
  intro b hb hflag;rcases hb with ⟨m,ob,hm,hbm⟩ | ⟨hb | hb,_⟩
  ·simp only [St.up] at hm;rw [D5] at hm;by_cases e:n=m
   ·subst e;simp only [CM,AC] at hm hbm;subst hm
    have:=(hbx _ b).1 hbm
    subst this;exact .inl hb1P
   ·simp only [A2 e] at hm hbm;rw [hko] at hm;split at hm
    ·cases hm
    rename_i hmh;obtain ⟨q1,q2⟩:=bX h F0 (b:=b) (.inl ⟨m,ob,hm,hbm⟩);refine .inr ((hXf b).2 ⟨q1,fun hL=>?_,fun m' hm' hbl=>?_,fun m' hm'=>?_⟩)
    ·rcases hL with h5 | ⟨m2,h5,h6⟩
     ·obtain ⟨ob2,q3,q4⟩:EM γ (st.ups (EC st.o F0)).o n b:=⟨_,hon,(hbx _ b).2 ((hbn b).1 h5)⟩;exact hz.dis n m ob2 ob b e q3 hm q4 hbm
     ·obtain ⟨ob2,q3,q4⟩:=hhb m2 h5 b h6;exact hz.dis m2 m ob2 ob b (fun e=>hmh (e ▸ h5)) q3 hm q4 hbm
    ·obtain ⟨lo3,hi3,own3,e3,ag3,ks3,l3,p1,p2,p3⟩:=jI hm';obtain ⟨ob2,q3,q4⟩:=hbl;rw [p2,AC] at q3;subst q3;cases own3 with
     | false=>exact q4.elim
     | true=>exact q2 m' (by rw [← hF0]; exact vaI _ hm') ⟨e3,ag3,ks3,l3,p2,q4⟩
    ·refine q2 m' ?_;rw [← hF0,hflag];exact vaD _ hm'
  ·exact .inr (hfarX b hb)
  ·exact .inl hb
 have hrows:=fC (B':=B.base) (O1:=fun b=>HL out=true→DH X' γ' (EG out) b) (g:=fun j=>γ' (900001+j)) nm out 0 (by omega) hsh (fun b hb hal=>hO1 b hb (by simp [hal])) (fun j e ag ks l hj=>by
   rw [BK];obtain ⟨q1,q2⟩:=br1 (fun m=>if n=m then γ n else γ m) j e ag ks l hj;refine ⟨q1,fun b hb=>⟨⟨.inr (q2 b hb),?_⟩,?_⟩⟩
   ·rintro rfl;exact br3 j e ag ks l _ hj hb ⟨_,hob0,_,hg,rfl⟩
   ·rcases hPf b (q2 b hb) with h5 | h5
    ·exact .inl (CE h.keep.size h5.1)
    ·exact (h.lt b (hLP b h5)).2)
  (fun i j e ag ks l e' ag' ks' l' b hij q1 q2 q3 q4=>by
   rw [BK] at q3 q4;exact br2 i j e ag ks l e' ag' ks' l' b hij q1 q2 q3 q4)
 obtain ⟨γ4,F4,r1,r2,r3,r4,r5,r6⟩:=hrows;simp only [CZ,BK] at r1 r3 r4 r5 r6;obtain ⟨hγn,hobn,_⟩:=r6 n hnm;have hon4:=hobn cs (by simp only [St.up,D5,CM]);simp only [CM] at hγn;have hset:=r1.set (n:=n) (ob':=.box (FZ nm out)) hon4 (by simp only [Ob.fits,WX,B9,WZ,hlen]) (Keep.refl _ w') (fun b hb=>hb) (fun hown hcmp=>by
  simp only [ObRel];refine ⟨b1,c,T,by rw [hγn,hgn],hh,v6 hok h1 hr (fun j e ag ks l hj=>?_) (fun hal b _ hb=>hO1 b (r4 b (hown b hb)) (by simp [hal]))⟩;obtain ⟨q1,q2⟩:=r5 j e ag ks l hj;refine ⟨q1,?_⟩;have hjl:j < out.length:=by
   rcases C1 j out.length with h' | h'
   ·exact h'
   ·rw [BU h'] at hj; cases hj
  rw [D5,A2 (by omega)];exact q2)
 have hfin:=hset.shrink (F:=X.far) (fun b hb=>by
  refine r3 b ⟨.inl hb,fun e=>h.nr b (hLP b (e ▸ hLb1)) hb⟩ (fun j e ag ks l hj hbj=>?_);rcases hPf b ((br1 γ j e ag ks l hj).2 b hbj) with h5 | h5
  ·have:=h.fl b hb
   omega
  ·exact h.nr b (hLP b h5) hb)
 have hst:(st.ups (EC st.o F0++(LA (GJ st.o all cs)++(.set n (.box (MZ cs)) :: (JJ nm out++[.set n (.box (FZ nm out))]))))) =
   (((((st.ups (EC st.o F0)).ups (LA (GJ st.o all cs))).up (.set n (.box (MZ cs)))).ups (JJ nm out)).up (.set n (.box (FZ nm out)))):=by
  rw [KT,KT];simp only [St.ups];rw [KT];rfl
 rw [hst];refine ⟨_,hfin,mW hf (fun hhl b _ hb=>?_) h2⟩;rcases hb with ⟨m,ob,hm,hbm⟩ | hb
 ·simp only [St.up] at hm;rw [D5] at hm;refine hO1 b (r4 b (.inl ?_)) (by simp [hhl]);by_cases e:n=m
  ·subst e;simp only [CM,AC] at hm;subst hm;exact ⟨n,_,hon4,hbm⟩
  ·rw [A2 e] at hm;exact ⟨m,ob,hm,hbm⟩
 ·exact .inr (hfarX b hb)
end
open Go Go.RowKit
section
variable {B:BT} {nt:Nat} {w0:World} {X:Zone} {γ:Nat→Value} {st st':St} {a:Act} {w:World} {P:Program} {E:Env}
theorem vU (h:Rel B nt w0 X γ st a w) (hg:GX B w0 X) {f:FuncId} {sp:DK} (hS:Snd P B f (fun vs=>(sp vs).get)) {vs:List V} {xs:List Value} (hv:VRels γ st.o w (DH X γ st.o) vs xs) {d:Nat} (hd9:d≠900000) {tks:List (List Kd)} {v:V} {us:List Upd} (he:(SE st.o d tks sp vs).get=some (v,us)) :
  Does P f xs w fun e w'=>∃ x,e = .returned x∧∃ γ',Rel B nt w0 X γ' (st.ups us) a w'∧VRel γ' (st.ups us).o w' (DH X γ' (st.ups us).o) v x:=by
 unfold SE at he;split at he
 ·rename_i hl;obtain ⟨r,out,hsp,he⟩:=R.toT_get he;unfold bC at he;split at he
  ·split at he
   ·rename_i cs;split at he
    ·rename_i hc;simp only [T.get,AC,AS] at he;obtain ⟨rfl,rfl⟩:=he;exact Pi h hg hS hv hl hsp d hd9 (AN hc)
    ·simp [T.get] at he
   ·simp only [T.get,AC,AS] at he;obtain ⟨rfl,rfl⟩:=he;exact Pk h hg hS hv hl hsp d hd9
   ·rename_i hnb hnv;simp only [T.get,AC,AS] at he;obtain ⟨rfl,rfl⟩:=he;exact Pj h hg hS hv hl hsp hnb hnv
  ·simp [T.get] at he
 ·rename_i n hl;split at he
  ·rename_i cs ho;split at he
   ·rename_i hib;obtain ⟨r,outs,hsp,he⟩:=R.toT_get he;unfold bB at he;split at he
    ·split at he
     ·rename_i hc;simp only [T.get,AC,AS] at he;obtain ⟨rfl,rfl⟩:=he;simp only [AG,vaT] at hc;refine Ph h hg hS hv hl ho rfl hsp hib (FG.1 hc.1) (hc.2.1.imp (fun h=>AN h) (fun h=>AN h)) (AN hc.2.2)
     ·simp [T.get] at he
    ·simp [T.get] at he
   ·simp [T.get] at he
  ·rename_i s ho;split at he
   ·rename_i hib;obtain ⟨r,outs,hsp,he⟩:=R.toT_get he;unfold bA at he;split at he
    ·simp only [T.get,AC,AS] at he;obtain ⟨rfl,rfl⟩:=he;exact Pg h hg hS hv hl ho hsp hib
    ·simp [T.get] at he
   ·simp [T.get] at he
  ·simp [T.get] at he
 ·obtain ⟨r,outs,hsp,he⟩:=R.toT_get he;unfold sD at he;split at he
  ·simp only [T.get,AC,AS] at he;obtain ⟨rfl,rfl⟩:=he;simp only [St.ups];exact Pl h hg hS hv hsp
  ·simp [T.get] at he
def LR (l:LI):List Value:=l.map fun x=>Value.int .i64 x.toInt
def vY:V→Value
 | .int k n=>.int k n
 | _=>undef
def SZ (w:World) (v:Value):List V→List Value→Prop
 | [],[]=>True
 | [.clo f [.bor cs]],[y]=>∃ b c T,y = .func (.func f) #[] #[.pointer (some ⟨b,0,none⟩)]∧w.heap[b]?=some (.cells c T (0,0))∧c.toList=cs.map vY∧v.ownBlock≠some b
 | _,_=>False
def QI (P:Program) (f:FuncId) (p:Ip):Prop:=
 ∀ (w:World) (v:Value) (l l':LI) (rs:List V) (ys:List Value),w.ownsRow 0 p.e 1 v l.length (LR l)→(∀ x∈l,AB.min≤x.toInt∧x.toInt≤AB.max)→l.length≤strMax →
  SZ w v rs ys→p.g rs l=some l' →
  Does P f (v :: ys) w fun e w'=>∃ x,e = .returned x∧w.grownBy w' v.ownBlock∧(∀ x∈l',AB.min≤x.toInt∧x.toInt≤AB.max) ∧
   (p.ret=true→w'.ownsRow 0 p.e 1 x l'.length (LR l')∧∀ b,x.ownBlock=some b→v.ownBlock=some b∨w.heap.size≤b) ∧
   (p.ret=false→w'.ownsRow 0 p.e 1 v l'.length (LR l'))
theorem Pw {w:World} {O:Nat→Prop} {l:LI} {xs:List Value} (hl:xs.length=l.length*1)
  (h:∀ i y,l[i]?=some y→Kd.RelAll w O [.z] (FL false y) 0 (fun j u=>xs[i*1+j]?=some u)):xs=LR l∧∀ x∈l,AB.min≤x.toInt∧x.toInt≤AB.max:=by
 have one:∀ (i:Nat) (y:IV),l[i]?=some y→xs[i]?=some (.int .i64 y.toInt)∧AB.min≤y.toInt∧y.toInt≤AB.max:=fun i y hy=>by
  have:=h i y hy
  simp only [Kd.RelAll,FL,BY,Nat.mul_one,CZ] at this;obtain ⟨u,hu,hk⟩:=this;simp only [Kd.Rel] at hk;rw [hu,hk.1];exact ⟨rfl,hk.2⟩
 constructor
 ·apply List.ext_getElem?;intro i;unfold LR;rw [B8];cases hy:l[i]? with
  | none=>
   rw [List.getElem?_eq_none_iff] at hy;rw [BU (by omega)];rfl
  | some y=>rw [(one i y hy).1]; rfl
 ·intro x hx;obtain ⟨i,hi⟩:=List.getElem?_of_mem hx;exact (one i x hi).2
theorem m8 {w:World} {O:Nat→Prop} {l:LI} (h:∀ x∈l,AB.min≤x.toInt∧x.toInt≤AB.max) (i:Nat) (y:IV) (hy:l[i]?=some y) :
  Kd.RelAll w O [.z] (FL false y) 0 (fun j u=>(LR l)[i*1+j]?=some u):=by
 simp only [Kd.RelAll,FL,BY,Nat.mul_one,CZ];refine ⟨.int .i64 y.toInt,?_,?_⟩
 ·unfold LR;rw [B8,hy];rfl
 ·simp only [Kd.Rel];exact ⟨trivial,h y (vah hy)⟩
theorem y0 {γ:Nat→Value} {o:Store} {w:World} {O:Nat→Prop}:∀ {cs:List V} {xs:List Value},gV cs=true→VRels γ o w O cs xs→xs=cs.map vY
 | [],[],_,_=>rfl
 | [],_ :: _,_,h=>by simp only [VRels] at h
 | v :: cs,[],h,h'=>by simp only [VRels] at h'
 | v :: cs,x :: xs,h,h'=>by
  simp only [VRels] at h';unfold gV at h;split at h
  ·rename_i h0; cases h0
  ·rename_i n r h0;injection h0 with h1 h2
   subst h1 h2;have h3:=h'.1;simp only [VRel] at h3;rw [AZ,← y0 h h'.2,h3.1];rfl
  ·cases h
theorem Dw (h:Rel B nt w0 X γ st a w) {v:Value} (hv:∀ m cs b,DF st.o m=some (.box cs)→E2 (γ m) (.box cs) b→v.ownBlock≠some b) {rest rs:List V} {ys:List Value} (hr:VRels γ st.o w (DH X γ st.o) rest ys) (he:VH st.o rest=some rs):SZ w v rs ys:=by
 unfold VH at he;split at he
 ·simp only [AC] at he;subst he;cases ys with
  | nil=>trivial
  | cons y ys=>simp only [VRels] at hr
 ·rename_i f m i c;split at he
  ·rename_i cs hic ho;split at he
   ·rename_i hi;simp only [AC] at he;subst he;simp only [AG] at hic;obtain rfl:=FG.1 hic.1;obtain rfl:=FG.1 hic.2
    match ys,hr with
    | [y],hr=>
     simp only [VRels,BY] at hr;simp only [VRel] at hr;obtain ⟨cs',rfl,hc⟩:=hr;obtain ⟨b,c,T,hg,hh,hcs⟩:=h.ob m _ ho;have hc1:∃ x0,cs' = #[x0]∧x0 = .pointer (some ⟨b,0,none⟩):=by
      obtain ⟨l⟩:=cs'
      match l,hc with
      | [x0],hc=>
       simp only [VRels,BY,VRel,ho] at hc;obtain ⟨_,b',hb',rfl⟩:=hc;rw [hg] at hb';simp only [CS,AC,C5,BY] at hb';subst hb';exact ⟨_,rfl,rfl⟩
      | [],hc=>simp only [VRels] at hc
      | _ :: _ :: _,hc=>simp only [VRels,and_false] at hc
     obtain ⟨x0,rfl,rfl⟩:=hc1;exact ⟨b,c,T,rfl,hh,y0 hi hcs,hv m cs b ho ⟨_,hg,rfl⟩⟩
    | [],hr=>simp only [VRels] at hr
    | _ :: _ :: _,hr=>simp only [VRels,and_false] at hr
   ·cases he
  ·cases he
 ·cases he
theorem Zr (h:Rel B nt w0 X γ st a w) {f:FuncId} {p:Ip} (hI:QI P f p) {vs:List V} {xs:List Value} (hv:VRels γ st.o w (DH X γ st.o) vs xs) {d:Option Nat} (hd9:∀ d',d=some d'→d'≠900000) {v:V} {us:List Upd} (he:(XP st.o d p vs).get=some (v,us)) :
  Does P f xs w fun e w'=>∃ x,e = .returned x∧∃ γ',Rel B nt w0 X γ' (st.ups us) a w'∧VRel γ' (st.ups us).o w' (DH X γ' (st.ups us).o) v x:=by
 unfold XP at he;split at he
 ·rename_i n lo hi rest;cases xs with
  | nil=>simp only [VRels] at hv
  | cons sv ys=>
  simp only [VRels] at hv;obtain ⟨hs,hrest⟩:=hv;split at he
  ·rename_i e l rs hob hra;split at he
   ·rename_i hc;simp only [AG] at hc;obtain ⟨hc1,hc3,hc4⟩:=hc;have he2:=T.get_when he;clear he;obtain ⟨hc2,he⟩:=he2;obtain rfl:=FG.1 hc1;obtain rfl:=FG.1 hc2;obtain rfl:=FG.1 hc3;have he6:p.e < 1000000:=AN hc4;simp only [VRel,hob] at hs;obtain ⟨hlen,q,len,cap,q',hg,hvv,_,h2,h3,hm,_,h5⟩:=hs;rw [h5 rfl,vaU,vaU] at hvv;have hor:=h.ob n _ hob;simp only [ObRel] at hor;obtain ⟨hkp,hstr,xs,hx,hrx⟩:=hor;have hx':=hx.plain he6;have hlen':len=l.length:=by
     rcases hx'.2 with ⟨h6,h7⟩ | ⟨g,cap',cur,h6,_⟩
     ·rw [hg] at h6; simp only [CD] at h6; omega
     ·rw [hg] at h6; simp only [CD] at h6; exact h6.2.1
    subst hlen';have hsv:sv=γ n:=by rw [hvv,hg]
    subst hsv;obtain ⟨rfl,hrng⟩:=Pw hx.1 hrx;split at he
    ·rename_i l' hgl;have hrok:=Dw h (v:=γ n) (fun m cs b hm hb hne=>by
      have hnm:n≠m:=fun e=>by subst e; rw [hob] at hm; cases hm
      exact h.dis n m _ _ b hnm hob hm (by simp only [E2]; exact hne) hb) hrest hra
     have hdoes:=hI w (γ n) l l' rs ys hx' hrng hstr hrok hgl;split at he
     ·rename_i d' hret;obtain ⟨hk,he⟩:=T.get_when he;simp only [T.get,AC,AS] at he;obtain ⟨rfl,rfl⟩:=he;have hk:=AN hk;refine hdoes.mono ?_;rintro e w' ⟨x,rfl,hgrow,hrng',hr1,_⟩;obtain ⟨hown,hblk⟩:=hr1 hret;refine ⟨x,rfl,fun m=>if d'=m then x else γ m,?_,?_⟩
      ·refine Rel.new h [n] d' (hd9 d' rfl) (.row true p.e false [.z] l') x (Keep.grown hgrow (fun g hg'=>⟨n,by simp,_,hob,hg'⟩)) (fun b hb=>⟨(hown.lt b hb).2,?_⟩) (fun O' hO hcmp=>?_)
       ·rcases hblk b hb with h1 | h1
        ·exact .inr ⟨n,by simp,_,hob,h1⟩
        ·exact .inl h1
       ·simp only [ObRel];exact ⟨by simp,by omega,LR l',OwnRow.of hown he6,fun i y hy=>m8 hrng' i y hy⟩
      ·simp only [St.ups,St.up,VRel,D5,CM];refine ⟨AT _,?_⟩;rcases hown.2 with ⟨h6,h7⟩ | ⟨g,cap',cur,h6,_,_,h8,h9,_⟩
       ·refine ⟨none,0,0,none,h6,?_,B2 _,by omega,AT _,by simp [maxLen],.inr rfl,fun _=>rfl⟩;rw [h6,h7]
       ·refine ⟨some ⟨g,0,none⟩,l'.length,cap',some ⟨g,0,none⟩,h6,by rw [h6]; simp,B2 _,AT _,h8,h9,.inl ?_,fun _=>rfl⟩;simp [Addr.add]
     ·rename_i hret;obtain ⟨hk,he⟩:=T.get_when he;simp only [T.get,AC,AS] at he;obtain ⟨rfl,rfl⟩:=he;have hk:=FG.1 hk;refine hdoes.mono ?_;rintro e w' ⟨x,rfl,hgrow,hrng',_,hr2⟩;have hown:=hr2 hret;refine ⟨x,rfl,γ,?_,by simp only [VRel]⟩;refine Rel.set h (ob':=.row true p.e false [.z] l') hob ⟨rfl,hk.symm⟩ (Keep.grown hgrow (fun g hg'=>hg')) (fun b hb=>hb) (fun hO hcmp=>?_);simp only [ObRel];exact ⟨by simp,by omega,LR l',OwnRow.of hown he6,fun i y hy=>m8 hrng' i y hy⟩
     ·simp [T.get] at he
    ·simp [T.get] at he
   ·simp [T.get] at he
  ·simp [T.get] at he
 ·rename_i rest;cases xs with
  | nil=>simp only [VRels] at hv
  | cons sv ys=>
  simp only [VRels] at hv;obtain ⟨hs,hrest⟩:=hv;simp only [VRel] at hs;subst hs;split at he
  ·rename_i rs hra;split at he
   ·rename_i hgl;have hrok:=Dw h (v:=.slice none 0 0) (fun m cs b _ _ hne=>by simp [B5] at hne) hrest hra;have hdoes:=hI w (.slice none 0 0) [] [] rs ys (World.ownsRow_nil w 0 p.e _) (fun x hx=>by cases hx) (by simp) hrok hgl;split at he
    ·rename_i d' hret;obtain ⟨hk,he⟩:=T.get_when he;simp only [T.get,AC,AS] at he;obtain ⟨rfl,rfl⟩:=he;have he6:p.e < 1000000:=AN hk;refine hdoes.mono ?_;rintro e w' ⟨x,rfl,hgrow,hrng',hr1,_⟩;obtain ⟨hown,hblk⟩:=hr1 hret;refine ⟨x,rfl,fun m=>if d'=m then x else γ m,?_,?_⟩
     ·refine Rel.new h [] d' (hd9 d' rfl) (.row true p.e false [.z] []) x (Keep.grown hgrow (fun g hg'=>by simp [B5] at hg')) (fun b hb=>⟨(hown.lt b hb).2,?_⟩) (fun O' hO hcmp=>?_)
      ·rcases hblk b hb with h1 | h1
       ·simp [B5] at h1
       ·exact .inl h1
      ·simp only [ObRel];exact ⟨by simp,by simp,LR [],OwnRow.of hown he6,fun i y hy=>m8 hrng' i y hy⟩
     ·simp only [St.ups,St.up,VRel,D5,CM];refine ⟨AT _,?_⟩;rcases hown.2 with ⟨h6,h7⟩ | ⟨g,cap',cur,h6,_,_,h8,h9,_⟩
      ·refine ⟨none,0,0,none,h6,?_,B2 _,by omega,AT _,by simp [maxLen],.inr rfl,fun _=>rfl⟩;rw [h6]
      ·refine ⟨some ⟨g,0,none⟩,0,cap',some ⟨g,0,none⟩,h6,by rw [h6]; simp,B2 _,AT _,B2 _,h9,.inl ?_,fun _=>rfl⟩;simp [Addr.add]
    ·rename_i hret;simp only [T.get,AC,AS] at he;obtain ⟨rfl,rfl⟩:=he;refine hdoes.mono ?_;rintro e w' ⟨x,rfl,hgrow,_,_,_⟩;refine ⟨x,rfl,γ,Rel.world h (Keep.grown hgrow (fun g hg'=>by simp [B5] at hg')),by simp only [VRel]⟩
    ·simp [T.get] at he
   ·simp [T.get] at he
  ·simp [T.get] at he
 ·simp [T.get] at he
def SpOK (P:Program) (B:BT) (E:Env) (w0:World) (X:Zone):Prop:=GX B w0 X∧(∀ f sp,lk E.sp f=some sp→Snd P B f (fun vs=>(sp vs).get))∧∀ f p,lk E.ip f=some p→QI P f p
theorem SpOK.get (h:SpOK P B E w0 X) (f:FuncId):Snd P B f (fun vs=>(EL (fun _=>R.no) E.sp f vs).get):=by
 rw [XT];cases hf:lk E.sp f with
 | none=>
  intro w X γ vs xs r out hsp;simp [R.get] at hsp
 | some sp=>exact h.2.1 f sp hf
theorem iR (h:Rel B nt w0 X γ st a w):∀ l:List Operand,VRels γ st.o w (DH X γ st.o) (JB (opd st) l) (l.map a.eval)
 | []=>by simp only [JB,B6,VRels]
 | x :: r=>by
  simp only [JB,AZ,VRels];exact ⟨FN h x,iR h r⟩
theorem oT (o:Oper) {f:FuncId} {xs:List Value} {v:V} {us:List Upd} (hr:(execOp a.eval o).run P w=(callFunc f xs.toArray).run P w)
  (hd:Does P f xs w fun e w'=>∃ x,e = .returned x∧∃ γ',Rel B nt w0 X γ' (st.ups us) a w'∧VRel γ' (st.ups us).o w' (DH X γ' (st.ups us).o) v x):OpWp P B nt w0 X a w o st v us:=by
 intro K Q hK;unfold Oper.wp;rw [hr];unfold Does at hd;split at hd
 ·rename_i g args w' hc;rw [hc,Oper.upon_enter];refine hd.mono ?_;rintro e w'' ⟨x,rfl,γ',h1,h2⟩;exact hK γ' x w'' h1 h2
 ·rename_i x w' hc;rw [hc,Oper.upon_value];obtain ⟨x',he,γ',h1,h2⟩:=hd;cases he;exact hK γ' x w' h1 h2
 ·rename_i row args w' hc;rw [hc,Oper.upon_row];refine Rows.mono hd ?_;rintro x w'' ⟨x',he,γ',h1,h2⟩;cases he;exact hK γ' x w'' h1 h2
 ·exact hd.elim
theorem zcR (hT:TiOK P B E) (hSp:SpOK P B E w0 X) (h:Rel B nt w0 X γ st a w) (o:Oper) (hd9:∀ d,o.dst=some d→d≠900000) {c:Call} (ho:o.op = .call c) {v:V} {us:List Upd}
  (he:(D3 E st.o (opd st) o.dst o.op).get=some (v,us)):OpWp P B nt w0 X a w o st v us:=by
 obtain ⟨callee,args,ats⟩:=c;cases callee with
 | builtin b=>exact zcQ hT h o hd9 ho he
 | invoke recv name=>
  rw [ho] at he;simp only [D3,QU] at he;simp [T.get] at he
 | value x=>
  rw [ho] at he;obtain ⟨args⟩:=args;have clo:∀ (x:Operand),o.op = .call ⟨.value x,⟨args⟩,ats⟩→∀ d,o.dst=some d→(match opd st x with
    | .clo f caps=>match U8 caps with
     | true=>SE st.o d (kA E ats.toList) (EL (fun _=>R.no) E.sp f) (JB (opd st) args++caps)
     | false=>.no
    | _=>.no).get=some (v,us)→OpWp P B nt w0 X a w o st v us:=by
   intro x ho d hd he;split at he
   ·rename_i f caps hclo;split at he
    case h_2=>simp [T.get] at he
    have hx:=FN h x;rw [hclo] at hx;simp only [VRel] at hx;obtain ⟨cs,hx1,hx2⟩:=hx;have hrel:=vU h hSp.1 (hSp.get f) ((iR h args).append hx2) (hd9 d hd) he;refine oT o (xs:=args.map a.eval++cs.toList) ?_ hrel;obtain ⟨dst,op,type,pos,after,guard⟩:=o;simp only at ho;subst ho
    have:execOp a.eval { dst,op:=.call { callee:=.value x,args:=⟨args⟩,argTypes:=ats },type,pos,after,guard }=(do let d ← Deferred.ofValue (a.eval x) ((⟨args⟩:Array Operand).map a.eval); invoke d.target d.args):=rfl
    rw [this,hx1];have hla:(args.map a.eval).toArray++cs=(args.map a.eval++cs.toList).toArray:=by
     apply Array.ext';simp
    simp [Deferred.ofValue,invoke,hla]
   ·simp [T.get] at he
  cases x with
  | func f=>
   simp only [D3,QU,lI] at he;have hrun:∀ {f:Nat},o.op = .call ⟨.value (.func f),⟨args⟩,ats⟩→(execOp a.eval o).run P w=(callFunc f (args.map a.eval).toArray).run P w:=fun {f} ho=>by
    obtain ⟨dst,op,type,pos,after,guard⟩:=o;simp only at ho;subst ho
    have:execOp a.eval { dst,op:=.call { callee:=.value (.func f),args:=⟨args⟩,argTypes:=ats },type,pos,after,guard }=callFunc f (#[]++(⟨args⟩:Array Operand).map a.eval++#[]):=rfl
    rw [this];simp
   split at he
   ·rename_i p hp;exact oT o (xs:=args.map a.eval) (hrun ho) (Zr h (hSp.2.2 f p hp) (iR h args) hd9 he)
   ·split at he
    ·rename_i d hd;exact oT o (xs:=args.map a.eval) (hrun ho) (vU h hSp.1 (hSp.get f) (iR h args) (hd9 d hd) he)
    ·simp [T.get] at he
  | tmp t=>
   simp only [D3,QU] at he;cases hd:o.dst with
   | none=>rw [hd] at he; simp [T.get] at he
   | some d=>rw [hd] at he; exact clo _ ho d hd he
  | const t=>
   simp only [D3,QU] at he;cases hd:o.dst with
   | none=>rw [hd] at he; simp [T.get] at he
   | some d=>rw [hd] at he; exact clo _ ho d hd he
  | global t=>
   simp only [D3,QU] at he;cases hd:o.dst with
   | none=>rw [hd] at he; simp [T.get] at he
   | some d=>rw [hd] at he; exact clo _ ho d hd he
theorem zcT (hT:TiOK P B E) (h:Rel B nt w0 X γ st a w) (o:Oper) (hd9:∀ d,o.dst=some d→d≠900000) {s t:Nat} {x:Operand} (ho:o.op = .convert s t x) {v:V} {u:Upd} {us:List Upd}
  (he:(D3 E st.o (opd st) o.dst o.op).get=some (v,u :: us)):OpWp P B nt w0 X a w o st v (u :: us):=by
 have hx:=FN h x;rw [ho] at he;simp only [D3] at he;split at he
 ·split at he
  ·simp [T.get] at he
  ·simp [T.get] at he
 ·rename_i b hop;rw [hop] at hx;simp only [VRel] at hx;split at he
  ·simp [T.get] at he
  ·rename_i e k1 kss hd hks hkss;split at he
   ·rename_i d hdst hde hkse;simp only [T.get,AC,AS,va7] at he;obtain ⟨rfl,rfl,rfl⟩:=he;have hu1:=S4 hT hd;obtain ⟨d',hd1',_,_⟩:=(hT.kinds (t:=s) (by rw [hkss]; simp)).und;obtain ⟨d'',hd1'',_,hd2''⟩:=(hT.kinds (t:=e) (by rw [hkse]; simp)).und;rw [hde] at hd2'';obtain rfl:=hd2''.1 _ hkse;have hrun:(execOp a.eval o).run P w = .ok (.value (.slice (some ⟨w.heap.size,0,none⟩) b.size (grownCap w b.size 0 e))) (vaJ w e b):=by
     unfold execOp;simp only [ho,hx.1,CK,Lib.run_convert_string_bytes w s t e b hd1' hu1 hd1'',B4,CL]
    have hsm:=jZ;have hcg:=grownCap_ge w b.size 0 e;have hcm:grownCap w b.size 0 e≤maxLen:=grownCap_le_maxLen w b.size 0 e (CE hx.2 hsm);have hcs:(Lib.bytesCells w e b).size=grownCap w b.size 0 e:=by
     have:b.data.size=b.size:=rfl
     simp only [Lib.bytesCells,Array.size_append,Array.size_map,Array.size_replicate,this];omega
    have hkp:Keep (fun _=>False) w (vaJ w e b):=by
     refine ⟨?_,?_,?_,by rw [Lib.bytesWorld_size]; omega,fun j hj _=>Lib.bytesWorld_at_old w e b j hj⟩
     ·simp [vaJ,World.freeze]; rfl
     ·simp [vaJ,World.freeze]
     ·simp [vaJ,World.freeze]; rfl
    have hn:=Rel.new h [] d (hd9 d hdst) (.row true (e+1000000) false [.int .u8] (b.data.toList.map fun b=>.int (b.toNat:Int))) (.slice (some ⟨w.heap.size,0,none⟩) b.size (grownCap w b.size 0 e)) (w':=vaJ w e b) (hkp.mono (fun _ _ h=>h.elim))
     (by
      intro b1 hb;simp only [E2,B5,AC] at hb;subst hb;rw [Lib.bytesWorld_size];exact ⟨by omega,.inl (AT _)⟩)
     (by
      intro O' hO hcmp;simp only [ObRel];have hln:(b.data.toList.map fun b=>IV.int (b.toNat:Int)).length=b.size:=by simp
      refine ⟨by simp,by rw [hln]; exact hx.2,b.data.toList.map fun b=>.int .u8 b.toNat,?_,fun i y hy=>?_⟩
      ·rw [hln];refine ⟨by simp,.inr ⟨w.heap.size,grownCap w b.size 0 e,_,_,_,rfl,Lib.bytesWorld_at_new w e b,hcg,hcm,by rw [hcs]; simp,?_,.inr ⟨by omega,AT _⟩⟩⟩;simp only [Lib.bytesCells,vaz,AM,A6];rw [List.take_append_of_le_length (by simp)];rw [CW (by simp)];simp
      ·rw [B8] at hy;cases hbi:b.data.toList[i]? with
       | none=>rw [hbi] at hy; cases hy
       | some c=>
        rw [hbi] at hy;simp only [vaH,AC] at hy;subst hy;simp only [Kd.RelAll,FL,Kd.Rel,IV.toInt,AM,A6];refine ⟨⟨.int .u8 c.toNat,by simp [hbi],rfl,?_,?_⟩,trivial⟩
        ·simp [IntKind.min,vaj]
        ·have:=c.toNat_lt
         simp [IntKind.max,vaj,AO];omega)
    refine OpWp.value hrun hn ?_;simp only [St.ups,VRel,F6,CM];refine ⟨by simp,some ⟨w.heap.size,0,none⟩,b.size,grownCap w b.size 0 e,some ⟨w.heap.size,0,none⟩,rfl,by simp,B2 _,AT _,hcg,hcm,.inl ?_,fun _=>rfl⟩;simp [Addr.add]
   ·simp [T.get] at he
  ·simp [T.get] at he
 ·split at he
  ·split at he
   ·simp [T.get] at he
   ·simp [T.get] at he
  ·simp [T.get] at he
def BldOK (P:Program) (B:BT) (E:Env):Prop:=(E.tyd B.T).d = .bld→∃ i,P.info? B.T=some i∧i.zero=some (.agg #[.pointer none,.slice none 0 0])
theorem Bo (hT:TiOK P B E) (hE:∀ t,t∈E.eqs→EqSnd P t (E.tyd t).ks) (hSp:SpOK P B E w0 X) (hB:BldOK P B E) (h:Rel B nt w0 X γ st a w) (o:Oper) (hd9:∀ d,o.dst=some d→d≠900000) {v:V} {us:List Upd}
  (he:(D3 E st.o (opd st) o.dst o.op).get=some (v,us)):OpWp P B nt w0 X a w o st v us:=by
 cases ho:o.op with
 | move x=>exact Bn h o (.inl ho) he
 | assign x=>exact Bn h o (.inr ho) he
 | pick c x y=>exact zc3 h o ho he
 | alloc t=>exact zcL hT h o hd9 ho hB he
 | box t x=>exact zcN h o hd9 ho he
 | build t parts=>exact zcO hT h o ho he
 | buildSlice t len parts=>exact zcP hT h o hd9 ho he
 | load t x=>exact zcZ hT h o ho he
 | store t p x=>exact zc5 hT h o ho he
 | nilCheck x=>exact zc2 h o ho he
 | binOp op t x y t'=>exact zcM hT hE h o ho he
 | unOp op t x=>exact zc6 h o ho he
 | convert s t x=>
  cases us with
  | nil=>exact zcS hT h o ho he
  | cons u us=>exact zcT hT h o hd9 ho he
 | makeFunc f first caps=>exact zc0 h o ho he
 | makeSlice t n m=>exact zc1 hT h o hd9 ho he
 | slice t x lo hi mx=>exact zc4 hT h o ho he
 | fieldAddr s x f=>exact zcW hT h o ho he
 | field t x f=>exact zcV hT h o ho he
 | indexAddr t x ix=>exact zcY hT h o ho he
 | index t x ix=>exact zcX hT h o ho he
 | extract x i=>exact zcU h o ho he
 | call c=>exact zcR hT hSp h o hd9 ho he
 | _=>rw [ho] at he; simp [D3,T.get] at he
end
open Go Go.RowKit
theorem X4:∀ {l:List V} {n:Nat},n∈E5 l→n∈EX.go l
 | v :: r,n,h=>by
  simp only [E5,AV] at h;rcases h with h | h
  ·cases v <;> simp only [EK] at h <;> first | (cases h; done) | (simp only [EX.go,AV]; exact .inl h)
  ·cases v <;> simp only [EX.go,AV] <;> exact .inr (X4 h)
def Agree (o o':Store) (l:List Nat):Prop:=∀ n∈l,DF o' n=DF o n
theorem Agree.left {o o':Store} {l l':List Nat} (h:Agree o o' (l++l')):Agree o o' l:=fun n hn=>h n (vaI _ hn)
theorem Agree.right {o o':Store} {l l':List Nat} (h:Agree o o' (l++l')):Agree o o' l':=fun n hn=>h n (vaD _ hn)
theorem Bj {o o':Store} {v:V} (h:Agree o o' (EK v)):KJ o' v=KJ o v:=by
 cases v <;> simp only [KJ]
 all_goals rw [h _ (by simp [EK])]
theorem oN {o o':Store} {v:V} (h:Agree o o' (EK v)):P4 o' v=P4 o v:=by
 cases v <;> simp only [P4] <;> exact Bj h
theorem oL {o o':Store}:∀ {l:List V},Agree o o' (E5 l)→Q8 o' l=Q8 o l
 | [],_=>rfl
 | v :: r,h=>by simp only [Q8,Bj h.left,oL (l:=r) h.right]
theorem xF {o o':Store} {v:V} (h:Agree o o' (EK v)):QZ o' v=QZ o v:=by
 cases v <;> simp only [QZ]
 rw [h _ (by simp [EK])]
theorem Ez {o o':Store} {v:V} (h:Agree o o' (EK v)):OX o' v=OX o v:=by
 cases v <;> simp only [OX]
 rw [h _ (by simp [EK])]
theorem zaf {o o':Store} {k:Kd} {v:V} (h:Agree o o' (EK v)):PS o' k v=PS o k v:=by
 cases k <;> cases v <;> simp only [PS]
 rw [h _ (by simp [EK])]
theorem cH {o o':Store}:∀ {ks:List Kd} {l:List V},Agree o o' (E5 l)→JQ o' ks l=JQ o ks l
 | [],[],_=>rfl
 | [],_ :: _,_=>rfl
 | _ :: _,[],_=>rfl
 | k :: ks,v :: r,h=>by simp only [JQ,zaf h.left,cH (l:=r) h.right]
theorem P6 {v:V} {n:Nat} (h:n∈EK v):n∈EX v:=by
 cases v <;> simp only [EK] at h <;> first | exact h | cases h
theorem Rd {o o':Store} {ag:Bool} {ks:List Kd} {v:V} (h:Agree o o' (EX v)):OL o' ag ks v=OL o ag ks v:=by
 cases ag with
 | false=>
  simp only [OL];rw [cH (o:=o) (o':=o') (fun n hn=>h n (P6 (by simpa [E5] using hn)))]
 | true=>
  cases v <;> simp only [OL]
  rw [cH h]
theorem Di:∀ (a b:List V),E5 (a++b)=E5 a++E5 b
 | [],b=>rfl
 | v :: r,b=>by simp [E5,Di r b]
theorem Dj {l:List V} {v:V} {n:Nat} (hv:v∈l) (hn:n∈EK v):n∈E5 l:=by
 induction l with
 | nil=>cases hv
 | cons u r ih=>
  simp only [E5,AV];rcases AX.1 hv with h | h
  ·subst h; exact .inl hn
  ·exact .inr (ih h)
theorem pG {l l':List V} (h:∀ v∈l,v∈l') {n:Nat} (hn:n∈E5 l):n∈E5 l':=by
 induction l with
 | nil=>simp [E5] at hn
 | cons u r ih=>
  simp only [E5,AV] at hn;rcases hn with hn | hn
  ·exact Dj (h u (AU ..)) hn
  ·exact ih (fun v hv=>h v (AW _ hv)) hn
theorem fQ {o o':Store} {ag:Bool} {ks:List Kd} {sz:Nat}:∀ {n:Nat} {cs:List V},Agree o o' (E5 cs)→MD ag ks o' cs sz n=MD ag ks o cs sz n
 | 0,cs,_=>rfl
 | n+1,cs,h=>by
  simp only [MD];rw [fQ (n:=n) (cs:=LT cs sz) (fun m hm=>h m (by rw [PJ] at hm; exact pG (fun v hv=>vaX hv) hm))];cases ag with
  | true=>
   rw [Rd];intro m hm;simp only [EX,V6] at hm;exact h m (pG (fun v hv=>vaY hv) hm)
  | false=>
   simp only [OL];rw [cH (o:=o) (o':=o')];intro m hm;rw [cU] at hm;cases hc:cs[0]? with
   | none=>rw [hc] at hm; simp [E5,EK] at hm
   | some u=>
    rw [hc] at hm;simp only [vaq,E5,vad] at hm;exact h m (Dj (vah hc) hm)
theorem V1 {l:List V} {n:Nat} (h:n∈EN l):n∈E5 l:=by
 induction l with
 | nil=>simp [EN] at h
 | cons v r ih=>
  simp only [E5,AV];cases v <;> simp only [EN,AX] at h <;> first | exact .inr (ih h) | skip
  rcases h with h | h
  ·exact .inl (by simp [EK,h])
  ·exact .inr (ih h)
theorem bW {o o':Store}:∀ {l:List Nat},Agree o o' l→EC o' l=EC o l
 | [],_=>rfl
 | n :: r,h=>by
  simp only [EC];rw [h n (AU ..),bW (l:=r) (fun m hm=>h m (AW _ hm))]
theorem mQ {o o':Store} {place:Nat→Option (Nat × Nat)}:∀ {cs:List V} {l:List (Nat × V)},(∀ i v,(i,v)∈l→Agree o o' (EX v))→K7 o' place cs l=K7 o place cs l
 | cs,[],_=>rfl
 | cs,(i,v) :: r,h=>by
  simp only [K7];have h1:P4 o' v=P4 o v:=oN (fun n hn=>h i v (AU ..) n (P6 hn));rw [h1];split
  ·split
   ·exact mQ (fun i v hv=>h i v (AW _ hv))
   ·rfl
  ·rfl
theorem fG {o o':Store} {d e:Nat} {ag:Bool} {ks:List Kd} {bytes:Nat} {s:V} {l:LI} (h:Agree o o' (EK s)):NP o' d e ag ks bytes s l=NP o d e ag ks bytes s l:=by
 cases s <;> simp only [NP]
 rw [h _ (by simp [EK])]
theorem VA {o:Store} {n m:Nat} {cs:List V}:∀ {l:List Nat},n∈l→DF o n=some (.box cs)→m∈E5 cs→m∈J3 o l
 | x :: r,hn,ho,hm=>by
  simp only [J3];rcases AX.1 hn with h | h
  ·subst h;rw [ho];exact vaI _ hm
  ·have:=VA h ho hm
   split
   ·exact vaD _ this
   ·exact this
theorem Nx {o o':Store} {d et:Nat} {e:TI} {tk:List Kd} {s x:V} (h:Agree o o' (EK s)):WY o' d et e tk s x=WY o d et e tk s x:=by
 unfold WY;simp only [fG h]
theorem Nv {o o':Store} {d et:Nat} {e:TI} {s x:V} (h:Agree o o' (EK s)) (h':Agree o o' (EK x++J3 o (EK x))):US o' d et e s x=US o d et e s x:=by
 have gen:(match QZ o' x,OX o' x with
   | some l,some (ag,ks)=>match IH (.list e.agg e.ks) (.list ag ks) with
    | true=>NP o' d et e.agg e.ks e.bytes s l
    | false=>.no
   | _,_=>.no)=(match QZ o x,OX o x with
   | some l,some (ag,ks)=>match IH (.list e.agg e.ks) (.list ag ks) with
    | true=>NP o d et e.agg e.ks e.bytes s l
    | false=>.no
   | _,_=>.no):=by
  simp only [xF h'.left,Ez h'.left,fG h]
 cases x
 case bview n c cap sz len=>
  simp only [US];rw [h' n (by simp [EK])];split
  ·rename_i cs ho;simp only [fG h];split
   ·congr 1
    funext m
    rw [fQ (o:=o) (o':=o')];intro k hk;rw [PJ] at hk;exact h' k (vaD _ (VA (by simp [EK]) ho (pG (fun v hv=>vaX hv) hk)))
   ·rfl
  ·rfl
 case zs=>simp only [US,fG h]
 all_goals exact gen
theorem bE {o o':Store} {bs:List V} {tk:Option Kd} {v:V} (h:Agree o o' (EK v)):EB o' bs tk v=EB o bs tk v:=by
 cases v <;> simp only [EB]
 all_goals rw [h _ (by simp [EK])]
theorem nR {o o':Store} {bs:List V}:∀ {l:List V} {ks:List Kd},Agree o o' (E5 l)→LC (fun k v=>HG (EB o' bs k v)) ks l=LC (fun k v=>HG (EB o bs k v)) ks l
 | [],ks,_=>by cases ks <;> rfl
 | v :: l,[],h=>by simp only [LC,bE h.left,nR (l:=l) h.right]
 | v :: l,k :: ks,h=>by simp only [LC,bE h.left,nR (l:=l) h.right]
theorem zW {o o':Store} {bs:List V} {tk:Option Kd}:∀ {l:List V},Agree o o' (E5 l)→l.map (EB o' bs tk)=l.map (EB o bs tk)
 | [],_=>rfl
 | v :: l,h=>by simp only [AZ,bE h.left,zW (l:=l) h.right]
theorem kZ {o o':Store} {bs:List V} {ks:List Kd} {v:V} (h:Agree o o' (EX v)):IR o' bs ks v=IR o bs ks v:=by
 by_cases ha:∃ l,v = .agg l
 ·obtain ⟨l,rfl⟩:=ha;simp only [IR,nR (o:=o) (o':=o') h]
 by_cases hc:∃ f l,v = .clo f l
 ·obtain ⟨f,l,rfl⟩:=hc;simp only [IR,zW (o:=o) (o':=o') (l:=l) (fun n hn=>h n (X4 hn))]
 have h1:∀ o,IR o bs ks v=EB o bs ks.head? v:=by
  intro o;cases v <;> first | rfl | exact absurd ⟨_,rfl⟩ ha | exact absurd ⟨_,_,rfl⟩ hc
 rw [h1,h1];exact bE (fun n hn=>h n (P6 hn))
theorem k7 {o o':Store} {bs:List V}:∀ {l:List V} {tks:List (List Kd)},Agree o o' (GK l)→FK o' bs tks l=FK o bs tks l
 | [],tks,_=>by cases tks <;> rfl
 | v :: l,[],h=>by simp only [FK,kZ h.left,k7 (l:=l) h.right]
 | v :: l,t :: ts,h=>by simp only [FK,kZ h.left,k7 (l:=l) h.right]
theorem Pr {o o':Store} {all:List Nat} {v:V} (h:Agree o o' (EK v)):E7 o' all v=E7 o all v:=by
 cases v <;> simp only [E7]
 rw [h _ (by simp [EK])]
theorem zY {o o':Store} {all:List Nat}:∀ {l:List V},Agree o o' (E5 l)→l.map (E7 o' all)=l.map (E7 o all)
 | [],_=>rfl
 | v :: l,h=>by simp only [AZ,Pr h.left,zY (l:=l) h.right]
theorem yQ {o o':Store} {all:List Nat}:∀ {l:List V},Agree o o' (E5 l)→GJ o' all l=GJ o all l
 | [],_=>rfl
 | v :: l,h=>by
  have ih:=yQ (all:=all) (l:=l) h.right;cases v <;> simp only [GJ,ih]
  rw [h.left _ (by simp [EK])]
theorem Fa {o o':Store} {all:List Nat}:∀ {l:List V},Agree o o' (E5 l)→G9 o' all l=G9 o all l
 | [],_=>rfl
 | v :: l,h=>by
  have ih:=Fa (all:=all) (l:=l) h.right;cases v <;> simp only [G9,ih]
  rw [h.left _ (by simp [EK])]
theorem zgf {v:V} {n:Nat} (h:n∈JY v):n∈EX v:=by
 cases v <;> simp only [JY] at h <;> try (cases h; done)
 case row=>simpa [EX,EK] using h
 case agg=>exact V1 h
 case clo=>exact X4 (V1 h)
 case tup l=>
  simp only [EX]
  induction l with
  | nil=>simp [JY.go] at h
  | cons v r ih=>
   cases v <;> simp only [JY.go,EX.go,AX,AV] at h ⊢ <;> first | exact .inr (ih h) | skip
   ·rcases h with h | h
    ·exact .inl (by simp [EK,h])
    ·exact .inr (ih h)
   ·rcases h with h | h
    ·exact .inl (V1 h)
    ·exact .inr (ih h)
theorem rK:∀ {l:List V} {n:Nat},n∈EF l→n∈GK l
 | v :: l,n,h=>by
  simp only [EF,GK,AV] at h ⊢;exact h.imp zgf rK
theorem cJ:∀ {l:List V} {n:Nat},n∈E0 l→n∈GK l
 | v :: l,n,h=>by
  simp only [GK,AV];cases v <;> simp only [E0,AX,AV] at h <;> first | exact .inr (cJ h) | skip
  ·rcases h with h | h
   ·exact .inl (by simp [EX,EK,h])
   ·exact .inr (cJ h)
  ·rename_i f caps;rcases h with h | h
   ·refine .inl ?_;simp only [EX];refine X4 ?_;clear cJ
    induction caps with
    | nil=>simp [E0.lentC] at h
    | cons v r ih=>
     simp only [E5,AV];cases v <;> simp only [E0.lentC,AX] at h <;> first | exact .inr (ih h) | skip
     rcases h with h | h
     ·exact .inl (by simp [EK,h])
     ·exact .inr (ih h)
   ·exact .inr (cJ h)
theorem Po {o o':Store} {v:V} (h:Agree o o' (EK v)):K6 o' v=K6 o v:=by
 by_cases hp:∃ n i c,v = .ptr n i c
 ·obtain ⟨n,i,c,rfl⟩:=hp;simp only [K6];rw [h _ (by simp [EK])]
 ·have h1:∀ o,K6 o v=HG (EB o [] none v):=by
   intro o;cases v <;> first | rfl | exact absurd ⟨_,_,_,rfl⟩ hp
  rw [h1,h1,bE h]
theorem zX {o o':Store}:∀ {l:List V},Agree o o' (E5 l)→l.map (K6 o')=l.map (K6 o)
 | [],_=>rfl
 | v :: l,h=>by simp only [AZ,Po h.left,zX (l:=l) h.right]
theorem sL {o o':Store} {ks:List Kd} {v:V} (h:Agree o o' (EX v)):LO o' ks v=LO o ks v:=by
 by_cases hc:(∃ f l,v = .clo f l)∨(∃ n i c,v = .ptr n i c)
 ·rcases hc with ⟨f,l,rfl⟩ | ⟨n,i,c,rfl⟩
  ·simp only [LO,zX (o:=o) (o':=o') (l:=l) (fun n hn=>h n (X4 hn))]
  ·rfl
 ·have h1:∀ o,LO o ks v=IR o [] ks v:=by
   intro o;cases v <;> first | rfl | exact absurd (.inl ⟨_,_,rfl⟩) hc | exact absurd (.inr ⟨_,_,_,rfl⟩) hc
  rw [h1,h1,kZ h]
theorem kW {o o':Store}:∀ {l:List V} {tks:List (List Kd)},Agree o o' (GK l)→JI o' tks l=JI o tks l
 | [],tks,_=>by cases tks <;> rfl
 | v :: l,[],h=>by simp only [JI,sL h.left,kW (l:=l) h.right]
 | v :: l,t :: ts,h=>by simp only [JI,sL h.left,kW (l:=l) h.right]
theorem vT {o o':Store} {d:Nat} {tks:List (List Kd)} {sp:DK} {vs:List V} (h:Agree o o' (GK vs++J3 o (GK vs))):SE o' d tks sp vs=SE o d tks sp vs:=by
 have hA:∀ bs,FK o' bs tks vs=FK o bs tks vs:=fun bs=>k7 h.left
 have hF:∀ l,(∀ n∈l,n∈GK vs++J3 o (GK vs))→EC o' l=EC o l:=fun l hl=>bW (fun n hn=>h n (hl n hn))
 have hFv:EC o' (EF vs)=EC o (EF vs):=hF _ (fun n hn=>vaI _ (rK hn));have hF0:EC o' []=EC o []:=rfl;have hPl:bC o' d vs=bC o d vs:=by
  funext v out
  unfold bC;split
  ·split
   ·rename_i cs;cases HL cs <;> simp only [hFv,hF0]
   ·simp only [hFv]
   ·cases HN v <;> simp only [hFv,hF0]
  ·rfl
 unfold SE;simp only [hA,hPl];split
 ·rfl
 ·rename_i n hl;have hn:n∈GK vs:=cJ (by rw [hl]; exact AU ..);rw [h n (vaI _ hn)];split
  ·rename_i cs ho;have hcs:Agree o o' (E5 cs):=fun m hm=>h m (vaD _ (VA hn ho hm))
   have hsh:∀ m∈G9 o (EN cs++EF vs) cs,m∈GK vs++J3 o (GK vs):=by
    intro m hm;obtain ⟨lo,hi,_,_,_,_,_,h1,_⟩:=jI hm;exact vaD _ (VA hn ho (V1 (VM h1)))
   have hBx:bB o' d n cs vs=bB o d n cs vs:=by
    funext v outs
    unfold bB;rw [yQ hcs,Fa hcs];split
    ·rename_i out;have h1:EC o' (G9 o (EN cs++EF vs) cs++EF vs)=EC o (G9 o (EN cs++EF vs) cs++EF vs):=hF _ (fun m hm=>(AV.1 hm).elim (hsh m) (fun hm=>vaI _ (rK hm)));have h2:EC o' (G9 o (EN cs++EF vs) cs++[])=EC o (G9 o (EN cs++EF vs) cs++[]):=hF _ (fun m hm=>hsh m (by simpa using hm));cases (HN v||HL out) <;> simp only [h1,h2]
    ·rfl
   rw [zY hcs,hBx]
  ·have hBd:bA o' n vs=bA o n vs:=by
    funext v outs
    unfold bA;split
    ·cases HN v <;> simp only [hFv,hF0]
    ·rfl
   rw [hBd]
  ·rfl
 ·rw [kW h.left]
theorem y2 {o o':Store} {l:List V} (h:Agree o o' (GK l)):VH o' l=VH o l:=by
 unfold VH;split
 ·rfl
 ·rename_i f m i c;rw [h m (by simp [GK,EX,EX.go,EK])]
 ·rfl
theorem Zq {o o':Store} {d:Option Nat} {p:Ip} {vs:List V} (h:Agree o o' (GK vs)):XP o' d p vs=XP o d p vs:=by
 unfold XP;split
 ·rename_i n lo hi rest;rw [h n (by simp [GK,EX,EK]),y2 (fun k hk=>h k (by simp only [GK,AV]; exact .inr hk))]
 ·rename_i rest;rw [y2 (fun k hk=>h k (by simp only [GK,AV]; exact .inr hk))]
 ·rfl
theorem pD:∀ (cs:List V) (n:Nat) (vs:List V) {m:Nat},m∈E5 (GH cs n vs)→m∈E5 cs∨m∈E5 vs
 | cs,n,[],m,h=>by cases cs <;> cases n <;> exact .inl h
 | [],n,v :: vs,m,h=>by cases n <;> simp [GH,E5] at h
 | c :: r,0,v :: vs,m,h=>by
  simp only [GH,E5,AV] at h ⊢;rcases h with h | h
  ·exact .inr (.inl h)
  ·rcases pD r 0 vs h with h | h
   ·exact .inl (.inr h)
   ·exact .inr (.inr h)
 | c :: r,n+1,v :: vs,m,h=>by
  simp only [GH,E5,AV] at h ⊢;rcases h with h | h
  ·exact .inl (.inl h)
  ·rcases pD r n (v :: vs) h with h | h
   ·exact .inl (.inr h)
   ·exact .inr (by simpa [E5] using h)
theorem v8 {v:V} {m:Nat} (h:m∈E5 (cells v)):m∈EX v:=by
 by_cases ha:∃ l,v = .agg l
 ·obtain ⟨l,rfl⟩:=ha;exact h
 ·have:cells v=[v]:=by cases v <;> first | rfl | exact absurd ⟨_,rfl⟩ ha
  rw [this] at h;exact P6 (by simpa [E5] using h)
theorem X5 {l:List V} {v:V} {n:Nat} (hv:v∈l) (hn:n∈EX v):n∈GK l:=by
 induction l with
 | nil=>cases hv
 | cons u r ih=>
  simp only [GK,AV];rcases AX.1 hv with h | h
  ·subst h; exact .inl hn
  ·exact .inr (ih h)
theorem xZ {o:Store} {place:Nat→Option (Nat × Nat)}:∀ {l:List (Nat × V)} {cs cs':List V},K7 o place cs l=some cs'→∀ m∈E5 cs',m∈E5 cs∨∃ i v,(i,v)∈l∧m∈EX v
 | [],cs,cs',h,m,hm=>by
  simp only [K7,AC] at h;subst h;exact .inl hm
 | (i,v) :: r,cs,cs',h,m,hm=>by
  simp only [K7] at h;split at h
  ·split at h
   ·rcases xZ h m hm with h1 | ⟨j,u,h1,h2⟩
    ·rcases pD _ _ _ h1 with h2 | h2
     ·exact .inl h2
     ·exact .inr ⟨i,v,AU ..,v8 h2⟩
    ·exact .inr ⟨j,u,AW _ h1,h2⟩
   ·cases h
  ·cases h
theorem Du {z:List V}:∀ {n m:Nat},m∈E5 (OW z n)→m∈E5 z
 | 0,m,h=>by simp [OW,E5] at h
 | n+1,m,h=>by
  simp only [OW,Di,AV] at h;exact h.elim id (Du (n:=n))
theorem oS (ρ:Operand→V):∀ {l:List (Nat × Operand)} {i:Nat} {v:V},(i,v)∈KL ρ l→v∈(l.map (·.2)).map ρ
 | (j,x) :: r,i,v,h=>by
  simp only [KL,AX,AS] at h;simp only [AZ,AX];rcases h with ⟨_,rfl⟩ | h
  ·exact .inl rfl
  ·exact .inr (oS ρ h)
theorem Dk:∀ {l:List V} {n:Nat},n∈GK l→∃ v∈l,n∈EX v
 | v :: r,n,h=>by
  simp only [GK,AV] at h;rcases h with h | h
  ·exact ⟨v,AU ..,h⟩
  ·obtain ⟨u,h1,h2⟩:=Dk h;exact ⟨u,AW _ h1,h2⟩
theorem mA {o:Store} {m:Nat}:∀ {l:List Nat},m∈J3 o l→∃ n∈l,∃ cs,DF o n=some (.box cs)∧m∈E5 cs
 | n :: r,h=>by
  simp only [J3] at h;split at h
  ·rename_i cs ho;rcases AV.1 h with h | h
   ·exact ⟨n,AU ..,cs,ho,h⟩
   ·obtain ⟨k,h1,h2⟩:=mA h;exact ⟨k,AW _ h1,h2⟩
  ·obtain ⟨k,h1,h2⟩:=mA h;exact ⟨k,AW _ h1,h2⟩
theorem xD {o:Store} {l l':List Nat} (hs:∀ k∈l,k∈l') {n:Nat} (h:n∈J3 o l):n∈J3 o l':=by
 obtain ⟨k,h1,cs,h2,h3⟩:=mA h;exact VA (hs k h1) h2 h3
theorem vW {v:V} {n:Nat}:∀ {l:List V},U8 l=true→v∈l→n∈EX v→n∈EX.go l
 | u :: r,hok,hv,hn=>by
  rcases AX.1 hv with h | h
  ·subst h;cases v <;> simp only [U8] at hok <;> first | (cases hok; done) | (simp only [EX,EK] at hn; simp only [EX.go,EK,AV]; first | exact .inl hn | (cases hn; done))
  ·have hr:U8 r=true:=by cases u <;> simp only [U8] at hok <;> first | exact hok | (cases hok; done)
   have:=vW hr h hn
   cases u <;> simp only [EX.go,AV] <;> exact .inr this
theorem xS {E:Env} {o o':Store} {ρ:Operand→V} {d:Option Nat} {op:Op} (h:Agree o o' (MR E o ρ op)):D3 E o' ρ d op=D3 E o ρ d op:=by
 cases hq:Df op with
 | true=>cases op <;> first | rfl | cases hq
 | false=>
 unfold MR at h;rw [hq] at h;replace h:Agree o o' (i7 E o ρ op):=h;unfold i7 at h;have hz:=h.left.right;have hd:=h.right;have hv:=h.left.left;clear h;have one:∀ {x:Operand} {n:Nat},x∈op.operands.toList→n∈EX (ρ x)→DF o' n=DF o n:=fun hx hn=>hv _ (X5 (vaM hx) hn)
 have two:∀ {x:Operand} {n:Nat} {cs:List V},x∈op.operands.toList→n∈EX (ρ x)→DF o n=some (.box cs)→Agree o o' (E5 cs):=fun hx hn ho m hm=>hd _ (VA (X5 (vaM hx) hn) ho hm)
 cases op
 case box t x=>
  simp only [D3];rw [oN (fun n hn=>one (x:=x) (by simp [CO]) (P6 hn))]
 case build t parts=>
  have hp:∀ i v,(i,v)∈KL ρ parts.toList→Agree o o' (EX v):=fun i v hm n hn=>hv _ (X5 (by have:=oS ρ hm; simpa [CO] using this) hn)
  simp only [D3,mQ hp]
 case buildSlice t len parts=>
  have hp:∀ i v,(i,v)∈KL ρ parts.toList→Agree o o' (EX v):=fun i v hm n hn=>hv _ (X5 (by have:=oS ρ hm; simpa [CO] using this) hn)
  simp only [D3];split
  ·rename_i d e hd1;simp only [r7,hd1] at hz;rw [mQ hp];split
   ·rename_i cs hf;have hcs:Agree o o' (E5 cs):=by
     intro m hm;rcases xZ hf m hm with h1 | ⟨i,v,h1,h2⟩
     ·exact hz m (Du h1)
     ·exact hp i v h1 m h2
    rw [fQ hcs,bW (fun m hm=>hcs m (V1 hm))]
   ·rfl
  ·rfl
 case load t x=>
  simp only [D3];split
  ·rename_i n i c hx;rw [one (x:=x) (by simp [CO]) (by rw [hx]; simp [EX,EK])]
  ·rfl
  ·rfl
 case nilCheck x=>
  simp only [D3];split
  ·rename_i n i c hx;rw [one (x:=x) (by simp [CO]) (by rw [hx]; simp [EX,EK])]
  ·rfl
 case fieldAddr s x f=>
  simp only [D3];split
  ·split
   ·split
    ·rename_i n i c hx;rw [one (x:=x) (by simp [CO]) (by rw [hx]; simp [EX,EK])]
    ·rfl
    ·rfl
   ·rfl
  ·rfl
 case binOp op t x y t'=>
  simp only [D3];unfold fJ;split <;> try rfl
  rename_i n i c hx hy;rw [one (x:=x) (by simp [CO]) (by rw [hx]; simp [EX,EK])]
 case convert s t x=>
  simp only [D3];split <;> try rfl
  rw [xF (fun n hn=>one (x:=x) (by simp [CO]) (P6 hn)),Ez (fun n hn=>one (x:=x) (by simp [CO]) (P6 hn))]
 case slice t x lo hi mx=>
  simp only [D3];split <;> try rfl
  ·rename_i n a b hx;rw [one (x:=x) (by simp [CO]) (by rw [hx]; simp [EX,EK])]
  ·rename_i n a c hx;rw [one (x:=x) (by simp [CO]) (by rw [hx]; simp [EX,EK])]
 case indexAddr t x ix=>
  simp only [D3];split
  ·split
   ·rfl
   ·rename_i n lo hi hx;rw [one (x:=x) (by simp [CO]) (by rw [hx]; simp [EX,EK])]
   ·rename_i n c cap sz len hx;rw [one (x:=x) (by simp [CO]) (by rw [hx]; simp [EX,EK])]
   ·rfl
  ·split
   ·rename_i n i0 c hx;rw [one (x:=x) (by simp [CO]) (by rw [hx]; simp [EX,EK])]
   ·rfl
   ·rfl
  ·rfl
 case store t p x=>
  simp only [D3];have hx:Agree o o' (EX (ρ x)):=fun n hn=>one (x:=x) (by simp [CO]) hn
  have hc:Agree o o' (E5 (cells (ρ x))):=fun n hn=>hx n (v8 hn)
  unfold O2;split
  ·rename_i n i c hp;rw [one (x:=p) (by simp [CO]) (by rw [hp]; simp [EX,EK]),oN (fun n hn=>hx n (P6 hn)),oL hc,bW (fun m hm=>hc m (V1 hm))];simp only [cH hc]
  ·rfl
 case makeSlice t n m=>
  simp only [D3];split
  ·rename_i d e k1 n1 k2 m1 hd1 _ _;simp only [r7,hd1] at hz;rw [fQ hz];split
   ·rw [bW (fun m hm=>hz m (V1 hm))]
   ·rfl
  ·rfl
 case call c=>
  obtain ⟨callee,args,ats⟩:=c;simp only [D3,QU];have hmem:∀ {x:Operand},x∈args.toList→x∈(Op.call ⟨callee,args,ats⟩).operands.toList:=fun {x} hx=>by
   simp only [CO,Call.operands,vaz,AV];exact .inr hx
  have harg:∀ {x:Operand},x∈args.toList→Agree o o' (EX (ρ x)):=fun {x} hx n hn=>one (x:=x) (hmem hx) hn
  have hdp:∀ {x:Operand},x∈args.toList→Agree o o' (EK (ρ x)++J3 o (EK (ρ x))):=fun {x} hx n hn=>by
   rcases AV.1 hn with hn | hn
   ·exact harg hx n (P6 hn)
   ·refine hd n (xD (fun k hk=>X5 (vaM (hmem hx)) (P6 hk)) hn)
  have hsub:∀ (l:List V),(∀ v∈l,∃ y∈(Op.call ⟨callee,args,ats⟩).operands.toList,∀ n∈EX v,n∈EX (ρ y))→Agree o o' (GK l++J3 o (GK l)):=by
   intro l hl n hn;have h1:∀ k∈GK l,k∈GK ((Op.call ⟨callee,args,ats⟩).operands.toList.map ρ):=by
    intro k hk;obtain ⟨v,hv1,hv2⟩:=Dk hk;obtain ⟨y,hy1,hy2⟩:=hl v hv1;exact X5 (vaM hy1) (hy2 k hv2)
   rcases AV.1 hn with hn | hn
   ·exact hv n (h1 n hn)
   ·exact hd n (xD h1 hn)
  split
  ·split
   ·rename_i x t hx _;have hxm:x∈args.toList:=by rw [hx]; simp
    have:=hdp hxm
    unfold iD;split <;> try rfl
    ·rename_i n lo hi hr;rw [this.left n (by rw [hr]; simp [EK])]
    ·rename_i n c cap sz len hr;rw [this.left n (by rw [hr]; simp [EK])]
   ·rfl
  ·split
   ·rename_i s x t t' hx _;have hsm:s∈args.toList:=by rw [hx]; simp
    have hxm:x∈args.toList:=by rw [hx]; simp
    simp only [Nv (hdp hsm).left (hdp hxm),Nx (hdp hsm).left]
   ·rfl
  ·split
   ·rename_i x y t t' hx _;have hxm:x∈args.toList:=by rw [hx]; simp
    have hym:y∈args.toList:=by rw [hx]; simp
    unfold fV;split
    ·rename_i n c cap sz len n' c' cap' sz' len' h1 h2;rw [(hdp hxm).left n (by rw [h1]; simp [EK]),(hdp hym).left n' (by rw [h2]; simp [EK])];split
     ·rename_i cs cs' e ho ho' hde;rw [oL (o:=o) (o':=o') (l:=cs') (fun m hm=>(hdp hym).right m (VA (by rw [h2]; simp [EK]) ho' hm))]
     ·rfl
    ·rfl
   ·rfl
  ·rfl
  ·rfl
  ·rename_i f d hcal;have hs:=hsub (args.toList.map ρ) (fun v hv=>by
    obtain ⟨y,hy,rfl⟩:=vao.1 hv;exact ⟨y,hmem hy,fun n hn=>hn⟩)
   unfold lI;rw [cR];split
   ·rw [Zq hs.left]
   ·split
    ·rw [vT hs]
    ·rfl
  ·split
   ·rename_i f caps hx;split
    ·rename_i hok;rw [cR,vT (hsub _ (fun v hv=>by
      rcases AV.1 hv with hv | hv
      ·obtain ⟨y,hy,rfl⟩:=vao.1 hv;exact ⟨y,hmem hy,fun n hn=>hn⟩
      ·refine ⟨_,by simp only [CO,Call.operands,vaz,AV]; exact .inl (AU ..),fun n hn=>?_⟩;rw [hx];simp only [EX];exact vW hok hv hn))]
    ·rfl
   ·rfl
  ·rfl
 case makeFunc f a b=>cases f <;> rfl
 all_goals rfl
open Go Go.RowKit
theorem oQ {ρ ρ':Operand→V}:∀ {l:List (Nat × Operand)},(∀ x∈l.map (·.2),ρ x=ρ' x)→KL ρ l=KL ρ' l
 | [],_=>rfl
 | (i,x) :: r,h=>by
  simp only [KL,h x (by simp),oQ (l:=r) (fun y hy=>h y (AW _ hy))]
theorem nU {ρ ρ':Operand→V}:∀ {l:List Operand},(∀ x∈l,ρ x=ρ' x)→JB ρ l=JB ρ' l
 | [],_=>rfl
 | x :: r,h=>by simp only [JB,h x (AU ..),nU (l:=r) (fun y hy=>h y (AW _ hy))]
theorem Bq {ρ ρ':Operand→V} {x:Option Operand} (h:∀ y∈x.toArray.toList,ρ y=ρ' y):x.map ρ=x.map ρ':=by
 cases x with
 | none=>rfl
 | some x=>simp only [vaH,h x (by simp)]
theorem Ro {E:Env} {o:Store} {ρ ρ':Operand→V} {d:Option Nat} {op:Op} (h:∀ x∈op.operands.toList,ρ x=ρ' x):D3 E o ρ d op=D3 E o ρ' d op:=by
 cases op
 case build t ps=>simp only [D3,oQ (l:=ps.toList) (fun x hx=>h x (by simpa [CO] using hx))]
 case buildSlice t n ps=>simp only [D3,oQ (l:=ps.toList) (fun x hx=>h x (by simpa [CO] using hx))]
 case makeFunc f first caps=>
  cases f <;> simp only [D3]
  rw [nU (l:=caps.toList) (fun x hx=>h x (by simp only [CO,vaz,AV]; exact .inr hx))]
 case slice t x lo hi mx=>
  have h1:ρ x=ρ' x:=h x (by simp [CO]);have h2:lo.map ρ=lo.map ρ':=Bq (fun y hy=>h y (by simp only [CO,vaz,AV]; exact .inl (.inl (.inr hy))));have h3:hi.map ρ=hi.map ρ':=Bq (fun y hy=>h y (by simp only [CO,vaz,AV]; exact .inl (.inr hy)));simp only [D3,h1,h2,h3]
 case call c=>
  obtain ⟨callee,args,ats⟩:=c;have ha:∀ x∈args.toList,ρ x=ρ' x:=fun x hx=>h x (by simp only [CO,Call.operands,vaz,AV]; exact .inr hx)
  have hm:JB ρ args.toList=JB ρ' args.toList:=nU ha;simp only [D3,QU];split
  ·split
   ·rename_i x t hx _;rw [ha x (by rw [hx]; simp)]
   ·rfl
  ·split
   ·rename_i s x t t' hx _;rw [ha s (by rw [hx]; simp),ha x (by rw [hx]; simp)]
   ·rfl
  ·split
   ·rename_i x y t t' hx _;rw [ha x (by rw [hx]; simp),ha y (by rw [hx]; simp)]
   ·rfl
  ·simp only [hm]
  ·simp only [hm]
  ·simp only [hm]
  ·rename_i x _ _;have hxx:ρ x=ρ' x:=h x (by simp [CO,Call.operands]);simp only [hm,hxx]
  ·rfl
 all_goals first
  | rfl
  | (simp only [CO] at h; simp only [D3]; simp (config:={decide:=false}) only [AX,CY,vak,forall_eq_or_imp,forall_eq] at h; simp only [h])
structure SEq (s s':St):Prop where
 t:∀ i,s.get i=s'.get i
 o:∀ n,DF s.o n=DF s'.o n
theorem SEq.refl (s:St):SEq s s:=⟨fun _=>rfl,fun _=>rfl⟩
theorem SEq.symm {s s':St} (h:SEq s s'):SEq s' s:=⟨fun i=>(h.t i).symm,fun n=>(h.o n).symm⟩
theorem SEq.trans {a b c:St} (h:SEq a b) (k:SEq b c):SEq a c:=⟨fun i=>(h.t i).trans (k.t i),fun n=>(h.o n).trans (k.o n)⟩
theorem SEq.opd {s s':St} (h:SEq s s'):opd s=opd s':=by
 funext x
 cases x <;> simp only [FM.opd,h.t]
theorem SEq.put {s s':St} (h:SEq s s') (d:Option Nat) (v:V):SEq (s.put d v) (s'.put d v):=by
 cases d with
 | none=>exact h
 | some d=>exact ⟨fun i=>by simp only [St.put,St.get,PT]; split <;> first | rfl | exact h.t i,h.o⟩
theorem Uo (s:St) (d:Nat) (v:V) (i:Nat):(s.put (some d) v).get i=if d=i then v else s.get i:=by simp only [St.put,St.get,PT]
theorem SEq.up {s s':St} (h:SEq s s') (u:Upd):SEq (s.up u) (s'.up u):=by
 cases u with
 | new n ob=>exact ⟨fun i=>by rw [bY,bY,h.t],fun m=>by rw [F6,F6,h.o]⟩
 | set n ob=>exact ⟨h.t,fun m=>by simp only [St.up,D5,h.o]⟩
 | kill n=>exact ⟨h.t,fun m=>by simp only [St.up,D5,h.o]⟩
theorem SEq.ups:∀ {us:List Upd} {s s':St},SEq s s'→SEq (s.ups us) (s'.ups us)
 | [],_,_,h=>h
 | u :: r,_,_,h=>SEq.ups (us:=r) (h.up u)
theorem SEq.lit {s:St} {j:Nat} {b:Bool} (h:s.get j = .bool b):SEq s (MI s j b):=
 ⟨fun i=>by
  simp only [MI,St.get,PT];split
  ·rename_i e; subst e; exact h
  ·rfl,fun _=>rfl⟩
theorem kB:∀ {us:List Upd} {o o':Store},(∀ n,DF o n=DF o' n)→∀ n,DF (I1 us o) n=DF (I1 us o') n
 | [],_,_,h=>h
 | .set m ob :: r,o,o',h=>kB (us:=r) (fun n=>by rw [D5,D5,h])
 | .new m ob :: r,o,o',h=>kB (us:=r) (fun n=>by rw [D5,D5,h])
 | .kill m :: r,o,o',h=>kB (us:=r) (fun n=>by rw [D5,D5,h])
theorem TC:∀ {us:List Upd} {o:Store} {n:Nat},n ∉ H3 us→DF (I1 us o) n=DF o n
 | [],_,_,_=>rfl
 | .set m ob :: r,o,n,h=>by
  simp only [H3,AX,not_or] at h;rw [I1,TC h.2,D5,A2 (fun e=>h.1 e.symm)]
 | .new m ob :: r,o,n,h=>by
  simp only [H3,AX,not_or] at h;rw [I1,TC h.2,D5,A2 (fun e=>h.1 e.symm)]
 | .kill m :: r,o,n,h=>by
  simp only [H3,AX,not_or] at h;rw [I1,TC h.2,D5,A2 (fun e=>h.1 e.symm)]
theorem rG:∀ {us:List Upd} {o o':Store} {n:Nat},n∈H3 us→DF (I1 us o) n=DF (I1 us o') n
 | [],_,_,_,h=>by simp [H3] at h
 | u :: r,o,o',n,h=>by
  by_cases hr:n∈H3 r
  ·cases u <;> simp only [I1] <;> exact rG hr
  ·cases u <;> simp only [H3,AX,hr,vak] at h <;> subst h <;> simp only [I1] <;> rw [TC hr,TC hr,D5,D5,BJ rfl,BJ rfl]
theorem SEq.apD {s s':St} (h:SEq s s') (x:Dn):SEq (apD s x) (apD s' x):=⟨(h.put x.dst x.v).t,kB h.o⟩
theorem SEq.apDs:∀ {l:List Dn} {s s':St},SEq s s'→SEq (apDs s l) (apDs s' l)
 | [],_,_,h=>h
 | x :: r,_,_,h=>SEq.apDs (l:=r) (h.apD x)
theorem kU:∀ (l l':List Dn) (s:St),apDs s (l++l')=apDs (apDs s l) l'
 | [],_,_=>rfl
 | x :: r,l',s=>kU r l' (apD s x)
theorem zJ {n:Nat} {v:V} (hc:W5 v=true) (hn:n ∉ EK v):FH.leaf n v=v:=by
 cases v <;> simp only [W5] at hc <;> first | (cases hc; done) | rfl | skip
 ·simp only [EK,A4] at hn;simp only [FH.leaf,HX.2 (fun e=>hn e.symm)]
 ·simp only [EK,A4] at hn;simp only [FH.leaf,HX.2 (fun e=>hn e.symm)]
theorem iB {n:Nat}:∀ {l:List V},W6 l=true→n ∉ E5 l→l.map (FH.leaf n)=l
 | [],_,_=>rfl
 | v :: r,hc,hn=>by
  simp only [W6] at hc;split at hc
  ·rename_i h1;simp only [E5,AV,not_or] at hn;simp only [AZ,zJ h1 hn.1,iB hc hn.2]
  ·cases hc
theorem nK {n:Nat}:∀ {l:List V},OJ.go l=true→n ∉ EX.go l→l.map (FH.leaf2 n)=l
 | [],_,_=>rfl
 | v :: r,hc,hn=>by
  by_cases ha:∃ l,v = .agg l
  ·obtain ⟨l,rfl⟩:=ha;simp only [OJ.go] at hc;split at hc
   ·rename_i h1;simp only [EX.go,AV,not_or] at hn;simp only [AZ,FH.leaf2,iB h1 hn.1,nK hc hn.2]
   ·cases hc
  ·have h0:FH.leaf2 n v=FH.leaf n v:=by cases v <;> first | rfl | exact absurd ⟨_,rfl⟩ ha
   have h1:W5 v=true∧OJ.go r=true:=by
    cases v <;> simp only [OJ.go,W5] at hc ⊢ <;> first | (simp at hc; done) | (simpa using hc) | (cases hc; done) | exact absurd ⟨_,rfl⟩ ha
   have h2:n ∉ EK v∧n ∉ EX.go r:=by
    cases v <;> simp only [EX.go,AV,not_or] at hn <;> first | exact hn | exact absurd ⟨_,rfl⟩ ha
   simp only [AZ,h0,zJ h1.1 h2.1,nK h1.2 h2.2]
theorem Eo {n:Nat} {v:V} (hc:OJ v=true) (hn:n ∉ EX v):FH n v=v:=by
 cases v <;> simp only [OJ] at hc <;> first | rfl | skip
 case row a b c=>simp only [EX,EK,A4] at hn; simp only [FH,HX.2 (fun e=>hn e.symm)]
 case ptr a b c=>simp only [EX,EK,A4] at hn; simp only [FH,HX.2 (fun e=>hn e.symm)]
 case bview a b c d e=>simp only [EX,EK,A4] at hn; simp only [FH,HX.2 (fun e=>hn e.symm)]
 case agg l=>simp only [FH,iB hc hn]
 case tup l=>simp only [FH,nK hc hn]
 case clo f l=>
  have:n ∉ E5 l:=fun h=>hn (X4 h)
  simp only [FH,iB hc this]
theorem Ep {n:Nat}:∀ {l:List V},fS l=true→n ∉ GK l→l.map (FH n)=l
 | [],_,_=>rfl
 | v :: r,hc,hn=>by
  simp only [fS] at hc;split at hc
  ·rename_i h1;simp only [GK,AV,not_or] at hn;simp only [AZ,Eo h1 hn.1,Ep hc hn.2]
  ·cases hc
theorem jG {n:Nat} {ob:Ob} (hc:lO ob=true) (hn:n ∉ dF ob):G3 n (some ob)=some ob:=by
 cases ob with
 | box cs=>simp only [G3,Ep hc hn]
 | row _ _ _ _ _=>rfl
 | bld _=>rfl
theorem Bt {p:Nat→Bool} {n:Nat} (hp:p n=true) (v:V):FH.leaf n (GB.leaf p v)=GB.leaf p v:=by
 cases v <;> simp only [GB.leaf] <;> first | rfl | skip
 all_goals
  rename_i m _ _;cases hm:p m with
  | true=>rfl
  | false=>
   simp only [FH.leaf];rw [HX.2 (fun e=>by subst e; rw [hp] at hm; cases hm)]
theorem iT {p:Nat→Bool} {n:Nat} (hp:p n=true):∀ (l:List V),(GB.go p l).map (FH.leaf n)=GB.go p l
 | []=>rfl
 | v :: r=>by simp only [GB.go,AZ,Bt hp,iT hp r]
theorem zda {p:Nat→Bool} {n:Nat} (hp:p n=true) (v:V):FH.leaf2 n (GB.leaf2 p v)=GB.leaf2 p v:=by
 by_cases ha:∃ l,v = .agg l
 ·obtain ⟨l,rfl⟩:=ha;simp only [GB.leaf2,FH.leaf2,iT hp]
 ·have h0:GB.leaf2 p v=GB.leaf p v:=by cases v <;> first | rfl | exact absurd ⟨_,rfl⟩ ha
  rw [h0]
  have:=Bt hp v
  cases hx:GB.leaf p v <;> rw [hx] at this <;> first | exact this | skip
  exfalso;cases v <;> simp only [GB.leaf] at hx <;> try (cases hx; done)
  all_goals (split at hx <;> cases hx)
theorem Bv {p:Nat→Bool} {n:Nat} (hp:p n=true):∀ (l:List V),(GB.go2 p l).map (FH.leaf2 n)=GB.go2 p l
 | []=>rfl
 | v :: r=>by simp only [GB.go2,AZ,zda hp,Bv hp r]
theorem Bz {p:Nat→Bool} {n:Nat} (hp:p n=true) (v:V):FH n (GB p v)=GB p v:=by
 have key:∀ m,p m=false→BM m n=false:=fun m hm=>HX.2 (fun e=>by subst e; rw [hp] at hm; cases hm)
 cases v <;> simp only [GB] <;> try rfl
 case row m _ _=>cases hm:p m <;> simp only [FH,key m,hm]
 case ptr m _ _=>cases hm:p m <;> simp only [FH,key m,hm]
 case bview m _ _ _ _=>cases hm:p m <;> simp only [FH,key m,hm]
 case agg l=>simp only [FH,iT hp]
 case tup l=>simp only [FH,Bv hp]
 case clo f l=>simp only [FH,iT hp]
theorem iI (f:V→V):∀ l,LG.mapV f l=l.map f
 | []=>rfl
 | v :: r=>by simp only [LG.mapV,AZ,iI f r]
theorem zdc {p:Nat→Bool} {n:Nat} (hp:p n=true) (x:Option Ob):G3 n (LG p x)=LG p x:=by
 match x with
 | none=>rfl
 | some (.row _ _ _ _ _)=>rfl
 | some (.bld _)=>rfl
 | some (.box cs)=>
  simp only [LG,G3,iI,List.map_map];congr 2;exact List.map_congr_left (fun v _=>Bz hp v)
structure Fr (n:Nat) (s:St):Prop where
 t:∀ i,FH n (s.get i)=s.get i
 o:∀ m,G3 n (DF s.o m)=DF s.o m
theorem Fr.congr {n:Nat} {s s':St} (h:Fr n s) (e:SEq s s'):Fr n s':=⟨fun i=>by rw [← e.t]; exact h.t i,fun m=>by rw [← e.o]; exact h.o m⟩
theorem cT {n:Nat} {l:List Nat}:JR n l=false↔n ∉ l:=by
 rw [← cS]; simp
theorem XE:∀ {l l':List Nat},QX l l'=true↔∀ n∈l,n ∉ l'
 | [],l'=>by simp [QX]
 | m :: r,l'=>by
  simp only [QX];cases hb:JR m l' with
  | true=>simp [cS.1 hb]
  | false=>simp [cT.1 hb,XE (l:=r)]
theorem kC:∀ {us:List Upd} {s:St},(∀ n∈NY us,Fr n s)→N6 us=true→SEq (s.ups us) ⟨s.t,I1 us s.o⟩
 | [],s,_,_=>SEq.refl s
 | .kill m :: r,s,hf,ho=>by
  simp only [St.ups,I1];exact kC (us:=r) (s:=s.up (.kill m)) (fun n hn=>⟨(hf n hn).t,fun k=>by
   simp only [St.up,D5];split
   ·rfl
   ·exact (hf n hn).o k⟩) ho
 | .set m ob :: r,s,hf,ho=>by
  simp only [N6,AG] at ho;simp only [St.ups,I1];exact kC (us:=r) (s:=s.up (.set m ob)) (fun n hn=>⟨(hf n hn).t,fun k=>by
   simp only [St.up,D5];split
   ·exact jG ho.1 (XE.1 ho.2.1 n hn)
   ·exact (hf n hn).o k⟩) ho.2.2
 | .new m ob :: r,s,hf,ho=>by
  simp only [N6,AG] at ho;simp only [St.ups,I1];have hm:Fr m s:=hf m (by simp [NY]);have e:SEq (s.up (.new m ob)) (s.up (.set m ob)):=⟨fun i=>by rw [bY,hm.t]; rfl,fun k=>by rw [F6,hm.o]; simp only [St.up,D5]⟩;refine (e.ups (us:=r)).trans ?_;exact kC (us:=r) (s:=s.up (.set m ob)) (fun n hn=>⟨(hf n (by simp [NY,hn])).t,fun k=>by
   simp only [St.up,D5];split
   ·exact jG ho.1 (XE.1 ho.2.1 n hn)
   ·exact (hf n (by simp [NY,hn])).o k⟩) ho.2.2
open Go Go.RowKit
def CmpP (p:Nat→Bool) (γ:Nat→Value) (o:Store) (γ':Nat→Value) (o':Store):Prop:=
 ∀ n ob',p n=false→DF o' n=some ob'→γ' n=γ n∧∃ ob,DF o n=some ob∧ob.fits ob'
section
variable {γ γ':Nat→Value} {o o':Store} {w:World} {O:Nat→Prop} {p:Nat→Bool}
theorem CmpP.but (hc:CmpP p γ o γ' o') {n:Nat} (hn:p n=false) {v:V} (hv:v = .any∨(∃ lo hi,v = .row n lo hi)∨(∃ i c,v = .ptr n i c)∨∃ c cap sz len,v = .bview n c cap sz len) {x:Value} (h:VRel γ o w O v x):VRel γ' o' w O v x:=by
 let f:Nat→Value:=fun m=>if m=n then γ' n else γ m
 rcases hv with rfl | ⟨lo,hi,rfl⟩ | ⟨i,c,rfl⟩ | ⟨c,cap,sz,len,rfl⟩
 ·simp only [VRel]
 ·simp only [VRel] at h ⊢;cases h':DF o' n with
  | none=>trivial
  | some ob'=>
   obtain ⟨hg,ob,ho,hf⟩:=hc n ob' hn h';rw [ho] at h;rw [hg];cases ob <;> cases ob' <;> simp only [Ob.fits] at hf <;> try trivial
   obtain ⟨rfl,hl⟩:=hf;exact ⟨by rw [← hl]; exact h.1,h.2⟩
 ·simp only [VRel] at h ⊢;cases h':DF o' n with
  | none=>trivial
  | some ob'=>
   obtain ⟨hg,ob,ho,hf⟩:=hc n ob' hn h';rw [ho] at h;rw [hg];cases ob <;> cases ob' <;> simp only [Ob.fits] at hf
   ·exact h
   ·obtain ⟨rfl,hl⟩:=hf;exact ⟨by rw [← hl]; exact h.1,h.2⟩
   ·exact h
 ·simp only [VRel] at h ⊢;cases h':DF o' n with
  | none=>trivial
  | some ob'=>
   obtain ⟨hg,ob,ho,hf⟩:=hc n ob' hn h';rw [ho] at h;rw [hg];cases ob <;> cases ob' <;> simp only [Ob.fits] at hf <;> try trivial
   exact ⟨h.1,h.2.1,by rw [← hf]; exact h.2.2.1,h.2.2.2⟩
theorem Bu (hc:CmpP p γ o γ' o') {v:V} {x:Value} (h:VRel γ o w O v x):VRel γ' o' w O (GB.leaf p v) x:=by
 cases v <;> simp only [GB.leaf]
 case row n lo hi=>
  cases hb:p n with
  | true=>simp only [VRel]
  | false=>exact hc.but hb (.inr (.inl ⟨_,_,rfl⟩)) h
 case ptr n i c=>
  cases hb:p n with
  | true=>simp only [VRel]
  | false=>exact hc.but hb (.inr (.inr (.inl ⟨_,_,rfl⟩))) h
 all_goals first
  | (simp only [VRel] at h ⊢; exact h)
  | simp only [VRel]
theorem iU (hc:CmpP p γ o γ' o'):∀ {l:List V} {xs:List Value},VRels γ o w O l xs→VRels γ' o' w O (GB.go p l) xs
 | [],[],_=>by simp only [GB.go,VRels]
 | [],_ :: _,h=>by simp only [VRels] at h
 | _ :: _,[],h=>by simp only [VRels] at h
 | v :: vs,x :: xs,h=>by
  simp only [VRels,GB.go] at h ⊢;exact ⟨Bu hc h.1,iU hc h.2⟩
theorem zdb (hc:CmpP p γ o γ' o') {v:V} {x:Value} (h:VRel γ o w O v x):VRel γ' o' w O (GB.leaf2 p v) x:=by
 cases v <;> simp only [GB.leaf2] <;> try exact Bu hc h
 simp only [VRel] at h ⊢;obtain ⟨cs,hx,hr⟩:=h;exact ⟨cs,hx,iU hc hr⟩
theorem Bw (hc:CmpP p γ o γ' o'):∀ {l:List V} {xs:List Value},VRels γ o w O l xs→VRels γ' o' w O (GB.go2 p l) xs
 | [],[],_=>by simp only [GB.go2,VRels]
 | [],_ :: _,h=>by simp only [VRels] at h
 | _ :: _,[],h=>by simp only [VRels] at h
 | v :: vs,x :: xs,h=>by
  simp only [VRels,GB.go2] at h ⊢;exact ⟨zdb hc h.1,Bw hc h.2⟩
theorem Ca (hc:CmpP p γ o γ' o') {v:V} {x:Value} (h:VRel γ o w O v x):VRel γ' o' w O (GB p v) x:=by
 cases v <;> simp only [GB]
 case row n lo hi=>
  cases hb:p n with
  | true=>simp only [VRel]
  | false=>exact hc.but hb (.inr (.inl ⟨_,_,rfl⟩)) h
 case ptr n i c=>
  cases hb:p n with
  | true=>simp only [VRel]
  | false=>exact hc.but hb (.inr (.inr (.inl ⟨_,_,rfl⟩))) h
 case bview n c cap sz len=>
  cases hb:p n with
  | true=>simp only [VRel]
  | false=>exact hc.but hb (.inr (.inr (.inr ⟨_,_,_,_,rfl⟩))) h
 case agg l=>
  simp only [VRel] at h ⊢;obtain ⟨cs,hx,hr⟩:=h;exact ⟨cs,hx,iU hc hr⟩
 case tup l=>
  simp only [VRel] at h ⊢;obtain ⟨cs,hx,hr⟩:=h;exact ⟨cs,hx,Bw hc hr⟩
 case clo f l=>
  simp only [VRel] at h ⊢;obtain ⟨cs,hx,hr⟩:=h;exact ⟨cs,hx,iU hc hr⟩
 all_goals (simp only [VRel] at h ⊢; try exact h)
theorem Cb (hc:CmpP p γ o γ' o'):∀ {l:List V} {xs:List Value},VRels γ o w O l xs→VRels γ' o' w O (l.map (GB p)) xs
 | [],[],_=>by simp only [B6,VRels]
 | [],_ :: _,h=>by simp only [VRels] at h
 | _ :: _,[],h=>by simp only [VRels] at h
 | v :: vs,x :: xs,h=>by
  simp only [VRels,AZ] at h ⊢;exact ⟨Ca hc h.1,Cb hc h.2⟩
end
theorem lP (p:Nat→Bool):∀ (o:Store) (n:Nat),DF (W7 p o) n=match p n with | true=>none | false=>LG p (DF o n)
 | [],n=>by simp only [W7,DF,EL]; cases p n <;> rfl
 | (m,x) :: r,n=>by
  simp only [W7];by_cases e:m=n
  ·subst e;cases hp:p m <;> simp only [D5,CM]
  ·cases hp:p m <;> simp only [D5,A2 e,lP p r n]
theorem zd6 {p:Nat→Bool} {x:Option Ob} {ob:Ob} (h:LG p x=some ob):∃ ob0,x=some ob0∧LG p (some ob0)=some ob:=by
 cases x with
 | none=>simp [LG] at h
 | some ob0=>exact ⟨ob0,rfl,h⟩
theorem dL {p:Nat→Bool} {ob0 ob:Ob} (h:LG p (some ob0)=some ob):ob0.fits ob∧∀ g b,E2 g ob b↔E2 g ob0 b:=by
 cases ob0 <;> simp only [LG,AC] at h <;> subst h
 ·exact ⟨by simp [Ob.fits,iI],fun _ _=>Iff.rfl⟩
 ·exact ⟨⟨rfl,rfl⟩,fun _ _=>Iff.rfl⟩
 ·exact ⟨trivial,fun _ _=>Iff.rfl⟩
section
variable {B:BT} {nt:Nat} {w0:World} {X:Zone} {γ:Nat→Value} {st st':St} {a:Act} {w:World} {P:Program} {E:Env}
theorem Rel.less (h:Rel B nt w0 X γ st a w) {st':St} (ht:∀ i,st'.get i=st.get i∨st'.get i = .any) (ho:∀ n ob,DF st'.o n=some ob→DF st.o n=some ob):Rel B nt w0 X γ st' a w:=by
 have hP:∀ b,E1 γ st'.o b→E1 γ st.o b:=fun b ⟨n,ob,h1,h2⟩=>⟨n,ob,ho n ob h1,h2⟩
 have hO:∀ b,b < w.heap.size→DH X γ st'.o b→DH X γ st.o b:=fun b _ hb=>hb.imp_left (hP b)
 have hc:Cmp γ st.o γ st'.o:=fun n ob hn=>⟨rfl,ob,ho n ob hn,ob.fits_refl⟩
 refine ⟨h.sz,h.df,fun i=>?_,fun n ob hn=>(h.ob n ob (ho n ob hn)).later (fun _ _=>rfl) (Keep.refl _ w) hO hc,fun b hb=>h.lt b (hP b hb),fun n m ob ob' b hne h1 h2=>h.dis n m ob ob' b hne (ho n ob h1) (ho m ob' h2),h.keep,fun b hb=>h.nr b (hP b hb),h.fl,fun p hp ob h1=>h.pn p hp ob (ho _ ob h1)⟩;rcases ht i with h1 | h1
 ·rw [h1];exact VRel.mono (Keep.refl _ w) hO (VRel.cmp hc (h.tm i))
 ·rw [h1];simp only [VRel]
theorem Rel.lit (h:Rel B nt w0 X γ st a w) {i:Nat} {v:V} (hv:st.get i=v):Rel B nt w0 X γ ⟨(i,v) :: st.t,st.o⟩ a w:=by
 refine h.less (fun j=>?_) (fun _ _ h=>h);simp only [St.get,PT];by_cases e:i=j
 ·subst e;simp only [CM];exact .inl hv.symm
 ·simp only [A2 e];exact .inl trivial
theorem bR:∀ (ops:List Oper) (j d:Nat),NT ops j=some d→(ops[j]?).bind (·.dst)=some d
 | [],j,d,h=>by simp [NT] at h
 | o :: r,0,d,h=>by simpa [NT] using h
 | o :: r,j+1,d,h=>by simpa [NT] using bR r j d (by simpa [NT] using h)
theorem s6 (h:Rel B nt w0 X γ st a w) {i:Nat} {c:Bool} (hv:st.get i = .bool c):a.tmps[i]?=some (.bool c):=by
 have:=h.tm i
 rw [hv] at this;simp only [VRel,vbi] at this;cases ht:a.tmps[i]? with
 | none=>rw [ht] at this; simp [undef] at this
 | some u=>rw [ht] at this; simp only [vaq] at this; rw [this]
theorem Jt (h:Rel B nt w0 X γ st a w) {i:Nat} (hv:st.get i = .tup []):a.tmps[i]?=none∨a.tmps[i]?=some (.tuple #[]):=by
 have:=h.tm i
 rw [hv] at this;simp only [VRel,vbi] at this;obtain ⟨cs,h1,h2⟩:=this;cases hl:cs.toList with
 | nil=>
  have e:cs = #[]:=by simpa using hl
  rw [e] at h1;cases ht:a.tmps[i]? with
  | none=>exact .inl rfl
  | some u=>rw [ht] at h1; simp only [vaq] at h1; rw [h1]; exact .inr rfl
 | cons x l=>rw [hl] at h2; simp only [VRels] at h2
theorem Rel.clear (h:Rel B nt w0 X γ st a w) (ds:List Nat):Rel B nt w0 X γ (ME ds st) a w:=by
 have hget:∀ n ob,DF (ME ds st).o n=some ob→NW ds n=false∧∃ ob0,DF st.o n=some ob0∧LG (NW ds) (some ob0)=some ob:=by
  intro n ob hn;simp only [ME,lP] at hn;split at hn
  ·cases hn
  ·rename_i hp;exact ⟨hp,zd6 hn⟩
 have hP:∀ b,E1 γ (ME ds st).o b→E1 γ st.o b:=by
  rintro b ⟨n,ob,h1,h2⟩;obtain ⟨_,ob0,h3,h4⟩:=hget n ob h1;exact ⟨n,ob0,h3,((dL h4).2 _ _).1 h2⟩
 have hO:∀ b,b < w.heap.size→DH X γ (ME ds st).o b→DH X γ st.o b:=fun b _ hb=>hb.imp_left (hP b)
 have hc:CmpP (NW ds) γ st.o γ (ME ds st).o:=by
  intro n ob' _ hn;obtain ⟨_,ob0,h3,h4⟩:=hget n ob' hn;exact ⟨rfl,ob0,h3,(dL h4).1⟩
 refine ⟨h.sz,h.df,fun i=>?_,fun n ob hn=>?_,fun b hb=>h.lt b (hP b hb),fun n m ob ob' b hne h1 h2 hb1 hb2=>?_,h.keep,fun b hb=>h.nr b (hP b hb),h.fl,fun p hp ob h1=>?_⟩
 ·have:(ME ds st).get i=GB (NW ds) (st.get i):=by
   simp only [ME,St.get];exact cM _ _ rfl _ _
  rw [this];exact VRel.mono (Keep.refl _ w) hO (Ca hc (h.tm i))
 ·obtain ⟨_,ob0,h3,h4⟩:=hget n ob hn;have hor:=h.ob n ob0 h3;cases ob0 with
  | box l=>
   simp only [LG,AC] at h4;subst h4;simp only [ObRel] at hor ⊢;obtain ⟨b,c,T,hg,hh,hr⟩:=hor;rw [iI];exact ⟨b,c,T,hg,hh,VRels.mono (Keep.refl _ w) hO (Cb hc hr)⟩
  | row own e ag ks l=>
   simp only [LG,AC] at h4;subst h4;exact hor.later (fun _ _=>rfl) (Keep.refl _ w) hO (fun m ob1 hm=>by
    obtain ⟨_,ob0,h5,h6⟩:=hget m ob1 hm;exact ⟨rfl,ob0,h5,(dL h6).1⟩)
  | bld s=>
   simp only [LG,AC] at h4;subst h4;simpa only [ObRel] using hor
 ·obtain ⟨_,ob0,h3,h4⟩:=hget n ob h1;obtain ⟨_,ob1,h5,h6⟩:=hget m ob' h2;exact h.dis n m ob0 ob1 b hne h3 h5 (((dL h4).2 _ _).1 hb1) (((dL h6).2 _ _).1 hb2)
 ·obtain ⟨_,ob0,h3,_⟩:=hget _ ob h1;exact h.pn p hp ob0 h3
theorem Rel.seq (h:Rel B nt w0 X γ st a w) (e:SEq st st'):Rel B nt w0 X γ st' a w:=
 h.less (fun i=>.inl (e.t i).symm) (fun n ob hn=>by rw [e.o]; exact hn)
end
theorem Px {ds:List Nat} {n:Nat} (hn:NW ds n=true) (s:St):Fr n (ME ds s):=by
 refine ⟨fun i=>?_,fun m=>?_⟩
 ·have:(ME ds s).get i=GB (NW ds) (s.get i):=by
   simp only [ME,St.get];exact cM _ _ rfl _ _
  rw [this];exact Bz hn _
 ·simp only [ME,lP];split
  ·rfl
  ·exact zdc hn _
def StepOK (E:Env) (all:List Oper) (o:Oper) (s:St) (D:Dn):Prop:=
 OT E o.dst=true∧D.dst=o.dst∧D.tm=LJ all o ∧
 match o.guard with
 | none=>(D3 E s.o (opd s) o.dst o.op).get=some (D.v,D.us)∧D.rd=MR E s.o (opd s) o.op
 | some (j,b)=>(∃ dj c,NT all j=some dj∧s.get dj = .bool c ∧
  ((c=b∧(D3 E s.o (opd s) o.dst o.op).get=some (D.v,D.us)∧D.rd=MR E s.o (opd s) o.op)∨(c≠b∧D.v = .tup []∧D.us=[]))) ∨
  (∃ dj,NT all j=some dj∧s.get dj = .tup []∧D.v = .tup []∧D.us=[])
def Steps (E:Env) (all:List Oper):List Oper→St→List Dn→Prop
 | [],_,[]=>True
 | o :: r,s,D :: Ds=>StepOK E all o s D∧Steps E all r (apD s D) Ds
 | _,_,_=>False
theorem StepOK.congr {E:Env} {all:List Oper} {o:Oper} {s s':St} {D:Dn} (h:StepOK E all o s D) (e:SEq s s'):StepOK E all o s' D:=by
 have hag:∀ (ρ:Operand→V) d op,D3 E s'.o ρ d op=D3 E s.o ρ d op:=fun ρ d op=>xS (fun n _=>(e.o n).symm)
 have hdp:∀ l,J3 s'.o l=J3 s.o l:=by
  intro l
  induction l with
  | nil=>rfl
  | cons n r ih=>simp only [J3,ih,e.o]
 have hrd:∀ (ρ:Operand→V) op,MR E s'.o ρ op=MR E s.o ρ op:=fun ρ op=>by unfold MR i7; rw [hdp]
 unfold StepOK at h ⊢;refine ⟨h.1,h.2.1,h.2.2.1,?_⟩;have h3:=h.2.2.2;rw [← e.opd];simp only [hag,hrd];split at h3
 ·exact h3
 ·rcases h3 with ⟨dj,c,h4,h5,h6⟩ | ⟨dj,h4,h5,h6⟩
  ·exact .inl ⟨dj,c,h4,by rw [← e.t]; exact h5,h6⟩
  ·exact .inr ⟨dj,h4,by rw [← e.t]; exact h5,h6⟩
theorem Steps.congr {E:Env} {all:List Oper}:∀ {l:List Oper} {s s':St} {Ds:List Dn},Steps E all l s Ds→SEq s s'→Steps E all l s' Ds
 | [],_,_,[],_,_=>trivial
 | [],_,_,_ :: _,h,_=>by simp [Steps] at h
 | _ :: _,_,_,[],h,_=>by simp [Steps] at h
 | o :: r,s,s',D :: Ds,h,e=>by
  simp only [Steps] at h ⊢;exact ⟨h.1.congr e,Steps.congr h.2 (e.apD D)⟩
theorem xQ {E:Env} {all:List Oper} {res:V × List (List V)}:∀ (l:List Oper) {s:St} {acc:List Dn} {k:List Dn→St→DG},OO E all l s acc k=some res →
  ∃ Ds s',Steps E all l s Ds∧SEq s' (apDs s Ds)∧k (Ds.reverse++acc) s'=some res
 | [],s,acc,k,h=>⟨[],s,trivial,SEq.refl s,by simpa [OO] using h⟩
 | o :: r,s,acc,k,h=>by
  simp only [OO] at h;have hd:OT E o.dst=true:=by
   cases hd:OT E o.dst with
   | true=>rfl
   | false=>rw [hd] at h; cases h
  rw [hd] at h;simp only at h;have fin:∀ (s1:St) (D:Dn),SEq s s1→StepOK E all o s1 D→OO E all r (apD s1 D) (D :: acc) k=some res →
    ∃ Ds s',Steps E all (o :: r) s Ds∧SEq s' (apDs s Ds)∧k (Ds.reverse++acc) s'=some res:=by
   intro s1 D e hs he;obtain ⟨Ds,s',h1,h2,h3⟩:=xQ r he;refine ⟨D :: Ds,s',⟨hs.congr e.symm,h1.congr (e.symm.apD D)⟩,h2.trans ((e.symm.apD D).apDs),?_⟩;simpa using h3
  split at h
  ·rename_i hg;obtain ⟨v,us,h1,h2⟩:=T.run_some h;exact fin s _ (SEq.refl s) ⟨hd,rfl,rfl,by rw [hg]; exact ⟨h1,rfl⟩⟩ h2
  ·rename_i j b hg;split at h
   ·rename_i dj hdj;split at h
    ·rename_i c hc;have hl:∀ c',(MI s dj c').get dj = .bool c':=fun c'=>by simp [MI,St.get,PT]
     cases c with
     | true=>
      have e:=SEq.lit hc;cases b with
      | true=>
       simp only at h;obtain ⟨v,us,h1,h2⟩:=T.run_some h;exact fin _ _ e ⟨hd,rfl,rfl,by rw [hg]; exact .inl ⟨dj,true,hdj,hl _,.inl ⟨rfl,h1,rfl⟩⟩⟩ h2
      | false=>exact fin _ _ e ⟨hd,rfl,rfl,by rw [hg]; exact .inl ⟨dj,true,hdj,hl _,.inr ⟨by simp,rfl,rfl⟩⟩⟩ h
     | false=>
      have e:=SEq.lit hc;cases b with
      | false=>
       simp only at h;obtain ⟨v,us,h1,h2⟩:=T.run_some h;exact fin _ _ e ⟨hd,rfl,rfl,by rw [hg]; exact .inl ⟨dj,false,hdj,hl _,.inl ⟨rfl,h1,rfl⟩⟩⟩ h2
      | true=>exact fin _ _ e ⟨hd,rfl,rfl,by rw [hg]; exact .inl ⟨dj,false,hdj,hl _,.inr ⟨by simp,rfl,rfl⟩⟩⟩ h
    ·rename_i hc;exact fin _ _ (SEq.refl s) ⟨hd,rfl,rfl,by rw [hg]; exact .inr ⟨dj,hdj,hc,rfl,rfl⟩⟩ h
    ·cases h
   ·cases h
theorem Steps.length {E:Env} {all:List Oper}:∀ {l:List Oper} {s:St} {Ds:List Dn},Steps E all l s Ds→Ds.length=l.length
 | [],_,[],_=>rfl
 | [],_,_ :: _,h=>by simp [Steps] at h
 | _ :: _,_,[],h=>by simp [Steps] at h
 | _ :: _,_,_ :: _,h=>by simp only [AM,Steps.length h.2]
theorem Steps.get {E:Env} {all:List Oper}:∀ {l:List Oper} {s:St} {Ds:List Dn} {i:Nat} {o:Oper} {D:Dn},Steps E all l s Ds→l[i]?=some o→Ds[i]?=some D→StepOK E all o (apDs s (Ds.take i)) D
 | [],_,_,_,_,_,_,h,_=>by simp at h
 | _ :: _,_,[],_,_,_,_,_,h=>by simp at h
 | o :: r,s,D :: Ds,0,_,_,h,h1,h2=>by
  simp only [BP,AC] at h1 h2;subst h1; subst h2;exact h.1
 | o :: r,s,D :: Ds,i+1,_,_,h,h1,h2=>by
  simp only [DA] at h1 h2;simp only [List.take_succ_cons,apDs];exact Steps.get h.2 h1 h2
def EI (L:Nat→Bool):Nat→List Dn→List Dn
 | _,[]=>[]
 | i,D :: r=>match L i with | true=>D :: EI L (i+1) r | false=>EI L (i+1) r
theorem X9 {L L':Nat→Bool}:∀ (l:List Dn) (i:Nat),(∀ j,i≤j→j < i+l.length→L j=L' j)→EI L i l=EI L' i l
 | [],_,_=>rfl
 | D :: r,i,h=>by
  simp only [EI];rw [h i (AT i) (by simp),X9 r (i+1) (fun j h1 h2=>h j (by omega) (by simp only [AM]; omega))]
theorem dM:∀ (l:List Dn) (i:Nat),EI (fun _=>false) i l=[]
 | [],_=>rfl
 | D :: r,i=>by simp only [EI,dM r]
theorem Ex:∀ (l:List Dn) (i:Nat),EI (fun _=>true) i l=l
 | [],_=>rfl
 | D :: r,i=>by simp only [EI,Ex r]
theorem Ey (k:Nat):∀ (l:List Dn) (i:Nat),EI (fun j=>decide (j < i+k)) i l=l.take k
 | [],i=>by simp [EI]
 | D :: r,i=>by
  cases k with
  | zero=>
   rw [X9 (L':=fun _=>false) _ _ (fun j h1 h2=>by simp; omega),dM];rfl
  | succ k=>
   simp only [EI];rw [show decide (i < i+(k+1))=true by simp];simp only [List.take_succ_cons,va7,vba]
   have:=Ey k r (i+1)
   rw [show i+(k+1)=i+1+k by omega];exact this
theorem RC {L L':Nat→Bool} {n:Nat}:∀ (l:List Dn) (i:Nat) {s s':St},DF s.o n=DF s'.o n→(∀ j D,l[j]?=some D→n∈H3 D.us→L (i+j)=L' (i+j))→DF (apDs s (EI L i l)).o n=DF (apDs s' (EI L' i l)).o n
 | [],_,_,_,h,_=>h
 | D :: r,i,s,s',h,hl=>by
  have hr:∀ j E,r[j]?=some E→n∈H3 E.us→L (i+1+j)=L' (i+1+j):=fun j E hj hn=>by
   have:=hl (j+1) E (by simpa using hj) hn
   rwa [show i+(j+1)=i+1+j by omega] at this
  have one:∀ {s:St},n ∉ H3 D.us→DF (apD s D).o n=DF s.o n:=fun h=>TC h
  by_cases hn:n∈H3 D.us
  ·have h0:=hl 0 D rfl hn;simp only [CZ] at h0;simp only [EI,h0];cases L' i with
   | true=>exact RC r (i+1) (rG hn) hr
   | false=>exact RC r (i+1) h hr
  ·simp only [EI];cases L i <;> cases L' i <;> simp only [apDs]
   ·exact RC r (i+1) h hr
   ·exact RC r (i+1) (h.trans (one hn).symm) hr
   ·exact RC r (i+1) ((one hn).trans h) hr
   ·exact RC r (i+1) ((one hn).trans (h.trans (one hn).symm)) hr
theorem OE (s:St) (D:Dn) (t:Nat):(apD s D).get t=if D.dst=some t then D.v else s.get t:=by
 unfold apD;cases hd:D.dst with
 | none=>simp [St.put,St.get]
 | some d=>
  have:=Uo s d D.v t
  simp only [AC];exact this
theorem RB {L L':Nat→Bool} {t:Nat}:∀ (l:List Dn) (i:Nat) {s s':St},s.get t=s'.get t→(∀ j D,l[j]?=some D→D.dst=some t→L (i+j)=L' (i+j))→(apDs s (EI L i l)).get t=(apDs s' (EI L' i l)).get t
 | [],_,_,_,h,_=>h
 | D :: r,i,s,s',h,hl=>by
  have hr:∀ j E,r[j]?=some E→E.dst=some t→L (i+1+j)=L' (i+1+j):=fun j E hj hn=>by
   have:=hl (j+1) E (by simpa using hj) hn
   rwa [show i+(j+1)=i+1+j by omega] at this
  by_cases hn:D.dst=some t
  ·have h0:=hl 0 D rfl hn;simp only [CZ] at h0;simp only [EI,h0];cases L' i with
   | true=>exact RB r (i+1) (by rw [OE,OE,BJ hn,BJ hn]) hr
   | false=>exact RB r (i+1) h hr
  ·simp only [EI];cases L i <;> cases L' i <;> simp only [apDs]
   ·exact RB r (i+1) h hr
   ·exact RB r (i+1) (by rw [OE,A2 hn]; exact h) hr
   ·exact RB r (i+1) (by rw [OE,A2 hn]; exact h) hr
   ·exact RB r (i+1) (by rw [OE,OE,A2 hn,A2 hn]; exact h) hr
theorem pV {L:Nat→Bool} {n:Nat}:∀ (l:List Dn) (i:Nat) {s:St},Fr n s→(∀ j D,l[j]?=some D→L (i+j)=true→OJ D.v=true∧n ∉ EX D.v∧∀ u∈D.us,∀ m ob,(u = .new m ob∨u = .set m ob)→G3 n (some ob)=some ob)→Fr n (apDs s (EI L i l))
 | [],_,_,h,_=>h
 | D :: r,i,s,h,hl=>by
  have hr:∀ j E,r[j]?=some E→L (i+1+j)=true→OJ E.v=true∧n ∉ EX E.v∧∀ u∈E.us,∀ m ob,(u = .new m ob∨u = .set m ob)→G3 n (some ob)=some ob:=fun j E hj hn=>by
   refine hl (j+1) E (by simpa using hj) ?_
   rwa [show i+(j+1)=i+1+j by omega]
  simp only [EI];cases hL:L i with
  | false=>exact pV r (i+1) h hr
  | true=>
   refine pV r (i+1) ?_ hr;obtain ⟨h1,h2,h3⟩:=hl 0 D rfl hL;refine ⟨fun t=>?_,?_⟩
   ·rw [OE];split
    ·exact Eo h1 h2
    ·exact h.t t
   ·have key:∀ (us:List Upd) (o:Store),(∀ u∈us,∀ m ob,(u = .new m ob∨u = .set m ob)→G3 n (some ob)=some ob)→(∀ m,G3 n (DF o m)=DF o m)→∀ m,G3 n (DF (I1 us o) m)=DF (I1 us o) m:=by
     intro us
     induction us with
     | nil=>intro o _ h; exact h
     | cons u us ih=>
      intro o hu ho;have hu':=fun u' hu'=>hu u' (AW _ hu')
      cases u with
      | kill k=>exact ih _ hu' (fun m=>by rw [D5]; split <;> first | rfl | exact ho m)
      | set k ob=>exact ih _ hu' (fun m=>by rw [D5]; split <;> first | exact hu _ (AU ..) k ob (.inr rfl) | exact ho m)
      | new k ob=>exact ih _ hu' (fun m=>by rw [D5]; split <;> first | exact hu _ (AU ..) k ob (.inl rfl) | exact ho m)
    exact key D.us s.o h3 h.o
theorem pW {L:Nat→Bool}:∀ (l l':List Dn) (i:Nat),EI L i (l++l')=EI L i l++EI L (i+l.length) l'
 | [],l',i=>by simp [EI]
 | D :: r,l',i=>by
  simp only [vaf,EI,AM];rw [show i+(r.length+1)=i+1+r.length by omega];cases L i <;> simp [pW r l' (i+1)]
open Go Go.RowKit
theorem XW:∀ (l:List (List Nat)) (i:Nat),G6 l i=(l[i]?).getD []
 | [],i=>by simp [G6]
 | x :: r,0=>rfl
 | x :: r,i+1=>by simp only [G6,XW r i,DA]
theorem iK {acc:List (List Nat)} {j:Nat}:∀ {es:List Edge},j∈SV acc es→∃ e∈es,vaS .any e=true∧(j=e.on∨j∈G6 acc e.on)
 | [],h=>by simp [SV] at h
 | e :: r,h=>by
  simp only [SV] at h;split at h
  ·rename_i hb;simp only [AX,AV] at h;rcases h with h | h | h
   ·exact ⟨e,AU ..,hb,.inl h⟩
   ·exact ⟨e,AU ..,hb,.inr h⟩
   ·obtain ⟨e',h1,h2⟩:=iK h;exact ⟨e',AW _ h1,h2⟩
  ·obtain ⟨e',h1,h2⟩:=iK h;exact ⟨e',AW _ h1,h2⟩
def Q7 (acc:List Nat):List Nat→List Nat
 | []=>acc
 | n :: r=>match JR n acc with
  | true=>Q7 acc r
  | false=>Q7 (n :: acc) r
theorem VO (k:List Nat→List (List Nat)):∀ (l acc:List Nat),cV acc l k=k (Q7 acc l)
 | [],_=>rfl
 | n :: r,acc=>by
  simp only [cV,Q7];cases JR n acc with
  | true=>exact VO k r acc
  | false=>exact VO k r (n :: acc)
theorem oA {j:Nat}:∀ {l acc:List Nat},j∈Q7 acc l→j∈acc∨j∈l
 | [],_,h=>.inl h
 | n :: r,acc,h=>by
  simp only [Q7] at h;cases hb:JR n acc with
  | true=>
   rw [hb] at h;exact (oA h).imp_right (AW _)
  | false=>
   rw [hb] at h;rcases oA h with h1 | h1
   ·rcases AX.1 h1 with rfl | h1
    ·exact .inr (AU ..)
    ·exact .inl h1
   ·exact .inr (AW _ h1)
theorem Ag {j:Nat} {l:List Nat} (h:j∈Q7 [] l):j∈l:=(oA h).resolve_left (by simp)
theorem o6:∀ (l:List Oper) (acc:List (List Nat)) (i:Nat),i < acc.length→G6 (H8 acc l) i=G6 acc i
 | [],_,_,_=>rfl
 | o :: r,acc,i,h=>by
  simp only [H8,VO];rw [o6 r _ i (by simp; omega),XW,XW,vbo h]
theorem o5:∀ (l:List Oper) (acc:List (List Nat)) (i:Nat) (o:Oper),l[i]?=some o →
  ∃ acc',acc'.length=acc.length+i∧G6 (H8 acc l) (acc.length+i)=Q7 [] (SV acc' o.after.toList)∧∀ k,k < acc'.length→G6 acc' k=G6 (H8 acc l) k
 | [],_,_,_,h=>by simp at h
 | o :: r,acc,0,o',h=>by
  simp only [BP,AC] at h;subst h;refine ⟨acc,rfl,?_,fun k hk=>?_⟩
  ·simp only [H8,VO,CZ];rw [o6 r _ acc.length (by simp),XW];simp
  ·simp only [H8,VO];rw [o6 r _ k (by simp; omega),XW,XW,vbo hk]
 | o :: r,acc,i+1,o',h=>by
  simp only [DA] at h;obtain ⟨acc',h1,h2,h3⟩:=o5 r (acc++[Q7 [] (SV acc o.after.toList)]) i o' h;simp only [AR,AM,A6] at h1 h2;refine ⟨acc',by omega,?_,fun k hk=>by rw [H8,VO]; exact h3 k hk⟩;rw [show acc.length+(i+1)=acc.length+(0+1)+i by omega,H8,VO];exact h2
theorem gA:∀ {l:List Oper} {k i:Nat} {o:Oper} {e:Edge},QY k l=true→l[i]?=some o→e∈o.after.toList→vaS .any e=true→e.on < k+i
 | [],_,_,_,_,_,h,_,_=>by simp at h
 | o :: r,k,0,o',e,hu,h,he,hb=>by
  simp only [BP,AC] at h;subst h;simp only [QY,AG] at hu;have key:∀ (es:List Edge),QY.go k es=true→e∈es→e.on < k:=by
   intro es
   induction es with
   | nil=>intro _ h; cases h
   | cons x es ih=>
    intro hg hm;simp only [QY.go] at hg;rcases AX.1 hm with h1 | h1
    ·subst h1;rw [hb] at hg;simp only [AG] at hg;exact AN hg.1
    ·split at hg
     ·simp only [AG] at hg;exact ih hg.2 h1
     ·exact ih hg h1
  exact key _ hu.1 he
 | o :: r,k,i+1,o',e,hu,h,he,hb=>by
  simp only [DA] at h;simp only [QY,AG] at hu
  have:=gA hu.2 h he hb
  omega
section
variable {ops:List Oper}
def r8 (ops:List Oper) (L:Nat→Bool):Prop:=∀ i o,ops[i]?=some o→L i=true→∀ e∈o.after.toList,vaS .any e=true→L e.on=true
theorem Co (hu:QY 0 ops=true):∀ (i:Nat) {o:Oper},ops[i]?=some o→∀ j∈G6 (H8 [] ops) i,j < i:=by
 intro i
 induction i using Nat.strongRecOn with
 | _ i ih=>
  intro o ho j hj;obtain ⟨acc',h1,h2,h3⟩:=o5 ops [] i o ho;simp only [A6,BK] at h1 h2;rw [h2] at hj;obtain ⟨e,he,hb,h4⟩:=iK (Ag hj);have hlt:=gA hu ho he hb;rw [BK] at hlt;rcases h4 with h4 | h4
  ·omega
  ·have hk:e.on < acc'.length:=by omega
   rw [h3 _ hk] at h4;have hlen:i < ops.length:=(BQ.1 ho).1
   have:=ih e.on hlt (o:=ops[e.on]'(by omega)) (by simp [Nat.lt_trans hlt hlen]) j h4
   omega
theorem Cp {L:Nat→Bool} (hu:QY 0 ops=true) (hL:r8 ops L):∀ (i:Nat) {o:Oper},ops[i]?=some o→(∀ e∈o.after.toList,vaS .any e=true→L e.on=true)→∀ j∈G6 (H8 [] ops) i,L j=true:=by
 intro i
 induction i using Nat.strongRecOn with
 | _ i ih=>
  intro o ho hr j hj;obtain ⟨acc',h1,h2,h3⟩:=o5 ops [] i o ho;simp only [A6,BK] at h1 h2;rw [h2] at hj;obtain ⟨e,he,hb,h4⟩:=iK (Ag hj);have hlt:=gA hu ho he hb;rw [BK] at hlt;rcases h4 with h4 | h4
  ·subst h4;exact hr e he hb
  ·have hk:e.on < acc'.length:=by omega
   rw [h3 _ hk] at h4;have hlen:i < ops.length:=(BQ.1 ho).1;have hg:ops[e.on]?=some (ops[e.on]'(by omega)):=by simp [Nat.lt_trans hlt hlen]
   exact ih e.on hlt hg (hL e.on _ hg (hr e he hb)) j h4
end
theorem zc8 {d:Option Nat} {l:List Nat} (h:Bp d l=false):∀ t,d=some t→t ∉ l:=by
 rintro t rfl;exact cT.1 h
theorem zc7 {d e:Option Nat} (h:oU d e=false):∀ t,d=some t→e≠some t:=by
 rintro t rfl h';subst h';simp only [oU] at h;exact HX.1 h rfl
theorem Cd {ps:List (List Nat)} {pi:List Nat} {i:Nat} {x:Dn}:∀ {l:List Dn} {k j:Nat} {y:Dn},X1 ps pi i x k l=true→l[j]?=some y→i≠k+j→cZ pi (G6 ps (k+j)) i (k+j) x y=true
 | [],_,_,_,_,h,_=>by simp at h
 | z :: r,k,0,y,h,hy,hne=>by
  simp only [BP,AC] at hy;subst hy;simp only [X1,AG,vaT] at h;rcases h.1 with h1 | h1
  ·exact absurd (FG.1 h1) hne
  ·exact h1
 | z :: r,k,j+1,y,h,hy,hne=>by
  simp only [DA] at hy;simp only [X1,AG] at h
  have:=Cd (k:=k+1) h.2 hy (by omega)
  rw [show k+(j+1)=k+1+j by omega];exact this
theorem Cc {ps:List (List Nat)} {all:List Dn}:∀ {l:List Dn} {k i:Nat} {x:Dn},c6 ps all k l=true→l[i]?=some x→X1 ps (G6 ps (k+i)) (k+i) x 0 all=true
 | [],_,_,_,_,h=>by simp at h
 | z :: r,k,0,x,h,hx=>by
  simp only [BP,AC] at hx;subst hx;simp only [c6,AG] at h;exact h.1
 | z :: r,k,i+1,x,h,hx=>by
  simp only [DA] at hx;simp only [c6,AG] at h
  have:=Cc (k:=k+1) h.2 hx
  rw [show k+(i+1)=k+1+i by omega];exact this
theorem sE {ds:List Nat}:∀ {l:List Nat},fD ds l=true→∀ n∈l,NW ds n=true
 | [],_,n,h=>by cases h
 | m :: r,h,n,hn=>by
  simp only [fD,AG] at h;rcases AX.1 hn with e | e
  ·subst e; exact h.1
  ·exact sE h.2 n e
theorem oP {ds:List Nat}:∀ {l:List Dn} {i:Nat} {x:Dn},cW ds l=true→l[i]?=some x→OJ x.v=true∧N6 x.us=true∧∀ n∈NY x.us,NW ds n=true
 | [],_,_,_,h=>by simp at h
 | z :: r,0,x,h,hx=>by
  simp only [BP,AC] at hx;subst hx;simp only [cW,AG] at h;exact ⟨h.1,h.2.1,sE h.2.2.1⟩
 | z :: r,i+1,x,h,hx=>by
  simp only [DA] at hx;simp only [cW,AG] at h;exact oP h.2.2.2 hx
theorem Ju {n:Nat}:∀ {us:List Upd},N6 us=true→n ∉ SP us→∀ u∈us,∀ m ob,(u = .new m ob∨u = .set m ob)→G3 n (some ob)=some ob
 | [],_,_,u,hu,_,_,_=>by cases hu
 | u :: r,ho,hn,u',hu',m,ob,he=>by
  have h1:N6 r=true∧n ∉ SP r∧(∀ m ob,(u = .new m ob∨u = .set m ob)→G3 n (some ob)=some ob):=by
   cases u with
   | kill k=>exact ⟨ho,hn,fun m ob h=>by rcases h with h | h <;> cases h⟩
   | set k ob'=>
    simp only [N6,AG] at ho;simp only [SP,AV,not_or] at hn;refine ⟨ho.2.2,hn.2,fun m ob h=>?_⟩;rcases h with h | h <;> cases h
    exact jG ho.1 hn.1
   | new k ob'=>
    simp only [N6,AG] at ho;simp only [SP,AV,not_or] at hn;refine ⟨ho.2.2,hn.2,fun m ob h=>?_⟩;rcases h with h | h <;> cases h
    exact jG ho.1 hn.1
  rcases AX.1 hu' with h | h
  ·subst h;exact h1.2.2 m ob he
  ·exact Ju h1.1 h1.2.1 u' h m ob he
theorem rB {t:Nat}:∀ {l:List Operand},Operand.tmp t∈l→t∈V7 l
 | x :: r,h=>by
  rcases AX.1 h with h1 | h1
  ·subst h1; exact AU ..
  ·cases x <;> simp only [V7,AX] <;> first | exact .inr (rB h1) | exact rB h1
theorem wT {α:Type} {p q:α→Bool}:∀ {l:List α},(∀ x∈l,q x=true→p x=true)→(∃ x∈l,p x=true∧q x=false)→l.countP q < l.countP p
 | [],_,⟨_,h,_⟩=>by cases h
 | y :: r,h,⟨x,hx,h1,h2⟩=>by
  have hr:r.countP q≤r.countP p:=by
   clear hx;have h':∀ x∈r,q x=true→p x=true:=fun x hx=>h x (AW _ hx)
   exact List.countP_mono_left h'
  rcases AX.1 hx with e | e
  ·subst e;rw [vaL h1,vbb (by simp [h2])];omega
  ·have:=wT (l:=r) (fun x hx=>h x (AW _ hx)) ⟨x,e,h1,h2⟩
   by_cases hq:q y=true
   ·rw [vaL (h y (AU ..) hq),vaL hq];omega
   ·rw [vbb hq];by_cases hp:p y=true
    ·rw [vaL hp]; omega
    ·rw [vbb hp]; omega
section
variable {B:BT} {nt:Nat} {w0:World} {X:Zone} {γ:Nat→Value} {st st':St} {a:Act} {w:World} {P:Program} {E:Env}
variable (hT:TiOK P B E) (hE:∀ t,t∈E.eqs→EqSnd P t (E.tyd t).ks) (hSp:SpOK P B E w0 X) (hB:BldOK P B E) (hnt:E.nt=nt) (hn9:nt≤900000)
include hT hE hSp hB hnt hn9
theorem Rc {Q:Exit→Act→World→Prop} {ops:Array Oper} {s0:St} {Ds:List Dn} (hs:Steps E ops.toList ops.toList s0 Ds) (hfree:mU ops.toList Ds=true)
  (hfr:∀ n,NW (VB ops.toList) n=true→Fr n s0) (hQ:∀ γ' a' w',Rel B nt w0 X γ' (apDs s0 Ds) a' w'→Q .normal a' w') :
  ∀ (fuel:Nat) (listed:Array Bool) {γ:Nat→Value} {a:Act} {w:World},listed.size=ops.size→r8 ops.toList (fun i=>listed.getD i false) →
   (vaQ ops.size).countP (fun i=>!listed.getD i false)≤fuel→Rel B nt w0 X γ (apDs s0 (EI (fun i=>listed.getD i false) 0 Ds)) a w→wpAny P .any ops Q fuel listed a w:=by
 have hlen:Ds.length=ops.size:=by simpa using hs.length
 simp only [mU,AG] at hfree;obtain ⟨hup,hone,hpairs⟩:=hfree;have hgd:∀ (listed:Array Bool) (i:Nat),listed.size=ops.size→i < ops.size→listed.getD i true=listed.getD i false:=fun listed i h1 h2=>by
  simp [Array.getD,h1,h2]
 have hready:∀ (listed:Array Bool) (i:Nat),listed.size=ops.size→(i∈vbx .any ops listed↔∃ o,ops.toList[i]?=some o∧listed.getD i false=false∧∀ e∈o.after.toList,vaS .any e=true→listed.getD e.on false=true):=by
  intro listed i hsz;simp only [vbx,List.mem_filter,vbg,AG,BW];constructor
  ·rintro ⟨h1,h2,h3⟩;refine ⟨ops[i],by simp [h1],by rw [← hgd listed i hsz h1]; exact h2,fun e he hb=>?_⟩;simp only [Array.getElem?_eq_getElem h1,vaH,vaq,vbz,vaT,BW] at h3;rcases h3 e (by simpa using he) with h4 | h4
   ·rw [hb] at h4; cases h4
   ·exact h4
  ·rintro ⟨o,ho,h2,h3⟩;obtain ⟨h1,rfl⟩:=BQ.1 ho;simp only [CP] at h1;refine ⟨h1,by rw [hgd listed i hsz h1]; exact h2,?_⟩;simp only [Array.getElem?_eq_getElem h1,vaH,vaq,vbz,vaT,BW];intro e he;cases hb:vaS .any e with
   | false=>exact .inl rfl
   | true=>exact .inr (h3 e (by simpa using he) hb)
 have hend:∀ (listed:Array Bool) {γ:Nat→Value} {a:Act} {w:World},(∀ i,i < ops.size→listed.getD i false=true)→Rel B nt w0 X γ (apDs s0 (EI (fun i=>listed.getD i false) 0 Ds)) a w→Q .normal a w:=by
  intro listed γ a w hall h;rw [X9 (L':=fun _=>true) _ _ (fun j _ h2=>hall j (by omega)),Ex] at h;exact hQ γ a w h
 have hnil:∀ (listed:Array Bool),listed.size=ops.size→vbx .any ops listed=[]→∀ i,i < ops.size→listed.getD i false=true:=by
  intro listed hsz hr i
  induction i using Nat.strongRecOn with
  | _ i ih=>
   intro hi;cases hL:listed.getD i false with
   | true=>rfl
   | false=>
    exfalso;have hm:i∈vbx .any ops listed:=by
     refine (hready listed i hsz).2 ⟨ops[i],by simp [hi],hL,fun e he hb=>?_⟩
     have:=gA (i:=i) hup (by simp [hi]:ops.toList[i]?=some ops[i]) he hb
     exact ih e.on (by omega) (by omega)
    rw [hr] at hm;cases hm
 intro fuel
 induction fuel with
 | zero=>
  intro listed γ a w hsz hcl hcount h;have hall:∀ i,i < ops.size→listed.getD i false=true:=by
   intro i hi;have h0:(vaQ ops.size).countP (fun i=>!listed.getD i false)=0:=by omega
   have:=(List.countP_eq_zero.1 h0) i (vbg.2 hi)
   simpa using this
  refine ⟨?_,hend listed hall h⟩;refine List.eq_nil_iff_forall_not_mem.2 (fun i hi=>?_);obtain ⟨o,ho,h2,_⟩:=(hready listed i hsz).1 hi;have h1:i < ops.size:=by simpa using (BQ.1 ho).1
  rw [hall i h1] at h2;cases h2
 | succ fuel ih=>
  intro listed γ a w hsz hcl hcount h;refine ⟨fun hr=>hend listed (hnil listed hsz hr) h,fun i hi=>?_⟩;obtain ⟨o,ho,hLi,hedges⟩:=(hready listed i hsz).1 hi;have hi':i < ops.size:=by simpa using (BQ.1 ho).1
  have hoi:ops[i]?=some o:=by simpa using ho
  obtain ⟨D,hD⟩:∃ D,Ds[i]?=some D:=⟨Ds[i]'(by omega),by simp [hlen,hi']⟩;generalize hLdef:(fun i=>listed.getD i false)=L at *;have hL:∀ j,listed.getD j false=L j:=fun j=>congrFun hLdef j
  simp only [hL] at hLi hedges;have hin:∀ j∈G6 (H8 [] ops.toList) i,L j=true:=Cp hup hcl i ho hedges;have hout:∀ j D',Ds[j]?=some D'→L j=true→i ∉ G6 (H8 [] ops.toList) j:=by
   intro j D' hj hLj hm;have hj':j < ops.size:=by have:=(BQ.1 hj).1; omega
   have hoj:ops.toList[j]?=some ops[j]:=by simp [hj']
   have:=Cp hup hcl j hoj (hcl j _ hoj hLj) i hm
   rw [hLi] at this;cases this
  have hlt:∀ j,j∈G6 (H8 [] ops.toList) i→j < i:=Co hup i ho;have hltj:∀ j D',Ds[j]?=some D'→i∈G6 (H8 [] ops.toList) j→i < j:=by
   intro j D' hj hm;have hj':j < ops.size:=by have:=(BQ.1 hj).1; omega
   exact Co hup j (by simp [hj']:ops.toList[j]?=some ops[j]) i hm
  have hpair:∀ j D',Ds[j]?=some D'→i≠j→cZ (G6 (H8 [] ops.toList) i) (G6 (H8 [] ops.toList) j) i j D D'=true:=by
   intro j D' hj hne;have h1:=Cc (k:=0) hpairs hD;rw [BK] at h1;have h2:=Cd (k:=0) h1 hj (by omega)
   rwa [BK] at h2
  have hunord:∀ j D',Ds[j]?=some D'→i≠j→i ∉ G6 (H8 [] ops.toList) j→j ∉ G6 (H8 [] ops.toList) i →
    (∀ t,D'.dst=some t→t ∉ D.tm)∧(∀ t,D.dst=some t→D'.dst≠some t)∧(∀ n∈H3 D'.us,n ∉ D.rd)∧(∀ n∈H3 D.us,n ∉ H3 D'.us):=by
   intro j D' hj hne h1 h2;have hp:=hpair j D' hj hne;simp only [cZ,cT.2 h1,cT.2 h2,AG,BW] at hp;exact ⟨zc8 hp.2.1,zc7 hp.2.2.1,XE.1 hp.2.2.2.1,XE.1 hp.2.2.2.2⟩
  have hdiff:∀ j D',Ds[j]?=some D'→L j≠decide (j < i)→i≠j∧i ∉ G6 (H8 [] ops.toList) j∧j ∉ G6 (H8 [] ops.toList) i:=by
   intro j D' hj hne;cases hLj:L j with
   | true=>
    rw [hLj] at hne;have hji:¬ j < i:=fun h=>hne (by simp [h])
    have hij:i≠j:=fun e=>by subst e; rw [hLi] at hLj; cases hLj
    exact ⟨hij,hout j D' hj hLj,fun hm=>hji (hlt j hm)⟩
   | false=>
    rw [hLj] at hne;have hji:j < i:=by
     rcases C1 j i with h | h
     ·exact h
     ·exact absurd (by simp; omega) hne
    refine ⟨by omega,fun hm=>?_,fun hm=>?_⟩
    ·have:=hltj j D' hj hm; omega
    ·have:=hin j hm; rw [hLj] at this; cases this
  have hstep:=Steps.get hs ho hD;have htake:apDs s0 (Ds.take i)=apDs s0 (EI (fun j=>decide (j < i)) 0 Ds):=by
   have:=Ey i Ds 0
   rw [BK] at this;rw [this]
  rw [htake] at hstep;have hobj:∀ n∈D.rd,DF (apDs s0 (EI L 0 Ds)).o n=DF (apDs s0 (EI (fun j=>decide (j < i)) 0 Ds)).o n:=by
   intro n hn;refine RC Ds 0 rfl (fun j D' hj hnm=>?_);rw [BK];refine vbH (fun hne=>?_);obtain ⟨h1,h2,h3⟩:=hdiff j D' hj hne;exact (hunord j D' hj h1 h2 h3).2.2.1 n hnm hn
  have htm:∀ t∈D.tm,(apDs s0 (EI L 0 Ds)).get t=(apDs s0 (EI (fun j=>decide (j < i)) 0 Ds)).get t:=by
   intro t ht;refine RB Ds 0 rfl (fun j D' hj hnm=>?_);rw [BK];refine vbH (fun hne=>?_);obtain ⟨h1,h2,h3⟩:=hdiff j D' hj hne;exact (hunord j D' hj h1 h2 h3).1 t hnm ht
  have hafter:SEq (apD (apDs s0 (EI L 0 Ds)) D) (apDs s0 (EI (fun j=>(listed.setIfInBounds i true).getD j false) 0 Ds)):=by
   have hset:∀ j,(listed.setIfInBounds i true).getD j false=(L j||BM j i):=by
    intro j;rw [← hL j];simp only [vbi,Array.getElem?_setIfInBounds,hsz];by_cases e:i=j
    ·subst e;simp [hi',vbe]
    ·rw [A2 e,HX.2 (fun h=>e h.symm),Bool.or_false]
   rw [show (fun j=>(listed.setIfInBounds i true).getD j false)=(fun j=>L j||BM j i) from funext hset];have hsplit:Ds=Ds.take i++D :: Ds.drop (i+1):=by
    have hi2:i < Ds.length:=by omega
    have h1:Ds[i]=D:=by have:=BQ.1 hD; exact this.2
    rw [← h1];simp
   have hlate:∀ j D',(Ds.drop (i+1))[j]?=some D'→L (i+1+j)=true→(∀ t,D.dst=some t→D'.dst≠some t)∧∀ n∈H3 D.us,n ∉ H3 D'.us:=by
    intro j D' hj hLj;have hj':Ds[i+1+j]?=some D':=by rw [← hj,van]
    have h2:=hout _ D' hj' hLj;have h3:i+1+j ∉ G6 (H8 [] ops.toList) i:=fun hm=>by have:=hlt _ hm; omega
    exact ⟨(hunord _ D' hj' (by omega) h2 h3).2.1,(hunord _ D' hj' (by omega) h2 h3).2.2.2⟩
   have hli:(Ds.take i).length=i:=by simp; omega
   have hR:∀ s,apDs s (EI (fun j=>L j||BM j i) 0 Ds)=apDs (apD (apDs s (EI L 0 (Ds.take i))) D) (EI L (i+1) (Ds.drop (i+1))):=by
    intro s;rw [show EI (fun j=>L j||BM j i) 0 Ds=EI (fun j=>L j||BM j i) 0 (Ds.take i++D :: Ds.drop (i+1)) by rw [← hsplit]];rw [pW,kU,hli,BK];simp only [EI,vbe,Bool.or_true,apDs];rw [X9 (L':=L) (Ds.take i) 0 (fun j _ h2=>by rw [HX.2 (by omega),Bool.or_false]),X9 (L':=L) (Ds.drop (i+1)) (i+1) (fun j h1 _=>by rw [HX.2 (by omega),Bool.or_false])]
   have hLs:∀ s,apDs s (EI L 0 Ds)=apDs (apDs s (EI L 0 (Ds.take i))) (EI L (i+1) (Ds.drop (i+1))):=by
    intro s;rw [show EI L 0 Ds=EI L 0 (Ds.take i++D :: Ds.drop (i+1)) by rw [← hsplit]];rw [pW,kU,hli,BK];simp only [EI,hLi]
   rw [hR,hLs];generalize apDs s0 (EI L 0 (Ds.take i))=s1;refine ⟨fun t=>?_,fun n=>?_⟩
   ·by_cases e:D.dst=some t
    ·rw [OE,BJ e]
     have:(apDs (apD s1 D) (EI L (i+1) (Ds.drop (i+1)))).get t=(apDs (apD s1 D) (EI (fun _=>false) (i+1) (Ds.drop (i+1)))).get t:=by
      refine RB _ _ rfl (fun j D' hj hd=>?_);cases hLj:L (i+1+j) with
      | false=>rfl
      | true=>exact absurd hd ((hlate j D' hj hLj).1 t e)
     rw [this,dM];simp only [apDs];rw [OE,BJ e]
    ·rw [OE,A2 e];exact RB _ _ (by rw [OE,A2 e]) (fun _ _ _ _=>rfl)
   ·by_cases e:n∈H3 D.us
    ·have:DF (apDs (apD s1 D) (EI L (i+1) (Ds.drop (i+1)))).o n=DF (apDs (apD s1 D) (EI (fun _=>false) (i+1) (Ds.drop (i+1)))).o n:=by
      refine RC _ _ rfl (fun j D' hj hd=>?_);cases hLj:L (i+1+j) with
      | false=>rfl
      | true=>exact absurd hd ((hlate j D' hj hLj).2 n e)
     rw [this,dM];exact rG e
    ·have h1:DF (apD (apDs s1 (EI L (i+1) (Ds.drop (i+1)))) D).o n=DF (apDs s1 (EI L (i+1) (Ds.drop (i+1)))).o n:=TC e;rw [h1];exact RC _ _ (TC e).symm (fun _ _ _ _=>rfl)
  have hnext:∀ γ' a' w',Rel B nt w0 X γ' (apD (apDs s0 (EI L 0 Ds)) D) a' w'→wpAny P .any ops Q fuel (listed.setIfInBounds i true) a' w':=by
   intro γ' a' w' h';have hset:∀ j,(listed.setIfInBounds i true).getD j false=(L j||BM j i):=by
    intro j;rw [← hL j];simp only [vbi,Array.getElem?_setIfInBounds,hsz];by_cases e:i=j
    ·subst e;simp [hi',vbe]
    ·rw [A2 e,HX.2 (fun h=>e h.symm),Bool.or_false]
   refine ih (listed.setIfInBounds i true) (by simpa using hsz) ?_ ?_ (h'.seq hafter)
   ·intro j o' ho' hLj e he hb;simp only [hset] at hLj ⊢;by_cases e':j=i
    ·subst e';rw [ho] at ho';simp only [AC] at ho';subst ho';rw [hedges e he hb];rfl
    ·rw [HX.2 e',Bool.or_false] at hLj;rw [hcl j o' ho' hLj e he hb];rfl
   ·have:(vaQ ops.size).countP (fun j=>!(listed.setIfInBounds i true).getD j false) < (vaQ ops.size).countP (fun j=>!listed.getD j false):=by
     refine wT (fun j _ hj=>?_) ⟨i,vbg.2 hi',by rw [hL,hLi]; rfl,by rw [hset,vbe,Bool.or_true]; rfl⟩;rw [hset] at hj;rw [hL];cases hLj:L j <;> simp_all
    simp only [hL] at this hcount;omega
  obtain ⟨hok,hdst,htms,hguard⟩:=hstep;have hclean:=oP hone hD;have run:(D3 E (apDs s0 (EI (fun j=>decide (j < i)) 0 Ds)).o (opd (apDs s0 (EI (fun j=>decide (j < i)) 0 Ds))) o.dst o.op).get=some (D.v,D.us)→D.rd=MR E (apDs s0 (EI (fun j=>decide (j < i)) 0 Ds)).o (opd (apDs s0 (EI (fun j=>decide (j < i)) 0 Ds))) o.op →
    (∀ x∈o.op.operands.toList,∀ t,x = .tmp t→t∈D.tm)→o.wp P a w (wpAny P .any ops Q fuel (listed.setIfInBounds i true)) Q:=by
   intro he hrd htmo;have h1:D3 E (apDs s0 (EI L 0 Ds)).o (opd (apDs s0 (EI L 0 Ds))) o.dst o.op=D3 E (apDs s0 (EI (fun j=>decide (j < i)) 0 Ds)).o (opd (apDs s0 (EI (fun j=>decide (j < i)) 0 Ds))) o.dst o.op:=by
    rw [Ro (ρ:=opd (apDs s0 (EI L 0 Ds))) (ρ':=opd (apDs s0 (EI (fun j=>decide (j < i)) 0 Ds))) (fun x hx=>?_)]
    ·exact xS (fun n hn=>hobj n (by rw [hrd]; exact hn))
    ·cases x with
     | tmp t=>exact htm t (htmo _ hx t rfl)
     | _=>rfl
   rw [← h1] at he;have hn9':∀ d,o.dst=some d→d≠900000:=fun d hdd e=>by
    subst e;rw [hdd] at hok;simp only [OT] at hok;have h8:900000+1≤E.nt:=AN hok;omega
   refine Bo hT hE hSp hB h o hn9' he _ _ (fun γ' x w' h3 h4=>hnext γ' _ w' ?_);refine (h3.put hnt hok h4).seq ?_;have hfr':∀ n∈NY D.us,Fr n (apDs s0 (EI L 0 Ds)):=by
    intro n hn;refine pV Ds 0 (hfr n (hclean.2.2 n hn)) (fun j D' hj hLj=>?_);rw [BK] at hLj;have hne:i≠j:=fun e=>by subst e; rw [hLi] at hLj; cases hLj
    have hp:=hpair j D' hj hne;simp only [cZ,cT.2 (hout j D' hj hLj),AG] at hp;have hdj:=XE.1 hp.1 n hn;simp only [AV,not_or] at hdj;have hc':=oP hone hj;exact ⟨hc'.1,hdj.1,Ju hc'.2.1 hdj.2⟩
   have:=(kC hfr' hclean.2.1).put o.dst D.v
   refine this.trans ?_;rw [← hdst];cases hdd:D.dst <;> exact ⟨fun t=>by simp only [apD,hdd,St.put]; try rfl,fun n=>by simp only [apD,St.put]⟩
  unfold wpOp;rw [hoi];simp only;have htmo:∀ x∈o.op.operands.toList,∀ t,x = .tmp t→t∈D.tm:=by
   rintro x hx t rfl
   have:=rB hx
   rw [htms];unfold LJ;split
   ·split
    ·exact AW _ this
    ·exact this
   ·exact this
  split at hguard
  ·rename_i hg;rw [BJ (by simp [C0,hg])];exact .inl (run hguard.1 hguard.2 htmo)
  ·rename_i j b hg;have skip:D.v = .tup []→D.us=[]→C0 o (yielded ops a.tmps)=false→(if C0 o (yielded ops a.tmps)=true then o.wp P a w (wpAny P .any ops Q fuel (listed.setIfInBounds i true)) Q∨(o.asks P a w∧LetsOut Q) else wpAny P .any ops Q fuel (listed.setIfInBounds i true) (a.put o.dst undef) w):=by
    intro h1 h2 h3;rw [A2 (by rw [h3]; simp)];refine hnext γ _ w ?_;refine (h.put hnt hok (v:=.tup []) (x:=undef) (by simp only [VRel]; exact ⟨#[],rfl,by simp only [VRels]⟩)).seq ?_;rw [← hdst,← h1];cases hdd:D.dst <;> exact ⟨fun t=>by simp only [apD,hdd,St.put]; try rfl,fun n=>by simp only [apD,St.put,h2,I1]⟩
   have hdjm0:∀ dj,NT ops.toList j=some dj→dj∈D.tm:=by
    intro dj hdj;rw [htms];unfold LJ;rw [hg];simp only [hdj];exact AU ..
   rcases hguard with ⟨dj,c,hdj,hc,hcase⟩ | ⟨dj,hdj,hc,h1,h2⟩
   case inr=>
    rw [← htm dj (hdjm0 dj hdj)] at hc;have hy:yielded ops a.tmps j=none:=by
     unfold yielded;rw [show ops[j]?=ops.toList[j]? by simp,bR _ _ _ hdj];rcases Jt h hc with h0 | h0 <;> simp [h0]
    exact skip h1 h2 (by simp [C0,hg,hy])
   have hdjm:dj∈D.tm:=by
    rw [htms];unfold LJ;rw [hg];simp only [hdj];exact AU ..
   rw [← htm dj hdjm] at hc;have hy:yielded ops a.tmps j=some c:=by
    unfold yielded;rw [show ops[j]?=ops.toList[j]? by simp,bR _ _ _ hdj];simp [s6 h hc]
   rcases hcase with ⟨rfl,h1,h2⟩ | ⟨hne,h1,h2⟩
   ·rw [BJ (by simp [C0,hg,hy])];exact .inl (run h1 h2 htmo)
   ·exact skip h1 h2 (by simp [C0,hg,hy,hne])
theorem Rm {Q:Exit→Act→World→Prop} (hm:P.follows .mixedOrders=true) {r:V × List (List V)} {id:Nat} {ops:Array Oper} {k:St→DG} {γ:Nat→Value} {st:St} {a:Act} {w:World}
  (he:mL E ops.toList st k=some r) (h:Rel B nt w0 X γ st a w) (hk:∀ γ' st' a' w',Rel B nt w0 X γ' st' a' w'→k st'=some r→Q .normal a' w'):(Code.region id ops true).wp P Q a w:=by
 refine wp_region_any hm ?_;unfold mL at he;obtain ⟨Ds,s',h1,h2,h3⟩:=xQ ops.toList he;split at h3
 ·rename_i hf;simp only [vad,List.reverse_reverse] at hf;have h0:Rel B nt w0 X γ (ME (VB ops.toList) st) a { w with drawn:=w.drawn+1 }:=(h.clear (VB ops.toList)).world (Keep.drew _ w);refine Rc hT hE hSp hB hnt hn9 h1 hf (fun n hn=>Px hn st) (fun γ' a' w' h'=>hk γ' s' a' w' (h'.seq h2.symm) h3) ops.size (Array.replicate ops.size false) (by simp) ?_ ?_ (γ:=γ) ?_
  ·intro i o ho hL;have hi:i < ops.size:=by simpa using (BQ.1 ho).1
   simp [Array.getD,hi] at hL
  ·refine CE (List.countP_le_length) ?_;simp
  ·rw [X9 (L':=fun _=>false) _ _ (fun j _ _=>by simp [Array.getD]),dM];exact h0
 ·cases h3
end
open Go Go.RowKit
section
variable {B:BT} {nt:Nat} {w0:World} {X:Zone} {γ:Nat→Value} {st st':St} {a:Act} {w:World} {P:Program} {E:Env}
theorem hU (s:St):∀ (l:List Nat) (i:Nat),EL .any (SN s l) i=s.get i∨EL .any (SN s l) i = .any
 | [],i=>.inr rfl
 | j :: r,i=>by
  simp only [SN,PT];by_cases e:j=i
  ·subst e; simp
  ·simp only [A2 e];exact hU s r i
theorem y5 (s:St):∀ (l:List Nat) (n:Nat) (ob:Ob),DF (cD s l) n=some ob→DF s.o n=some ob
 | [],n,ob,h=>by simp [cD,DF,EL] at h
 | j :: r,n,ob,h=>by
  simp only [cD,D5] at h;split at h
  ·rename_i e;subst e;exact h
  ·exact y5 s r n ob h
theorem Rel.prune (h:Rel B nt w0 X γ st a w) (kp:Option (List Nat)):Rel B nt w0 X γ (prune kp st) a w:=by
 cases kp with
 | none=>exact h
 | some l=>exact h.less (fun i=>hU st l i) (fun _ _ h=>h)
theorem VRels.putOne {γ:Nat→Value} {o:Store} {w:World} {O:Nat→Prop} {v:V} {x:Value} (hv:VRel γ o w O v x):∀ {cs:List V} {xs:List Value} {c:Nat},VRels γ o w O cs xs→xs[c]?=some x→VRels γ o w O (GH cs c [v]) xs
 | [],[],_,_,h=>by simp at h
 | [],_ :: _,_,h,_=>by simp only [VRels] at h
 | _ :: _,[],_,h,_=>by simp only [VRels] at h
 | u :: cs,y :: xs,0,h,hx=>by
  simp only [VRels] at h;simp only [BP,AC] at hx;subst hx
  have:GH cs 0 []=cs:=by cases cs <;> rfl
  simp only [GH,this,VRels];exact ⟨hv,h.2⟩
 | u :: cs,y :: xs,c+1,h,hx=>by
  simp only [VRels] at h;simp only [DA] at hx;simp only [GH,VRels];exact ⟨h.1,VRels.putOne hv h.2 hx⟩
def Nn (γ:Nat→Value) (o:Store) (w:World) (a:Act) (x:Value):Loc→Prop
 | .tmp t=>x=a.tmps.getD t undef
 | .cell b c=>∃ cs bb T cc,DF o b=some (.box cs)∧γ b = .pointer (some ⟨bb,0,none⟩)∧w.heap[bb]?=some (.cells cc T (0,0))∧cc.toList[c]?=some x
def kQ (γ:Nat→Value) (o:Store) (w:World) (a:Act) (x:Value):Loc→Prop
 | .tmp t=>x=a.tmps.getD t undef
 | .cell b c=>∀ cs,DF o b=some (.box cs)→∃ bb T cc,γ b = .pointer (some ⟨bb,0,none⟩)∧w.heap[bb]?=some (.cells cc T (0,0))∧cc.toList[c]?=some x
theorem Rel.at (h:Rel B nt w0 X γ st a w) (l:Loc) {v:V} (hv:nP st l=v) (hne:v≠.any):∃ x,VRel γ st.o w (DH X γ st.o) v x ∧
  Nn γ st.o w a x l:=by
 subst hv;cases l with
 | tmp t=>exact ⟨_,h.tm t,rfl⟩
 | cell b c=>
  simp only [nP] at hne ⊢;split at hne
  ·rename_i cs hob;have hor:=h.ob b _ hob;simp only [ObRel] at hor;obtain ⟨bb,cc,T,hg,hh,hr⟩:=hor;rw [cU] at hne ⊢;cases hc:cs[c]? with
   | none=>rw [hc] at hne; exact absurd rfl hne
   | some u=>
    obtain ⟨x,hx,hrx⟩:=hr.get hc;exact ⟨x,hrx,cs,bb,T,cc,hob,hg,hh,hx⟩
  ·exact absurd rfl hne
theorem Rel.putLoc {γ2:Nat→Value} {st2:St} (h2:Rel B nt w0 X γ2 st2 a w) (l:Loc) {v:V} {x:Value} (hv:VRel γ2 st2.o w (DH X γ2 st2.o) v x)
  (hx:kQ γ2 st2.o w a x l):Rel B nt w0 X γ2 (putLoc st2 v l) a w:=by
 cases l with
 | tmp t=>
  simp only [kQ] at hx;subst hx;refine ⟨h2.sz,h2.df,fun i=>?_,h2.ob,h2.lt,h2.dis,h2.keep,h2.nr,h2.fl,h2.pn⟩;simp only [FM.putLoc,St.get,PT];split
  ·rename_i e;subst e;exact hv
  ·exact h2.tm i
 | cell b c=>
  simp only [FM.putLoc];split
  ·rename_i cs hob;simp only [kQ] at hx;obtain ⟨bb,T,cc,hg,hh,hcx⟩:=hx cs hob;have hob':∀ m,DF ((b,some (.box (GH cs c [v]))) :: st2.o) m=if b=m then some (.box (GH cs c [v])) else DF st2.o m:=fun m=>D5 ..
   have hlen:(GH cs c [v]).length=cs.length:=by
    have key:∀ (cs:List V) (c:Nat),(GH cs c [v]).length=cs.length:=by
     intro cs
     induction cs with
     | nil=>intro c; cases c <;> rfl
     | cons u r ih=>
      intro c;cases c with
      | zero=>
       have:GH r 0 []=r:=by cases r <;> rfl
       simp [GH,this]
      | succ c=>simp [GH,ih]
    exact key cs c
   have hP:∀ b',E1 γ2 ((b,some (.box (GH cs c [v]))) :: st2.o) b'→E1 γ2 st2.o b':=by
    rintro b' ⟨m,ob,hm,hb⟩;rw [hob'] at hm;split at hm
    ·rename_i e;subst e;simp only [AC] at hm;subst hm;exact ⟨_,_,hob,hb⟩
    ·exact ⟨m,ob,hm,hb⟩
   have hO:∀ b',b' < w.heap.size→DH X γ2 ((b,some (.box (GH cs c [v]))) :: st2.o) b'→DH X γ2 st2.o b':=fun b' _ hb=>hb.imp_left (hP b')
   have hc:Cmp γ2 st2.o γ2 ((b,some (.box (GH cs c [v]))) :: st2.o):=by
    intro m ob' hm;rw [hob'] at hm;split at hm
    ·rename_i e;subst e;simp only [AC] at hm;subst hm;exact ⟨rfl,_,hob,hlen.symm⟩
    ·exact ⟨rfl,ob',hm,ob'.fits_refl⟩
   refine ⟨h2.sz,h2.df,fun i=>VRel.mono (Keep.refl _ w) hO (VRel.cmp hc (h2.tm i)),fun m ob hm=>?_,fun b' hb=>h2.lt b' (hP b' hb),fun m1 m2 ob1 ob2 b' hne h3 h4 hb1 hb2=>?_,h2.keep,fun b' hb=>h2.nr b' (hP b' hb),h2.fl,fun p hp ob hm=>?_⟩
   ·simp only at hm ⊢;rw [hob'] at hm;split at hm
    ·rename_i e;subst e;simp only [AC] at hm;subst hm;have hor:=h2.ob _ _ hob;simp only [ObRel] at hor ⊢;obtain ⟨bb',cc',T',hg',hh',hr'⟩:=hor;rw [hg] at hg';simp only [CS,AC,C5,BY] at hg';subst hg';rw [hh] at hh';simp only [AC,Obj.cells.injEq] at hh';obtain ⟨rfl,rfl,_⟩:=hh';exact ⟨bb,cc,T,hg,hh,VRels.mono (Keep.refl _ w) hO (VRels.cmp hc (VRels.putOne hv hr' hcx))⟩
    ·exact (h2.ob m ob hm).later (fun _ _=>rfl) (Keep.refl _ w) hO hc
   ·have key:∀ m ob,DF ((b,some (.box (GH cs c [v]))) :: st2.o) m=some ob→E2 (γ2 m) ob b'→∃ ob0,DF st2.o m=some ob0∧E2 (γ2 m) ob0 b':=by
     intro m ob hm hb;rw [hob'] at hm;split at hm
     ·rename_i e;subst e;simp only [AC] at hm;subst hm;exact ⟨_,hob,hb⟩
     ·exact ⟨ob,hm,hb⟩
    obtain ⟨o1,q1,q2⟩:=key m1 ob1 h3 hb1;obtain ⟨o2,q3,q4⟩:=key m2 ob2 h4 hb2;exact h2.dis m1 m2 o1 o2 b' hne q1 q3 q2 q4
   ·simp only at hm;rw [hob'] at hm;split at hm
    ·rename_i e;exact h2.pn p hp _ (e ▸ hob)
    ·exact h2.pn p hp ob hm
  ·exact h2
theorem Rel.canon1 (h:Rel B nt w0 X γ st a w) (c:Can):∃ γ',Rel B nt w0 X γ' (canon1 c st) a w:=by
 unfold FM.canon1;split
 ·exact ⟨γ,h⟩
 rename_i h9;have h9:=HX.1 h9;split
 ·rename_i hv;split
  ·rename_i hks;have hks':0 < c.ks.length:=AN hks;obtain ⟨x,hx,hat⟩:=h.at c.loc hv (by simp);simp only [VRel] at hx;have hadd:=h.add c.nm h9 (.row true c.e c.ag c.ks []) (.slice none 0 0) (fun b hb=>by simp [E2,B5] at hb) (fun O' hO'=>by
    simp only [ObRel];exact ⟨hks',by simp [strMax],[],⟨by simp,.inl ⟨rfl,rfl⟩⟩,fun i y hy=>by simp at hy⟩)
   have hadd:=hadd.shrink (F:=X.far) (fun b hb=>⟨hb,fun hb'=>by simp [E2,B5] at hb'⟩);refine ⟨_,hadd.putLoc c.loc (x:=x) ?_ ?_⟩
   ·simp only [VRel,F6,CM];subst hx;exact ⟨AT _,none,0,0,none,rfl,rfl,AT _,AT _,AT _,by simp [maxLen],.inl rfl,fun _=>rfl⟩
   ·revert hat;cases c.loc with
    | tmp t=>exact fun hat=>hat
    | cell b k=>
     intro hat;obtain ⟨cs,bb,T,cc,q1,q2,q3,q4⟩:=hat;intro cs2 hcs2;rw [F6] at hcs2;split at hcs2
     ·cases hcs2
     ·rename_i hne;exact ⟨bb,T,cc,by simp only [A2 hne]; exact q2,q3,q4⟩
  ·exact ⟨γ,h⟩
 ·rename_i n lo hi hv;split
  ·rename_i e ag ks l hn hlo hob;have hn':=HX.1 hn;obtain rfl:=FG.1 hlo;obtain ⟨x,hx,hat⟩:=h.at c.loc hv (by simp);simp only [VRel,hob] at hx;have hk:=h.kill n;have hor:=h.ob n _ hob;have hkb:∀ b,E2 (γ n) (.row true e ag ks l) b→EM γ st.o n b:=fun b hb=>⟨_,hob,hb⟩
   have hadd:=hk.add c.nm h9 (.row true e ag ks l) (γ n) (fun b hb=>⟨.inr (hkb b hb),(h.lt b ⟨n,_,hob,hb⟩).2⟩) (fun O' hO'=>by
    simp only [ObRel] at hor ⊢;obtain ⟨k1,k2,xs,k3,k4⟩:=hor;refine ⟨k1,k2,xs,k3,fun i y hy=>Kd.RelAll.mono (Keep.refl _ w) (fun b _ hb=>?_) (fun _ _ hu=>hu) (k4 i y hy)⟩;rcases hO' b hb with h1 | h1 | h1
    ·obtain ⟨m,ob1,q1,q2⟩:=h1;simp only [St.up] at q1;rw [D5] at q1;split at q1
     ·cases q1
     ·exact .inl ⟨m,ob1,q1,q2⟩
    ·exact .inr h1
    ·obtain ⟨ob1,q1,q2⟩:=h1;exact .inl ⟨n,ob1,q1,q2⟩)
   have hadd:=hadd.shrink (F:=X.far) (fun b hb=>⟨.inl hb,fun hb'=>h.nr b ⟨n,_,hob,hb'⟩ hb⟩);refine ⟨_,hadd.putLoc c.loc (x:=x) ?_ ?_⟩
   ·simp only [VRel,F6,CM];exact hx
   ·revert hat;cases c.loc with
    | tmp t=>exact fun hat=>hat
    | cell b k=>
     intro hat;obtain ⟨cs,bb,T,cc,q1,q2,q3,q4⟩:=hat;intro cs2 hcs2;rw [F6] at hcs2;split at hcs2
     ·cases hcs2
     ·rename_i hne;exact ⟨bb,T,cc,by simp only [A2 hne]; exact q2,q3,q4⟩
  ·exact ⟨γ,h⟩
 ·exact ⟨γ,h⟩
theorem Rel.canons:∀ (l:List Can) {γ:Nat→Value} {st:St},Rel B nt w0 X γ st a w→∃ γ',Rel B nt w0 X γ' (canons l st) a w
 | [],γ,st,h=>⟨γ,h⟩
 | c :: r,γ,st,h=>by
  obtain ⟨γ1,h1⟩:=h.canon1 c;exact Rel.canons r h1
theorem Rel.restrict (h:Rel B nt w0 X γ st a w) (kp:KP):∃ γ',Rel B nt w0 X γ' (restrict kp st) a w:=by
 have h1:Rel B nt w0 X γ ⟨SN st kp.t,st.o⟩ a w:=h.less (fun i=>hU st kp.t i) (fun _ _ h=>h);obtain ⟨γ',h2⟩:=h1.canons kp.c;exact ⟨γ',h2.less (fun i=>hU _ kp.t i) (fun n ob=>y5 _ kp.o n ob)⟩
variable (hT:TiOK P B E) (hE:∀ t,t∈E.eqs→EqSnd P t (E.tyd t).ks) (hSp:SpOK P B E w0 X) (hB:BldOK P B E) (hnt:E.nt=nt) (hn9:nt≤900000)
include hT hE hSp hB hnt hn9
theorem mM {Q:Exit→Act→World→Prop} {r:V × List (List V)} {ops:Array Oper} {k:St→DG} :
  ∀ (l:List Oper) (i:Nat) {γ:Nat→Value} {st:St} {a:Act} {w:World},ops.toList.drop i=l→NU E ops.toList l st k=some r→Rel B nt w0 X γ st a w →
   (∀ γ' st' a' w',Rel B nt w0 X γ' st' a' w'→k st'=some r→Q .normal a' w')→wpOps P ops Q (List.range' i l.length) a w
 | [],i,γ,st,a,w,hl,he,h,hk=>by
  simp only [NU] at he;exact hk _ _ _ _ h he
 | o :: l,i,γ,st,a,w,hl,he,h,hk=>by
  have hoi:ops[i]?=some o:=by
   rw [← vau]
   have:=congrArg (·[0]?) hl
   simpa using this
  have hl':ops.toList.drop (i+1)=l:=by
   have:=congrArg (AQ 1) hl
   simpa using this
  simp only [AM,List.range'_succ,wpOps,hoi];simp only [NU] at he;have hd:OT E o.dst=true:=by
   cases hd:OT E o.dst with
   | true=>rfl
   | false=>rw [hd] at he; cases he
  rw [hd] at he;simp only at he;have go:∀ {st:St},Rel B nt w0 X γ st a w→C0 o (yielded ops a.tmps)=true→((D3 E st.o (opd st) o.dst o.op).run fun v us=>NU E ops.toList l ((st.ups us).put o.dst v) k)=some r →
    (if C0 o (yielded ops a.tmps)=true then o.wp P a w (wpOps P ops Q (List.range' (i+1) l.length)) Q∨(o.asks P a w∧LetsOut Q) else wpOps P ops Q (List.range' (i+1) l.length) (a.put o.dst undef) w):=by
   intro st h hw he;rw [BJ hw];obtain ⟨v,us,h1,h2⟩:=T.run_some he;refine .inl (Bo hT hE hSp hB h o (fun d hdd e=>by subst e; rw [hdd] at hd; simp only [OT] at hd; have h8:900000+1≤E.nt:=AN hd; omega) h1 _ _ (fun γ' x w' h3 h4=>?_));exact mM l (i+1) hl' h2 (h3.put hnt hd h4) hk
  have no:∀ {st:St},Rel B nt w0 X γ st a w→C0 o (yielded ops a.tmps)=false→NU E ops.toList l (st.put o.dst (.tup [])) k=some r →
    (if C0 o (yielded ops a.tmps)=true then o.wp P a w (wpOps P ops Q (List.range' (i+1) l.length)) Q∨(o.asks P a w∧LetsOut Q) else wpOps P ops Q (List.range' (i+1) l.length) (a.put o.dst undef) w):=by
   intro st h hw he;rw [A2 (by rw [hw]; simp)];exact mM l (i+1) hl' he (h.put hnt hd (by simp only [VRel]; exact ⟨#[],rfl,by simp only [VRels]⟩)) hk
  split at he
  ·rename_i hg;exact go h (by simp [C0,hg]) he
  ·rename_i j b hg;split at he
   ·rename_i dj hdj;split at he
    ·rename_i c hc;have hy:yielded ops a.tmps j=some c:=by
      unfold yielded;rw [show ops[j]?=ops.toList[j]? by simp,bR _ _ _ hdj];simp [s6 h hc]
     have hlit:=h.lit hc;cases c with
     | true=>
      simp only at he;cases b with
      | true=>exact go (st:=st.put (some dj) (.bool true)) hlit (by simp [C0,hg,hy]) he
      | false=>exact no (st:=st.put (some dj) (.bool true)) hlit (by simp [C0,hg,hy]) he
     | false=>
      simp only at he;cases b with
      | false=>exact go (st:=st.put (some dj) (.bool false)) hlit (by simp [C0,hg,hy]) he
      | true=>exact no (st:=st.put (some dj) (.bool false)) hlit (by simp [C0,hg,hy]) he
    ·rename_i hc;have hy:yielded ops a.tmps j=none:=by
      unfold yielded;rw [show ops[j]?=ops.toList[j]? by simp,bR _ _ _ hdj];rcases Jt h hc with h0 | h0 <;> simp [h0]
     exact no h (by simp [C0,hg,hy]) he
    ·cases he
   ·cases he
def mO:Out→Exit
 | .normal=>.normal
 | .exit i=>.exit i
 | .ret=>.ret
omit hT hE hSp hB hnt hn9 in
theorem zK (J:Nat→Prop) (h:∃ n,J n):∃ n,J n∧∀ m,J m→n≤m:=by
 obtain ⟨n,hn⟩:=h
 induction n using Nat.strongRecOn with
 | _ n ih=>
  by_cases hm:∃ m,m < n∧J m
  ·obtain ⟨m,h1,h2⟩:=hm;exact ih m h1 h2
  ·exact ⟨n,hn,fun m hJ=>Nat.le_of_not_lt (fun hlt=>hm ⟨m,hlt,hJ⟩)⟩
theorem VC (hm:P.follows .mixedOrders=true) {r:V × List (List V)}:∀ (c:Code) {k:Out→St→DG} {Q:Exit→Act→World→Prop} {γ:Nat→Value} {st:St} {a:Act} {w:World},ON E c st k=some r→Rel B nt w0 X γ st a w →
  (∀ o γ' st' a' w',Rel B nt w0 X γ' st' a' w'→k o st'=some r→Q (mO o) a' w')→c.wp P Q a w
 | .skip,k,Q,γ,st,a,w,he,h,hk=>wp_skip (hk .normal γ st a w h he)
 | .exit id,k,Q,γ,st,a,w,he,h,hk=>wp_exit (hk (.exit id) γ st a w h he)
 | .ret,k,Q,γ,st,a,w,he,h,hk=>wp_ret (hk .ret γ st a w h he)
 | .label _,k,Q,γ,st,a,w,he,h,hk=>by simp [ON,I7] at he
 | .goto _,k,Q,γ,st,a,w,he,h,hk=>by simp [ON,I7] at he
 | .scope _,k,Q,γ,st,a,w,he,h,hk=>by simp [ON,I7] at he
 | .rangeFunc _ _ _ _,k,Q,γ,st,a,w,he,h,hk=>by simp [ON,I7] at he
 | .region id ops draw,k,Q,γ,st,a,w,he,h,hk=>by
  simp only [ON,I7] at he;cases draw with
  | true=>
   simp only at he;exact Rm hT hE hSp hB hnt hn9 hm he h (fun γ' st' a' w' h' hk'=>hk .normal γ' _ a' w' (h'.prune _) hk')
  | false=>
   simp only at he;refine wp_region ?_;rw [show ops.size=ops.toList.length by simp,List.range_eq_range'];exact mM hT hE hSp hB hnt hn9 ops.toList 0 rfl he h (fun γ' st' a' w' h' hk'=>hk .normal γ' _ a' w' (h'.prune _) hk')
 | .seq x y,k,Q,γ,st,a,w,he,h,hk=>by
  simp only [ON,I7] at he;refine wp_seq (VC hm x he h (fun o γ' st' a' w' h' hk'=>?_));cases o with
  | normal=>exact VC hm y hk' h' hk
  | exit i=>exact hk (.exit i) γ' st' a' w' h' hk'
  | ret=>exact hk .ret γ' st' a' w' h' hk'
 | .cond c x y,k,Q,γ,st,a,w,he,h,hk=>by
  simp only [ON,I7] at he;split at he
  ·rename_i b hc;have hcr:=FN h c;rw [hc] at hcr;simp only [VRel] at hcr;have hlit:Rel B nt w0 X γ (iH st c b) a w:=by
    unfold iH;split
    ·exact h.lit hc
    ·exact h
   cases b with
   | true=>exact wp_cond_true hcr (VC hm x he hlit hk)
   | false=>exact wp_cond_false hcr (VC hm y he hlit hk)
  ·cases he
 | .block id c,k,Q,γ,st,a,w,he,h,hk=>by
  simp only [ON,I7] at he;refine wp_block (VC hm c he h (fun o γ' st' a' w' h' hk'=>?_));cases o with
  | normal=>exact hk .normal γ' st' a' w' h' hk'
  | ret=>exact hk .ret γ' st' a' w' h' hk'
  | exit i=>
   simp only [mO,Exit.inBlock];simp only [DI] at hk';cases hb:BM i id with
   | true=>
    rw [hb] at hk';rw [BJ (FG.1 hb)];exact hk .normal γ' st' a' w' h' hk'
   | false=>
    rw [hb] at hk';rw [A2 (HX.1 hb)];exact hk (.exit i) γ' st' a' w' h' hk'
 | .loop c,k,Q,γ,st,a,w,he,h,hk=>by
  simp only [ON,I7] at he;generalize EL ⟨[],[],[]⟩ E.lp (XI c)=kp at he
  let J:Act→World→Nat→Prop:=fun a w n=>∃ γ st,Rel B nt w0 X γ st a w∧PV c (I7 PV E c) kp n st k=some r
  obtain ⟨γr,hr⟩:=h.restrict kp;refine wp_loop (fun a w=>∃ n,J a w n) (fun a w=>(Classical.epsilon fun n=>J a w n∧∀ m,J a w m→n≤m)) ⟨_,γr,_,hr,he⟩ ?_;intro a w hI;have hleast:=Classical.epsilon_spec (zK (J a w) hI);generalize (Classical.epsilon fun n=>J a w n∧∀ m,J a w m→n≤m)=n at hleast;obtain ⟨⟨γ1,st1,h1,he1⟩,_⟩:=hleast;cases n with
  | zero=>simp [PV] at he1
  | succ n=>
   simp only [PV] at he1;refine VC hm c he1 h1 (fun o γ' st' a' w' h' hk'=>?_);obtain ⟨γr,hr⟩:=h'.restrict kp;cases o with
   | normal=>
    simp only [mO,Exit.then];have hJ:J a' w' n:=⟨γr,_,hr,hk'⟩;refine ⟨⟨n,hJ⟩,?_⟩
    have:=Classical.epsilon_spec (zK (J a' w') ⟨n,hJ⟩)
    exact Nat.lt_succ_of_le (this.2 n hJ)
   | exit i=>exact hk (.exit i) γr _ a' w' hr hk'
   | ret=>exact hk .ret γr _ a' w' hr hk'
end
open Go Go.RowKit
theorem oE (o:Store) (bs:List V) (tk:Option Kd) (v:V):G2 (HG (EB o bs tk v))=true:=by
 cases v <;> simp only [EB] <;> repeat' split
 all_goals rfl
theorem nS (o:Store) (bs:List V):∀ (l:List V) (ks:List Kd),(LC (fun k v=>HG (EB o bs k v)) ks l).all G2=true
 | [],ks=>by cases ks <;> rfl
 | v :: l,[]=>by simp [LC,oE,nS o bs l []]
 | v :: l,k :: ks=>by simp [LC,oE,nS o bs l ks]
theorem pI (o:Store) (ks:List Kd) (v:V):(match LZ o ks v with | .agg l=>l.all G2 | v=>G2 v)=true∧∀ l,LZ o ks v≠.tup l:=by
 by_cases hc:∃ l,v = .agg l
 ·obtain ⟨l,rfl⟩:=hc;simp only [LZ];exact ⟨nS o [] l ks,fun l' h=>by cases h⟩
 ·have h1:LZ o ks v=HG (EB o [] ks.head? v):=by cases v <;> first | rfl | exact absurd ⟨_,rfl⟩ hc
  have h2:=oE o [] ks.head? v;rw [h1];cases hx:HG (EB o [] ks.head? v) <;> rw [hx] at h2 <;> simp only [G2] at h2 ⊢ <;> first | (cases h2; done) | (refine ⟨trivial,fun l h=>?_⟩; cases h)
theorem pK (o:Store) (ks:List (List Kd)) (v:V):K8 (GU o ks v)=true:=by
 by_cases hc:∃ l,v = .tup l
 ·obtain ⟨l,rfl⟩:=hc;simp only [GU,K8];have key:∀ (l:List V) (ks:List (List Kd)),((GU.go o ks l).all fun v=>match v with | .agg l=>l.all G2 | v=>G2 v)=true:=by
   intro l
   induction l with
   | nil=>intro ks; cases ks <;> rfl
   | cons v l ih=>
    intro ks;cases ks with
    | nil=>simp only [GU.go,List.all_cons,AG]; exact ⟨(pI o [] v).1,ih []⟩
    | cons k ks=>simp only [GU.go,List.all_cons,AG]; exact ⟨(pI o k v).1,ih ks⟩
  exact key l ks
 ·have h1:GU o ks v=LZ o (ks.headD []) v:=by cases v <;> first | rfl | exact absurd ⟨_,rfl⟩ hc
  rw [h1];obtain ⟨h2,h3⟩:=pI o (ks.headD []) v;cases hx:LZ o (ks.headD []) v <;> rw [hx] at h2 <;> simp only [K8] at h2 ⊢ <;> first | exact h2 | exact absurd hx (h3 _)
theorem lK (o:Store) (all:List Nat) (cs:List V):(cs.map (E7 o all)).all P3=true:=by
 refine CN.2 (fun v hv=>?_);obtain ⟨u,_,rfl⟩:=vao.1 hv;rcases bL o all u with ⟨_,_,_,_,_,_,_,_,_,h1⟩ | ⟨h1,_⟩
 ·rw [h1]; rfl
 ·cases hcc:E7 o all u <;> first | rfl | (rw [hcc] at h1; cases h1)
section
variable {B:BT} {nt:Nat} {w0:World} {X:Zone} {γ:Nat→Value} {st st':St} {a:Act} {w:World} {P:Program} {E:Env}
theorem zcD (h:Rel B nt w0 X γ st a w) {n:Nat} {cs:List V} (ho:DF st.o n=some (.box cs)) {extra:List Nat} {m:Nat} (hm:m∈extra) {b:Nat} (hr:RowOf γ st.o m b) :
  ¬ (EM γ st.o n b∨∃ m∈GJ st.o (EN cs++extra) cs,EM γ st.o m b):=by
 intro hLb;obtain ⟨e,ag,ks,l,h5,h6⟩:=hr;rcases hLb with ⟨ob,h7,h8⟩ | ⟨m2,h9,ob,h7,h8⟩
 ·have hne:n≠m:=by
   rintro rfl;rw [ho] at h5;cases h5
  exact h.dis n m ob _ b hne h7 h5 h8 h6
 ·by_cases hne:m2=m
  ·subst hne;obtain ⟨hi2,e2,ag2,ks2,l2,k1,k2,k3⟩:=Q2.1 h9;rw [SQ] at k3;have q1:=SR (VM k1);have q2:=SR hm;omega
  ·exact h.dis m2 m ob _ b hne h7 h5 h8 h6
theorem Uc {p:Value} (h:Rel ⟨B.T,B.e,some p,B.ng,B.F⟩ nt w0 X γ st a w) {v:V} {x:Value} (hv:VRel γ st.o w (DH X γ st.o) v x) {ks:List (List Kd)} {vs:List V} {r:V} {out:List (List V)} (he:gJ st.o ks (FD vs) v=some (r,out)) {g0:Value} (hp:p=QP g0) :
  ∃ γ',Rel B.base 0 w0 X γ' ⟨[],F5 r out⟩ IQ w∧VRel γ' (F5 r out) w (DH X γ' (F5 r out)) (LE r) x∧J0 vs r out g0 (γ' 900000):=by
 have hfar:∀ b,X.far b→DH X γ st.o b∧∀ b',b'=b→¬ E1 γ st.o b':=fun b hb=>⟨.inr hb,fun b' e hP=>h.nr b' hP (e ▸ hb)⟩
 have hbd:∀ {n:Nat} {cs:List V} (ho:DF st.o n=some (.box cs)) (extra:List Nat),∃ γb,Rel B.base 0 w0 X γb ⟨[],EG (cs.map (E7 st.o (EN cs++extra)))⟩ IQ w∧γb 900000=γ n ∧
   ∀ b,E1 γb (EG (cs.map (E7 st.o (EN cs++extra)))) b→EM γ st.o n b∨∃ m∈GJ st.o (EN cs++extra) cs,EM γ st.o m b:=by
  intro n cs ho extra;exact h.bound ho extra (w1:=w0) (own1:=X.own) (F:=X.far) h.keep (fun b hb=>⟨.inr hb,fun ⟨ob,h1,h2⟩=>h.nr b ⟨n,ob,h1,h2⟩ hb,fun m _ ⟨ob,h1,h2⟩=>h.nr b ⟨m,ob,h1,h2⟩ hb,fun m _ ⟨ob,h1,h2⟩=>h.nr b ⟨m,ob,h1,h2⟩ hb⟩)
   (fun b hb=>by
    rcases hb with ⟨ob,h1,h2⟩ | ⟨m,_,ob,h1,h2⟩
    ·exact (h.lt b ⟨n,ob,h1,h2⟩).2
    ·exact (h.lt b ⟨m,ob,h1,h2⟩).2)
 have hbP:∀ {n b:Nat} {hs:List Nat},(EM γ st.o n b∨∃ m∈hs,EM γ st.o m b)→E1 γ st.o b:=by
  rintro n b hs (⟨ob,h1,h2⟩ | ⟨m,_,ob,h1,h2⟩)
  ·exact ⟨n,ob,h1,h2⟩
  ·exact ⟨m,ob,h1,h2⟩
 unfold gJ at he;split at he
 ·rename_i s0 hb;split at he
  ·rename_i s hob;simp only [AC,AS] at he;obtain ⟨rfl,rfl⟩:=he;obtain ⟨hR,hP⟩:=h.boundB hob (w1:=w0) (own1:=X.own) (F:=X.far) h.keep (fun b hb=>⟨.inr hb,fun ⟨ob,h1,h2⟩=>h.nr b ⟨_,ob,h1,h2⟩ hb⟩) (fun b ⟨ob,h1,h2⟩=>(h.lt b ⟨_,ob,h1,h2⟩).2);have hmo:F5 (GU st.o ks v) [[.bld s]]=EG [.bld s]:=by cases GU st.o ks v <;> rfl
   have hf:=pK st.o ks v;refine ⟨_,by rw [hmo]; exact hR,?_,?_⟩
   ·rw [hmo,S0 hf];refine pL h hv (fun b _ hb=>?_) (fun m hm b hr hb=>?_) ks
    ·exact hb.imp_left (fun hb=>by obtain ⟨ob,h1,h2⟩:=hP b hb; exact ⟨_,ob,h1,h2⟩)
    ·obtain ⟨e,ag,ks',l,q1,q2⟩:=hr;rcases hb with hb | hb
     ·obtain ⟨ob,h1,h2⟩:=hP b hb;refine h.dis 900000 m ob _ b ?_ h1 q1 h2 q2;rintro rfl;rw [hob] at q1;cases q1
     ·exact h.nr b ⟨m,_,q1,q2⟩ hb
   ·simp only [J0,hb];exact ⟨hf,rfl,(h.pn p rfl _ hob).trans hp⟩
  ·cases he
 ·rename_i cs0 hnb hb;split at he
  ·rename_i cs hob;simp only [AC,AS] at he;obtain ⟨rfl,rfl⟩:=he;obtain ⟨γb,hR,hg,hP⟩:=hbd hob (JY v);have hmo:F5 (GU st.o ks v) [cs.map (E7 st.o (EN cs++JY v))]=EG (cs.map (E7 st.o (EN cs++JY v))):=by cases GU st.o ks v <;> rfl
   have hf:=pK st.o ks v;refine ⟨γb,by rw [hmo]; exact hR,?_,?_⟩
   ·rw [hmo,S0 hf];refine pL h hv (fun b _ hb=>hb.imp_left (fun hb=>hbP (hP b hb))) (fun m hm b hr hb=>?_) ks;rcases hb with hb | hb
    ·exact zcD h hob hm hr (hP b hb)
    ·obtain ⟨e,ag,ks',l,q1,q2⟩:=hr;exact h.nr b ⟨m,_,q1,q2⟩ hb
   ·simp only [J0,hb];refine ⟨hf,?_,?_⟩
    ·unfold pS;split
     ·exact absurd rfl (hnb _)
     ·exact absurd rfl (hnb _)
     ·exact lK _ _ _
    ·rw [hg];exact (h.pn p rfl _ hob).trans hp
  ·cases he
 ·rename_i hb;have fin9:∀ v,VRel γ st.o w (DH X γ st.o) v x→∃ γ',Rel B.base 0 w0 X γ' ⟨[],F5 (GU st.o ks v) []⟩ IQ w∧VRel γ' (F5 (GU st.o ks v) []) w (DH X γ' (F5 (GU st.o ks v) [])) (LE (GU st.o ks v)) x∧J0 vs (GU st.o ks v) [] g0 (γ' 900000):=by
   intro v hv;have hf:=pK st.o ks v;have hmo:F5 (GU st.o ks v) []=[]:=by
    cases hx:GU st.o ks v <;> first | rfl | (rw [hx] at hf; simp only [K8,G2] at hf; cases hf)
   refine ⟨γ,?_,?_,?_⟩
   ·rw [hmo];refine ⟨rfl,rfl,fun i=>by simp only [St.get,EL,VRel],fun n ob hn=>?_,?_,?_,h.keep,?_,h.fl,fun p hp=>by cases hp⟩
    ·simp only [DF,EL] at hn; cases hn
    ·rintro b ⟨n,ob,hn,_⟩; simp only [DF,EL] at hn; cases hn
    ·intro n m ob ob' b _ hn; simp only [DF,EL] at hn; cases hn
    ·rintro b ⟨n,ob,hn,_⟩; simp only [DF,EL] at hn; cases hn
   ·rw [hmo,S0 hf];refine pL h hv (fun b _ hb=>?_) (fun m hm b hr hb=>?_) ks
    ·rcases hb with ⟨n,ob,hn,_⟩ | hb
     ·simp only [DF,EL] at hn; cases hn
     ·exact .inr hb
    ·rcases hb with ⟨n,ob,hn,_⟩ | hb
     ·simp only [DF,EL] at hn; cases hn
     ·obtain ⟨e,ag,ks',l,q1,q2⟩:=hr;exact h.nr b ⟨m,_,q1,q2⟩ hb
   ·simp only [J0,hb];cases hx:GU st.o ks v <;> first | (rw [hx] at hf; exact hf) | (rw [hx] at hf; simp only [K8,G2] at hf; cases hf)
  split at he
  ·rename_i n i c;split at he
   ·rename_i cs hob hc;simp only [AC,AS] at he;obtain ⟨rfl,rfl⟩:=he;obtain rfl:=FG.1 hc;obtain ⟨γb,hR,hg,hP⟩:=hbd hob [];refine ⟨γb,hR,?_,?_⟩
    ·simp only [VRel,hob] at hv;simp only [F5,LE,D8,VRel];rw [XH (lK _ _ _),D5,BJ rfl,hg];exact ⟨trivial,hv.2⟩
    ·simp only [J0,hb,XX];exact lK _ _ _
   ·cases he
  ·rename_i n lo hi;split at he
   ·rename_i e ag ks' l hob;split at he
    ·rename_i hlo;simp only [AC,AS] at he;obtain ⟨rfl,rfl⟩:=he;obtain rfl:=FG.1 hlo;obtain ⟨hpr,hpb⟩:=oZ (γ':=fun m=>if m=900000 then x else γ m) (o':=[(900000,some (Ob.row true e ag ks' (l.take hi)))]) h hob hv;have hmo:F5 (.vec e ag ks' (l.take hi)) []=[(900000,some (.row true e ag ks' (l.take hi)))]:=rfl;have obs:∀ m ob,DF [(900000,some (Ob.row true e ag ks' (l.take hi)))] m=some ob→m=900000∧ob = .row true e ag ks' (l.take hi):=fun m ob hn=>by
      rw [D5] at hn;split at hn
      ·rename_i h9;simp only [AC] at hn;exact ⟨h9.symm,hn.symm⟩
      ·simp [DF,EL] at hn
     have ownP:∀ b,E1 (fun m=>if m=900000 then x else γ m) [(900000,some (Ob.row true e ag ks' (l.take hi)))] b→EM γ st.o n b:=by
      rintro b ⟨m,ob,hn,hb⟩;obtain ⟨rfl,rfl⟩:=obs m ob hn;exact hpb b (by simpa only [CM] using hb)
     have hlt:∀ b,EM γ st.o n b→E1 γ st.o b:=fun b ⟨ob,h1,h2⟩=>⟨n,ob,h1,h2⟩
     have hO:∀ b,b < w.heap.size→DH X (fun m=>if m=900000 then x else γ m) [(900000,some (Ob.row true e ag ks' (l.take hi)))] b→DH X γ st.o b:=fun b _ hb=>hb.imp_left (fun hb=>hlt b (ownP b hb))
     rw [hmo];refine ⟨fun m=>if m=900000 then x else γ m,⟨rfl,rfl,fun i=>by simp only [St.get,EL,VRel],fun m ob hn=>?_,fun b hb=>h.lt b (hlt b (ownP b hb)),fun m m' ob ob' b hnm h1 h2=>?_,h.keep,fun b hb=>h.nr b (hlt b (ownP b hb)),h.fl,fun p hp=>by cases hp⟩,?_,?_⟩
     ·obtain ⟨rfl,rfl⟩:=obs m ob hn;simp only [ObRel,CM] at hpr ⊢;obtain ⟨k1,k2,xs,k3,k4⟩:=hpr;exact ⟨k1,k2,xs,k3,fun i y hy=>Kd.RelAll.mono (Keep.refl _ w) hO (fun _ _ hu=>hu) (k4 i y hy)⟩
     ·obtain ⟨rfl,rfl⟩:=obs m ob h1;obtain ⟨rfl,rfl⟩:=obs m' ob' h2;exact absurd rfl hnm
     ·simp only [LE,VRel,D5,CM];refine ⟨AT _,?_⟩;simp only [VRel,hob] at hv;obtain ⟨hl,p,len,cap,p',hgm,hxx,_,h22,h33,hm4,_,h5⟩:=hv;have htl:(l.take hi).length=hi:=by rw [A8,vaw hl]
      rw [htl];rw [vaU,vaU] at hxx;refine ⟨p',hi,cap,p',hxx,by rw [hxx]; simp,B2 _,AT _,by omega,hm4,.inl ?_,fun _=>rfl⟩;cases p' <;> simp [Addr.add]
     ·simp only [J0,hb,XX]
    ·cases he
   ·simp only [AC,AS] at he;obtain ⟨rfl,rfl⟩:=he;exact fin9 _ hv
  ·rename_i hnp;simp only [AC,AS] at he;obtain ⟨rfl,rfl⟩:=he;exact fin9 _ hv
theorem xJ:∀ (vs:List V) (i j:Nat),EL .any (bT i vs) j=if i≤j∧j < i+vs.length then D8 (vs.getD (j - i) .any) else .any
 | [],i,j=>by
  rw [A2 (by simp only [A6]; omega)];rfl
 | v :: r,i,j=>by
  simp only [bT,PT,xJ r (i+1) j,AM];by_cases e:i=j
  ·subst e;simp
  ·rw [A2 e];by_cases h:i+1≤j∧j < i+1+r.length
   ·rw [BJ h,BJ (by omega),show j - i=(j - (i+1))+1 by omega];simp
   ·rw [A2 h,A2 (by omega)]
theorem pJ (hT:TiOK P B E) {w:World}:∀ {rs:List ResultVar} {l:List V},SY E st rs=some l→Rel B nt w0 X γ st a w →
  ∃ xs:List Value,(rs.mapM fun r=>match r with | .tmp t=>pure (a.tmps.getD t undef) | .cell ad t=>do loadVar t (← asAddr (a.tmps.getD ad undef)):Sem (List Value)).run P w = .ok xs w∧VRels γ st.o w (DH X γ st.o) l xs
 | [],l,h,hR=>by
  simp only [SY,AC] at h;subst h;exact ⟨[],by simp,by simp only [VRels]⟩
 | .tmp t :: r,l,h,hR=>by
  simp only [SY] at h;split at h
  ·rename_i l' hl';simp only [AC] at h;subst h;obtain ⟨xs,h1,h2⟩:=pJ hT hl' hR;refine ⟨a.tmps.getD t undef :: xs,?_,?_⟩
   ·simp only [List.mapM_cons,CK,CL,B4,h1]
   ·simp only [VRels];exact ⟨hR.tm t,h2⟩
  ·cases h
 | .cell ad t :: r,l,h,hR=>by
  simp only [SY] at h;split at h
  ·rename_i n i c hop;split at h
   ·rename_i cs hob;split at h
    ·rename_i v l' hv hl';simp only [AC] at h;subst h;obtain ⟨xs,h1,h2⟩:=pJ hT hl' hR;have hx:=hR.tm ad;rw [hop] at hx;simp only [VRel,hob] at hx;obtain ⟨_,b,hg,hx⟩:=hx;have hor:=hR.ob n _ hob;simp only [ObRel] at hor;obtain ⟨b',cs',T,hg',hh,hr⟩:=hor;rw [hg] at hg';simp only [CS,AC,C5,BY] at hg';subst hg';obtain ⟨y,hy,hr'⟩:=zG (hT.known (zF hv)) hv hh hr;refine ⟨y :: xs,?_,?_⟩
     ·have hy':(do loadVar t (← asAddr (a.tmps.getD ad undef)):Sem Value).run P w = .ok y w:=by
       rw [hx];exact hy
      simp only [CK] at hy';simp only [List.mapM_cons,CK,hy',CL,B4,h1]
     ·simp only [VRels];exact ⟨hr',h2⟩
    ·cases h
   ·cases h
  ·cases h
theorem Rn {f:FuncId} {fn:Func} {code:Code} (hf:P.funcs[f]?=some fn) (hn:(fn.name == "runtime.NumGoroutine")=false) (hb:fn.body=some code) (hnt:E.nt=fn.ntmps) (hn9:BS fn.ntmps 900000=true) {rs:List ResultVar} (hrs:fn.results.toList=rs)
  (rks:List (List Kd)) (hm:P.follows .mixedOrders=true) (hT:TiOK P B E) (hE:∀ t,t∈E.eqs→EqSnd P t (E.tyd t).ks) (hSp:∀ f sp,lk E.sp f=some sp→Snd P B f (fun vs=>(sp vs).get)) (hIp:∀ f p,lk E.ip f=some p→QI P f p) (hB:BldOK P B E):Snd P B f (DQ E code rs rks):=by
 intro w X γ vs xs r out hsp hgl hxo hR hV;unfold DQ at hsp;split at hsp
 case h_2=>cases hsp
 rename_i hle;have hle':=AN hle;have hlen:xs.length=vs.length:=by rw [← hV.length,B9]
 refine Does.enter hf hn (by rw [hb]; rfl) (calls_of_wp hf hb ?_)
 let B':BT:=⟨B.T,B.e,some (QP (γ 900000)),B.ng,B.F⟩
 have hT':TiOK P B' E:=fun t x ht=>⟨(hT t x ht).info,(hT t x ht).ks,(hT t x ht).by1,(hT t x ht).one,(hT t x ht).und⟩
 have hSp':SpOK P B' E w X:=⟨⟨hgl,hxo⟩,fun f sp hfs=>hSp f sp hfs,hIp⟩;have hB':BldOK P B' E:=hB;have hstart:Rel B' fn.ntmps w X γ ⟨bT 0 vs,HO vs⟩ { tmps:=xs.toArray++Array.replicate (fn.ntmps - xs.toArray.size) undef,defers:=[] } w:=by
  refine ⟨?_,rfl,fun i=>?_,fun n ob hnob=>?_,hR.lt,hR.dis,hR.keep,hR.nr,hR.fl,fun p hp ob _=>?_⟩
  ·simp;omega
  ·simp only [St.get,xJ];split
   ·rename_i hi;have hi':i < vs.length:=by omega
    have h1:(vs.map D8)[i]?=some (D8 vs[i]):=by simp [hi']
    obtain ⟨x,hx,hvx⟩:=hV.get h1;have h2:vs.getD (i - 0) .any=vs[i]:=by simp [hi']
    rw [h2];have h3:(xs.toArray++Array.replicate (fn.ntmps - xs.toArray.size) undef).getD i undef=x:=by
     rw [vbi,Array.getElem?_append_left (by simp; omega)];simp [hx]
    simp only [h3];exact hvx
   ·simp only [VRel]
  ·have:=hR.ob n ob hnob
   cases ob with
   | box l=>simpa only [ObRel] using this
   | row own e ag ks l=>cases own <;> simpa only [ObRel] using this
   | bld s=>simpa only [ObRel,BT.base] using this
  ·simp only [B',AC] at hp;exact hp
 refine VC hT' hE hSp' hB' hnt (AN hn9) hm code hsp hstart (fun o γ' st' a' w' h' hk'=>?_);have fin:∀ l,SY E st' rs=some l→gJ st'.o rks (FD vs) (X6 l)=some (r,out)→bodyPost P fn (fun e w'=>∃ x,e = .returned x∧∃ γ',Rel B.base 0 w X γ' ⟨[],F5 r out⟩ IQ w'∧VRel γ' (F5 r out) w' (DH X γ' (F5 r out)) (LE r) x∧J0 vs r out (γ 900000) (γ' 900000)) .ret a' w':=by
  intro l hl he;obtain ⟨ys,hy1,hy2⟩:=pJ (P:=P) hT' hl h';have hval:(results fn a'.tmps).run P w' = .ok (if h:ys.toArray.size=1 then ys.toArray[0] else .tuple ys.toArray) w':=by
   unfold results;rw [show fn.results=rs.toArray by rw [← hrs]];rw [Array.mapM_eq_mapM_toList];simp only [CK,Sem.run_map]
   erw [hy1]
   rfl
  have hrel:VRel γ' st'.o w' (DH X γ' st'.o) (X6 l) (if h:ys.toArray.size=1 then ys.toArray[0] else .tuple ys.toArray):=by
   match l,ys,hy2 with
   | [],[],_=>simp only [X6,VRel]; exact ⟨#[],by simp,by simp only [VRels]⟩
   | [v],[y],h2=>simp only [VRels] at h2; simpa [X6] using h2.1
   | v :: v' :: l,y :: y' :: ys,h2=>simp only [X6,VRel]; exact ⟨(y :: y' :: ys).toArray,by simp,by simpa using h2⟩
  obtain ⟨γ2,q1,q2,q3⟩:=Uc (B:=B) h' hrel he rfl;exact ⟨h'.df,_,hval,_,rfl,γ2,q1,q2,q3⟩
 cases o with
 | exit i=>simp [DL] at hk'
 | normal=>
  simp only [DL] at hk';split at hk'
  ·rename_i l hl;exact fin l hl hk'
  ·cases hk'
 | ret=>
  simp only [DL] at hk';split at hk'
  ·rename_i l hl;exact fin l hl hk'
  ·cases hk'
end
open Go Go.RowKit
def zB:V→Value→Bool
 | .int k n,.int k' n'=>k==k'&&(n==n'&&XO k n)
 | .bool b,.bool c=>b==c
 | .str s,.string s'=>s.size==0&&s'.size==0
 | .zs,.slice none 0 0=>true
 | .nilp,.pointer none=>true
 | .err true,.nilIface=>true
 | .any,_=>true
 | _,_=>false
def YV:List V→List Value→Bool
 | [],[]=>true
 | v :: vs,x :: xs=>zB v x&&YV vs xs
 | _,_=>false
def dB (P:Program) (T t:Nat) (ks:List Kd):TD→TypeDesc→Bool
 | .slice e,.slice e'=>e==e'
 | .struct fs,.struct fields=>fs==fields.toList.map (fun f=>(f.offset,f.type))&&fields.toList.all (fun f=>(P.info? f.type).isSome)
 | .array n e,.array n' e'=>n==n'&&e==e'
 | .ptr e,.pointer e'=>e==e'
 | .bld,_=>t==T
 | .iface,.interface _=>true
 | .leaf,d=>match ks with
  | [.int k]=>(match d with | .int k'=>k==k' | _=>false)
  | [.str]=>(match d with | .string=>true | _=>false)
  | [.bool]=>(match d with | .bool=>true | _=>false)
  | _=>true
 | _,_=>false
def j6 (P:Program) (T t:Nat) (x:TI):Bool:=
 match P.info? t,P.underlying t with
 | some i,some d=>match i.zero with
  | some z=>i.size==x.size&&(i.bytes==x.bytes&&(z.cells.size==x.size&&(YV x.zero z.cells.toList&&(x.ks.length==x.size&&(BS 1 x.bytes&&((x.agg||x.size==1)&&(d.isRow==x.agg&&dB P T t x.ks x.d d)))))))
  | none=>false
 | _,_=>false
def dV (P:Program) (T:Nat):List (Nat × TI)→Bool
 | []=>true
 | (t,x) :: r=>j6 P T t x&&dV P T r
theorem zgD {γ:Nat→Value} {o:Store} {w:World} {O:Nat→Prop} {v:V} {x:Value} (h:zB v x=true):VRel γ o w O v x:=by
 unfold zB at h;split at h
 ·simp only [AG,CB,XO,AP] at h;obtain ⟨rfl,rfl,h1,h2⟩:=h;simp only [VRel];exact ⟨trivial,h1,h2⟩
 ·simp only [CB] at h;subst h;simp only [VRel]
 ·rename_i s s';simp only [AG,CB] at h;have e:∀ s:BA,s.size=0→s=CH:=fun s hs=>by
   obtain ⟨⟨l⟩⟩:=s;cases l with
   | nil=>rfl
   | cons a l=>simp [AH] at hs
  simp only [VRel];rw [e s h.1,e s' h.2];exact ⟨rfl,by simp [ByteArray.size_empty]⟩
 ·simp only [VRel]
 ·simp only [VRel]
 ·simp only [VRel]
 ·simp only [VRel]
 ·cases h
theorem Kk {γ:Nat→Value} {o:Store} {w:World} {O:Nat→Prop}:∀ {l:List V} {xs:List Value},YV l xs=true→VRels γ o w O l xs
 | [],[],_=>by simp only [VRels]
 | [],_ :: _,h=>by simp [YV] at h
 | _ :: _,[],h=>by simp [YV] at h
 | v :: vs,x :: xs,h=>by
  simp only [YV,AG] at h;simp only [VRels];exact ⟨zgD h.1,Kk h.2⟩
theorem zfZ {P:Program} {B:BT} {t:Nat} {x:TI} (h:j6 P B.T t x=true):TISnd P B t x:=by
 unfold j6 at h;split at h
 ·rename_i i d hi hd;split at h
  ·rename_i z hz;simp only [AG,CB,vaT] at h;obtain ⟨h1,h2,h3,h4,h5,h6,h7,h8,h9⟩:=h;refine ⟨⟨i,z,hi,h1,h2,hz,h3,fun γ o w O=>Kk h4⟩,h5,AN h6,fun ha=>by rw [ha] at h7; simpa using h7,⟨d,hd,h8,?_⟩⟩;cases hx:x.d with
   | slice e=>rw [hx] at h9; cases d <;> simp only [dB] at h9 <;> first | (cases h9; done) | (simp only [CB] at h9; subst h9; rfl)
   | struct fs=>
    rw [hx] at h9;cases d <;> simp only [dB] at h9 <;> first | (cases h9; done) | skip
    rename_i fields;simp only [AG,CB,CN] at h9;exact ⟨fields,rfl,h9.1,h9.2⟩
   | array n e=>
    rw [hx] at h9;cases d <;> simp only [dB] at h9 <;> first | (cases h9; done) | skip
    simp only [AG,CB] at h9;obtain ⟨rfl,rfl⟩:=h9;rfl
   | ptr e=>rw [hx] at h9; cases d <;> simp only [dB] at h9 <;> first | (cases h9; done) | (simp only [CB] at h9; subst h9; rfl)
   | bld=>rw [hx] at h9; simp only [dB,CB] at h9; exact h9
   | iface=>rw [hx] at h9; cases d <;> simp only [dB] at h9 <;> first | (cases h9; done) | exact ⟨_,rfl⟩
   | leaf=>
    rw [hx] at h9;refine ⟨fun k hk=>?_,fun hk=>?_,fun hk=>?_⟩ <;> rw [hk] at h9 <;> cases d <;> simp only [dB] at h9 <;> first | (cases h9; done) | (simp only [CB] at h9; subst h9; rfl) | rfl
  ·cases h
 ·cases h
theorem Jh {P:Program} {B:BT} {E:Env} {ti:List (Nat × TI)} (he:E.ti=ti) (h:dV P B.T ti=true):TiOK P B E:=by
 subst he;have key:∀ (l:List (Nat × TI)),dV P B.T l=true→∀ t x,lk l t=some x→j6 P B.T t x=true:=by
  intro l
  induction l with
  | nil=>intro _ t x hx; simp [lk] at hx
  | cons p r ih=>
   obtain ⟨j,y⟩:=p;intro hl t x hx;simp only [dV,AG] at hl;simp only [lk] at hx;split at hx
   ·rename_i hb;simp only [AC] at hx;subst hx;rw [← FG.1 hb];exact hl.1
   ·exact ih hl.2 t x hx
 exact fun t x ht=>zfZ (key E.ti h t x ht)
def YC (P:Program) (t w:Nat):Bool:=match P.info? t with | some _=>P.cellsOf t==w | none=>false
def VZ (ks:List Kd):Nat→List Kd
 | 0=>[]
 | n+1=>ks++VZ ks n
def bU (P:Program) (g:Nat→Option (List Kd)):List Field→Nat→Option (List Kd)
 | [],_=>some []
 | f :: r,o=>match g f.type with
  | some ks=>match f.name != "_"&&(f.offset==o&&YC P f.type ks.length) with
   | true=>match bU P g r (o+ks.length) with
    | some ks'=>some (ks++ks')
    | none=>none
   | false=>none
  | none=>none
def Q0 (P:Program):Nat→Nat→Option (List Kd)
 | 0,_=>none
 | d+1,t=>match P.underlying t with
  | some (.int k)=>some [.int k]
  | some .bool=>some [.bool]
  | some (.struct fs)=>match P.stoodInHeld t with
   | true=>none
   | false=>bU P (Q0 P d) fs.toList 0
  | some (.array n e)=>match Q0 P d e with
   | some ks=>match YC P e ks.length with
    | true=>some (VZ ks n)
    | false=>none
   | none=>none
  | _=>none
def gG (P:Program) (ti:List (Nat × TI)):List Nat→Bool
 | []=>true
 | t :: r=>(!(P.eqGuardType P.depth t))&&((match P.underlying t with | some d=>d.isRow | none=>false)&&(match Q0 P 10 t with | some ks=>IH.kdsEq (EL TI.none ti t).ks ks | none=>false))&&gG P ti r
theorem cA:∀ {ks:List Kd} {l:List V},IX ks l=true→l.length=ks.length
 | [],[],_=>rfl
 | [],_ :: _,h=>by simp [IX] at h
 | k :: _,[],h=>by cases k <;> simp [IX] at h
 | k :: ks,v :: l,h=>by
  cases k <;> cases v <;> simp only [IX] at h <;> try (cases h; done)
  ·split at h
   ·simp [cA h]
   ·cases h
  ·simp [cA h]
theorem g8:∀ {ks ks':List Kd} {l:List V},IX (ks++ks') l=true→IX ks (l.take ks.length)=true∧IX ks' (l.drop ks.length)=true
 | [],_,_,h=>⟨rfl,h⟩
 | k :: ks,ks',[],h=>by cases k <;> simp [IX] at h
 | k :: ks,ks',v :: l,h=>by
  cases k <;> cases v <;> simp only [vaf,IX] at h <;> try (cases h; done)
  ·split at h
   ·rename_i hk;obtain ⟨h1,h2⟩:=g8 h;simp only [AM,List.take_succ_cons,List.drop_succ_cons,IX,hk];exact ⟨h1,h2⟩
   ·cases h
  ·obtain ⟨h1,h2⟩:=g8 h;simp only [AM,List.take_succ_cons,List.drop_succ_cons,IX];exact ⟨h1,h2⟩
theorem gF:∀ {a a':List V} {b b':List V} {c:Bool},a.length=a'.length→I6 (a++b) (a'++b')=some c→∃ c1 c2,I6 a a'=some c1∧I6 b b'=some c2∧c=(c1&&c2)
 | [],[],b,b',c,_,h=>⟨true,c,rfl,h,by simp⟩
 | [],_ :: _,_,_,_,hl,_=>by simp at hl
 | _ :: _,[],_,_,_,hl,_=>by simp at hl
 | x :: a,y :: a',b,b',c,hl,h=>by
  have hl':a.length=a'.length:=by simpa using hl
  cases x <;> cases y <;> simp only [vaf,I6] at h ⊢ <;> try (cases h; done)
  ·split at h
   ·rename_i hk;split at h
    ·rename_i c0 h0;simp only [AC] at h;obtain ⟨c1,c2,h1,h2,h3⟩:=gF hl' h0;rw [h1];exact ⟨_,c2,rfl,h2,by rw [← h,h3,Bool.and_assoc]⟩
    ·cases h
   ·cases h
  ·split at h
   ·rename_i c0 h0;simp only [AC] at h;obtain ⟨c1,c2,h1,h2,h3⟩:=gF hl' h0;rw [h1];exact ⟨_,c2,rfl,h2,by rw [← h,h3,Bool.and_assoc]⟩
   ·cases h
theorem gE:∀ {a a':List V} {c:Bool},I6 a a'=some c→a.length=a'.length
 | [],[],_,_=>rfl
 | [],_ :: _,_,h=>by simp [I6] at h
 | x :: _,[],_,h=>by cases x <;> simp [I6] at h
 | x :: a,y :: a',c,h=>by
  cases x <;> cases y <;> simp only [I6] at h <;> try (cases h; done)
  ·split at h
   ·split at h
    ·rename_i h0;simp [gE h0]
    ·cases h
   ·cases h
  ·split at h
   ·rename_i h0;simp [gE h0]
   ·cases h
section
variable {P:Program} {γ:Nat→Value} {o:Store} {w:World} {O:Nat→Prop}
def RO (P:Program) (γ:Nat→Value) (o:Store) (w:World) (O:Nat→Prop) (t:Nat) (l:List V) (x:Value):Prop:=
 match P.underlying t with
 | some d=>match d.isRow with
  | true=>∃ xs,x = .agg xs∧VRels γ o w O l xs.toList
  | false=>∃ v,l=[v]∧VRel γ o w O v x
 | none=>False
theorem xM {d t:Nat} {ks:List Kd} (h:Q0 P d t=some ks):∃ k,P.underlying t=some k∧(k.isRow=false→ks.length=1):=by
 cases d with
 | zero=>simp [Q0] at h
 | succ d=>
  simp only [Q0] at h;split at h
  ·rename_i hu; simp only [AC] at h; exact ⟨_,hu,fun _=>by rw [← h]; rfl⟩
  ·rename_i hu; simp only [AC] at h; exact ⟨_,hu,fun _=>by rw [← h]; rfl⟩
  ·rename_i hu; exact ⟨_,hu,fun h=>by simp [vbh] at h⟩
  ·rename_i hu; exact ⟨_,hu,fun h=>by simp [vbh] at h⟩
  ·cases h
theorem fO {t n off:Nat} {l:List V} {xs:Array Value} (hu:∃ k,P.underlying t=some k∧(k.isRow=false→n=1)) (hs:YC P t n=true) (hr:VRels γ o w O l xs.toList) (hl:off+n≤l.length) (W:World) :
  ∃ y,(part t xs off).run P W = .ok y W∧RO P γ o w O t ((l.drop off).take n) y:=by
 obtain ⟨k,hu,hn⟩:=hu;unfold YC at hs;split at hs
 ·rename_i i hi;simp only [CB] at hs;cases hrow:k.isRow with
  | true=>
   refine ⟨.agg (xs.extract off (off+n)),?_,?_⟩
   ·cases k <;> simp [vbh] at hrow <;> simp [part,isAgg,BF hu,run_sizeOf W hi,hs]
   ·unfold RO;rw [hu];simp only [hrow];refine ⟨_,rfl,?_⟩
    have:(xs.extract off (off+n)).toList=(xs.toList.drop off).take n:=by
     simp [List.extract_eq_take_drop]
    rw [this];exact (hr.drop off).take n
  | false=>
   obtain rfl:=hn hrow;obtain ⟨v,hv⟩:∃ v,l[off]?=some v:=⟨l[off]'(by omega),A5 _⟩;obtain ⟨y,hy,hyr⟩:=hr.get hv;have hy':xs[off]?=some y:=by simpa using hy
   refine ⟨y,?_,?_⟩
   ·cases k <;> simp [vbh] at hrow <;> simp [part,isAgg,BF hu,hy']
   ·unfold RO;rw [hu];simp only [hrow];refine ⟨v,?_,hyr⟩;rw [List.take_one,List.head?_drop,hv];rfl
 ·cases hs
def kP (P:Program) (γ:Nat→Value) (o:Store) (w:World) (O:Nat→Prop) (dd t:Nat) (ks:List Kd):Prop:=∀ (W:World) (x y:Value) (l l':List V) (c:Bool),IX ks l=true→RO P γ o w O t l x→RO P γ o w O t l' y→I6 l l'=some c→(vbk dd t x y).run P W = .ok c W
theorem j4 (l:List V) (off n:Nat):l.drop off=(l.drop off).take n++l.drop (off+n):=by
 rw [← List.drop_drop]; exact (List.take_append_drop n (l.drop off)).symm
theorem xK {dd:Nat} {g:Nat→Option (List Kd)} (hg:∀ t ks,g t=some ks→kP P γ o w O dd t ks∧∃ k,P.underlying t=some k∧(k.isRow=false→ks.length=1)) {xs ys:Array Value} {l l':List V} (hx:VRels γ o w O l xs.toList) (hy:VRels γ o w O l' ys.toList) (hll:l.length=l'.length) (W:World) :
  ∀ (fs:List Field) (off:Nat) {ks:List Kd} {c:Bool},off≤l.length→bU P g fs off=some ks→IX ks (l.drop off)=true→I6 (l.drop off) (l'.drop off)=some c→(Op.eqFields dd xs ys fs).run P W = .ok c W
 | [],off,ks,c,hoff,hf,hk,he=>by
  simp only [bU,AC] at hf;subst hf;have h0:=cA hk;have h1:l.drop off=[]:=List.length_eq_zero_iff.1 h0;have h2:l'.drop off=[]:=by
   have:=gE he
   rw [h1] at this;exact List.length_eq_zero_iff.1 this.symm
  rw [h1,h2] at he;simp only [I6,AC] at he;subst he;simp [Op.eqFields]
 | f :: r,off,ks,c,hoff,hf,hk,he=>by
  simp only [bU] at hf;split at hf
  ·rename_i ks1 hw;split at hf
   ·rename_i hb;split at hf
    ·rename_i ks2 hf2;simp only [AC] at hf;subst hf;simp only [AG,CB,bne_iff_ne,ne_eq] at hb;obtain ⟨hn,ho,hs⟩:=hb;obtain ⟨hrun,hu⟩:=hg _ _ hw;obtain ⟨hk1,hk2⟩:=g8 hk;rw [List.drop_drop] at hk2;have hkl:=cA hk;simp only [C7,AR] at hkl;have hle:off+ks1.length≤l.length:=by omega
     rw [j4 l off ks1.length,j4 l' off ks1.length] at he;obtain ⟨c1,c2,h1,h2,h3⟩:=gF (by simp; omega) he;obtain ⟨a,ha,hac⟩:=fO (off:=off) hu hs hx hle W;obtain ⟨b,hb,hbc⟩:=fO (off:=off) hu hs hy (by omega) W;have he1:=hrun W a b _ _ c1 hk1 hac hbc h1;have ih:=xK hg hx hy hll W r (off+ks1.length) hle hf2 hk2 h2;simp only [Op.eqFields,hn,ne_eq,not_false_eq_true,CM,CK,ho,ha,hb,he1,B4];subst h3;cases c1
     ·simp
     ·simpa using ih
    ·cases hf
   ·cases hf
  ·cases hf
theorem xL {dd e:Nat} {ks:List Kd} (hrun:kP P γ o w O dd e ks) (hu:∃ k,P.underlying e=some k∧(k.isRow=false→ks.length=1)) (hs:YC P e ks.length=true) {xs ys:Array Value} {l l':List V} (hx:VRels γ o w O l xs.toList) (hy:VRels γ o w O l' ys.toList) (hll:l.length=l'.length) (W:World) :
  ∀ (m i:Nat) {c:Bool},i*ks.length+m*ks.length=l.length→IX (VZ ks m) (l.drop (i*ks.length))=true→I6 (l.drop (i*ks.length)) (l'.drop (i*ks.length))=some c→(Op.eqItems dd e ks.length xs ys (List.range' i m)).run P W = .ok c W
 | 0,i,c,hl,hk,he=>by
  rw [C4 (by omega),C4 (by omega)] at he;simp only [I6,AC] at he;subst he;simp [Op.eqItems]
 | m+1,i,c,hl,hk,he=>by
  rw [vae,vbq] at hl;obtain ⟨hk1,hk2⟩:=g8 (ks:=ks) (ks':=VZ ks m) hk;rw [List.drop_drop] at hk2;rw [j4 l (i*ks.length) ks.length,j4 l' (i*ks.length) ks.length] at he;obtain ⟨c1,c2,h1,h2,h3⟩:=gF (by simp; omega) he;obtain ⟨a,ha,hac⟩:=fO (off:=i*ks.length) hu hs hx (by omega) W;obtain ⟨b,hb,hbc⟩:=fO (off:=i*ks.length) hu hs hy (by omega) W;have he1:=hrun W a b _ _ c1 hk1 hac hbc h1;have ih:=xL hrun hu hs hx hy hll W m (i+1) (by rw [vae,vbq]; omega) (by rw [vae,vbq]; exact hk2) (by rw [vae,vbq]; exact h2);simp only [List.range'_succ,Op.eqItems,CK,ha,hb,he1,B4];subst h3;cases c1
  ·simp
  ·simpa using ih
theorem Dr (ks:List Kd):∀ n,(VZ ks n).length=n*ks.length
 | 0=>by simp [VZ]
 | n+1=>by simp only [VZ,AR,Dr ks n,vae,vbq]; omega
theorem mK (dd:Nat):∀ (d t:Nat) (ks:List Kd),Q0 P d t=some ks→kP P γ o w O (dd+d) t ks
 | 0,t,ks,h=>by simp [Q0] at h
 | d+1,t,ks,h=>by
  intro W x y l l' c hk hx hy he;have hll:=gE he;simp only [Q0] at h;unfold RO at hx hy;split at h
  ·rename_i k hu;simp only [AC] at h;subst h;rw [hu] at hx hy;simp only at hx hy;obtain ⟨v,rfl,hx⟩:=hx;obtain ⟨v',rfl,hy⟩:=hy;cases v <;> simp only [IX] at hk <;> try (cases hk; done)
   cases v' <;> simp only [I6] at he <;> try (cases he; done)
   simp only [VRel] at hx hy;obtain ⟨rfl,_⟩:=hx;obtain ⟨rfl,_⟩:=hy;split at he
   ·rename_i hkk;simp only [AC,CR] at he;have hkk:=eq_of_beq hkk;subst hkk;rw [show dd+(d+1)=(dd+d)+1 from rfl,run_equalIn_int W _ t _ k _ _ hu,he]
   ·cases he
  ·rename_i hu;simp only [AC] at h;subst h;rw [hu] at hx hy;simp only at hx hy;obtain ⟨v,rfl,hx⟩:=hx;obtain ⟨v',rfl,hy⟩:=hy;cases v <;> simp only [IX] at hk <;> try (cases hk; done)
   cases v' <;> simp only [I6] at he <;> try (cases he; done)
   simp only [VRel] at hx hy;subst hx; subst hy;simp only [AC,CR] at he;rw [show dd+(d+1)=(dd+d)+1 from rfl,run_equalIn_bool W _ t _ _ hu,he]
  ·rename_i fs hu;rw [hu] at hx hy;simp only at hx hy;obtain ⟨xs,rfl,hx⟩:=hx;obtain ⟨ys,rfl,hy⟩:=hy;split at h
   ·cases h
   ·rename_i hst;have hfs:P.fieldsOf t=fs:=by simp [Program.fieldsOf,hu]
    rw [show dd+(d+1)=(dd+d)+1 from rfl,run_equalIn_struct W (dd+d) t xs ys (by rw [hfs]; exact hu) hst,hfs];exact xK (fun t ks ht=>⟨mK dd d t ks ht,xM ht⟩) hx hy hll W fs.toList 0 (B2 _) h hk he
  ·rename_i m e hu;rw [hu] at hx hy;simp only at hx hy;obtain ⟨xs,rfl,hx⟩:=hx;obtain ⟨ys,rfl,hy⟩:=hy;split at h
   ·rename_i ks1 hw;split at h
    ·rename_i hs;simp only [AC] at h;subst h;have hs':=hs;unfold YC at hs';split at hs'
     ·rename_i i hi;simp only [CB] at hs';have hkl:=cA hk;rw [Dr] at hkl;rw [show dd+(d+1)=(dd+d)+1 from rfl,run_equalIn_array W (dd+d) xs ys hu hi,hs',List.range_eq_range'];exact xL (mK dd d e ks1 hw) (xM hw) hs hx hy hll W m 0 (by omega) (by simpa using hk) (by simpa using he)
     ·cases hs'
    ·cases h
   ·cases h
  ·cases h
end
theorem xO {P:Program} {E:Env} {ti:List (Nat × TI)} (hti:E.ti=ti) {l:List Nat} (h:gG P ti l=true):∀ t,t∈l→EqSnd P t (E.tyd t).ks:=by
 induction l with
 | nil=>intro t ht; cases ht
 | cons t r ih=>
  intro t' ht';simp only [gG,AG,BW] at h;rcases AX.1 ht' with e | e
  ·subst e;refine ⟨h.1.1,fun γ o w w' O l l' xs ys c hk hc hx hy=>?_⟩;obtain ⟨⟨_,h2,h3⟩,_⟩:=h;split at h3
   ·rename_i ks hn;have hks:(E.tyd t').ks=ks:=by
     unfold Env.tyd;rw [hti];exact nD h3
    rw [hks] at hk;split at h2
    ·rename_i k hk2;have hcx:∀ {l:List V} {xs:Array Value},VRels γ o w O l xs.toList→RO P γ o w O t' l (.agg xs):=fun hx=>by
      unfold RO;rw [hk2];simp only [h2];exact ⟨_,rfl,hx⟩
     exact mK (P:=P) (γ:=γ) (o:=o) (w:=w) (O:=O) 9990 10 t' ks hn w' (.agg xs) (.agg ys) l l' c hk (hcx hx) (hcx hy) hc
    ·cases h2
   ·cases h3
  ·exact ih h.2 t' e
open Go Go.RowKit
theorem Snd.mono {P:Program} {B:BT} {f:FuncId} {sp sp':QO} (h:Snd P B f sp) (hs:∀ vs r,sp' vs=some r→sp vs=some r):Snd P B f sp':=
 fun w X γ vs xs r out hsp=>h w X γ vs xs r out (hs vs _ hsp)
def DO (P:Program) (B:BT) (f:FuncId) (sp:DK):Prop:=Snd P B f (fun vs=>(sp vs).get)
mutual
def WG:Kd→IV→Prop
 | .int k,x=>k.min≤x.toInt∧x.toInt≤k.max
 | .bool,_=>True
 | .str,x=>x.toStr.size≤strMax
 | .list ag ks,x=>x.toList.length≤strMax∧∀ y∈x.toList,WH ks (FL ag y) 0
def WH:List Kd→(Nat→IV)→Nat→Prop
 | [],_,_=>True
 | k :: ks,f,j=>WG k (f j)∧WH ks f (j+1)
end
def wfL:V→Prop
 | .int k n=>k.min≤n∧n≤k.max
 | .str s=>s.size≤strMax
 | .list ag ks l=>l.length≤strMax∧∀ y∈l,WH ks (FL ag y) 0
 | .vec _ ag ks l=>l.length≤strMax∧∀ y∈l,WH ks (FL ag y) 0
 | .bld s=>s.size≤strMax
 | _=>True
def wfLs:List V→Prop
 | []=>True
 | v :: r=>wfL v∧wfLs r
def N8:V→Prop
 | .agg l=>wfLs l
 | .bor l=>wfLs l
 | v=>wfL v
def RG:List V→Prop
 | []=>True
 | v :: r=>N8 v∧RG r
mutual
theorem Kd.Rel.wf {w:World} {O:Nat→Prop}:∀ {k:Kd} {x:IV} {v:Value},Kd.Rel w O k x v→WG k x
 | .int k,x,v,h=>by simp only [Kd.Rel] at h; simp only [WG]; exact h.2
 | .bool,x,v,h=>by simp only [WG]
 | .str,x,v,h=>by simp only [Kd.Rel] at h; simp only [WG]; exact h.2
 | .list ag ks,x,v,h=>by
  simp only [Kd.Rel] at h;obtain ⟨p,c,_,_,_,hl,hi⟩:=h;simp only [WG];refine ⟨hl,fun y hy=>?_⟩;obtain ⟨i,hi'⟩:=List.getElem?_of_mem hy;obtain ⟨b,o,_,_,_,hr⟩:=hi i y hi';exact Kd.RelAll.wf hr
theorem Kd.RelAll.wf {w:World} {O:Nat→Prop}:∀ {ks:List Kd} {f:Nat→IV} {j:Nat} {R:Nat→Value→Prop},Kd.RelAll w O ks f j R→WH ks f j
 | [],_,_,_,_=>by simp only [WH]
 | k :: ks,f,j,R,h=>by
  simp only [Kd.RelAll] at h;obtain ⟨⟨u,_,hr⟩,h2⟩:=h;simp only [WH];exact ⟨Kd.Rel.wf hr,Kd.RelAll.wf h2⟩
end
theorem VRel.wfL {γ:Nat→Value} {o:Store} {w:World} {O:Nat→Prop} {v:V} {x:Value} (h:VRel γ o w O v x):wfL v:=by
 cases v <;> simp only [FM.wfL] <;> simp only [VRel] at h
 ·exact h.2
 ·exact h.2
 ·have:=Kd.Rel.wf h
  simp only [WG,IV.toList] at this;exact this
theorem VRels.wfLs {γ:Nat→Value} {o:Store} {w:World} {O:Nat→Prop}:∀ {l:List V} {xs:List Value},VRels γ o w O l xs→wfLs l
 | [],[],_=>by simp only [FM.wfLs]
 | [],_ :: _,h=>by simp only [VRels] at h
 | _ :: _,[],h=>by simp only [VRels] at h
 | v :: vs,x :: xs,h=>by
  simp only [VRels] at h;simp only [FM.wfLs];exact ⟨h.1.wfL,VRels.wfLs h.2⟩
theorem zdS {B:BT} {γ:Nat→Value} {o:Store} {w:World} {O:Nat→Prop} {g:Value} {e:Nat} {ag:Bool} {ks:List Kd} {l:LI} (h:ObRel B γ o w O g (.row true e ag ks l)):wfL (.vec e ag ks l):=by
 simp only [ObRel] at h;obtain ⟨_,hl,xs,_,hr⟩:=h;simp only [FM.wfL];refine ⟨hl,fun y hy=>?_⟩;obtain ⟨i,hi⟩:=List.getElem?_of_mem hy;exact Kd.RelAll.wf (hr i y hi)
theorem zap {B:BT} {nt:Nat} {w0:World} {X:Zone} {γ:Nat→Value} {a:Act} {w:World} {cs:List V} (h:Rel B nt w0 X γ ⟨[],EG cs⟩ a w):wfLs cs:=by
 by_cases hb:∃ s,cs=[.bld s]
 ·obtain ⟨s,rfl⟩:=hb
  have:=h.ob 900000 (.bld s) (by simp [EG,D5])
  simp only [ObRel] at this;obtain ⟨b,v,p,_,_,_,_,_,hs⟩:=this;simp only [FM.wfLs,FM.wfL,BY];exact hs
 ·have he:EG cs=(900000,some (.box (FZ 900001 cs))) :: KA 900001 cs:=mI (fun s e=>hb ⟨s,e⟩);have hbox:=h.ob 900000 (.box (FZ 900001 cs)) (by rw [he,D5,BJ rfl]);simp only [ObRel] at hbox;obtain ⟨b,c,T,_,_,hr⟩:=hbox;have hall:∀ (j:Nat) (v:V),cs[j]?=some v→FM.wfL v:=by
   intro j v hj;by_cases hv:∃ e ag ks l,v = .vec e ag ks l
   ·obtain ⟨e,ag,ks,l,rfl⟩:=hv;have hat:=dJ (nr:=900001) hj
    have:=h.ob (900001+j) _ (show DF (EG cs) (900001+j)=_ by rw [he,D5,A2 (by omega)]; exact hat)
    exact zdS this
   ·have hbk:(FZ 900001 cs)[j]?=some v:=by
     rw [bG,hj];cases v <;> first | rfl | exact absurd ⟨_,_,_,_,rfl⟩ hv
    obtain ⟨x,_,hx⟩:=hr.get hbk;exact hx.wfL
  clear hr he hb h
  induction cs with
  | nil=>simp only [FM.wfLs]
  | cons v r ih=>
   simp only [FM.wfLs];exact ⟨hall 0 v rfl,ih (fun j u hj=>hall (j+1) u (by simpa using hj))⟩
theorem sR {B:BT} {nt:Nat} {w0:World} {X:Zone} {γ:Nat→Value} {a:Act} {w:World} {O:Nat→Prop} {o:Store} {cs:Option (List V)} (hcs:∀ l,cs=some l→wfLs l):∀ {vs:List V} {xs:List Value},(∀ l,.bor l∈vs→cs=some l)→VRels γ o w O (vs.map D8) xs→RG vs
 | [],_,_,_=>by simp only [RG]
 | v :: r,[],_,h=>by simp only [AZ,VRels] at h
 | v :: r,x :: xs,hb,h=>by
  simp only [AZ,VRels] at h;simp only [RG];refine ⟨?_,sR (B:=B) (nt:=nt) (w0:=w0) (X:=X) (a:=a) hcs (fun l hl=>hb l (AW _ hl)) h.2⟩;have h1:=h.1;by_cases hbor:∃ l,v = .bor l
  ·obtain ⟨l,rfl⟩:=hbor;simp only [N8];exact hcs l (hb l (AU ..))
  ·by_cases hagg:∃ l,v = .agg l
   ·obtain ⟨l,rfl⟩:=hagg;simp only [D8,VRel] at h1;obtain ⟨cs',_,hr⟩:=h1;simp only [N8];exact hr.wfLs
   ·have:N8 v=FM.wfL v:=by cases v <;> first | rfl | exact absurd ⟨_,rfl⟩ hbor | exact absurd ⟨_,rfl⟩ hagg
    rw [this];cases v <;> first | exact h1.wfL | exact absurd ⟨_,rfl⟩ hbor | exact absurd ⟨_,rfl⟩ hagg | (simp only [FM.wfL])
def KK:List V→Option (List V)→Prop
 | [],_=>True
 | .bor l :: r,c=>c=some l∧KK r c
 | _ :: r,c=>KK r c
theorem oO:∀ {vs:List V} {c:Option (List V)},KK vs c→∀ l,.bor l∈vs→c=some l
 | [],_,_,l,h=>by cases h
 | v :: r,c,ho,l,h=>by
  rcases AX.1 h with e | e
  ·subst e;exact ho.1
  ·cases v <;> simp only [KK] at ho <;> first | exact oO ho l e | exact oO ho.2 l e
theorem Fs {P:Program} {B:BT} {f:FuncId} {fn:Func} (E:Nat→Env) (sp:DK) (rks:List (List Kd)) (hf:P.funcs[f]?=some fn) {code:Code} {rs:List ResultVar} {nt:Nat}
  (hc:(fn.name == "runtime.NumGoroutine")=false∧fn.body=some code∧fn.ntmps=nt∧BS nt 900000=true∧fn.results.toList=rs) (hnt:∀ N,(E N).nt=nt) (hm:P.follows .mixedOrders=true)
  (hT:∀ N,TiOK P B (E N)) (hE:∀ N t,t∈(E N).eqs→EqSnd P t ((E N).tyd t).ks) (hSp:∀ N f sp,lk (E N).sp f=some sp→DO P B f sp) (hIp:∀ N f p,lk (E N).ip f=some p→QI P f p) (hB:∀ N,BldOK P B (E N))
  (h:∀ vs r,(KK vs (FD vs)→RG vs)→(sp vs).get=some r→∃ N,DQ (E N) code rs rks vs=some r):DO P B f sp:=by
 intro w X γ vs xs r out hsp hg hx hR hV;have hwf:KK vs (FD vs)→RG vs:=fun ho=>by
  refine sR (B:=B.base) (nt:=0) (w0:=w) (X:=X) (a:=IQ) (cs:=FD vs) (fun l hl=>?_) (oO ho) hV;have hm:HO vs=EG l:=by simp only [HO,hl]
  rw [hm] at hR;exact zap hR
 obtain ⟨N,hN⟩:=h vs _ hwf hsp;exact Rn hf hc.1 hc.2.1 ((hnt N).trans hc.2.2.1.symm) (by rw [hc.2.2.1]; exact hc.2.2.2.1) hc.2.2.2.2 rks hm (hT N) (hE N) (hSp N) (hIp N) (hB N) w X γ vs xs r out hN hg hx hR hV
abbrev ic (n:Nat):Int:=n
abbrev DR (E:Env) (c:Code) (kp:KP) (n:Nat) (s:St) (k:Out→St→DG):DG:=PV c (I7 PV E c) kp n s k
abbrev DJ (E:Env) (c:Code) (k:Out→St→DG):Out→St→DG:=y4 c (I7 PV E c) k
abbrev E4 (E:Env) (c:Code) (s:St) (k:Out→St→DG):DG:=I7 PV E c s k
theorem DY (E:Env) (c:Code) (kp:KP) (n:Nat) (s:St) (k:Out→St→DG):DR E c kp (n+1) s k=E4 E c s (EH (fun s'=>DR E c kp n s' k) kp k):=rfl
def DT (fn:Func):Code:=match fn.body with | some c=>c | none=>.skip
def DD:Code→List Nat→Code
 | c,[]=>c
 | .seq a _,0 :: r=>DD a r
 | .seq _ b,_ :: r=>DD b r
 | .cond _ a _,0 :: r=>DD a r
 | .cond _ _ b,_ :: r=>DD b r
 | .block _ c,_ :: r=>DD c r
 | .loop c,_ :: r=>DD c r
 | .scope c,_ :: r=>DD c r
 | _,_=>.skip
open Go Go.RowKit
section
variable {P:Program} {B:BT} {f:FuncId}
theorem Does.of_calls {fn:Func} (hf:P.funcs[f]?=some fn) (hn:(fn.name == "runtime.NumGoroutine")=false) (hb:fn.body.isNone=false) {xs:List Value} {w:World} {R:Ending→World→Prop} (h:Calls P f xs.toArray w R):Does P f xs w R:=Does.enter hf hn hb h
theorem zaz {r:V} (h:∀ cs,r≠.bor cs) (hv:∀ e ag ks l,r≠.vec e ag ks l):F5 r []=[]:=by
 cases r <;> first | rfl | exact absurd rfl (h _) | exact absurd rfl (hv _ _ _ _)
theorem P9 {w:World} {X:Zone} {γ:Nat→Value} {vs:List V} {xs:List Value} {r:V} (hR:Rel B.base 0 w X γ ⟨[],HO vs⟩ IQ w) (hb:FD vs=none) (hr:K8 r=true)
  (h:Does P f xs w fun e w'=>∃ x,e = .returned x∧Keep (fun _=>False) w w'∧∀ O:Nat→Prop,(∀ b,O b→b < w.heap.size)→VRel γ [] w' O r x) :
  Does P f xs w fun e w'=>∃ x,e = .returned x∧∃ γ',Rel B.base 0 w X γ' ⟨[],F5 r []⟩ IQ w'∧VRel γ' (F5 r []) w' (DH X γ' (F5 r [])) (LE r) x∧J0 vs r [] (γ 900000) (γ' 900000):=by
 have hm:HO vs=[]:=by simp only [HO,hb]
 rw [hm] at hR;have hnb:∀ cs,r≠.bor cs:=fun cs e=>by subst e; simp [K8,G2] at hr
 have hnv:∀ e ag ks l,r≠.vec e ag ks l:=fun e ag ks l h=>by subst h; simp [K8,G2] at hr
 rw [zaz hnb hnv,S0 hr];refine h.mono ?_;rintro e w' ⟨x,rfl,hk,hv⟩;refine ⟨x,rfl,γ,hR.world hk,hv _ (fun b hb=>?_),?_⟩
 ·rcases hb with ⟨n,ob,hn,_⟩ | hb
  ·simp [DF,EL] at hn
  ·exact hR.fl b hb
 ·simp only [J0,hb];cases r <;> first | exact hr | exact absurd rfl (hnb _) | exact absurd rfl (hnv _ _ _ _)
structure BldIs (B:BT) (w:World) (b:Nat) (p v:Value) (s:BA):Prop where
 self:p = .pointer none∨p = .pointer (some ⟨b,0,none⟩)
 heap:w.heap[b]?=some (.cells #[p,v] B.T (0,0))
 own:w.ownsRowF 0 B.e 1 v s.size (C6 s)
 ne:v.ownBlock≠some b
 size:s.size≤strMax
theorem qA {w:World} {X:Zone} {γ:Nat→Value} {vs:List V} {xs:List Value} {r:V} {s s':BA} (hR:Rel B.base 0 w X γ ⟨[],HO vs⟩ IQ w) (hb:FD vs=some [.bld s]) (hr:K8 r=true) (hnl:∀ γ' o w' O x,VRel γ [] w O r x→VRel γ' o w' O r x)
  (h:∀ b v p,γ 900000 = .tuple #[.pointer (some ⟨b,0,none⟩),v]→BldIs B w b p v s→Does P f xs w fun e w'=>∃ x,e = .returned x∧(∃ p' v',BldIs B w' b p' v' s'∧Keep (fun k=>k=b∨v.ownBlock=some k) w w'∧∀ k,v'.ownBlock=some k→v.ownBlock=some k∨w.heap.size≤k)∧∀ O,VRel γ [] w O r x) :
  Does P f xs w fun e w'=>∃ x,e = .returned x∧∃ γ',Rel B.base 0 w X γ' ⟨[],F5 r [[.bld s']]⟩ IQ w'∧VRel γ' (F5 r [[.bld s']]) w' (DH X γ' (F5 r [[.bld s']])) (LE r) x∧J0 vs r [[.bld s']] (γ 900000) (γ' 900000):=by
 have hm:HO vs=EG [.bld s]:=by simp only [HO,hb]
 have hmo:F5 r [[.bld s']]=EG [.bld s']:=by cases r <;> rfl
 rw [hm] at hR;have hob:DF (EG [.bld s]) 900000=some (.bld s):=by simp [EG,D5]
 have hor:=hR.ob 900000 _ hob;simp only [ObRel,BT.base] at hor;obtain ⟨b,v,p,hg,hp,hh,how,hne,hsz⟩:=hor;rw [hmo,S0 hr];refine (h b v p hg ⟨hp,hh,how,hne,hsz⟩).mono ?_;rintro e w' ⟨x,rfl,⟨p',v',hB,hk,hnew⟩,hx⟩;have hPb:∀ k,(k=b∨v.ownBlock=some k)→E1 γ (EG [.bld s]) k:=by
  rintro k hk;refine ⟨900000,_,hob,⟨b,0,none⟩,v,hg,?_⟩;rcases hk with rfl | hk
  ·exact .inl rfl
  ·exact .inr hk
 have hXb:∀ k,(k=b∨v.ownBlock=some k)→k < w.heap.size∧X.own k∧¬ X.far k:=fun k hk=>by
  obtain ⟨h1,h2⟩:=hR.lt k (hPb k hk);exact ⟨h1,h2.resolve_left (by omega),hR.nr k (hPb k hk)⟩
 have hkX:Keep X.own w w':=hk.mono (fun k _ h=>(hXb k h).2.1);have hobs:∀ n ob,DF (EG [.bld s']) n=some ob→n=900000∧ob = .bld s':=by
  intro n ob hn;simp only [EG,D5] at hn;split at hn
  ·rename_i e;simp only [AC] at hn;exact ⟨e.symm,hn.symm⟩
  ·simp [DF,EL] at hn
 have hP':∀ k,E1 (fun _=>.tuple #[.pointer (some ⟨b,0,none⟩),v']) (EG [.bld s']) k→k=b∨v'.ownBlock=some k:=by
  rintro k ⟨n,ob,hn,hbk⟩;obtain ⟨rfl,rfl⟩:=hobs n ob hn;obtain ⟨a,v2,h1,h2⟩:=hbk;simp only [Value.tuple.injEq] at h1;have e1:a=⟨b,0,none⟩∧v2=v':=by
   have:=congrArg Array.toList h1
   simp at this;exact ⟨this.1.symm,this.2.symm⟩
  obtain ⟨rfl,rfl⟩:=e1;rcases h2 with h2 | h2
  ·exact .inl h2.symm
  ·exact .inr h2
 have hlt':∀ k,v'.ownBlock=some k→k < w'.heap.size:=by
  intro k hk;rcases hB.own.2 with ⟨rfl,_⟩ | ⟨g,cap,cur,fz,rfl,_,hgh,_⟩
  ·simp [B5] at hk
  ·simp only [B5,AC] at hk;subst hk;exact (C9.1 hgh).1
 refine ⟨x,rfl,fun _=>.tuple #[.pointer (some ⟨b,0,none⟩),v'],⟨rfl,rfl,fun i=>by simp only [St.get,EL,VRel],fun n ob hn=>?_,fun k hk2=>?_,fun n m ob ob' k hnm h1 h2=>?_,hkX,fun k hk2 hf=>?_,fun k hf=>CU (hR.fl k hf) hk.size,fun q hq=>by cases hq⟩,hnl _ _ _ _ _ (hx _),?_⟩
 ·obtain ⟨rfl,rfl⟩:=hobs n ob hn;simp only [ObRel,BT.base];exact ⟨b,v',p',rfl,hB.self,hB.heap,hB.own,hB.ne,hB.size⟩
 ·rcases hP' k hk2 with rfl | h2
  ·obtain ⟨h3,h4,_⟩:=hXb k (.inl rfl);exact ⟨CU h3 hk.size,.inr h4⟩
  ·refine ⟨hlt' k h2,?_⟩;rcases hnew k h2 with h3 | h3
   ·exact .inr (hXb k (.inr h3)).2.1
   ·exact .inl h3
 ·obtain ⟨rfl,rfl⟩:=hobs n ob h1;obtain ⟨rfl,rfl⟩:=hobs m ob' h2;exact absurd rfl hnm
 ·rcases hP' k hk2 with rfl | h2
  ·exact (hXb k (.inl rfl)).2.2 hf
  ·rcases hnew k h2 with h3 | h3
   ·exact (hXb k (.inr h3)).2.2 hf
   ·have:=hR.fl k hf
    omega
 ·simp only [J0,hb];exact ⟨hr,rfl,by rw [hg]; rfl⟩
theorem lC {w:World} {γ:Nat→Value} {s:BA} {O:Nat→Prop} {x:Value} {b:Nat} {v:Value} (hg:γ 900000 = .tuple #[.pointer (some ⟨b,0,none⟩),v]) (h:VRel γ (EG [.bld s]) w O (.ptr 900000 0 0) x):x = .pointer (some ⟨b,0,none⟩):=by
 simp only [VRel,EG,D5,CM] at h;obtain ⟨_,b',v',h1,rfl⟩:=h;rw [hg] at h1;simp only [Value.tuple.injEq] at h1
 have:=congrArg Array.toList h1
 simp at this;rw [this.1]
theorem Fq {w:World} {X:Zone} {γ:Nat→Value} {vs:List V} {xs:List Value} {e:Nat} {ag:Bool} {ks:List Kd} {l:LI} (hR:Rel B.base 0 w X γ ⟨[],HO vs⟩ IQ w) (hb:FD vs=none) (he:e < 1000000) (hks:0 < ks.length) (hl:l.length≤strMax)
  (h:Does P f xs w fun e' w'=>∃ v ys,e' = .returned v∧Keep (fun _=>False) w w'∧w'.ownsRow w.heap.size e ks.length v l.length ys∧∀ (O:Nat→Prop) i y,l[i]?=some y→Kd.RelAll w' O ks (FL ag y) 0 (fun j u=>ys[i*ks.length+j]?=some u)) :
  Does P f xs w fun e' w'=>∃ x,e' = .returned x∧∃ γ',Rel B.base 0 w X γ' ⟨[],F5 (.vec e ag ks l) []⟩ IQ w'∧VRel γ' (F5 (.vec e ag ks l) []) w' (DH X γ' (F5 (.vec e ag ks l) [])) (LE (.vec e ag ks l)) x∧J0 vs (.vec e ag ks l) [] (γ 900000) (γ' 900000):=by
 have hm:HO vs=[]:=by simp only [HO,hb]
 rw [hm] at hR;have hmo:F5 (.vec e ag ks l) []=[(900000,some (.row true e ag ks l))]:=rfl;rw [hmo];refine h.mono ?_;rintro e' w' ⟨v,ys,rfl,hk,hown,hel⟩;have hown0:w'.ownsRow 0 e ks.length v l.length ys:=by
  refine ⟨hown.1,?_⟩;rcases hown.2 with h1 | ⟨g,cap,cur,h1,_,h2,h3,h4,h5,h6⟩
  ·exact .inl h1
  ·exact .inr ⟨g,cap,cur,h1,B2 _,h2,h3,h4,h5,h6⟩
 have obs:∀ n ob,DF [(900000,some (Ob.row true e ag ks l))] n=some ob→n=900000∧ob = .row true e ag ks l:=fun n ob hn=>by
  rw [D5] at hn;split at hn
  ·rename_i h9;simp only [AC] at hn;exact ⟨h9.symm,hn.symm⟩
  ·simp [DF,EL] at hn
 have hfresh:∀ b,v.ownBlock=some b→w.heap.size≤b∧b < w'.heap.size:=fun b hb=>hown.lt b hb
 have ownP:∀ b,E1 (fun n=>if n=900000 then v else γ n) [(900000,some (Ob.row true e ag ks l))] b→v.ownBlock=some b:=by
  rintro b ⟨n,ob,hn,hb⟩;obtain ⟨rfl,rfl⟩:=obs n ob hn;simpa only [E2,CM] using hb
 refine ⟨v,rfl,fun n=>if n=900000 then v else γ n,⟨hR.sz,hR.df,fun i=>by simp only [St.get,EL,VRel],fun n ob hn=>?_,fun b hb=>?_,fun n m ob ob' b hnm h1 h2=>?_,hk.mono (fun _ _ h=>h.elim),fun b hb hf=>?_,fun b hf=>CU (hR.fl b hf) hk.size,fun p hp=>by cases hp⟩,?_,?_⟩
 ·obtain ⟨rfl,rfl⟩:=obs n ob hn;simp only [ObRel,CM];exact ⟨hks,hl,ys,OwnRow.of hown0 he,hel _⟩
 ·have:=hfresh b (ownP b hb)
  exact ⟨this.2,.inl this.1⟩
 ·obtain ⟨rfl,rfl⟩:=obs n ob h1;obtain ⟨rfl,rfl⟩:=obs m ob' h2;exact absurd rfl hnm
 ·have:=hfresh b (ownP b hb)
  have:=hR.fl b hf
  omega
 ·simp only [LE,VRel,D5,CM];refine ⟨AT _,?_⟩;rcases hown.2 with ⟨rfl,h0⟩ | ⟨g,cap,cur,rfl,_,h2,h3,h4,h5,h6⟩
  ·exact ⟨none,0,0,none,rfl,by rw [h0],B2 _,by rw [h0]; exact AT _,AT _,B2 _,.inl rfl,fun _=>rfl⟩
  ·refine ⟨some ⟨g,0,none⟩,l.length,cap,some ⟨g,0,none⟩,rfl,by simp,B2 _,AT _,h3,h4,.inl ?_,fun _=>rfl⟩;simp [Addr.add]
 ·simp only [J0,hb,XX]
end
theorem zfN {w w':World} {O:Nat→Prop} (hO:∀ b,O b→b < w.heap.size) {g:Nat} {T:TypeId} {l:List BA} {c:Nat} (hg:w.heap.size≤g) (hh:w'.heap[g]?=some (.cells (l.map Value.string).toArray T (0,0))) (hc:l.length≤c) (hcm:c≤maxLen) (hl:l.length≤strMax)
  (hs:∀ s∈l,s.size≤strMax):Kd.Rel w' O (.list false [.str]) (.list (l.map IV.str)) (.slice (some ⟨g,0,none⟩) l.length c):=by
 simp only [Kd.Rel,IV.toList,B9];refine ⟨_,c,rfl,hc,hcm,hl,fun i y hy=>⟨g,0,rfl,fun h=>by have:=hO g h; omega,(C9.1 hh).1,?_⟩⟩;simp only [B8,C8] at hy;obtain ⟨s,hs1,rfl⟩:=hy;simp only [Kd.RelAll,AM,A6,BK,Nat.mul_one,CZ,BY];refine ⟨.string s,?_,?_⟩
 ·simp only [vay,hh];simp [hs1]
 ·simp only [Kd.Rel,FL,IV.toStr];exact ⟨trivial,hs s (vah hs1)⟩
open Go Go.RowKit
theorem R.get_br (b:Bool) (x y:R):(R.br b x y).get=cond b x.get y.get:=by cases b <;> rfl
theorem R.get_ok (v:V) (o:List (List V)):(R.ok v o).get=some (v,o):=rfl
theorem R.get_no:R.no.get=none:=rfl
def DP (n:Int):BA:=⟨(Lib.itoa n).toArray⟩
def FV (s:BA):Int:=match Lib.atoiAll s.data.toList with | .ok v=>v | .range=>Lib.atoiSat s.data.toList | _=>0
def OF (s:BA):Bool:=match Lib.atoiAll s.data.toList with | .ok _=>true | _=>false
def cutL (s sep:BA):BA:=⟨(Lib.cut s.data.toList sep.data.toList).1.toArray⟩
def GS (s sep:BA):BA:=⟨(Lib.cut s.data.toList sep.data.toList).2.1.toArray⟩
def Qk (s sep:BA):Bool:=(Lib.cut s.data.toList sep.data.toList).2.2
def D7 (s sep:BA):List BA:=vbB sep 0 (Lib.countB s sep) s
def MA (c:Int):UInt8:=UInt8.ofNat c.toNat
def RZ:DK
 | [.bor [.bld s],.str t]=>.br (decide (s.size+t.size≤strMax)) (.ok (.tup [.int .i64 (ic t.size),.err true]) [[.bld (s++t)]]) .no
 | _=>.no
def WT:DK
 | [.bor [.bld s],.int .u8 c]=>.br (decide (s.size+1≤strMax)) (.ok (.err true) [[.bld (s.push (MA c))]]) .no
 | _=>.no
def RY:DK
 | [.bor [.bld s]]=>.ok (.str s) [[.bld s]]
 | _=>.no
def PE:DK
 | [.int .i64 n]=>.ok (.str (DP n)) []
 | _=>.no
def WS:DK
 | [.str s]=>.ok (.tup [.int .i64 (FV s),.err (OF s)]) []
 | _=>.no
def WU:DK
 | [.str s,.str sep]=>.br (decide (s.size < 4294967281)) (.ok (.tup [.str (cutL s sep),.str (GS s sep),.bool (Qk s sep)]) []) .no
 | _=>.no
def PF:DK
 | [.str s,.str sep]=>.br (decide (s.size < 4294967281)&&decide (1≤sep.size)) (.ok (.list false [.str] ((D7 s sep).map IV.str)) []) .no
 | _=>.no
def EW (n:Int):BA:=⟨(C3 n.toNat).toArray⟩
def GD (s:BA):Int:=match Lib.parseMag s.data.toList with | .ok v=>(v:Int) | .range=>18446744073709551615 | _=>0
def JD (s:BA):Bool:=match Lib.parseMag s.data.toList with | .ok _=>true | _=>false
def N5 (s cs:BA):BA:=⟨(Lib.trimRightB s.data.toList (cs.data.toList.headD 0)).toArray⟩
def G8 (s:BA) (n:Nat):BA:=⟨(Lib.repeatL s.data.toList n).toArray⟩
def GN (s p:BA):BA:=⟨(Lib.trimPrefix s.data.toList p.data.toList).toArray⟩
def XM (s p:BA):Bool:=Lib.hasPrefix s.data.toList p.data.toList
def eZ:DK
 | [.int .u64 n,.int .i64 b]=>.br (decide (b=10)) (.ok (.str (EW n)) []) .no
 | _=>.no
def e9:DK
 | [.str s,.int .i64 b,.int .i64 c]=>.br (decide (b=10)&&decide (c=64)) (.ok (.tup [.int .u64 (GD s),.err (JD s)]) []) .no
 | _=>.no
def fB:DK
 | [.str s,.str cs]=>.br (decide (cs.size=1)&&decide ((cs.data.toList.headD 0).toNat < 128)) (.ok (.str (N5 s cs)) []) .no
 | _=>.no
def WW:DK
 | [.str s,.int .i64 n]=>.br (decide (0≤n)&&decide (s.size*n.toNat≤strMax)) (.ok (.str (G8 s n.toNat)) []) .no
 | _=>.no
def fA:DK
 | [.str s,.str p]=>.ok (.tup [.str (GN s p),.bool (XM s p)]) []
 | _=>.no
def HE (l:List BA) (sep:BA):BA:=⟨(Lib.join (l.map (·.data.toList)) sep.data.toList).toArray⟩
def WV:DK
 | [.list false [.str] l,.str sep]=>.br (decide (l.length≤strMax)&&decide ((HE (l.map IV.toStr) sep).size≤strMax)) (.ok (.str (HE (l.map IV.toStr) sep)) []) .no
 | _=>.no
def FT:LI→BA→Int→Int
 | [],_,_ => -1
 | x :: l,s,i=>cond (s.toList==x.toStr.toList) i (FT l s (i+1))
theorem Oj {l:List UInt8} {v:Int} (h:Lib.atoiAll l = .ok v):AB.min≤v∧v≤AB.max:=by
 have e1:AB.min = -9223372036854775808:=rfl;have e2:AB.max=9223372036854775807:=rfl;rw [e1,e2];unfold Lib.atoiAll at h;split at h
 ·cases h
 ·simp only at h;split at h
  ·cases h
  ·cases h
  ·rename_i u hu;split at h
   ·cases h
   ·split at h
    ·cases h
    ·simp only [Lib.NumEnd.ok.injEq] at h;subst h;split <;> omega
theorem Oi (s:BA):AB.min≤FV s∧FV s≤AB.max:=by
 have e1:AB.min = -9223372036854775808:=rfl;have e2:AB.max=9223372036854775807:=rfl;unfold FV;split
 ·rename_i v hv;exact Oj hv
 ·unfold Lib.atoiSat;rw [e1,e2];split <;> omega
 ·rw [e1,e2]; omega
theorem nB {n:Int} (h0:AB.min≤n) (h1:n≤AB.max):(DP n).size≤21:=by
 have e1:AB.min = -9223372036854775808:=rfl;have e2:AB.max=9223372036854775807:=rfl;rw [e1] at h0;rw [e2] at h1
 have:=Lib.itoa_length_le n h0 h1
 simpa [DP,AH] using this
theorem pC (s:BA):AJ.min≤GD s∧GD s≤AJ.max:=by
 have e1:AJ.min=0:=rfl;have e2:AJ.max=18446744073709551615:=rfl;unfold GD;split
 ·rename_i v hv
  have:=Lib.parseMag_lt hv
  rw [e1,e2]; omega
 ·rw [e1,e2]; omega
 ·rw [e1,e2]; omega
theorem oK {n:Int} (h0:0≤n) (h1:n≤18446744073709551615):(EW n).size≤20:=by
 rcases Int.lt_or_le 0 n with h | h
 ·have hd:=Lib.numDigits_eq n.toNat (by omega) (by omega);have hl:=Lib.decDigits_length n.toNat;have hs:(EW n).size=(C3 n.toNat).length:=by simp [EW,AH]
  rw [hs,hl];split at hd <;> omega
 ·have:n=0:=by omega
  subst this;have hd:C3 (0:Int).toNat=[UInt8.ofNat (48+0)]:=by rw [show (0:Int).toNat=0 from rfl,C3]; rfl
  unfold EW;rw [hd];decide
theorem Jq (s cs:BA):(N5 s cs).size≤s.size:=by
 have:∀ (l:List UInt8) c,(Lib.trimRightB l c).length≤l.length:=fun l c=>by
  unfold Lib.trimRightB;rw [List.length_reverse]
  have:=(List.dropWhile_sublist (·==c) (l:=l.reverse)).length_le
  simpa using this
 have h:=this s.data.toList (cs.data.toList.headD 0);simp only [N5,AH,vac];simpa using h
theorem Jp (s p:BA):(GN s p).size≤s.size:=by
 simp only [GN,AH,vac,Lib.trimPrefix];split
 ·simp
 ·simp
theorem pH (s:BA) (n:Nat):(G8 s n).size=s.size*n:=by
 have:∀ (l:List UInt8) n,(Lib.repeatL l n).length=l.length*n:=fun l n=>by rw [Lib.repeatL_length,Nat.mul_comm]
 show (Lib.repeatL s.data.toList n).toArray.size=s.size*n;rw [vac,this,CP];rfl
theorem w8 (s sep:BA):(cutL s sep).size≤s.size∧(GS s sep).size≤s.size:=by
 unfold cutL GS Lib.cut;split
 ·simp only [AH,vac,A8,C7,CP];omega
 ·simp only [AH,vac,CP,A6];omega
theorem YH (sep:BA):∀ (k:Nat) (s:BA),(vbB sep 0 k s).length≤k+1∧∀ p∈vbB sep 0 k s,p.size≤s.size
 | 0,s=>by simp [vbB]
 | k+1,s=>by
  unfold vbB;split
  ·simp
  ·obtain ⟨h1,h2⟩:=YH sep k (s.extract ((Lib.indexB s sep).toNat+sep.size) s.size);refine ⟨by simp only [AM]; omega,fun p hp=>?_⟩;rcases AX.1 hp with h | h
   ·subst h;simp only [ByteArray.size_extract];omega
   ·have:=h2 p h
    simp only [ByteArray.size_extract] at this;omega
open Go Go.Proofs
def d6:List (Nat × TI):=[
 (2,⟨1,8,false,[.z],[.int .i64 0],.leaf⟩),
 (3,⟨1,8,false,[.z],[.int .i64 0],.leaf⟩),
 (4,⟨1,1,false,[.bool],[.bool false],.leaf⟩),
 (5,⟨1,1,false,[.int .u8],[.int .u8 0],.leaf⟩),
 (6,⟨1,1,false,[.int .u8],[.int .u8 0],.leaf⟩),
 (7,⟨4,24,true,[.z,.z,.bool,.int .u8],[.int .i64 0,.int .i64 0,.bool false,.int .u8 0],.struct [(0,2),(1,3),(2,4),(3,6)]⟩),
 (8,⟨4,24,true,[.z,.z,.bool,.int .u8],[.int .i64 0,.int .i64 0,.bool false,.int .u8 0],.struct [(0,2),(1,3),(2,4),(3,6)]⟩),
 (9,⟨1,16,false,[.str],[.str ⟨#[]⟩],.leaf⟩),
 (22,⟨1,24,false,[.list false [.z]],[.zs],.slice 3⟩),
 (23,⟨1,24,false,[.list true [.z,.list false [.z],.list false [.z],.list false [.z],.list false [.z]]],[.zs],.slice 57⟩),
 (25,⟨4,64,true,[.z,.z,.list false [.z],.list true [.z,.list false [.z],.list false [.z],.list false [.z],.list false [.z]]],[.int .i64 0,.int .i64 0,.zs,.zs],.struct [(0,3),(1,3),(2,22),(3,23)]⟩),
 (26,⟨3,24,true,[.z,.z,.z],[.int .i64 0,.int .i64 0,.int .i64 0],.array 3 3⟩),
 (27,⟨1,24,false,[.list true [.z,.list false [.int .u64]]],[.zs],.slice 61⟩),
 (29,⟨6,64,true,[.z,.z,.z,.z,.z,.list true [.z,.list false [.int .u64]]],[.int .i64 0,.int .i64 0,.int .i64 0,.int .i64 0,.int .i64 0,.zs],.struct [(0,3),(1,3),(2,26),(5,27)]⟩),
 (32,⟨2,16,true,[.z,.z],[.int .i64 0,.int .i64 0],.struct [(0,3),(1,3)]⟩),
 (34,⟨10,80,true,[.z,.z,.z,.z,.z,.z,.z,.z,.z,.z],[.int .i64 0,.int .i64 0,.int .i64 0,.int .i64 0,.int .i64 0,.int .i64 0,.int .i64 0,.int .i64 0,.int .i64 0,.int .i64 0],.array 5 32⟩),
 (40,⟨4,32,true,[.z,.z,.z,.z],[.int .i64 0,.int .i64 0,.int .i64 0,.int .i64 0],.array 4 3⟩),
 (46,⟨17,136,true,[.z,.z,.z,.z,.z,.z,.z,.z,.z,.z,.z,.z,.z,.z,.z,.bool,.z],[.int .i64 0,.int .i64 0,.int .i64 0,.int .i64 0,.int .i64 0,.int .i64 0,.int .i64 0,.int .i64 0,.int .i64 0,.int .i64 0,.int .i64 0,.int .i64 0,.int .i64 0,.int .i64 0,.int .i64 0,.bool false,.int .i64 0],.struct [(0,3),(1,3),(2,34),(12,3),(13,3),(14,3),(15,4),(16,3)]⟩),
 (49,⟨1,24,false,[.list true [.bool,.z,.z]],[.zs],.slice 126⟩),
 (51,⟨8,80,true,[.z,.list true [.bool,.z,.z],.z,.z,.z,.z,.z,.z],[.int .i64 0,.zs,.int .i64 0,.int .i64 0,.int .i64 0,.int .i64 0,.int .i64 0,.int .i64 0],.struct [(0,3),(1,49),(2,40),(6,3),(7,3)]⟩),
 (57,⟨5,104,true,[.z,.list false [.z],.list false [.z],.list false [.z],.list false [.z]],[.int .i64 0,.zs,.zs,.zs,.zs],.struct [(0,3),(1,22),(2,22),(3,22),(4,22)]⟩),
 (58,⟨1,24,false,[.list false [.int .u64]],[.zs],.slice 84⟩),
 (61,⟨2,32,true,[.z,.list false [.int .u64]],[.int .i64 0,.zs],.struct [(0,3),(1,58)]⟩),
 (62,⟨1,24,false,[.list false [.list true [.z,.z,.z,.z,.z,.z,.z,.z,.z,.z,.z]]],[.zs],.slice 67⟩),
 (67,⟨1,24,false,[.list true [.z,.z,.z,.z,.z,.z,.z,.z,.z,.z,.z]],[.zs],.slice 89⟩),
 (76,⟨1,8,false,[.list false []],[.nilp],.ptr 124⟩),
 (82,⟨6,48,true,[.bool,.z,.z,.z,.z,.z],[.bool false,.int .i64 0,.int .i64 0,.int .i64 0,.int .i64 0,.int .i64 0],.struct [(0,4),(1,3),(2,3),(3,3),(4,3),(5,3)]⟩),
 (83,⟨1,24,false,[.list true [.bool,.z,.z,.z,.z,.z]],[.zs],.slice 82⟩),
 (84,⟨1,8,false,[.int .u64],[.int .u64 0],.leaf⟩),
 (89,⟨11,88,true,[.z,.z,.z,.z,.z,.z,.z,.z,.z,.z,.z],[.int .i64 0,.int .i64 0,.int .i64 0,.int .i64 0,.int .i64 0,.int .i64 0,.int .i64 0,.int .i64 0,.int .i64 0,.int .i64 0,.int .i64 0],.struct [(0,34),(10,3)]⟩),
 (96,⟨1,24,false,[.list true [.z,.z,.z,.z,.z,.z,.z,.z,.z,.z]],[.zs],.slice 34⟩),
 (104,⟨1,8,false,[.list false []],[.nilp],.ptr 107⟩),
 (105,⟨1,24,false,[.list false [.int .u8]],[.zs],.slice 5⟩),
 (107,⟨2,32,true,[.list false [],.list false [.int .u8]],[.nilp,.zs],.bld⟩),
 (108,⟨1,24,false,[.list false [.str]],[.zs],.slice 9⟩),
 (111,⟨1,16,false,[.list false []],[.err true],.iface⟩),
 (124,⟨34,336,true,[.z,.z,.z,.z,.z,.list true [.z,.list false [.int .u64]],.z,.z,.z,.z,.z,.z,.z,.z,.z,.z,.z,.z,.z,.z,.z,.bool,.z,.list true [.z,.z,.z,.z,.z,.z,.z,.z,.z,.z],.list true [.bool,.z,.z],.z,.list true [.bool,.z,.z],.z,.z,.z,.z,.z,.z,.z],[.int .i64 0,.int .i64 0,.int .i64 0,.int .i64 0,.int .i64 0,.zs,.int .i64 0,.int .i64 0,.int .i64 0,.int .i64 0,.int .i64 0,.int .i64 0,.int .i64 0,.int .i64 0,.int .i64 0,.int .i64 0,.int .i64 0,.int .i64 0,.int .i64 0,.int .i64 0,.int .i64 0,.bool false,.int .i64 0,.zs,.zs,.int .i64 0,.zs,.int .i64 0,.int .i64 0,.int .i64 0,.int .i64 0,.int .i64 0,.int .i64 0,.int .i64 0],.struct [(0,29),(6,46),(23,96),(24,49),(25,51),(33,3)]⟩),
 (126,⟨3,24,true,[.bool,.z,.z],[.bool false,.int .i64 0,.int .i64 0],.struct [(0,4),(1,3),(2,3)]⟩),
 (135,⟨1,8,false,[.int .u64],[.int .u64 0],.leaf⟩),
 (147,⟨1,8,false,[.list false []],[.nilp],.ptr 150⟩),
 (150,⟨1,24,true,[.list false [.str]],[.zs],.struct [(0,108)]⟩),
 (213,⟨11,88,true,[.z,.z,.z,.z,.z,.z,.z,.z,.z,.z,.z],[.int .i64 0,.int .i64 0,.int .i64 0,.int .i64 0,.int .i64 0,.int .i64 0,.int .i64 0,.int .i64 0,.int .i64 0,.int .i64 0,.int .i64 0],.struct [(0,3),(1,34)]⟩),
 (214,⟨1,24,false,[.list true [.z,.z,.z,.z,.z,.z,.z,.z,.z,.z,.z]],[.zs],.slice 213⟩),
 (229,⟨1,24,false,[.list true [.z,.z]],[.zs],.slice 32⟩)]
def mJ:List Nat:=[32,40,46,82,126]
noncomputable abbrev PR:Program:=Tryz.prog
theorem Jg:dV PR 107 d6=true:=by kernel_rfl
theorem xN:gG PR d6 mJ=true:=by kernel_rfl
theorem Al:PR.follows .mixedOrders=true:=by kernel_rfl
theorem Ou:∃ i,PR.info? 107=some i∧i.zero=some (.agg #[.pointer none,.slice none 0 0]):=by
 refine ⟨(PR.info? 107).getD default,by kernel_rfl,by kernel_rfl⟩
theorem sW (_h:(EL TI.none d6 107).d = .bld):∃ i,PR.info? 107=some i∧i.zero=some (.agg #[.pointer none,.slice none 0 0]):=Ou
def DV (sp:List (Nat × DK)) (lp:List (Nat × KP)) (nt N:Nat):Env:=⟨d6,sp,[],lp,nt,N,mJ,[]⟩
def iL (sp:List (Nat × DK)) (ip:List (Nat × Ip)) (lp:List (Nat × KP)) (nt N:Nat):Env:=⟨d6,sp,[],lp,nt,N,mJ,ip⟩
abbrev HF (fn:Func) (c:Code) (nt:Nat) (rs:List ResultVar):Prop:=(fn.name == "runtime.NumGoroutine")=false∧fn.body=some c∧fn.ntmps=nt∧BS nt 900000=true∧fn.results.toList=rs
theorem DU {fn:Func} {nt:Nat} {rs:List ResultVar} (h:(!(fn.name == "runtime.NumGoroutine")&&(fn.body.isSome&&(fn.ntmps==nt&&BS nt 900000)))=true:=by kernel_rfl) (h2:fn.results.toList=rs:=by kernel_rfl):HF fn (DT fn) nt rs:=by
 simp only [AG,BW,CB] at h;refine ⟨h.1,?_,h.2.2.1,h.2.2.2,h2⟩;unfold DT;cases hb:fn.body with
 | none=>rw [hb] at h; exact absurd h.2.1 (by decide)
 | some c=>rfl
noncomputable def fL:Code:=DT Tryz.f3
theorem Wj:HF Tryz.f3 fL 136 [.tmp 12]:=DU
noncomputable def t7:Code:=DT Tryz.f4
theorem Wk:HF Tryz.f4 t7 117 [.tmp 8]:=DU
noncomputable def MC:Code:=DT Tryz.f5
theorem Wa:HF Tryz.f5 MC 63 [.cell 2 29]:=DU
noncomputable def R9:Code:=DT Tryz.f6
theorem Wc:HF Tryz.f6 R9 32 [.cell 4 34]:=DU
noncomputable def tU:Code:=DT Tryz.f7
theorem Vz:HF Tryz.f7 tU 24 [.tmp 6]:=DU
noncomputable def U5:Code:=DT Tryz.f8
theorem Xi:HF Tryz.f8 U5 67 [.tmp 8,.tmp 9,.tmp 10]:=DU
noncomputable def tV:Code:=DT Tryz.f9
theorem Wb:HF Tryz.f9 tV 31 [.cell 4 40]:=DU
noncomputable def uR:Code:=DT Tryz.f10
theorem Xm:HF Tryz.f10 uR 24 [.tmp 6]:=DU
noncomputable def t8:Code:=DT Tryz.f11
theorem Wl:HF Tryz.f11 t8 31 [.tmp 0]:=DU
noncomputable def uA:Code:=DT Tryz.f12
theorem Wm:HF Tryz.f12 uA 21 [.cell 4 46,.tmp 5]:=DU
noncomputable def SC:Code:=DT Tryz.f13
theorem Yi:HF Tryz.f13 SC 13 [.cell 4 51]:=DU
noncomputable def HY:Code:=DT Tryz.f14
theorem Vi:HF Tryz.f14 HY 69 [.tmp 6,.tmp 7,.tmp 8]:=DU
noncomputable def tX:Code:=DT Tryz.f15
theorem Wf:HF Tryz.f15 tX 15 [.tmp 4]:=DU
noncomputable def LQ:Code:=DT Tryz.f16
theorem We:HF Tryz.f16 LQ 113 [.tmp 4]:=DU
noncomputable def U7:Code:=DT Tryz.f17
theorem Xl:HF Tryz.f17 U7 44 [.tmp 6,.tmp 7]:=DU
noncomputable def bI:Code:=DT Tryz.f18
theorem Xj:HF Tryz.f18 bI 28 [.tmp 4,.tmp 5]:=DU
noncomputable def UY:Code:=DT Tryz.f19
theorem Vx:HF Tryz.f19 UY 37 [.tmp 2,.tmp 3,.tmp 4]:=DU
noncomputable def PG:Code:=DT Tryz.f20
theorem Xn:HF Tryz.f20 PG 54 [.tmp 2]:=DU
noncomputable def NR:Code:=DT Tryz.f21
theorem Xq:HF Tryz.f21 NR 33 [.tmp 6]:=DU
noncomputable def tW:Code:=DT Tryz.f22
theorem Wd:HF Tryz.f22 tW 14 [.cell 0 29]:=DU
noncomputable def K0:Code:=DT Tryz.f23
theorem Vt:HF Tryz.f23 K0 59 [.tmp 6]:=DU
noncomputable def UZ:Code:=DT Tryz.f24
theorem Wy:HF Tryz.f24 UZ 37 [.tmp 4]:=DU
noncomputable def J1:Code:=DT Tryz.f25
theorem Yw:HF Tryz.f25 J1 94 [.tmp 2]:=DU
noncomputable def U0:Code:=DT Tryz.f26
theorem Xc:HF Tryz.f26 U0 29 [.tmp 8,.tmp 9]:=DU
noncomputable def u9:Code:=DT Tryz.f27
theorem Yd:HF Tryz.f27 u9 16 [.cell 2 34]:=DU
noncomputable def vD:Code:=DT Tryz.f28
theorem Yh:HF Tryz.f28 vD 26 [.tmp 4]:=DU
noncomputable def bJ:Code:=DT Tryz.f29
theorem Yj:HF Tryz.f29 bJ 165 [.tmp 2]:=DU
noncomputable def bK:Code:=DT Tryz.f30
theorem Yk:HF Tryz.f30 bK 22 [.cell 2 51]:=DU
noncomputable def tP:Code:=DT Tryz.f31
theorem Vl:HF Tryz.f31 tP 12 [.tmp 2]:=DU
noncomputable def R7:Code:=DT Tryz.f32
theorem Vj:HF Tryz.f32 R7 43 [.tmp 4,.tmp 5,.tmp 6]:=DU
noncomputable def tZ:Code:=DT Tryz.f33
theorem Wh:HF Tryz.f33 tZ 32 [.tmp 2]:=DU
noncomputable def SA:Code:=DT Tryz.f34
theorem Xh:HF Tryz.f34 SA 79 [.tmp 4]:=DU
noncomputable def U6:Code:=DT Tryz.f35
theorem Xk:HF Tryz.f35 U6 44 [.tmp 4,.tmp 5]:=DU
noncomputable def tI:Code:=DT Tryz.f36
theorem Uz:HF Tryz.f36 tI 25 [.tmp 4]:=DU
noncomputable def vE:Code:=DT Tryz.f37
theorem Yl:HF Tryz.f37 vE 9 [.tmp 4]:=DU
noncomputable def uS:Code:=DT Tryz.f38
theorem Xo:HF Tryz.f38 uS 22 [.tmp 3]:=DU
noncomputable def K5:Code:=DT Tryz.f39
theorem Zd:HF Tryz.f39 K5 94 [.tmp 4]:=DU
noncomputable def vS:Code:=DT Tryz.f40
theorem Ze:HF Tryz.f40 vS 15 [.tmp 4]:=DU
noncomputable def u6:Code:=DT Tryz.f41
theorem Yb:HF Tryz.f41 u6 41 [.tmp 4]:=DU
noncomputable def W4:Code:=DT Tryz.f42
theorem Xx:HF Tryz.f42 W4 75 [.tmp 4,.tmp 5]:=DU
noncomputable def M0:Code:=DT Tryz.f43
theorem Vw:HF Tryz.f43 M0 94 [.tmp 6]:=DU
noncomputable def tQ:Code:=DT Tryz.f44
theorem Vm:HF Tryz.f44 tQ 25 [.tmp 6]:=DU
noncomputable def M1:Code:=DT Tryz.f45
theorem Ya:HF Tryz.f45 M1 75 [.tmp 8]:=DU
noncomputable def IS:Code:=DT Tryz.f46
theorem Yv:HF Tryz.f46 IS 88 [.cell 2 29,.tmp 3]:=DU
noncomputable def uL:Code:=DT Tryz.f47
theorem Wx:HF Tryz.f47 uL 8 [.tmp 2]:=DU
noncomputable def UW:Code:=DT Tryz.f50
theorem Vp:HF Tryz.f50 UW 61 [.tmp 2]:=DU
noncomputable def uK:Code:=DT Tryz.f51
theorem Ww:HF Tryz.f51 uK 46 [.cell 4 51]:=DU
noncomputable def vN:Code:=DT Tryz.f53
theorem Yy:HF Tryz.f53 vN 10 []:=DU
noncomputable def uG:Code:=DT Tryz.f54
theorem Ws:HF Tryz.f54 uG 38 [.tmp 2]:=DU
noncomputable def uV:Code:=DT Tryz.f55
theorem Xt:HF Tryz.f55 uV 33 [.cell 2 82,.tmp 3]:=DU
noncomputable def lH:Code:=DT Tryz.f56
theorem Xd:HF Tryz.f56 lH 24 [.tmp 8]:=DU
noncomputable def vB:Code:=DT Tryz.f57
theorem Yf:HF Tryz.f57 vB 16 [.tmp 2]:=DU
noncomputable def uM:Code:=DT Tryz.f58
theorem Wz:HF Tryz.f58 uM 86 [.tmp 6]:=DU
noncomputable def uN:Code:=DT Tryz.f59
theorem Xa:HF Tryz.f59 uN 9 [.cell 2 40,.tmp 3]:=DU
noncomputable def QS:Code:=DT Tryz.f60
theorem Xb:HF Tryz.f60 QS 31 [.tmp 6,.tmp 7,.tmp 8]:=DU
noncomputable def Pf:Code:=DT Tryz.f61
theorem Vk:HF Tryz.f61 Pf 32 [.cell 6 34,.cell 7 34]:=DU
noncomputable def vG:Code:=DT Tryz.f63
theorem Yp:HF Tryz.f63 vG 8 [.tmp 2]:=DU
noncomputable def t6:Code:=DT Tryz.f64
theorem Wi:HF Tryz.f64 t6 66 [.tmp 2]:=DU
noncomputable def MB:Code:=DT Tryz.f65
theorem Vy:HF Tryz.f65 MB 50 [.tmp 6,.tmp 7]:=DU
noncomputable def QT:Code:=DT Tryz.f66
theorem Ym:HF Tryz.f66 QT 19 [.tmp 4]:=DU
noncomputable def M2:Code:=DT Tryz.f67
theorem Zf:HF Tryz.f67 M2 46 [.tmp 4,.cell 5 82]:=DU
noncomputable def vC:Code:=DT Tryz.f68
theorem Yg:HF Tryz.f68 vC 35 [.tmp 4]:=DU
noncomputable def vA:Code:=DT Tryz.f69
theorem Ye:HF Tryz.f69 vA 71 [.tmp 4]:=DU
noncomputable def uY:Code:=DT Tryz.f70
theorem Xw:HF Tryz.f70 uY 6 [.tmp 2]:=DU
noncomputable def HZ:Code:=DT Tryz.f71
theorem Vu:HF Tryz.f71 HZ 66 [.tmp 6,.tmp 7]:=DU
noncomputable def vH:Code:=DT Tryz.f72
theorem Yq:HF Tryz.f72 vH 15 [.tmp 4]:=DU
noncomputable def u7:Code:=DT Tryz.f73
theorem Yc:HF Tryz.f73 u7 14 [.cell 6 40]:=DU
noncomputable def vL:Code:=DT Tryz.f75
theorem Yu:HF Tryz.f75 vL 8 [.tmp 4]:=DU
noncomputable def vO:Code:=DT Tryz.f76
theorem Yz:HF Tryz.f76 vO 26 [.tmp 2]:=DU
noncomputable def vM:Code:=DT Tryz.f77
theorem Yx:HF Tryz.f77 vM 24 [.tmp 4]:=DU
noncomputable def vR:Code:=DT Tryz.f78
theorem Zc:HF Tryz.f78 vR 13 [.tmp 4]:=DU
noncomputable def vQ:Code:=DT Tryz.f79
theorem Zb:HF Tryz.f79 vQ 11 [.tmp 2]:=DU
noncomputable def vP:Code:=DT Tryz.f80
theorem Za:HF Tryz.f80 vP 28 [.tmp 2]:=DU
noncomputable def tT:Code:=DT Tryz.f83
theorem Vq:HF Tryz.f83 tT 47 [.tmp 2]:=DU
noncomputable def UX:Code:=DT Tryz.f84
theorem Vr:HF Tryz.f84 UX 26 []:=DU
noncomputable def QR:Code:=DT Tryz.f85
theorem Us:HF Tryz.f85 QR 82 [.cell 2 46,.tmp 3,.tmp 4]:=DU
noncomputable def uJ:Code:=DT Tryz.f89
theorem Wv:HF Tryz.f89 uJ 8 [.tmp 0]:=DU
noncomputable def tL:Code:=DT Tryz.f92
theorem Vc:HF Tryz.f92 tL 14 [.tmp 6]:=DU
noncomputable def tJ:Code:=DT Tryz.f93
theorem Va:HF Tryz.f93 tJ 18 [.tmp 6]:=DU
noncomputable def uW:Code:=DT Tryz.f94
theorem Xu:HF Tryz.f94 uW 11 [.tmp 5]:=DU
noncomputable def uT:Code:=DT Tryz.f95
theorem Xr:HF Tryz.f95 uT 32 [.tmp 2]:=DU
noncomputable def uO:Code:=DT Tryz.f96
theorem Xe:HF Tryz.f96 uO 23 [.tmp 4]:=DU
noncomputable def NQ:Code:=DT Tryz.f98
theorem Xp:HF Tryz.f98 NQ 54 [.tmp 4]:=DU
noncomputable def R6:Code:=DT Tryz.f100
theorem Vh:HF Tryz.f100 R6 62 [.tmp 6,.tmp 7]:=DU
noncomputable def uD:Code:=DT Tryz.f101
theorem Wp:HF Tryz.f101 uD 23 [.tmp 4]:=DU
noncomputable def uB:Code:=DT Tryz.f102
theorem Wn:HF Tryz.f102 uB 54 [.tmp 6,.tmp 7,.tmp 8]:=DU
noncomputable def tR:Code:=DT Tryz.f103
theorem Vn:HF Tryz.f103 tR 16 [.cell 2 40]:=DU
noncomputable def vF:Code:=DT Tryz.f104
theorem Yo:HF Tryz.f104 vF 29 [.cell 4 32,.cell 5 32]:=DU
noncomputable def tY:Code:=DT Tryz.f105
theorem Wg:HF Tryz.f105 tY 27 [.tmp 4]:=DU
noncomputable def tS:Code:=DT Tryz.f106
theorem Vo:HF Tryz.f106 tS 20 [.cell 4 34]:=DU
noncomputable def SB:Code:=DT Tryz.f107
theorem Xy:HF Tryz.f107 SB 40 [.tmp 2]:=DU
noncomputable def W3:Code:=DT Tryz.f108
theorem Vv:HF Tryz.f108 W3 88 [.tmp 4,.tmp 5]:=DU
noncomputable def uQ:Code:=DT Tryz.f110
theorem Xg:HF Tryz.f110 uQ 16 [.tmp 4]:=DU
noncomputable def uH:Code:=DT Tryz.f112
theorem Wt:HF Tryz.f112 uH 76 [.tmp 2,.tmp 3]:=DU
noncomputable def R8:Code:=DT Tryz.f115
theorem Vs:HF Tryz.f115 R8 37 [.tmp 2]:=DU
noncomputable def SD:Code:=DT Tryz.f116
theorem Yn:HF Tryz.f116 SD 19 [.tmp 4]:=DU
noncomputable def tE:Code:=DT Tryz.f117
theorem Uv:HF Tryz.f117 tE 46 [.cell 2 46]:=DU
noncomputable def tF:Code:=DT Tryz.f119
theorem Uw:HF Tryz.f119 tF 11 [.tmp 2]:=DU
noncomputable def tD:Code:=DT Tryz.f120
theorem Uu:HF Tryz.f120 tD 11 [.tmp 2]:=DU
noncomputable def KZ:Code:=DT Tryz.f121
theorem Ut:HF Tryz.f121 KZ 100 [.tmp 4]:=DU
noncomputable def tM:Code:=DT Tryz.f131
theorem Ve:HF Tryz.f131 tM 21 [.tmp 4]:=DU
noncomputable def tN:Code:=DT Tryz.f132
theorem Vf:HF Tryz.f132 tN 21 [.tmp 4]:=DU
noncomputable def tO:Code:=DT Tryz.f133
theorem Vg:HF Tryz.f133 tO 7 [.tmp 2]:=DU
noncomputable def uU:Code:=DT Tryz.f134
theorem Xs:HF Tryz.f134 uU 43 [.tmp 2]:=DU
noncomputable def tK:Code:=DT Tryz.f135
theorem Vb:HF Tryz.f135 tK 30 [.tmp 8]:=DU
noncomputable def uF:Code:=DT Tryz.f139
theorem Wr:HF Tryz.f139 uF 16 [.tmp 2]:=DU
noncomputable def uC:Code:=DT Tryz.f140
theorem Wo:HF Tryz.f140 uC 10 [.cell 4 34]:=DU
noncomputable def uE:Code:=DT Tryz.f141
theorem Wq:HF Tryz.f141 uE 15 [.cell 4 34]:=DU
noncomputable def vK:Code:=DT Tryz.f142
theorem Yt:HF Tryz.f142 vK 12 [.cell 4 32]:=DU
noncomputable def vJ:Code:=DT Tryz.f143
theorem Ys:HF Tryz.f143 vJ 2 [.cell 0 32]:=DU
noncomputable def vI:Code:=DT Tryz.f144
theorem Yr:HF Tryz.f144 vI 16 [.cell 4 32]:=DU
noncomputable def uZ:Code:=DT Tryz.f145
theorem Xz:HF Tryz.f145 uZ 16 [.tmp 2]:=DU
noncomputable def uP:Code:=DT Tryz.f149
theorem Xf:HF Tryz.f149 uP 21 [.tmp 4]:=DU
noncomputable def uI:Code:=DT Tryz.f153
theorem Wu:HF Tryz.f153 uI 19 [.tmp 2,.tmp 3]:=DU
noncomputable def tH:Code:=DT Tryz.f160
theorem Uy:HF Tryz.f160 tH 39 [.cell 4 46]:=DU
noncomputable def tG:Code:=DT Tryz.f161
theorem Ux:HF Tryz.f161 tG 9 [.tmp 2]:=DU
noncomputable def uX:Code:=DT Tryz.f169
theorem Xv:HF Tryz.f169 uX 9 [.tmp 2]:=DU
open Go Go.Proofs Go.RowKit
theorem Keep.freeze {O:Nat→Prop} (w:World) (a:Addr) (n:Nat) (h:O a.block):Keep O w (w.freeze a n):=by
 unfold World.freeze;split
 ·exact Keep.refl _ _
 ·exact ⟨rfl,rfl,rfl,by simp,fun b _ hn=>by simp only [vaW]; rw [A2 (fun e:a.block=b=>hn (e ▸ h))]⟩
theorem Keep.setCell {O:Nat→Prop} (w:World) (a:Addr) (v:Value) (h:O a.block):Keep O w (w.setCell a v):=
 ⟨rfl,rfl,rfl,by simp [vbs],fun b _ hn=>Below.heap_setCell _ _ _ _ (fun e=>hn (e ▸ h))⟩
theorem cN {w:World} {b:Nat} {o:Obj} (h:w.heap[b]?=some o):b < w.heap.size:=(C9.1 h).1
theorem Ot:liesAt PR PR.depth 107 (2 / PR.cellsOf 107) 0 107 1=true:=by kernel_rfl
theorem sZ:(PR.info? 107).map (·.size)=some 2:=by kernel_rfl
theorem Js:(PR.info? 5).map (fun i=>(i.zero,i.size,i.bytes))=some (some (.int .u8 0),1,1):=by kernel_rfl
set_option maxHeartbeats 1000000 in
theorem Oq (b:Nat) (w:World) (h0:w.cell? ⟨b,0,none⟩=some (.pointer (some ⟨b,0,none⟩))) :
  Calls Tryz.prog 81 #[.pointer (some ⟨b,0,none⟩)] w fun e w'=>e = .returned (.tuple #[])∧w'=w:=by
 obtain ⟨j,hj,_⟩:=Option.map_eq_some_iff.1 sZ
 go_enter Tryz.func81,Tryz.ntmps81
 go_wp2
 rw [Lib.run_neq_ptr_same w _ Tryz.underlying104 hj]
 go_wp2
 go_end0
 exact ⟨rfl,rfl⟩
set_option maxHeartbeats 1000000 in
theorem Oo (b:Nat) (w:World) (h0:w.cell? ⟨b,0,none⟩=some (.pointer none)) (hsh:w.shape? b=some (107,2)) (hfz:w.frozen? ⟨b,0,none⟩=false) :
  Calls Tryz.prog 81 #[.pointer (some ⟨b,0,none⟩)] w fun e w'=>e = .returned (.tuple #[])∧w'=w.setCell ⟨b,0,none⟩ (.pointer (some ⟨b,0,none⟩)):=by
 obtain ⟨j,hj,hjs⟩:=Option.map_eq_some_iff.1 sZ
 go_enter Tryz.func81,Tryz.ntmps81
 go_wp2
 rw [Lib.run_to_unsafe w ⟨b,0,none⟩ Tryz.underlying104 Tryz.underlying182 hj (by rw [hjs]; decide) hsh (Nat.zero_lt_succ 1)];simp only [Result.andThen];rw [Oper.upon_value]
 go_wp2
 rw [run_callFunc_extern Tryz.func113 (by kernel_rfl) (by kernel_rfl) (by kernel_rfl) (e:=Extern.AbiNoEscape.same) (by kernel_rfl)];rw [Lib.run_noEscape];simp only [Result.andThen];rw [Oper.upon_value]
 go_wp2
 rw [Lib.run_from_unsafe w ⟨b,0,none⟩ Tryz.underlying182 Tryz.underlying104 hj hsh Ot];simp only [Result.andThen];rw [Oper.upon_value]
 go_wp2
 go_end0
 exact ⟨rfl,rfl⟩
theorem sX (b:Nat) (p v:Value) (w:World) (hp:p = .pointer none∨p = .pointer (some ⟨b,0,none⟩)) (hbk:w.heap[b]?=some (.cells #[p,v] 107 (0,0))) :
  Calls Tryz.prog 81 #[.pointer (some ⟨b,0,none⟩)] w fun e w'=>e = .returned (.tuple #[])∧w'.heap[b]?=some (.cells #[.pointer (some ⟨b,0,none⟩),v] 107 (0,0))∧Keep (fun k=>k=b) w w'∧w'.heap.size=w.heap.size:=by
 have hc0:w.cell? ⟨b,0,none⟩=some p:=by rw [Lib.cell_of_heap hbk]; rfl
 rcases hp with rfl | rfl
 ·refine (Oo b w hc0 (by simp [World.shape?,hbk]) (Lib.frozen_of_heap hbk 0)).mono ?_;rintro e w' ⟨rfl,rfl⟩;exact ⟨rfl,by simp [vbs,vaW,hbk],Keep.setCell w ⟨b,0,none⟩ _ rfl,by simp [vbs]⟩
 ·refine (Oq b w hc0).mono ?_;rintro e w' ⟨rfl,rfl⟩;exact ⟨rfl,hbk,Keep.refl _ _,rfl⟩
def Y2 (b:Nat) (v:Value) (bs:List Value) (w w':World):Prop:=
 ∃ v',w'.heap[b]?=some (.cells #[.pointer (some ⟨b,0,none⟩),v'] 107 (0,0))∧w'.ownsRowF 0 5 1 v' bs.length bs∧v'.ownBlock≠some b ∧
  Keep (fun k=>k=b∨v.ownBlock=some k) w w'∧∀ k,v'.ownBlock=some k→v.ownBlock=some k∨w.heap.size≤k
theorem sY {b:Nat} {v v':Value} {bs:List Value} {w w1 w2:World} (hs1:w1.heap.size=w.heap.size) (hk1:Keep (fun k=>k=b) w w1)
  (hb2:w2.heap[b]?=some (.cells #[.pointer (some ⟨b,0,none⟩),v] 107 (0,0))) (hown:w2.ownsRowF 0 5 1 v' bs.length bs) (hk2:Keep (fun k=>v.ownBlock=some k) w1 w2) (hv:∀ k,v'.ownBlock=some k→v.ownBlock=some k∨w1.heap.size≤k) :
  Y2 b v bs w (w2.setCell ⟨b,1,none⟩ v'):=by
 have hput:=Lib.BuilderAtF.put (T:=107) (e:=5) (B2 b) hb2 hown (by decide);obtain ⟨_,v2,q1,q2,q3⟩:=hput;have e2:v2=v':=by
  have:(w2.setCell ⟨b,1,none⟩ v').heap[b]?=some (.cells #[.pointer (some ⟨b,0,none⟩),v'] 107 (0,0)):=by simp [vbs,vaW,hb2]
  rw [this] at q1;simp at q1;exact q1.symm
 subst e2;refine ⟨v2,q1,q2,q3,?_,fun k hk=>by rw [← hs1]; exact hv k hk⟩;have h3:Keep (fun k=>k=b) w2 (w2.setCell ⟨b,1,none⟩ v2):=Keep.setCell w2 ⟨b,1,none⟩ v2 rfl;refine (hk1.mono (fun _ _ h=>Or.inl h)).trans ((hk2.mono (O':=fun k=>k=b∨v.ownBlock=some k) (fun _ _ h=>Or.inr h)).trans h3 (fun _ _ h=>Or.inl h)) (fun _ _ h=>h)
theorem yO {w w':World} {v:Value} (hg:w.grownBy w' v.ownBlock):Keep (fun k=>v.ownBlock=some k) w w':=
 ⟨hg.os,hg.tape,hg.output,hg.size,fun b hb hn=>hg.block b hb (fun h=>hn h.symm)⟩
theorem VU {g n c k:Nat} (h:(Value.slice (some ⟨g,0,none⟩) n c).ownBlock=some k):k=g:=by
 simp only [B5,AC] at h;exact h.symm
theorem Od {P:Program} (w:World) (t u ty e:TypeId) (i:TypeInfo) (ht:P.underlying t=some (.slice e)) (hu:P.underlying u=some .string) (hi:P.info? e=some i) (hz:i.zero=some (.int .u8 0)) (hsize:i.size=1) (hby:i.bytes=1)
  (v:Value) (n:Nat) (xs:List Value) (hown:w.ownsRowF 0 e 1 v n xs) (s:BA) (hbytes:n+s.size≤140737488355328) :
  ∃ v' w',(CV #[t,u] ty #[v,.string s]).run P w = .ok v' w'∧w'.ownsRowF 0 e 1 v' (n+s.size) (xs++C6 s)∧w.grownBy w' v.ownBlock∧∀ k,v'.ownBlock=some k→v.ownBlock=some k∨w.heap.size≤k:=by
 have h63:n+s.size≤maxLen:=by unfold maxLen; omega
 rcases hown.2 with ⟨rfl,rfl⟩ | ⟨g,cap,cur,fz,rfl,hbg,hg,hfz,hnc,hcm,hcs,htake⟩
 ·obtain ⟨v',w',h1,h2,h3,_⟩:=Lib.run_append_own_string (P:=P) w w.heap.size t u ty e i ht hu hi hz hsize hby (.slice none 0 0) 0 xs ⟨hown.1,.inl ⟨rfl,rfl⟩⟩ s h63 hbytes (AT _);refine ⟨v',w',h1,⟨h2.1,?_⟩,h3,fun k hk=>.inr ?_⟩
  ·rcases h2.2 with q | ⟨g,cap,cur,q1,_,q2,q3,q4,q5,q6⟩
   ·exact .inl q
   ·exact .inr ⟨g,cap,cur,(0,0),q1,B2 _,q2,B2 _,q3,q4,q5,q6⟩
  ·rcases h2.2 with ⟨rfl,_⟩ | ⟨g,cap,cur,rfl,q1,_⟩
   ·simp [B5] at hk
   ·rw [VU hk]; exact q1
 ·obtain ⟨v',w',h1,h2,h3,_⟩:=Lib.run_append_own_stringF (P:=P) w 0 t u ty e i ht hu hi hz hsize hby _ n xs hown s h63 hbytes (B2 _);refine ⟨v',w',h1,h2,h3,fun k hk=>?_⟩;have hsmall:n+s.size≤9223372036854775807:=by omega
  by_cases hroom:n+s.size≤cap
  ·have hr:=Lib.run_append_room_stringF (P:=P) w t u ty e i ht hu hi hsize g n cap cur fz hg (by simpa using hfz) s hroom (by simp at hcs; omega);rw [h1] at hr;simp only [va8] at hr;obtain ⟨rfl,_⟩:=hr;exact .inl (by rw [VU hk]; rfl)
  ·have hxl:xs.length=n:=by simpa using hown.1
   have hr:=Lib.run_append_grow_string (P:=P) w t u ty e i (.int .u8 0) ht hu hi hz ⟨g,0,none⟩ n cap xs (by rw [hsize]; simpa using hxl) (hown.cells (g:=g) rfl) s (by omega) (by omega) (by rw [hby]; exact growslice_fits (by omega) (by omega));rw [h1] at hr;simp only [va8] at hr;obtain ⟨rfl,_⟩:=hr;exact .inr (by rw [VU hk]; exact AT _)
theorem zgs {P:Program} {w:World} {ops:Array Oper} {rest:List Oper} {o:Oper} {a:Act} {Q:Exit→Act→World→Prop} (hgd:o.guard=none) (sl x:Operand) (t u:TypeId)
  (ho:o.op = .call { callee:=.builtin .append,args:=#[sl,x],argTypes:=#[t,u] })
  (e:TypeId) (i:TypeInfo) (ht:P.underlying t=some (.slice e)) (hu:P.underlying u=some .string) (hi:P.info? e=some i) (hz:i.zero=some (.int .u8 0)) (hsize:i.size=1) (hby:i.bytes=1)
  (v:Value) (n:Nat) (xs:List Value) (hs:a.eval sl=v) (hown:w.ownsRowF 0 e 1 v n xs) (s:BA) (hx:a.eval x = .string s) (hbytes:n+s.size≤140737488355328)
  (h:∀ v' w',w'.ownsRowF 0 e 1 v' (n+s.size) (xs++C6 s)→w.grownBy w' v.ownBlock→(∀ k,v'.ownBlock=some k→v.ownBlock=some k∨w.heap.size≤k)→wpList P ops Q rest (a.put o.dst v') w'):wpList P ops Q (o :: rest) a w:=by
 refine wpList_plain hgd fun K hK=>?_
 obtain ⟨v',w',hr,h2,h3,h4⟩:=Od (P:=P) w t u o.type e i ht hu hi hz hsize hby v n xs hown s hbytes;unfold Oper.wp execOp;simp only [ho,resolve,invoke,builtin,CK,CL,B4,List.map_toArray,AZ,B6,hs,hx,hr];exact hK _ _ (h v' w' h2 h3 h4)
theorem Nz {P:Program} (w:World) (t ty e:TypeId) (i:TypeInfo) (ht:P.underlying t=some (.slice e)) (hi:P.info? e=some i) (hz:i.zero=some (.int .u8 0)) (hsize:i.size=1) (hby:i.bytes=1)
  (v:Value) (n:Nat) (xs:List Value) (hown:w.ownsRowF 0 e 1 v n xs) (ad:Addr) (c:Nat) (x:Int) (hx:w.cell? ad=some (.int .u8 x)) (hbytes:n+1≤140737488355328) :
  ∃ v' w',(CV #[t,t] ty #[v,.slice (some ad) 1 c]).run P w = .ok v' w'∧w'.ownsRowF 0 e 1 v' (n+1) (xs++[.int .u8 x])∧w.grownBy w' v.ownBlock∧∀ k,v'.ownBlock=some k→v.ownBlock=some k∨w.heap.size≤k:=by
 have h63:n+1≤maxLen:=by unfold maxLen; omega
 have hnews:∀ j u,[Value.int .u8 x][j]?=some u→w.cell? (ad.add j)=some u:=by
  intro j u hj
  match j,hj with
  | 0,hj=>simp at hj; subst hj; obtain ⟨b,o,p⟩:=ad; cases p <;> simpa [Addr.add] using hx
 have h1c:∀ u∈[Value.int .u8 x],u.oneCell'=true:=fun u hu=>by simp at hu; subst hu; rfl
 rcases hown.2 with ⟨rfl,rfl⟩ | ⟨g,cap,cur,fz,rfl,hbg,hg,hfz,hnc,hcm,hcs,htake⟩
 ·obtain ⟨v',w',h1,h2,h3,_⟩:=run_append_own (P:=P) w w.heap.size t ty e i (.int .u8 0) 1 1 ht hi hz hsize hby rfl (by decide) (.slice none 0 0) 0 xs ⟨hown.1,.inl ⟨rfl,rfl⟩⟩ ad 1 c [.int .u8 x] rfl hnews h1c h63 (by omega) (AT _);refine ⟨v',w',h1,⟨h2.1,?_⟩,h3,fun k hk=>.inr ?_⟩
  ·rcases h2.2 with q | ⟨g,cap,cur,q1,_,q2,q3,q4,q5,q6⟩
   ·exact .inl q
   ·exact .inr ⟨g,cap,cur,(0,0),q1,B2 _,q2,B2 _,q3,q4,q5,q6⟩
  ·rcases h2.2 with ⟨rfl,_⟩ | ⟨g,cap,cur,rfl,q1,_⟩
   ·simp [B5] at hk
   ·rw [VU hk]; exact q1
 ·obtain ⟨v',w',h1,h2,h3,_⟩:=run_append_ownF (P:=P) w 0 t ty e i (.int .u8 0) 1 1 ht hi hz hsize hby rfl (by decide) _ n xs hown ad 1 c [.int .u8 x] rfl hnews h1c h63 (by omega) (B2 _);refine ⟨v',w',h1,h2,h3,fun k hk=>?_⟩;by_cases hroom:n+1≤cap
  ·have hr:=run_append_roomF (P:=P) w t ty e i ht hi g n cap cur fz hg (by rw [hsize]; simpa using hfz) ad 1 c [.int .u8 x] (by rw [hsize]; rfl) hnews h1c hroom (by rw [hsize]; simp at hcs ⊢; omega);rw [h1] at hr;simp only [va8] at hr;obtain ⟨rfl,_⟩:=hr;exact .inl (by rw [VU hk]; rfl)
  ·have hxl:xs.length=n:=by simpa using hown.1
   have hr:=run_append_grow (P:=P) w t ty e i (.int .u8 0) ht hi hz ⟨g,0,none⟩ n cap xs (by rw [hsize]; simpa using hxl) (hown.cells (g:=g) rfl) ad 1 c [.int .u8 x] (by rw [hsize]; rfl) hnews (by omega) (by omega) (by rw [hby]; exact growslice_fits (by omega) (by omega));rw [h1] at hr;simp only [va8] at hr;obtain ⟨rfl,_⟩:=hr;exact .inr (by rw [VU hk]; exact AT _)
theorem zgr {P:Program} {w:World} {ops:Array Oper} {rest:List Oper} {o:Oper} {a:Act} {Q:Exit→Act→World→Prop} (hgd:o.guard=none) (sl x:Operand) (t:TypeId)
  (ho:o.op = .call { callee:=.builtin .append,args:=#[sl,x],argTypes:=#[t,t] })
  (e:TypeId) (i:TypeInfo) (ht:P.underlying t=some (.slice e)) (hi:P.info? e=some i) (hz:i.zero=some (.int .u8 0)) (hsize:i.size=1) (hby:i.bytes=1)
  (v:Value) (n:Nat) (xs:List Value) (hs:a.eval sl=v) (hown:w.ownsRowF 0 e 1 v n xs) (ad:Addr) (c:Nat) (y:Int) (hx:a.eval x = .slice (some ad) 1 c) (hc:w.cell? ad=some (.int .u8 y)) (hbytes:n+1≤140737488355328)
  (h:∀ v' w',w'.ownsRowF 0 e 1 v' (n+1) (xs++[.int .u8 y])→w.grownBy w' v.ownBlock→(∀ k,v'.ownBlock=some k→v.ownBlock=some k∨w.heap.size≤k)→wpList P ops Q rest (a.put o.dst v') w'):wpList P ops Q (o :: rest) a w:=by
 refine wpList_plain hgd fun K hK=>?_
 obtain ⟨v',w',hr,h2,h3,h4⟩:=Nz (P:=P) w t o.type e i ht hi hz hsize hby v n xs hown ad c y hc hbytes;unfold Oper.wp execOp;simp only [ho,resolve,invoke,builtin,CK,CL,B4,List.map_toArray,AZ,B6,hs,hx,hr];exact hK _ _ (h v' w' h2 h3 h4)
theorem oW {w:World} {e:Nat} {v:Value} {bs:List Value} {n k:Nat} (hown:w.ownsRowF 0 e 1 v n bs) (hk:v.ownBlock=some k):k < w.heap.size:=by
 rcases hown.2 with ⟨rfl,_⟩ | ⟨g,cap,cur,fz,rfl,_,hg,_⟩
 ·simp [B5] at hk
 ·rw [VU hk];exact cN hg
set_option maxHeartbeats 2000000 in
theorem Pb (b:Nat) (p v:Value) (bs:List Value) (s:BA) (w:World) (hp:p = .pointer none∨p = .pointer (some ⟨b,0,none⟩)) (hbk:w.heap[b]?=some (.cells #[p,v] 107 (0,0)))
  (hown:w.ownsRowF 0 5 1 v bs.length bs) (hne:v.ownBlock≠some b) (hlen:bs.length+s.size≤140737488355328) :
  Calls Tryz.prog 48 #[.pointer (some ⟨b,0,none⟩),.string s] w fun e w'=>e = .returned (.tuple #[.int .i64 s.size,.nilIface])∧Y2 b v (bs++Lib.strCells s) w w':=by
 obtain ⟨i0,hi,hz0,hz1,hz2⟩:=info_parts Js
 go_enter Tryz.func48,Tryz.ntmps48
 go_wp2_with (go_at_call 81; refine (sX b p v _ hp hbk).mono ?_)
 rintro e w1 ⟨rfl,hb1,hk1,hs1⟩;have HS:Hid (w1.heap.size=w.heap.size):=hs1;clear hs1;have hown1:w1.ownsRowF 0 5 1 v bs.length bs:=XZ hown (fun k hk=>hk1.block k (oW hown hk) (fun e=>hne (e ▸ hk)));have c0:w1.cell? ⟨b,0,none⟩=some (.pointer (some ⟨b,0,none⟩)):=by rw [Lib.cell_of_heap hb1]; rfl
 have c1:w1.cell? ⟨b,1,none⟩=some v:=by rw [Lib.cell_of_heap hb1]; rfl
 go_wp2_with (at_builtin; refine zgs rfl _ _ 105 9 rfl 5 i0 Tryz.underlying105 Tryz.underlying9 hi hz0 hz1 hz2 _ _ _ rfl hown1 s rfl hlen ?_)
 intro v' w2 hown' hgrow hblk;have hlt:b < w1.heap.size:=cN hb1;have hb2:w2.heap[b]?=some (.cells #[.pointer (some ⟨b,0,none⟩),v] 107 (0,0)):=by
  rw [hgrow.block b hlt (fun e=>hne e.symm)];exact hb1
 have d0:w2.cell? ⟨b,0,none⟩=some (.pointer (some ⟨b,0,none⟩)):=by rw [Lib.cell_of_heap hb2]; rfl
 have d1:w2.cell? ⟨b,1,none⟩=some v:=by rw [Lib.cell_of_heap hb2]; rfl
 have f1:w2.frozen? ⟨b,1,none⟩=false:=Lib.frozen_of_heap hb2 1;have hX:Hid (Y2 b v (bs++Lib.strCells s) w (w2.setCell ⟨b,1,none⟩ v')):=sY HS hk1 hb2 (by simpa [Lib.strCells_length] using hown') (yO hgrow) hblk;clear hblk HS;obtain ⟨ao,n',cap,rfl⟩:∃ ao n' cap,v' = .slice ao n' cap:=by
  rcases hown'.2 with ⟨hv,_⟩ | ⟨g,cap,cur,fz,hv,_⟩
  ·exact ⟨_,_,_,hv⟩
  ·exact ⟨_,_,_,hv⟩
 go_wp2
 go_ret2
 exact ⟨rfl,hX⟩
set_option maxHeartbeats 2000000 in
theorem Pa (b:Nat) (p v:Value) (bs:List Value) (c:Int) (w:World) (hp:p = .pointer none∨p = .pointer (some ⟨b,0,none⟩)) (hbk:w.heap[b]?=some (.cells #[p,v] 107 (0,0)))
  (hown:w.ownsRowF 0 5 1 v bs.length bs) (hne:v.ownBlock≠some b) (hlen:bs.length+1≤140737488355328) :
  Calls Tryz.prog 87 #[.pointer (some ⟨b,0,none⟩),.int .u8 c] w fun e w'=>e = .returned .nilIface∧Y2 b v (bs++[.int .u8 c]) w w':=by
 obtain ⟨i0,hi,hz0,hz1,hz2⟩:=info_parts Js
 go_enter Tryz.func87,Tryz.ntmps87
 go_wp2_with (go_at_call 81; refine (sX b p v _ hp hbk).mono ?_)
 rintro e w1 ⟨rfl,hb1,hk1,hs1⟩;have HS:Hid (w1.heap.size=w.heap.size):=hs1;clear hs1;have hown1:w1.ownsRowF 0 5 1 v bs.length bs:=XZ hown (fun k hk=>hk1.block k (oW hown hk) (fun e=>hne (e ▸ hk)));have c0:w1.cell? ⟨b,0,none⟩=some (.pointer (some ⟨b,0,none⟩)):=by rw [Lib.cell_of_heap hb1]; rfl
 have c1:w1.cell? ⟨b,1,none⟩=some v:=by rw [Lib.cell_of_heap hb1]; rfl
 have hlt:b < w1.heap.size:=cN hb1
 go_wp2_with (at_builtin; refine zgr rfl _ _ 105 rfl 5 i0 Tryz.underlying105 hi hz0 hz1 hz2 _ _ _ rfl (hown1.alloc _) ⟨w1.heap.size,0,none⟩ 1 c rfl (by rw [Lib.cell_of_heap (heap_alloc_new w1 _)]; rfl) hlen ?_)
 intro v' w2 hown' hgrow hblk;have hb2:w2.heap[b]?=some (.cells #[.pointer (some ⟨b,0,none⟩),v] 107 (0,0)):=by
  rw [hgrow.block b (by simp; omega) (fun e=>hne e.symm),Lib.alloc_old w1 _ b hlt];exact hb1
 have d0:w2.cell? ⟨b,0,none⟩=some (.pointer (some ⟨b,0,none⟩)):=by rw [Lib.cell_of_heap hb2]; rfl
 have d1:w2.cell? ⟨b,1,none⟩=some v:=by rw [Lib.cell_of_heap hb2]; rfl
 have f1:w2.frozen? ⟨b,1,none⟩=false:=Lib.frozen_of_heap hb2 1;have hX:Hid (Y2 b v (bs++[.int .u8 c]) w (w2.setCell ⟨b,1,none⟩ v')):=sY HS hk1 hb2 (by simpa using hown') (((Keep.alloc (fun k=>v.ownBlock=some k) w1 _)).trans (yO hgrow) (fun _ _ h=>h)) (fun k hk=>(hblk k hk).imp_right (fun h=>by first | omega | (simp at h; omega)));clear hblk HS;obtain ⟨ao,n',cap,rfl⟩:∃ ao n' cap,v' = .slice ao n' cap:=by
  rcases hown'.2 with ⟨hv,_⟩ | ⟨g,cap,cur,fz,hv,_⟩
  ·exact ⟨_,_,_,hv⟩
  ·exact ⟨_,_,_,hv⟩
 go_wp2
 go_ret
 exact ⟨rfl,hX⟩
def NO (b:Nat) (p v:Value) (n:Nat) (bs:List Value) (w w':World):Prop:=
 w'.heap[b]?=some (.cells #[p,v] 107 (0,0))∧w'.ownsRowF 0 5 1 v n bs∧Keep (fun k=>k=b∨v.ownBlock=some k) w w'
theorem zfL {b g cap:Nat} {p:Value} {bs:List Value} {w:World} (hbk:w.heap[b]?=some (.cells #[p,.slice (some ⟨g,0,none⟩) bs.length cap] 107 (0,0))) (hown:w.ownsRowF 0 5 1 (.slice (some ⟨g,0,none⟩) bs.length cap) bs.length bs) (hne:(Value.slice (some ⟨g,0,none⟩) bs.length cap).ownBlock≠some b) :
  NO b p (.slice (some ⟨g,0,none⟩) bs.length cap) bs.length bs w (w.drew.freeze ⟨g,0,none⟩ bs.length):=by
 have hA:Lib.BuilderAtF 107 5 0 b p bs w.drew:=⟨B2 _,_,hbk,hown,hne⟩;have c1:w.drew.cell? ⟨b,1,none⟩=some (.slice (some ⟨g,0,none⟩) bs.length cap):=by
  have:w.drew.heap[b]?=some (.cells #[p,.slice (some ⟨g,0,none⟩) bs.length cap] 107 (0,0)):=hbk
  rw [Lib.cell_of_heap this]; rfl
 obtain ⟨_,v',q1,q2,q3⟩:=hA.froze c1;have hk:Keep (fun k=>k=g) w (w.drew.freeze ⟨g,0,none⟩ bs.length):=(Keep.drew _ w).trans (Keep.freeze (O:=fun k=>k=g) w.drew ⟨g,0,none⟩ _ rfl) (fun _ _ h=>h);have hgb:b≠g:=fun e=>hne (by simp [B5,e])
 have hb2:(w.drew.freeze ⟨g,0,none⟩ bs.length).heap[b]?=some (.cells #[p,.slice (some ⟨g,0,none⟩) bs.length cap] 107 (0,0)):=(hk.block b (cN hbk) hgb).trans hbk;have e:v' = .slice (some ⟨g,0,none⟩) bs.length cap:=by
  rw [hb2] at q1;simp at q1;exact q1.symm
 subst e;exact ⟨hb2,q2,hk.mono (fun k _ h=>.inr (by rw [h]; rfl))⟩
set_option maxHeartbeats 1000000 in
theorem Oz (b g cap:Nat) (p:Value) (l:List UInt8) (w:World) (h0:l≠[]) (hbk:w.heap[b]?=some (.cells #[p,.slice (some ⟨g,0,none⟩) l.length cap] 107 (0,0)))
  (hown:w.ownsRowF 0 5 1 (.slice (some ⟨g,0,none⟩) l.length cap) l.length (Lib.byteCells l)) (hne:(Value.slice (some ⟨g,0,none⟩) l.length cap).ownBlock≠some b) :
  Calls Tryz.prog 52 #[.pointer (some ⟨b,0,none⟩)] w fun e w'=>e = .returned (.string ⟨l.toArray⟩)∧NO b p (.slice (some ⟨g,0,none⟩) l.length cap) l.length (Lib.byteCells l) w w':=by
 have hl0:l.length≠0:=by simpa using h0
 obtain ⟨cur,fz,hg,hnc,hcm,hcs⟩:∃ cur fz,w.heap[g]?=some (.cells cur 5 fz)∧l.length≤cap∧cap≤maxLen∧cur.size=cap*1:=by
  rcases hown.2 with ⟨hv,_⟩ | ⟨g',cap',cur,fz,hv,_,q1,_,q2,q3,q4,_⟩
  ·cases hv
  ·injection hv with ha _ hc
   injection ha with ha
   injection ha with hgg
   subst hgg; subst hc;exact ⟨cur,fz,q1,q2,q3,q4⟩
 have c1:w.drew.cell? ⟨b,1,none⟩=some (.slice (some ⟨g,0,none⟩) l.length cap):=by
  have:w.drew.heap[b]?=some (.cells #[p,.slice (some ⟨g,0,none⟩) l.length cap] 107 (0,0)):=hbk
  rw [Lib.cell_of_heap this]; rfl
 have hSD:(Builtin.unsafeSliceData_ #[105] 160 #[.slice (some ⟨g,0,none⟩) l.length cap]).run Tryz.prog w.drew = .ok (.pointer (some ⟨g,0,none⟩)) w.drew:=
  Lib.run_unsafeSliceData_row _ _ _ _ _ _ (by omega)
 have hcells:PR.cellsOf 5=1:=by kernel_rfl
 have hUS:(Builtin.unsafeString_ #[160,3] 9 #[.pointer (some ⟨g,0,none⟩),.int .i64 l.length]).run Tryz.prog w.drew = .ok (.string ⟨l.toArray⟩) (w.drew.freeze ⟨g,0,none⟩ l.length):=by
  refine Lib.run_unsafeString_row w.drew 160 3 9 5 Tryz.underlying160 hcells g cur.size (by have hg':w.drew.heap[g]?=some (.cells cur 5 fz):=hg; simp [World.shape?,hg']) l h0 (by omega) (by unfold maxLen at hcm; omega) ?_;intro j x hx
  have:=hown.cells (g:=g) rfl j (.int .u8 x.toNat) (by simp [Lib.byteCells,hx])
  exact this
 have hP:Hid (NO b p (.slice (some ⟨g,0,none⟩) l.length cap) l.length (Lib.byteCells l) w (w.drew.freeze ⟨g,0,none⟩ l.length)):=by
  have:=zfL (bs:=Lib.byteCells l) (by rw [Lib.byteCells_length]; exact hbk) (by rw [Lib.byteCells_length]; exact hown) (by rw [Lib.byteCells_length]; exact hne)
  rw [Lib.byteCells_length] at this;exact this
 clear hcells hcs hg hnc hcm hl0
 go_enter Tryz.func52,Tryz.ntmps52
 go_wp2
 go_region
 all_goals (go_wp2; go_ret; exact ⟨rfl,hP⟩)
set_option maxHeartbeats 2000000 in
theorem Ow (b:Nat) (p:Value) (w:World) (hbk:w.heap[b]?=some (.cells #[p,.slice none 0 0] 107 (0,0))) :
  Calls Tryz.prog 52 #[.pointer (some ⟨b,0,none⟩)] w fun e w'=>e = .returned (.string ⟨#[]⟩)∧NO b p (.slice none 0 0) 0 [] w w':=by
 have hUS:∀ (W:World) (q:Option Addr),(Builtin.unsafeString_ #[160,3] 9 #[.pointer q,.int .i64 0]).run Tryz.prog W = .ok (.string .empty) W:=fun W q=>Lib.run_unsafeString_none W _ _ _ q
 have c1:w.drew.cell? ⟨b,1,none⟩=some (.slice none 0 0):=by
  have:w.drew.heap[b]?=some (.cells #[p,.slice none 0 0] 107 (0,0)):=hbk
  rw [Lib.cell_of_heap this]; rfl
 have hSD:(Builtin.unsafeSliceData_ #[105] 160 #[.slice none 0 0]).run Tryz.prog w.drew = .ok (.pointer none) w.drew:=rfl;have hP:Hid (NO b p (.slice none 0 0) 0 [] w w.drew):=⟨hbk,⟨rfl,.inl ⟨rfl,rfl⟩⟩,Keep.drew _ w⟩
 go_enter Tryz.func52,Tryz.ntmps52
 go_wp2
 go_region
 all_goals (go_wp2; go_ret; exact ⟨rfl,hP⟩)
set_option maxHeartbeats 2000000 in
theorem Ox (b g:Nat) (p:Value) (cur:Array Value) (fz:Nat × Nat) (w:World) (hbk:w.heap[b]?=some (.cells #[p,.slice (some ⟨g,0,none⟩) 0 0] 107 (0,0))) (hg:w.heap[g]?=some (.cells cur 5 fz)) (hown:w.ownsRowF 0 5 1 (.slice (some ⟨g,0,none⟩) 0 0) 0 []) :
  Calls Tryz.prog 52 #[.pointer (some ⟨b,0,none⟩)] w fun e w'=>e = .returned (.string ⟨#[]⟩)∧NO b p (.slice (some ⟨g,0,none⟩) 0 0) 0 [] w w':=by
 have hUS:∀ (W:World) (q:Option Addr),(Builtin.unsafeString_ #[160,3] 9 #[.pointer q,.int .i64 0]).run Tryz.prog W = .ok (.string .empty) W:=fun W q=>Lib.run_unsafeString_none W _ _ _ q
 have hlt:b < w.heap.size:=cN hbk;have c1:w.drew.cell? ⟨b,1,none⟩=some (.slice (some ⟨g,0,none⟩) 0 0):=by
  have:w.drew.heap[b]?=some (.cells #[p,.slice (some ⟨g,0,none⟩) 0 0] 107 (0,0)):=hbk
  rw [Lib.cell_of_heap this]; rfl
 have hSD:(Builtin.unsafeSliceData_ #[105] 160 #[.slice (some ⟨g,0,none⟩) 0 0]).run Tryz.prog w.drew = .ok (.pointer (some ⟨w.drew.heap.size,0,none⟩)) (w.drew.alloc (.view ⟨g,0,none⟩ 5)):=
  Lib.run_unsafeSliceData_zero w.drew _ _ 5 Tryz.underlying160 ⟨g,0,none⟩ 0 (5,cur.size) (by have hg':w.drew.heap[g]?=some (.cells cur 5 fz):=hg; simp [World.shape?,hg'])
 have c2:(w.drew.alloc (.view ⟨g,0,none⟩ 5)).cell? ⟨b,1,none⟩=some (.slice (some ⟨g,0,none⟩) 0 0):=by
  have:(w.drew.alloc (.view ⟨g,0,none⟩ 5)).heap[b]?=_:=(Lib.alloc_old w.drew _ b hlt).trans hbk
  rw [Lib.cell_of_heap this]; rfl
 have c3:(w.alloc (.view ⟨g,0,none⟩ 5)).drew.cell? ⟨b,1,none⟩=some (.slice (some ⟨g,0,none⟩) 0 0):=c2;have c0:w.cell? ⟨b,1,none⟩=some (.slice (some ⟨g,0,none⟩) 0 0):=c1;have hP:∀ W:World,W.heap=(w.drew.alloc (.view ⟨g,0,none⟩ 5)).heap→W.os=w.os→W.tape=w.tape→W.output=w.output→NO b p (.slice (some ⟨g,0,none⟩) 0 0) 0 [] w W:=by
  intro W h1 h2 h3 h4;have hk:Keep (fun k=>k=b∨(Value.slice (some ⟨g,0,none⟩) 0 0).ownBlock=some k) w W:=by
   have:=Keep.alloc (fun _=>False) w.drew (.view ⟨g,0,none⟩ 5)
   exact ⟨h2,h3,h4,by rw [h1]; exact this.size,fun k hk _=>by rw [h1]; exact this.block k hk (fun h=>h)⟩
  have hblk:∀ k,k < w.heap.size→W.heap[k]?=w.heap[k]?:=fun k hk=>by
   rw [h1]; exact (Keep.alloc (fun _=>False) w.drew (.view ⟨g,0,none⟩ 5)).block k hk (fun h=>h)
  exact ⟨(hblk b hlt).trans hbk,XZ hown (fun k hk=>hblk k (oW hown hk)),hk⟩
 have hP:Hid (∀ W:World,W.heap=(w.drew.alloc (.view ⟨g,0,none⟩ 5)).heap→W.os=w.os→W.tape=w.tape→W.output=w.output→NO b p (.slice (some ⟨g,0,none⟩) 0 0) 0 [] w W):=hP
 go_enter Tryz.func52,Tryz.ntmps52
 go_wp2
 go_region
 all_goals (go_wp2; go_ret; exact ⟨rfl,hP _ rfl rfl rfl rfl⟩)
set_option maxHeartbeats 2000000 in
theorem Oy (b g cap:Nat) (p:Value) (w:World) (hc0:cap≠0) (hbk:w.heap[b]?=some (.cells #[p,.slice (some ⟨g,0,none⟩) 0 cap] 107 (0,0))) (hown:w.ownsRowF 0 5 1 (.slice (some ⟨g,0,none⟩) 0 cap) 0 []) :
  Calls Tryz.prog 52 #[.pointer (some ⟨b,0,none⟩)] w fun e w'=>e = .returned (.string ⟨#[]⟩)∧NO b p (.slice (some ⟨g,0,none⟩) 0 cap) 0 [] w w':=by
 have hUS:∀ (W:World) (q:Option Addr),(Builtin.unsafeString_ #[160,3] 9 #[.pointer q,.int .i64 0]).run Tryz.prog W = .ok (.string .empty) W:=fun W q=>Lib.run_unsafeString_none W _ _ _ q
 have c1:w.drew.cell? ⟨b,1,none⟩=some (.slice (some ⟨g,0,none⟩) 0 cap):=by
  have:w.drew.heap[b]?=some (.cells #[p,.slice (some ⟨g,0,none⟩) 0 cap] 107 (0,0)):=hbk
  rw [Lib.cell_of_heap this]; rfl
 have hSD:(Builtin.unsafeSliceData_ #[105] 160 #[.slice (some ⟨g,0,none⟩) 0 cap]).run Tryz.prog w.drew = .ok (.pointer (some ⟨g,0,none⟩)) w.drew:=
  Lib.run_unsafeSliceData_row _ _ _ _ _ _ hc0
 clear hc0;have hP:Hid (NO b p (.slice (some ⟨g,0,none⟩) 0 cap) 0 [] w w.drew):=⟨hbk,hown,Keep.drew _ w⟩
 go_enter Tryz.func52,Tryz.ntmps52
 go_wp2
 go_region
 all_goals (go_wp2; go_ret; exact ⟨rfl,hP⟩)
theorem zfK (s:BA):C6 s=vbw s.data.toList:=by
 simp [C6,vbw]
theorem Ov (b:Nat) (p v:Value) (s:BA) (w:World) (hbk:w.heap[b]?=some (.cells #[p,v] 107 (0,0))) (hown:w.ownsRowF 0 5 1 v s.size (C6 s)) (hne:v.ownBlock≠some b) :
  Calls Tryz.prog 52 #[.pointer (some ⟨b,0,none⟩)] w fun e w'=>e = .returned (.string s)∧NO b p v s.size (C6 s) w w':=by
 obtain ⟨⟨l⟩⟩:=s;rw [zfK] at hown ⊢
 change w.ownsRowF 0 5 1 v l.length (vbw l) at hown
 change Calls Tryz.prog 52 #[.pointer (some ⟨b,0,none⟩)] w fun e w'=>e = .returned (.string ⟨l.toArray⟩)∧NO b p v l.length (vbw l) w w'
 by_cases h0:l=[]
 ·subst h0;rcases hown.2 with ⟨rfl,_⟩ | ⟨g,cap,cur,fz,rfl,_,hg,_⟩
  ·exact Ow b p w hbk
  ·by_cases hc:cap=0
   ·subst hc;exact Ox b g p cur fz w hbk hg hown
   ·exact Oy b g cap p w hc hbk hown
 ·rcases hown.2 with ⟨rfl,hz⟩ | ⟨g,cap,cur,fz,rfl,_⟩
  ·exact absurd (vap hz) h0
  ·exact Oz b g cap p l w h0 hbk hown hne
end Go.FM
