/-
  A small machine that reckons what a call comes to; the functions of the program, one by one. (THE SMALL MACHINE (24): a call., THE SMALL MACHINE (25): a call that lends a variable., THE SMALL MACHINE (26): a call, as an operation., and so on.)
-/
import Derived.Test.YtehhekmihbaghaaGreatDoorWa
import Derived.Lib.ItoaLen
import Derived.Test.YtehhekmihbaghaaGreatDoorProg
import Derived.Shelf.Strings.BuilderK
import Derived.Shelf.Strings.OnBuilder
import Derived.Shelf.Strings.Trim
import Derived.Shelf.Small.Wraps
import Derived.Shelf.Utf8.RuneCount
import Derived.Shelf.Strconv.Itoa3
import Derived.Shelf.Strconv.ErrVarAll
import Derived.Shelf.Strconv.ParseUint10b64
import Derived.Shelf.Pu.ErrVarParseUint
import Derived.Shelf.Strings.Shaped
import Derived.Shelf.Sort.Plain
import Derived.Shelf.Strings.SplitShaped
import Derived.Shelf.Strings.Runes
import Derived.Shelf.Strings.AsciiSet
import Derived.Shelf.Strings.Explode
import Derived.Shelf.Strings.Repeat
import Derived.Shelf.Unicode.DecodeLast
import Derived.Shelf.Slices.Turned
import Derived.Shelf.Slices.Clone
import Derived.Shelf.Slices.SearchI
import Derived.Shelf.Slices.Cells
import Derived.Shelf.Slices.In.SortNone
import Derived.Shelf.SlicesE.Clone
import Derived.Shelf.SlicesE.DeleteFunc
set_option linter.all false
set_option maxRecDepth 100000
open Array renaming length_toList→CR,getElem?_eq_some_iff→C9,getElem?_toList→vaq,toList_append→vaA,getElem?_modify→va0,getD_eq_getD_getElem?→vbl,all_eq_true_iff_forall_mem→vbE
open Bool renaming and_eq_true→AH,not_eq_true'→BY,and_true→CE,or_eq_true→vax
open ByteArray renaming size→AF,empty→CH
open Decidable renaming byContradiction→vbK
open Go.Addr.mk renaming injEq→DA
open Go.Builtin renaming append_→CU
open Go.IntKind renaming i64→AB,u64→AJ,bits→AO,signed→vah
open Go.Lib renaming decDigits→CD,strCells→C5,bytesWorld→vaG,byteCells→vby
open Go.Op renaming operands→CQ,equalIn→vbm
open Go.Region renaming wanted→C0,binds→vaS,ready→vbC
open Go.Result renaming andThen_ok→B2
open Go.Result.ok renaming injEq→vbb
open Go.Sem renaming run_bind→CJ,run_pure→CK
open Go.TypeDesc renaming isRow→vbk
open Go.Value renaming ownBlock→B6
open Go.Value.pointer renaming injEq→CW
open Go.Value.slice renaming injEq→CG
open Go.World renaming cell?→vaF,setCell→vbt
open List renaming length_cons→AN,drop→AR,mem_cons_self→AT,mem_cons→AU,mem_append→AV,length_append→AW,mem_cons_of_mem→AX,map_cons→AZ,getElem?_eq_getElem→A6,length_nil→A7,length_take→A8,getElem?_cons_zero→BK,getElem?_eq_none→BM,getElem?_eq_some_iff→BN,mem_singleton→BU,getElem?_map→B5,length_map→B7,map_nil→CB,not_mem_nil→CL,drop_of_length_le→CN,all_eq_true→CP,take_of_length_le→CV,mem_map→CY,length_drop→C7,getElem?_cons_succ→DB,cons_append→vaa,size_toArray→vad,mem_of_getElem?→vag,append_nil→vak,getElem?_drop→vam,range→vav,mem_append_right→vaz,mem_append_left→vaD,eq_nil_of_length_eq_zero→vaE,mem_range→vaH,countP_cons_of_pos→vaJ,mem_map_of_mem→vaK,all_cons→vaU,mem_of_mem_drop→va1,mem_of_mem_take→va2,countP_cons_of_neg→vbf,getElem?_append_left→vbp
open List.cons renaming injEq→vaV
open Nat renaming le_of_ble_eq_true→AM,le_refl→AY,zero_add→BF,beq→BI,ble→BW,zero_le→BZ,lt_of_lt_of_le→CT,le_trans→CZ,add_zero→C4,lt_or_ge→C6,add_mul→vai,min_eq_left→var,sub_zero→vaY,beq_refl→vbh,one_mul→vbr,strongRecOn→vbB
open Option renaming map_eq_some_iff→C8,getD_some→vao,map_some→vaC
open Option.some renaming injEq→AC
open Prod.mk renaming injEq→AS
namespace Go.FM
open Go Go.RowKit
section
variable {B:BT} {nt:Nat} {w0:World} {X:Zone} {γ:Nat→Value} {st st':St} {a:Act} {w:World} {P:Program} {E:Env}
theorem ZV (h:Rel B nt w0 X γ st a w) (ns:List Nat) {b:Nat} (hb:DI X γ (st.ups (D7 st.o ns)).o b):DI X γ st.o b∧∀ m∈ns,¬ RowOf γ st.o m b:=by
 obtain ⟨h1,h2,h3,h4,h5⟩:=LW st.o ns (FrzLe.refl _) h;refine ⟨h2.owned hb,?_⟩;rintro m hm ⟨e,ag,ks,l,ho,hob⟩;rcases hb with ⟨m',ob',hm',hb'⟩ | hb
 ·by_cases e1:m=m'
  ·subst e1;rcases h2 m with h6 | ⟨e',ag',ks',l',h6,h7⟩
   ·rw [h6,ho] at hm'
    have:=h4 m hm true e ag ks l (by rw [h6,ho])
    cases this
   ·rw [h7,AC] at hm';subst hm';exact hb'.elim
  ·rcases h2 m' with h6 | ⟨e',ag',ks',l',h6,h7⟩
   ·rw [h6] at hm';exact h.dis m m' _ ob' b e1 ho hm' hob hb'
   ·rw [h7,AC] at hm';subst hm';exact hb'.elim
 ·exact h.near ⟨m,_,ho,hob⟩ hb
theorem iF (h:Rel B nt w0 X γ st a w) (hg:GX B w0 X) {f:FuncId} {sp:Q7} (hS:Snd P B f sp) {vs:List V} {xs:List Value} (hv:VRels γ st.o w (DI X γ st.o) vs xs) (hl:FC vs=[]) {tks:List (List Kd)} {v:V} {out:List (List V)}
  (hsp:sp (FT st.o [] tks vs)=some (v,out)) :
  Does P f xs w fun e w'=>∃ x,e = .returned x∧∃ γ',Rel B.base 0 w ⟨fun _=>False,fun b=>DI X γ st.o b∧∀ m∈EG vs,¬ RowOf γ st.o m b⟩ γ' ⟨[],F2 v out⟩ IU w' ∧
   VRel γ' (F2 v out) w' (DI ⟨fun _=>False,fun b=>DI X γ st.o b∧∀ m∈EG vs,¬ RowOf γ st.o m b⟩ γ' (F2 v out)) (LH v) x∧WG v=true∧out=[]:=by
 have hb:FW (FT st.o [] tks vs)=none:=cS.2 hl;have hm:H3 (FT st.o [] tks vs)=[]:=by simp only [H3,hb]
 have hR:Rel B.base 0 w ⟨fun _=>False,fun b=>DI X γ st.o b∧∀ m∈EG vs,¬ RowOf γ st.o m b⟩ γ ⟨[],[]⟩ IU w:=by
  refine ⟨rfl,rfl,fun i=>by simp only [St.get,EP,VRel],fun n ob hn=>?_,?_,?_,Keep.refl _ w,?_,?_,fun p hp=>by cases hp⟩
  ·simp only [DG,EP] at hn; cases hn
  ·rintro b ⟨n,ob,hn,_⟩; simp only [DG,EP] at hn; cases hn
  ·intro n m ob ob' b _ hn; simp only [DG,EP] at hn; cases hn
  ·rintro b ⟨n,ob,hn,_⟩; simp only [DG,EP] at hn; cases hn
  ·rintro b ⟨hb | hb,_⟩
   ·exact (h.lt b hb).1
   ·exact h.fl b hb
 have:=hS w ⟨fun _=>False,fun b=>DI X γ st.o b∧∀ m∈EG vs,¬ RowOf γ st.o m b⟩ γ (FT st.o [] tks vs) xs v out hsp (h.glob hg) (fun _ hf=>hf.elim) (by rw [hm]; exact hR) (by
  rw [hm];refine cO h (fun b _ hb=>?_) [] hv (fun m hm b hr hb=>?_) (fun m hm=>by rw [hl] at hm; cases hm)
  ·rcases hb with ⟨n,ob,hn,_⟩ | hb
   ·simp only [DG,EP] at hn; cases hn
   ·exact hb.1
  ·rcases hb with ⟨n,ob,hn,_⟩ | hb
   ·simp only [DG,EP] at hn; cases hn
   ·exact hb.2 m hm hr)
 refine this.mono ?_;rintro e w' ⟨x,he,γ',h1,h2,h3⟩;refine ⟨x,he,γ',h1,h2,?_⟩;simp only [JN,hb] at h3;cases out with
 | nil=>exact ⟨h3,rfl⟩
 | cons _ _=>exact h3.elim
theorem lX (h:Rel B nt w0 X γ st a w) {w':World} {X':Zone} (hX:∀ b,¬ X'.own b) {γ':Nat→Value} {st':St} {a':Act} (hc:Rel B.base 0 w X' γ' st' a' w') (F:Nat→Prop) (hF:∀ b,F b→X.far b∨(w.heap.size≤b∧b < w'.heap.size)):Rel B nt w0 ⟨X.own,F⟩ γ st a w':=
 (h.fresh (hc.keep) (fun b _ hb=>(hX b hb).elim)).shrink hF
theorem V1 {cs:List V} (h:cs.all PA=true):D8 cs=(900000,some (.box (F1 900001 cs))) :: JT 900001 cs:=by
 refine jH (fun s he=>?_);subst he;simp [PA,G1] at h
theorem sN {w':World} {X':Zone} {γ':Nat→Value} {cs:List V} (hok:cs.all PA=true) (_:Rel B.base 0 w X' γ' ⟨[],D8 cs⟩ IU w') {c:Array Value}
  (hr:VRels γ' (D8 cs) w' (DI X' γ' (D8 cs)) (F1 900001 cs) c.toList) {γf:Nat→Value} {of:Store} {nm:Nat}
  (hrow:∀ j e ag ks l,cs[j]?=some (.vec e ag ks l)→γf (nm+j)=γ' (900001+j)∧DG of (nm+j)=some (.row true e ag ks l)) {O':Nat→Prop} (hO:HN cs=true→∀ b,b < w'.heap.size→O' b→DI X' γ' (D8 cs) b) :
  VRels γf of w' O' (F1 nm cs) c.toList:=by
 have hl:=hr.length;rw [VM] at hl;refine VRels.of_get (by rw [VM,hl]) (fun j v x hv hx=>?_);rw [ZJ] at hv;cases hcj:cs[j]? with
 | none=>rw [hcj] at hv; cases hv
 | some u=>
  rw [hcj] at hv;simp only [vaC,AC] at hv;have hb:(F1 900001 cs)[j]?=some (match (generalizing:=false) u with | .vec _ _ _ l=>.row (900001+j) 0 l.length | v=>v):=by rw [ZJ,hcj]; rfl
  have hux:=hr.get' hb hx;have huok:PA u=true:=CP.1 hok u (vag hcj);by_cases hvec:∃ e ag ks l,u = .vec e ag ks l
  ·obtain ⟨e,ag,ks,l,rfl⟩:=hvec;simp only at hv hux;subst hv;obtain ⟨h1,h2⟩:=hrow j e ag ks l hcj;have hat:=a7 (nr:=900001) hcj;have hat':DG (D8 cs) (900001+j)=some (.row true e ag ks l):=by
    rw [V1 hok,D4,A4 (by omega)];exact hat
   simp only [VRel,hat'] at hux;simp only [VRel,h2,h1];exact hux
  ·have hf:G1 u=true:=by cases u <;> first | exact huok | exact absurd ⟨_,_,_,_,rfl⟩ hvec
   have hvu:v=u:=by cases u <;> first | exact hv.symm | exact absurd ⟨_,_,_,_,rfl⟩ hvec
   have hux':VRel γ' (D8 cs) w' (DI X' γ' (D8 cs)) u x:=by cases u <;> first | exact hux | exact absurd ⟨_,_,_,_,rfl⟩ hvec
   subst hvu;exact dL hf (fun hv=>hO (cL (vag hcj) hv)) hux'
theorem pF {w':World} {X':Zone} {γ':Nat→Value} {cs:List V} (hok:cs.all PA=true) (hc:Rel B.base 0 w X' γ' ⟨[],D8 cs⟩ IU w') :
  (∀ (γ:Nat→Value) j e ag ks l,cs[j]?=some (.vec e ag ks l)→ObRel B.base γ [] w' (fun b=>HN cs=true→DI X' γ' (D8 cs) b) (γ' (900001+j)) (.row true e ag ks l)∧∀ b,(γ' (900001+j)).ownBlock=some b→EX γ' (D8 cs) b) ∧
  (∀ i j e ag ks l e' ag' ks' l' b,i≠j→cs[i]?=some (.vec e ag ks l)→cs[j]?=some (.vec e' ag' ks' l')→(γ' (900001+i)).ownBlock=some b→(γ' (900001+j)).ownBlock=some b→False) ∧
  (∀ j e ag ks l b,cs[j]?=some (.vec e ag ks l)→(γ' (900001+j)).ownBlock=some b→ES γ' (D8 cs) 900000 b→False):=by
 have hat:∀ {j e ag ks l},cs[j]?=some (V.vec e ag ks l)→DG (D8 cs) (900001+j)=some (.row true e ag ks l):=by
  intro j e ag ks l hj;rw [V1 hok,D4,A4 (by omega)];exact a7 hj
 refine ⟨fun γ j e ag ks l hj=>⟨?_,fun b hb=>⟨_,_,hat hj,hb⟩⟩,?_,?_⟩
 ·have hr:=hc.ob _ _ (hat hj);simp only [ObRel] at hr ⊢;obtain ⟨k1,k2,xs,k3,k4⟩:=hr;refine ⟨k1,k2,xs,k3,fun i y hy=>Kd.RelAll.mono (Keep.refl _ w') (fun b _ hb=>?_) (fun _ _ hu=>hu) (k4 i y hy)⟩;exact hb (cL (vag hj) rfl)
 ·intro i j e ag ks l e' ag' ks' l' b hij h1 h2 hb1 hb2;exact hc.dis _ _ _ _ b (by omega) (hat h1) (hat h2) hb1 hb2
 ·rintro j e ag ks l b hj hb ⟨ob,h1,h2⟩;exact hc.dis _ _ _ _ b (by omega) (hat hj) h1 hb h2
theorem Kl (h:Rel B nt w0 X γ st a w) (hg:GX B w0 X) {f:FuncId} {sp:Q7} (hS:Snd P B f sp) {vs:List V} {xs:List Value} (hv:VRels γ st.o w (DI X γ st.o) vs xs) (hl:FC vs=[]) {tks:List (List Kd)} {v:V} {out:List (List V)}
  (hsp:sp (FT st.o [] tks vs)=some (v,out)) (hnb:∀ cs,v≠.bor cs) (hnv:∀ e ag ks l,v≠.vec e ag ks l) :
  Does P f xs w fun e w'=>∃ x,e = .returned x∧∃ γ',Rel B nt w0 X γ' (st.ups (D7 st.o (match HQ v with | true=>EG vs | false=>[]))) a w' ∧
   VRel γ' (st.ups (D7 st.o (match HQ v with | true=>EG vs | false=>[]))).o w' (DI X γ' (st.ups (D7 st.o (match HQ v with | true=>EG vs | false=>[]))).o) v x:=by
 refine (iF h hg hS hv hl hsp).mono ?_;rintro e w' ⟨x,he,γ',h1,h2,h3,rfl⟩;have hf:KL v=true:=by cases v <;> first | exact h3 | exact absurd rfl (hnb _) | exact absurd rfl (hnv _ _ _ _)
 have hmo:F2 v []=[]:=by cases v <;> first | rfl | exact absurd rfl (hnb _) | exact absurd rfl (hnv _ _ _ _)
 rw [hmo] at h1 h2;rw [R8 hf] at h2;have hz:=(LW st.o (match HQ v with | true=>EG vs | false=>[]) (FrzLe.refl _) h).1;have hp:=lX hz (fun b hb=>hb) h1 X.far (fun b hb=>.inl hb);refine ⟨x,he,γ,hp,jU hf (fun hhl b _ hb=>?_) h2⟩
 have:=ZV h _ hb
 rw [hhl] at this;exact .inr this
theorem Kk (h:Rel B nt w0 X γ st a w) (hg:GX B w0 X) {f:FuncId} {sp:Q7} (hS:Snd P B f sp) {vs:List V} {xs:List Value} (hv:VRels γ st.o w (DI X γ st.o) vs xs) (hl:FC vs=[]) {tks:List (List Kd)} {cs:List V} {out:List (List V)}
  (hsp:sp (FT st.o [] tks vs)=some (.bor cs,out)) (d:Nat) (hd9:d≠900000) (hn9:1000*(d+1)+cs.length≤900000) :
  Does P f xs w fun e w'=>∃ x,e = .returned x∧∃ γ',Rel B nt w0 X γ' (st.ups (D7 st.o (match HN cs with | true=>EG vs | false=>[])++(I9 (1000*(d+1)) cs++[.new d (.box (F1 (1000*(d+1)) cs))]))) a w' ∧
   VRel γ' (st.ups (D7 st.o (match HN cs with | true=>EG vs | false=>[])++(I9 (1000*(d+1)) cs++[.new d (.box (F1 (1000*(d+1)) cs))]))).o w'
    (DI X γ' (st.ups (D7 st.o (match HN cs with | true=>EG vs | false=>[])++(I9 (1000*(d+1)) cs++[.new d (.box (F1 (1000*(d+1)) cs))]))).o) (.ptr d 0 0) x:=by
 refine (iF h hg hS hv hl hsp).mono ?_;rintro e w' ⟨x,he,γ',h1,h2,h3,rfl⟩;simp only [WG] at h3;have hmo:F2 (.bor cs) []=D8 cs:=rfl;rw [hmo] at h1 h2;generalize hX':(⟨fun _=>False,fun b=>DI X γ st.o b∧∀ m∈EG vs,¬ RowOf γ st.o m b⟩:Zone)=X' at h1 h2;have hXo:∀ b,¬ X'.own b:=fun b hb=>by rw [← hX'] at hb; exact hb
 have hz:=(LW st.o (match HN cs with | true=>EG vs | false=>[]) (FrzLe.refl _) h).1;have hPf:∀ b,EX γ' (D8 cs) b→w.heap.size≤b∧b < w'.heap.size:=fun b hb=>by
  obtain ⟨q1,q2⟩:=h1.lt b hb;exact ⟨q2.resolve_right (hXo b),q1⟩
 have hp:=lX hz hXo h1 (fun b=>X.far b∨EX γ' (D8 cs) b) (fun b hb=>hb.imp_right (hPf b));obtain ⟨br1,br2,br3⟩:=pF h3 h1;have hO1:∀ b,DI ⟨X.own,fun b=>X.far b∨EX γ' (D8 cs) b⟩ γ (st.ups (D7 st.o (match HN cs with | true=>EG vs | false=>[]))).o b→(HN cs=true→DI X' γ' (D8 cs) b):=by
  intro b hb hal;rw [hal] at hb;have key:DI X γ (st.ups (D7 st.o (EG vs))).o b∨EX γ' (D8 cs) b:=by
   rcases hb with hb | hb | hb
   ·exact .inl (.inl hb)
   ·exact .inl (.inr hb)
   ·exact .inr hb
  rcases key with hb | hb
  ·have:=ZV h _ hb
   exact .inr (by rw [← hX']; exact this)
  ·exact .inl hb
 obtain ⟨γd,F',r1,r2,r3,r4,r5,r6⟩:=cH (B':=B.base) (g:=fun j=>γ' (900001+j)) (1000*(d+1)) cs 0 (by omega) hp hO1 (fun j e ag ks l hj=>by
   rw [BF];obtain ⟨q1,q2⟩:=br1 γ j e ag ks l hj;exact ⟨q1,fun b hb=>⟨.inr (q2 b hb),.inl (CZ h.keep.size (hPf b (q2 b hb)).1)⟩⟩)
  (fun i j e ag ks l e' ag' ks' l' b hij q1 q2 q3 q4=>by
   rw [BF] at q3 q4;exact br2 i j e ag ks l e' ag' ks' l' b hij q1 q2 q3 q4)
 simp only [C4,BF] at r1 r3 r4 r5 r6;have hob0:DG (D8 cs) 900000=some (.box (F1 900001 cs)):=by rw [V1 h3,D4,BL rfl]
 have hor:=h1.ob _ _ hob0;simp only [ObRel] at hor;obtain ⟨b0,c,T,hg,hh,hr⟩:=hor;have hb0P:EX γ' (D8 cs) b0:=⟨900000,_,hob0,⟨_,hg,rfl⟩⟩;have hadd:=r1.add d hd9 (.box (F1 (1000*(d+1)) cs)) (γ' 900000) (fun b hb=>by
   obtain ⟨ad,q1,q2⟩:=hb;rw [hg] at q1;simp only [CW,AC] at q1;subst q1;simp only at q2;subst q2;exact ⟨r3 b0 (.inr hb0P) (fun j e ag ks l hj hb=>br3 j e ag ks l b0 hj hb ⟨_,hob0,_,hg,rfl⟩),.inl (CZ h.keep.size (hPf b0 hb0P).1)⟩)
  (fun O' hO'=>by
   simp only [ObRel];refine ⟨b0,c,T,hg,hh,sN h3 h1 hr (fun j e ag ks l hj=>?_) (fun hal b _ hb=>hO1 b (r4 b (hO' b hb)) hal)⟩;obtain ⟨q1,q2⟩:=r5 j e ag ks l hj;refine ⟨by rw [A4 (by omega)]; exact q1,?_⟩;rw [F3,A4 (by omega),q2];rfl)
 have hfin:=hadd.shrink (F:=X.far) (fun b hb=>by
   have hlt:=h.fl b hb;refine ⟨r3 b (.inl hb) (fun j e ag ks l hj hbj=>?_),fun hbb=>?_⟩
   ·have:=hPf b ((br1 γ j e ag ks l hj).2 b hbj)
    omega
   ·obtain ⟨ad,q1,q2⟩:=hbb;rw [hg] at q1;simp only [CW,AC] at q1;subst q1;simp only at q2;subst q2
    have:=hPf b0 hb0P
    omega)
 refine ⟨x,he,_,by rw [KA,KA]; exact hfin,?_⟩;rw [KA,KA];simp only [St.ups,VRel,F3,CM];simp only [LH,EE,VRel,hob0] at h2;exact h2
theorem Km (h:Rel B nt w0 X γ st a w) (hg:GX B w0 X) {f:FuncId} {sp:Q7} (hS:Snd P B f sp) {vs:List V} {xs:List Value} (hv:VRels γ st.o w (DI X γ st.o) vs xs) (hl:FC vs=[]) {tks:List (List Kd)} {e:Nat} {ag:Bool} {ks:List Kd} {l:LI} {out:List (List V)}
  (hsp:sp (FT st.o [] tks vs)=some (.vec e ag ks l,out)) (d:Nat) (hd9:d≠900000) :
  Does P f xs w fun e' w'=>∃ x,e' = .returned x∧∃ γ',Rel B nt w0 X γ' (st.ups (D7 st.o (EG vs)++[.new d (.row true e ag ks l)])) a w' ∧
   VRel γ' (st.ups (D7 st.o (EG vs)++[.new d (.row true e ag ks l)])).o w' (DI X γ' (st.ups (D7 st.o (EG vs)++[.new d (.row true e ag ks l)])).o) (.row d 0 l.length) x:=by
 refine (iF h hg hS hv hl hsp).mono ?_;rintro e' w' ⟨x,he,γ',h1,h2,h3,rfl⟩;have hmo:F2 (.vec e ag ks l) []=[(900000,some (.row true e ag ks l))]:=rfl;rw [hmo] at h1 h2;generalize hX':(⟨fun _=>False,fun b=>DI X γ st.o b∧∀ m∈EG vs,¬ RowOf γ st.o m b⟩:Zone)=X' at h1 h2;have hXo:∀ b,¬ X'.own b:=fun b hb=>by rw [← hX'] at hb; exact hb
 have hz:=(LW st.o (EG vs) (FrzLe.refl _) h).1;have hPf:∀ b,EX γ' [(900000,some (.row true e ag ks l))] b→w.heap.size≤b∧b < w'.heap.size:=fun b hb=>by
  obtain ⟨q1,q2⟩:=h1.lt b hb;exact ⟨q2.resolve_right (hXo b),q1⟩
 have hp:=lX hz hXo h1 (fun b=>X.far b∨EX γ' [(900000,some (.row true e ag ks l))] b) (fun b hb=>hb.imp_right (hPf b));have hO1:∀ b,DI ⟨X.own,fun b=>X.far b∨EX γ' [(900000,some (.row true e ag ks l))] b⟩ γ (st.ups (D7 st.o (EG vs))).o b→DI X' γ' [(900000,some (.row true e ag ks l))] b:=by
  intro b hb;have key:DI X γ (st.ups (D7 st.o (EG vs))).o b∨EX γ' [(900000,some (.row true e ag ks l))] b:=by
   rcases hb with hb | hb | hb
   ·exact .inl (.inl hb)
   ·exact .inl (.inr hb)
   ·exact .inr hb
  rcases key with hb | hb
  ·have:=ZV h _ hb
   exact .inr (by rw [← hX']; exact this)
  ·exact .inl hb
 have hob0:DG [(900000,some (.row true e ag ks l))] 900000=some (.row true e ag ks l):=by rw [D4,BL rfl]
 have hor:=h1.ob _ _ hob0;simp only [ObRel] at hor;obtain ⟨k1,k2,ys,k3,k4⟩:=hor;have hg0:∀ b,EY (γ' 900000) (.row true e ag ks l) b→EX γ' [(900000,some (.row true e ag ks l))] b:=fun b hb=>⟨900000,_,hob0,hb⟩
 have hadd:=hp.add d hd9 (.row true e ag ks l) (γ' 900000) (fun b hb=>⟨.inr (hg0 b hb),.inl (CZ h.keep.size (hPf b (hg0 b hb)).1)⟩)
  (fun O' hO'=>by
   simp only [ObRel];exact ⟨k1,k2,ys,k3,fun i y hy=>Kd.RelAll.mono (Keep.refl _ w') (fun b _ hb=>hO1 b (hO' b hb)) (fun _ _ hu=>hu) (k4 i y hy)⟩)
 have hfin:=hadd.shrink (F:=X.far) (fun b hb=>by
   have hlt:=h.fl b hb;refine ⟨.inl hb,fun hbb=>?_⟩
   have:=hPf b (hg0 b hbb)
   omega)
 refine ⟨x,he,_,by rw [KA]; exact hfin,?_⟩;rw [KA];simp only [St.ups,VRel,F3,CM];simp only [LH,VRel,hob0] at h2;exact h2
end
open Go Go.RowKit
mutual
theorem VRel.leaves {γ γ':Nat→Value} {o o':Store} {w:World} {O:Nat→Prop} (h1:∀ n lo hi x,VRel γ o w O (.row n lo hi) x→VRel γ' o' w O (.row n lo hi) x) (h2:∀ n i c x,VRel γ o w O (.ptr n i c) x→VRel γ' o' w O (.ptr n i c) x)
  (h3:∀ n c cap sz len x,VRel γ o w O (.bview n c cap sz len) x→VRel γ' o' w O (.bview n c cap sz len) x):∀ {v:V} {x:Value},VRel γ o w O v x→VRel γ' o' w O v x
 | .any,_,_=>by simp only [VRel]
 | .int _ _,_,h=>by simpa only [VRel] using h
 | .bool _,_,h=>by simpa only [VRel] using h
 | .str _,_,h=>by simpa only [VRel] using h
 | .list _ _ _,_,h=>by simpa only [VRel] using h
 | .zs,_,h=>by simpa only [VRel] using h
 | .row _ _ _,_,h=>h1 _ _ _ _ h
 | .ptr _ _ _,_,h=>h2 _ _ _ _ h
 | .iptr _ _ _,_,h=>by simpa only [VRel] using h
 | .bview _ _ _ _ _,_,h=>h3 _ _ _ _ _ _ h
 | .agg l,x,h=>by
  simp only [VRel] at h ⊢;obtain ⟨cs,hx,hr⟩:=h;exact ⟨cs,hx,VRels.leaves h1 h2 h3 hr⟩
 | .tup l,x,h=>by
  simp only [VRel] at h ⊢;obtain ⟨cs,hx,hr⟩:=h;exact ⟨cs,hx,VRels.leaves h1 h2 h3 hr⟩
 | .err _,_,h=>by simpa only [VRel] using h
 | .nilp,_,h=>by simpa only [VRel] using h
 | .clo _ l,x,h=>by
  simp only [VRel] at h ⊢;obtain ⟨cs,hx,hr⟩:=h;exact ⟨cs,hx,VRels.leaves h1 h2 h3 hr⟩
 | .bor _,_,h=>by simp only [VRel] at h
 | .vec _ _ _ _,_,h=>by simp only [VRel] at h
 | .bld _,_,h=>by simp only [VRel] at h
theorem VRels.leaves {γ γ':Nat→Value} {o o':Store} {w:World} {O:Nat→Prop} (h1:∀ n lo hi x,VRel γ o w O (.row n lo hi) x→VRel γ' o' w O (.row n lo hi) x) (h2:∀ n i c x,VRel γ o w O (.ptr n i c) x→VRel γ' o' w O (.ptr n i c) x)
  (h3:∀ n c cap sz len x,VRel γ o w O (.bview n c cap sz len) x→VRel γ' o' w O (.bview n c cap sz len) x):∀ {l:List V} {xs:List Value},VRels γ o w O l xs→VRels γ' o' w O l xs
 | [],[],_=>by simp only [VRels]
 | [],_ :: _,h=>by simp only [VRels] at h
 | _ :: _,[],h=>by simp only [VRels] at h
 | v :: vs,x :: xs,h=>by
  simp only [VRels] at h ⊢;exact ⟨VRel.leaves h1 h2 h3 h.1,VRels.leaves h1 h2 h3 h.2⟩
end
section
variable {B:BT} {nt:Nat} {w0:World} {X:Zone} {γ:Nat→Value} {st st':St} {a:Act} {w:World} {P:Program} {E:Env}
theorem vA:∀ (hs:List Nat) {st:St} {X:Zone},Rel B nt w0 X γ st a w →
  Rel B nt w0 ⟨X.own,fun b=>X.far b∨∃ m∈hs,ES γ st.o m b⟩ γ (st.ups (KN hs)) a w∧(st.ups (KN hs)).t=st.t∧∀ m,DG (st.ups (KN hs)).o m=if m∈hs then none else DG st.o m
 | [],st,X,h=>⟨h.shrink (fun b hb=>by simpa using hb),rfl,fun m=>by simp [KN,St.ups]⟩
 | n :: r,st,X,h=>by
  obtain ⟨h1,h2,h3⟩:=vA r (h.kill n);have hob:∀ m,DG (st.up (.kill n)).o m=if n=m then none else DG st.o m:=fun m=>by simp only [St.up,D4]
  refine ⟨?_,h2,fun m=>?_⟩
  ·simp only [KN,St.ups];refine h1.shrink (fun b hb=>?_);rcases hb with hb | ⟨m,hm,hb⟩
   ·exact .inl (.inl hb)
   ·by_cases e:n=m
    ·subst e;exact .inl (.inr hb)
    ·rcases AU.1 hm with h4 | h4
     ·exact absurd h4.symm e
     ·obtain ⟨ob,p1,p2⟩:=hb;exact .inr ⟨m,h4,ob,by rw [hob,A4 e]; exact p1,p2⟩
  ·simp only [KN,St.ups];rw [h3,hob];by_cases h4:m∈r
   ·simp [h4]
   ·by_cases h5:n=m
    ·subst h5;simp
    ·have:¬ m=n:=fun e=>h5 e.symm
     simp [h4,h5,this]
theorem uI (h:Rel B nt w0 X γ st a w) (ns:List Nat) {n:Nat} {ob:Ob} (ho:DG st.o n=some ob) (hb:∀ e ag ks l,ob≠.row true e ag ks l):DG (st.ups (D7 st.o ns)).o n=some ob:=by
 obtain ⟨_,h2,_⟩:=LW st.o ns (FrzLe.refl _) h;rcases h2 n with h3 | ⟨e,ag,ks,l,h3,_⟩
 ·rw [h3,ho]
 ·rw [ho,AC] at h3;exact absurd h3 (hb _ _ _ _)
theorem Rel.boundB (h:Rel B nt w0 X γ st a w) {n:Nat} {s:BA} (ho:DG st.o n=some (.bld s)) {w1:World} {own1 F:Nat→Prop} (hk:Keep own1 w1 w)
  (hF:∀ b,F b→DI X γ st.o b∧¬ ES γ st.o n b) (hown:∀ b,ES γ st.o n b→w1.heap.size≤b∨own1 b) :
  Rel B.base 0 w1 ⟨own1,F⟩ (fun _=>γ n) ⟨[],D8 [.bld s]⟩ IU w∧∀ b,EX (fun _=>γ n) (D8 [.bld s]) b→ES γ st.o n b:=by
 have hP:∀ b,EX (fun _=>γ n) (D8 [.bld s]) b→ES γ st.o n b:=by
  rintro b ⟨m,ob,hm,hb⟩;simp only [D8] at hm;rw [D4] at hm;split at hm
  ·simp only [AC] at hm;subst hm;exact ⟨_,ho,hb⟩
  ·simp only [DG,EP] at hm; cases hm
 refine ⟨⟨rfl,rfl,fun i=>by simp only [St.get,EP,VRel],fun m ob hm=>?_,fun b hb=>?_,?_,hk,?_,?_,fun p hp=>by cases hp⟩,hP⟩
 ·simp only [D8] at hm;rw [D4] at hm;split at hm
  ·simp only [AC] at hm;subst hm
   have:=h.ob n _ ho
   simpa only [ObRel,BT.base] using this
  ·simp only [DG,EP] at hm; cases hm
 ·obtain ⟨ob,h1,h2⟩:=hP b hb;exact ⟨(h.lt b ⟨n,ob,h1,h2⟩).1,hown b (hP b hb)⟩
 ·intro m1 m2 ob1 ob2 b hne h1 h2 _ _;simp only [D8] at h1 h2;rw [D4] at h1 h2;split at h1
  ·split at h2
   ·omega
   ·simp only [DG,EP] at h2; cases h2
  ·simp only [DG,EP] at h1; cases h1
 ·intro b hb hf;exact (hF b hf).2 (hP b hb)
 ·intro b hb;rcases (hF b hb).1 with h1 | h1
  ·exact (h.lt b h1).1
  ·exact h.fl b h1
theorem Ki (h:Rel B nt w0 X γ st a w) (hg:GX B w0 X) {f:FuncId} {sp:Q7} (hS:Snd P B f sp) {vs:List V} {xs:List Value} (hv:VRels γ st.o w (DI X γ st.o) vs xs) {n:Nat} (hl:FC vs=[n]) {s s':BA} (ho:DG st.o n=some (.bld s))
  {tks:List (List Kd)} {v:V} (hsp:sp (FT st.o [.bld s] tks vs)=some (v,[[.bld s']])) (hib:dR (FW (FT st.o [.bld s] tks vs))=true) :
  Does P f xs w fun e w'=>∃ x,e = .returned x∧∃ γ',Rel B nt w0 X γ' (st.ups (D7 st.o (match HQ v with | true=>EG vs | false=>[])++[.set n (.bld s')])) a w' ∧
   VRel γ' (st.ups (D7 st.o (match HQ v with | true=>EG vs | false=>[])++[.set n (.bld s')])).o w' (DI X γ' (st.ups (D7 st.o (match HQ v with | true=>EG vs | false=>[])++[.set n (.bld s')])).o) v x:=by
 have hL:∀ b,ES γ st.o n b→w.heap.size≤b∨ES γ st.o n b:=fun b hb=>.inr hb
 obtain ⟨hR,hP⟩:=h.boundB ho (w1:=w) (own1:=ES γ st.o n) (F:=fun b=>DI X γ st.o b∧¬ ES γ st.o n b∧∀ m∈EG vs,¬ RowOf γ st.o m b) (Keep.refl _ w) (fun b hb=>⟨hb.1,hb.2.1⟩) hL;generalize hX':(⟨ES γ st.o n,fun b=>DI X γ st.o b∧¬ ES γ st.o n b∧∀ m∈EG vs,¬ RowOf γ st.o m b⟩:Zone)=X' at hR;have hXf:∀ b,X'.far b↔(DI X γ st.o b∧¬ ES γ st.o n b∧∀ m∈EG vs,¬ RowOf γ st.o m b):=fun b=>by rw [← hX']
 have hXo:∀ b,X'.own b↔ES γ st.o n b:=fun b=>by rw [← hX']
 have hnP:∀ b,ES γ st.o n b→EX γ st.o b:=fun b ⟨ob,h1,h2⟩=>⟨n,ob,h1,h2⟩
 rcases (cS (o:=st.o) (bs:=[.bld s]) (l:=vs) (tks:=tks)).1 with hb | hb
 ·rw [hb] at hib;cases hib
 ·have hm:H3 (FT st.o [.bld s] tks vs)=D8 [.bld s]:=by simp only [H3,hb]
  have hcall:=hS w X' (fun _=>γ n) (FT st.o [.bld s] tks vs) xs v [[.bld s']] hsp (h.glob hg) (fun b hb=>h.high hg (hnP b ((hXo b).1 hb))) (by rw [hm]; exact hR) (by
   rw [hm];refine cO h (fun b _ hb=>?_) [.bld s] hv (fun m hm b hr hb=>?_) (fun m hm=>?_)
   ·rcases hb with hb | hb
    ·exact .inl (hnP b (hP b hb))
    ·exact ((hXf b).1 hb).1
   ·rcases hb with hb | hb
    ·obtain ⟨e,ag,ks,l,h5,h6⟩:=hr;obtain ⟨ob,h7,h8⟩:=hP b hb;have hne:n≠m:=by
      rintro rfl;rw [ho] at h5;cases h5
     exact h.dis n m ob _ b hne h7 h5 h8 h6
    ·exact ((hXf b).1 hb).2.2 m hm hr
   ·rw [hl] at hm;simp only [BU] at hm;subst hm;exact ⟨rfl,.inr ⟨s,s,ho,by simp [D8,D4]⟩⟩)
  refine hcall.mono ?_;rintro e w' ⟨x,he,γ',h1,h2,h3⟩;simp only [JN,hb] at h3;obtain ⟨hf,_,had⟩:=h3;have hmo:F2 v [[.bld s']]=D8 [.bld s']:=by cases v <;> rfl
  rw [hmo] at h1 h2;rw [R8 hf] at h2;refine ⟨x,he,?_⟩;generalize hF0:(match HQ v with | true=>EG vs | false=>[])=F0;have hz:=(LW st.o F0 (FrzLe.refl _) h).1;have hon:=uI h F0 ho (fun _ _ _ _=>by simp);have hob0:DG (D8 [.bld s']) 900000=some (.bld s'):=by simp [D8,D4]
  have hor:=h1.ob _ _ hob0;have hor0:=h.ob _ _ ho;simp only [ObRel] at hor hor0;obtain ⟨b1,v1,p1,hg1,_⟩:=hor;obtain ⟨b0,v0,p0,hg0,_⟩:=hor0;have hbb:b1=b0:=by
   rw [hg1,hg0] at had;simpa [P0] using had
  subst hbb;have hbl:∀ b,ES γ (st.ups (D7 st.o F0)).o n b↔ES γ st.o n b:=fun b=>by simp only [ES,hon,ho]
  have hOP:∀ b,EY (γ' 900000) (.bld s') b→EX γ' (D8 [.bld s']) b:=fun b hb=>⟨_,_,hob0,hb⟩
  have hsz:=h1.keep.size;have hlend:=hz.lend (n:=n) (ob':=.bld s') (g':=γ' 900000) hon had h1.keep (K:=X'.own) (fun b _ hb=>.inl ((hbl b).2 ((hXo b).1 hb)))
   (fun b hb=>by
    obtain ⟨q1,q2⟩:=h1.lt b (hOP b hb);exact ⟨q1,q2.elim .inr (fun hb=>.inl ((hbl b).2 ((hXo b).1 hb)))⟩)
   (fun O v x hvx=>VRel.leaves (fun m lo hi x hx=>by
     simp only [VRel] at hx ⊢;rw [D4];by_cases e:n=m
     ·subst e; simp only [CM]
     ·simp only [A4 e]; exact hx) (fun m i c x hx=>by
     simp only [VRel] at hx ⊢;rw [D4];by_cases e:n=m
     ·subst e;simp only [CM];rw [hon] at hx;obtain ⟨rfl,b,v',hg,hxx⟩:=hx;rw [hg0] at hg;simp only [Value.tuple.injEq,Array.mk.injEq,vaV,CW,AC,DA,BX] at hg;refine ⟨rfl,b1,v1,hg1,?_⟩;rw [hxx,hg.1]
     ·simp only [A4 e]; exact hx) (fun m c cap sz len x hx=>by
     simp only [VRel] at hx ⊢;rw [D4];by_cases e:n=m
     ·subst e; simp only [CM]
     ·simp only [A4 e]; exact hx) hvx)
   (by
    have hor:=h1.ob _ _ hob0;simpa only [ObRel,BT.base] using hor)
  have hfin:=hlend.shrink (F:=X.far) (fun b hb=>⟨.inl hb,fun hbb=>by
   obtain ⟨q1,q2⟩:=h1.lt b (hOP b hbb)
   have:=h.fl b hb
   rcases q2 with q2 | q2
   ·omega
   ·exact h.nr b (hnP b ((hXo b).1 q2)) hb⟩)
  refine ⟨_,by rw [KA]; exact hfin,?_⟩;rw [KA];refine jU hf (fun hhl b hlt hb=>?_) h2;rw [hhl] at hF0;simp only at hF0;rcases hb with ⟨m,ob,hm,hbm⟩ | hb
  ·simp only [St.ups,St.up] at hm;rw [D4] at hm;by_cases e:n=m
   ·subst e;simp only [CM,AC] at hm hbm;subst hm;exact .inl (hOP b hbm)
   ·simp only [A4 e] at hm hbm;obtain ⟨q1,q2⟩:=ZV h F0 (b:=b) (.inl ⟨m,ob,hm,hbm⟩);refine .inr ((hXf b).2 ⟨q1,fun hbn=>?_,by rw [hF0]; exact q2⟩);obtain ⟨ob2,q3,q4⟩:=(hbl b).2 hbn;exact hz.dis n m ob2 ob b e q3 hm q4 hbm
  ·refine .inr ((hXf b).2 ⟨.inr hb,fun hbn=>h.nr b (hnP b hbn) hb,fun m _ ⟨e,ag,ks,l,q1,q2⟩=>h.nr b ⟨m,_,q1,q2⟩ hb⟩)
theorem fJ {o:Store} {all:List Nat} {n:Nat}:∀ {cs:List V},n∈HB o all cs→∃ lo hi own e ag ks l,.row n lo hi∈cs∧DG o n=some (.row own e ag ks l)∧(own&&(BI lo 0&&BI (G9 n all) 1))=false
 | [],h=>by simp [HB] at h
 | v :: r,h=>by
  have up:n∈HB o all r→∃ lo hi own e ag ks l,.row n lo hi∈v :: r∧DG o n=some (.row own e ag ks l)∧(own&&(BI lo 0&&BI (G9 n all) 1))=false:=fun h'=>by
   obtain ⟨lo,hi,own,e,ag,ks,l,h1,h2,h3⟩:=fJ h';exact ⟨lo,hi,own,e,ag,ks,l,AX _ h1,h2,h3⟩
  cases v
  case row m lo hi=>
   simp only [HB] at h;split at h
   ·rename_i own e ag ks l hob;split at h
    ·exact up h
    ·rename_i hb;rcases AU.1 h with h1 | h1
     ·subst h1;exact ⟨lo,hi,own,e,ag,ks,l,AT ..,hob,hb⟩
     ·exact up h1
   ·exact up h
  all_goals exact up h
theorem Kj (h:Rel B nt w0 X γ st a w) (hg:GX B w0 X) {f:FuncId} {sp:Q7} (hS:Snd P B f sp) {vs:List V} {xs:List Value} (hv:VRels γ st.o w (DI X γ st.o) vs xs) {n:Nat} (hl:FC vs=[n]) {cs:List V} (ho:DG st.o n=some (.box cs)) {all:List Nat} (hall:EI cs++EG vs=all)
  {tks:List (List Kd)} {v:V} {out:List V} (hsp:sp (FT st.o (cs.map (E1 st.o all)) tks vs)=some (v,[out])) (hib:dR (FW (FT st.o (cs.map (E1 st.o all)) tks vs))=true) {nm:Nat} (hlen:out.length=cs.length) (hnm:n < nm∨nm+out.length≤n) (hn9:nm+out.length≤900000) :
  Does P f xs w fun e w'=>∃ x,e = .returned x∧∃ γ',Rel B nt w0 X γ' (st.ups (D7 st.o (HB st.o all cs++(match HQ v||HN out with | true=>EG vs | false=>[])) ++
     (KN (GK st.o all cs)++(.set n (.box (MC cs)) :: (I9 nm out++[.set n (.box (F1 nm out))]))))) a w' ∧
   VRel γ' (st.ups (D7 st.o (HB st.o all cs++(match HQ v||HN out with | true=>EG vs | false=>[])) ++
     (KN (GK st.o all cs)++(.set n (.box (MC cs)) :: (I9 nm out++[.set n (.box (F1 nm out))]))))).o w' (DI X γ' (st.ups (D7 st.o (HB st.o all cs++(match HQ v||HN out with | true=>EG vs | false=>[])) ++
     (KN (GK st.o all cs)++(.set n (.box (MC cs)) :: (I9 nm out++[.set n (.box (F1 nm out))]))))).o) v x:=by
 let L:Nat→Prop:=fun b=>ES γ st.o n b∨∃ m∈GK st.o all cs,ES γ st.o m b
 have hLP:∀ b,L b→EX γ st.o b:=by
  rintro b (⟨ob,h1,h2⟩ | ⟨m,_,ob,h1,h2⟩)
  ·exact ⟨n,ob,h1,h2⟩
  ·exact ⟨m,ob,h1,h2⟩
 have hbound:=h.bound ho (EG vs) (w1:=w) (own1:=L) (F:=fun b=>DI X γ st.o b∧¬ L b∧(∀ m∈HB st.o all cs,¬ ES γ st.o m b)∧∀ m∈EG vs,¬ RowOf γ st.o m b) (Keep.refl _ w)
  (fun b hb=>⟨hb.1,fun h1=>hb.2.1 (.inl h1),fun m hm h1=>hb.2.1 (.inr ⟨m,by rw [← hall]; exact hm,h1⟩),by rw [hall]; exact hb.2.2.1⟩) (fun b hb=>.inr (by rw [hall] at hb; exact hb))
 rw [hall] at hbound;obtain ⟨γb,hR,hg0,hP⟩:=hbound;generalize hX':(⟨L,fun b=>DI X γ st.o b∧¬ L b∧(∀ m∈HB st.o all cs,¬ ES γ st.o m b)∧∀ m∈EG vs,¬ RowOf γ st.o m b⟩:Zone)=X' at hR;have hXf:∀ b,X'.far b↔(DI X γ st.o b∧¬ L b∧(∀ m∈HB st.o all cs,¬ ES γ st.o m b)∧∀ m∈EG vs,¬ RowOf γ st.o m b):=fun b=>by rw [← hX']
 have hXo:∀ b,X'.own b↔L b:=fun b=>by rw [← hX']
 have hb:FW (FT st.o (cs.map (E1 st.o all)) tks vs)=some (cs.map (E1 st.o all)):=by
  rcases (cS (o:=st.o) (bs:=cs.map (E1 st.o all)) (l:=vs) (tks:=tks)).1 with hb | hb
  ·rw [hb] at hib; cases hib
  ·exact hb
 have hm:H3 (FT st.o (cs.map (E1 st.o all)) tks vs)=D8 (cs.map (E1 st.o all)):=by simp only [H3,hb]
 have hargs:∀ m∈EG vs,∀ b,RowOf γ st.o m b→¬ L b:=by
  intro m hm b hr hLb;obtain ⟨e,ag,ks,l,h5,h6⟩:=hr;rcases hLb with ⟨ob,h7,h8⟩ | ⟨m2,h9,ob,h7,h8⟩
  ·have hne:n≠m:=by
    rintro rfl;rw [ho] at h5;cases h5
   exact h.dis n m ob _ b hne h7 h5 h8 h6
  ·by_cases hne:m2=m
   ·subst hne;obtain ⟨hi2,e2,ag2,ks2,l2,k1,k2,k3⟩:=QD.1 h9;rw [← hall,RW] at k3;have q1:=RX (UD k1);have q2:=RX hm;omega
   ·exact h.dis m2 m ob _ b hne h7 h5 h8 h6
 have hok0:∀ v,PA (E1 st.o all v)=true:=by
  intro v;rcases ZM st.o all v with ⟨_,_,_,_,_,_,_,_,_,h1⟩ | ⟨h1,_⟩
  ·rw [h1]; rfl
  ·cases hcc:E1 st.o all v <;> first | rfl | (rw [hcc] at h1; cases h1)
 have hcall:=hS w X' γb (FT st.o (cs.map (E1 st.o all)) tks vs) xs v [out] hsp (h.glob hg) (fun b hb=>h.high hg (hLP b ((hXo b).1 hb))) (by rw [hm]; exact hR) (by
  rw [hm];refine cO h (fun b _ hb=>?_) _ hv (fun m hm b hr hb=>?_) (fun m hm=>?_)
  ·rcases hb with hb | hb
   ·exact .inl (hLP b (hP b hb))
   ·exact ((hXf b).1 hb).1
  ·rcases hb with hb | hb
   ·exact hargs m hm b hr (hP b hb)
   ·exact ((hXf b).1 hb).2.2.2 m hm hr
  ·rw [hl] at hm;simp only [BU] at hm;subst hm;exact ⟨hg0,.inl ⟨cs,_,ho,by rw [V1 (CP.2 (fun v hv=>by obtain ⟨u,_,rfl⟩:=CY.1 hv; exact hok0 u)),D4,BL rfl]⟩⟩)
 refine hcall.mono ?_;rintro e w' ⟨x,he,γ',h1,h2,h3⟩;simp only [JN,hb] at h3;obtain ⟨hf,hsk,had⟩:=h3;have hok:out.all PA=true:=by
  unfold mS at hsk;split at hsk
  ·rename_i s s' hcs;cases cs with
   | nil=>simp at hcs
   | cons u r=>
    simp only [AZ,vaV] at hcs
    have:=hok0 u
    rw [hcs.1] at this;cases this
  ·cases hsk
  ·exact hsk
 have hmo:F2 v [out]=D8 out:=by cases v <;> rfl
 rw [hmo] at h1 h2;rw [R8 hf] at h2;refine ⟨x,he,?_⟩;generalize hF0:HB st.o all cs++(match HQ v||HN out with | true=>EG vs | false=>[])=F0;have hz:=(LW st.o F0 (FrzLe.refl _) h).1;have hzf:=(LW st.o F0 (FrzLe.refl _) h).2.1;have hon:=uI h F0 ho (fun _ _ _ _=>by simp);obtain ⟨hk,hkt,hko⟩:=vA (GK st.o all cs) hz;have hnh:n ∉ GK st.o all cs:=by
  intro hn;obtain ⟨_,_,_,_,_,_,q,_⟩:=QD.1 hn;rw [ho] at q;cases q
 have hon2:DG ((st.ups (D7 st.o F0)).ups (KN (GK st.o all cs))).o n=some (.box cs):=by rw [hko,A4 hnh]; exact hon
 have hor0:=h.ob _ _ ho;simp only [ObRel] at hor0;obtain ⟨b0,c0,T0,hgn,hh0,hr0⟩:=hor0;have hob0:DG (D8 out) 900000=some (.box (F1 900001 out)):=by rw [V1 hok,D4,BL rfl]
 have hor:=h1.ob _ _ hob0;simp only [ObRel] at hor;obtain ⟨b1,c,T,hg,hh,hr⟩:=hor;have hbb:b1=b0:=by
  rw [hg,hg0,hgn] at had;simpa [P0] using had
 subst hbb;have hg':γ' 900000=γ n:=by rw [hg,hgn]
 have hsz:=h1.keep.size;have hbn:∀ b,ES γ st.o n b↔b=b1:=by
  intro b;constructor
  ·rintro ⟨ob,h5,h6⟩;rw [ho] at h5;cases h5;obtain ⟨ad,h7,h8⟩:=h6;rw [hgn] at h7;cases h7;exact h8.symm
  ·rintro rfl;exact ⟨_,ho,_,hgn,rfl⟩
 have hbn2:∀ b,ES γ ((st.ups (D7 st.o F0)).ups (KN (GK st.o all cs))).o n b↔b=b1:=by
  intro b;rw [← hbn b];simp only [ES,hon2,ho]
 have hbx:∀ l b,EY (γ n) (.box l) b↔b=b1:=by
  intro l b;rw [← hbn b];simp only [ES,ho,AC,exists_eq_left',EY]
 have hhb:∀ m∈GK st.o all cs,∀ b,ES γ st.o m b→ES γ (st.ups (D7 st.o F0)).o m b:=by
  rintro m hm b ⟨ob,h5,h6⟩;obtain ⟨hi2,e2,ag2,ks2,l2,k1,k2,k3⟩:=QD.1 hm;refine ⟨ob,?_,h6⟩;rw [(LW st.o F0 (FrzLe.refl _) h).2.2.2.2 m ?_]
  ·exact h5
  ·intro hmF;rw [← hF0] at hmF;rcases AV.1 hmF with h7 | h7
   ·obtain ⟨lo3,hi3,own3,e3,ag3,ks3,l3,q1,q2,q3⟩:=fJ h7;obtain ⟨i1,hi1⟩:=List.mem_iff_getElem?.1 k1;obtain ⟨i2,hi2⟩:=List.mem_iff_getElem?.1 q1;rw [← hall,RW] at k3;rcases Nat.lt_trichotomy i1 i2 with hlt | hlt | hlt
    ·have:=UH hlt hi1 hi2
     omega
    ·subst hlt;rw [hi1] at hi2;simp only [AC,V.row.injEq,vaZ] at hi2;obtain ⟨rfl,rfl⟩:=hi2;rw [k2] at q2;simp only [AC,Ob.row.injEq] at q2;obtain ⟨rfl,_⟩:=q2;rw [← hall,RW,k3] at q3;simp at q3
    ·have:=UH hlt hi2 hi1
     omega
   ·have q1:m∈EG vs:=by
     split at h7
     ·exact h7
     ·cases h7
    rw [← hall,RW] at k3
    have:=RX (UD k1)
    have:=RX q1
    omega
 have hlend:=hk.lend (n:=n) (ob':=.box (MC cs)) (g':=γ n) hon2 rfl h1.keep (K:=X'.own)
  (fun b hlt hb=>by
   have hLb:=(hXo b).1 hb;rcases hLb with h5 | ⟨m,h6,h7⟩
   ·exact .inl ((hbn2 b).2 ((hbn b).1 h5))
   ·refine .inr ⟨.inr ⟨m,h6,hhb m h6 b h7⟩,?_⟩;exact (h.lt b (hLP b (.inr ⟨m,h6,h7⟩))).2)
  (fun b hb=>by
   have:=(hbx _ b).1 hb
   subst this;exact ⟨CT (h.lt _ ⟨n,_,ho,(hbx _ _).2 rfl⟩).1 hsz,.inl ((hbn2 _).2 rfl)⟩)
  (fun O v x hvx=>by
   refine VRel.cmp ?_ hvx;intro m ob1 hm;refine ⟨by by_cases e:n=m <;> simp [e],?_⟩;rw [D4] at hm;by_cases e:n=m
   ·subst e;simp only [CM,AC] at hm;subst hm;exact ⟨_,hon2,by simp [Ob.fits,VK]⟩
   ·rw [A4 e] at hm;exact ⟨ob1,hm,ob1.fits_refl⟩)
  (by
   simp only [ObRel];refine ⟨b1,c,T,hgn,hh,?_⟩;have hcl:=hr.length;rw [VM,hlen] at hcl;refine VRels.of_get (by rw [VK,B7,hcl]) (fun j v x hv hx=>?_);rw [VK,B5] at hv;cases hcj:cs[j]? with
   | none=>rw [hcj] at hv; cases hv
   | some u=>
    rw [hcj] at hv;simp only [vaC,AC] at hv;subst hv;simp only [VRel])
 obtain ⟨br1,br2,br3⟩:=pF hok h1;have hPf:∀ b,EX γ' (D8 out) b→(w.heap.size≤b∧b < w'.heap.size)∨L b:=fun b hb=>by
  obtain ⟨q1,q2⟩:=h1.lt b hb;rcases q2 with q2 | q2
  ·exact .inl ⟨q2,q1⟩
  ·exact .inr ((hXo b).1 q2)
 have hb1P:EX γ' (D8 out) b1:=⟨900000,_,hob0,⟨_,hg,rfl⟩⟩;have hLb1:L b1:=.inl ((hbn b1).2 rfl);have hsh:=hlend.shrink (F:=fun b=>(X.far b∨EX γ' (D8 out) b)∧b≠b1) (fun b hb=>by
  refine ⟨?_,fun hbb=>hb.2 ((hbx _ b).1 hbb)⟩;rcases hb.1 with h5 | h5
  ·exact .inl (.inl h5)
  ·rcases hPf b h5 with h6 | h6 | ⟨m,h6,h7⟩
   ·exact .inr h6
   ·exact absurd ((hbn b).1 h6) hb.2
   ·exact .inl (.inr ⟨m,h6,hhb m h6 b h7⟩))
 have hfarX:∀ b,X.far b→X'.far b:=fun b hb=>(hXf b).2 ⟨.inr hb,fun hL=>h.nr b (hLP b hL) hb,fun m _ ⟨ob,q1,q2⟩=>h.nr b ⟨m,ob,q1,q2⟩ hb,fun m _ ⟨e,ag,ks,l,q1,q2⟩=>h.nr b ⟨m,_,q1,q2⟩ hb⟩
 have hO1:∀ b,DI ⟨X.own,fun b=>(X.far b∨EX γ' (D8 out) b)∧b≠b1⟩ (fun m=>if n=m then γ n else γ m) (((st.ups (D7 st.o F0)).ups (KN (GK st.o all cs))).up (.set n (.box (MC cs)))).o b →
   ((HQ v||HN out)=true→DI X' γ' (D8 out) b):=by
  intro b hb hflag;rcases hb with ⟨m,ob,hm,hbm⟩ | ⟨hb | hb,_⟩
  ·simp only [St.up] at hm;rw [D4] at hm;by_cases e:n=m
   ·subst e;simp only [CM,AC] at hm hbm;subst hm
    have:=(hbx _ b).1 hbm
    subst this;exact .inl hb1P
   ·simp only [A4 e] at hm hbm;rw [hko] at hm;split at hm
    ·cases hm
    rename_i hmh;obtain ⟨q1,q2⟩:=ZV h F0 (b:=b) (.inl ⟨m,ob,hm,hbm⟩);refine .inr ((hXf b).2 ⟨q1,fun hL=>?_,fun m' hm' hbl=>?_,fun m' hm'=>?_⟩)
    ·rcases hL with h5 | ⟨m2,h5,h6⟩
     ·obtain ⟨ob2,q3,q4⟩:ES γ (st.ups (D7 st.o F0)).o n b:=⟨_,hon,(hbx _ b).2 ((hbn b).1 h5)⟩;exact hz.dis n m ob2 ob b e q3 hm q4 hbm
     ·obtain ⟨ob2,q3,q4⟩:=hhb m2 h5 b h6;exact hz.dis m2 m ob2 ob b (fun e=>hmh (e ▸ h5)) q3 hm q4 hbm
    ·obtain ⟨lo3,hi3,own3,e3,ag3,ks3,l3,p1,p2,p3⟩:=fJ hm';obtain ⟨ob2,q3,q4⟩:=hbl;rw [p2,AC] at q3;subst q3;cases own3 with
     | false=>exact q4.elim
     | true=>exact q2 m' (by rw [← hF0]; exact vaD _ hm') ⟨e3,ag3,ks3,l3,p2,q4⟩
    ·refine q2 m' ?_;rw [← hF0,hflag];exact vaz _ hm'
  ·exact .inr (hfarX b hb)
  ·exact .inl hb
 have hrows:=cH (B':=B.base) (O1:=fun b=>HN out=true→DI X' γ' (D8 out) b) (g:=fun j=>γ' (900001+j)) nm out 0 (by omega) hsh (fun b hb hal=>hO1 b hb (by simp [hal])) (fun j e ag ks l hj=>by
   rw [BF];obtain ⟨q1,q2⟩:=br1 (fun m=>if n=m then γ n else γ m) j e ag ks l hj;refine ⟨q1,fun b hb=>⟨⟨.inr (q2 b hb),?_⟩,?_⟩⟩
   ·rintro rfl;exact br3 j e ag ks l _ hj hb ⟨_,hob0,_,hg,rfl⟩
   ·rcases hPf b (q2 b hb) with h5 | h5
    ·exact .inl (CZ h.keep.size h5.1)
    ·exact (h.lt b (hLP b h5)).2)
  (fun i j e ag ks l e' ag' ks' l' b hij q1 q2 q3 q4=>by
   rw [BF] at q3 q4;exact br2 i j e ag ks l e' ag' ks' l' b hij q1 q2 q3 q4)
 obtain ⟨γ4,F4,r1,r2,r3,r4,r5,r6⟩:=hrows;simp only [C4,BF] at r1 r3 r4 r5 r6;obtain ⟨hγn,hobn,_⟩:=r6 n hnm;have hon4:=hobn cs (by simp only [St.up,D4,CM]);simp only [CM] at hγn;have hset:=r1.set (n:=n) (ob':=.box (F1 nm out)) hon4 (by simp only [Ob.fits,VK,B7,VM,hlen]) (Keep.refl _ w') (fun b hb=>hb) (fun hown hcmp=>by
  simp only [ObRel];refine ⟨b1,c,T,by rw [hγn,hgn],hh,sN hok h1 hr (fun j e ag ks l hj=>?_) (fun hal b _ hb=>hO1 b (r4 b (hown b hb)) (by simp [hal]))⟩;obtain ⟨q1,q2⟩:=r5 j e ag ks l hj;refine ⟨q1,?_⟩;have hjl:j < out.length:=by
   rcases C6 j out.length with h' | h'
   ·exact h'
   ·rw [BM h'] at hj; cases hj
  rw [D4,A4 (by omega)];exact q2)
 have hfin:=hset.shrink (F:=X.far) (fun b hb=>by
  refine r3 b ⟨.inl hb,fun e=>h.nr b (hLP b (e ▸ hLb1)) hb⟩ (fun j e ag ks l hj hbj=>?_);rcases hPf b ((br1 γ j e ag ks l hj).2 b hbj) with h5 | h5
  ·have:=h.fl b hb
   omega
  ·exact h.nr b (hLP b h5) hb)
 have hst:(st.ups (D7 st.o F0++(KN (GK st.o all cs)++(.set n (.box (MC cs)) :: (I9 nm out++[.set n (.box (F1 nm out))]))))) =
   (((((st.ups (D7 st.o F0)).ups (KN (GK st.o all cs))).up (.set n (.box (MC cs)))).ups (I9 nm out)).up (.set n (.box (F1 nm out)))):=by
  rw [KA,KA];simp only [St.ups];rw [KA];rfl
 rw [hst];refine ⟨_,hfin,jU hf (fun hhl b _ hb=>?_) h2⟩;rcases hb with ⟨m,ob,hm,hbm⟩ | hb
 ·simp only [St.up] at hm;rw [D4] at hm;refine hO1 b (r4 b (.inl ?_)) (by simp [hhl]);by_cases e:n=m
  ·subst e;simp only [CM,AC] at hm;subst hm;exact ⟨n,_,hon4,hbm⟩
  ·rw [A4 e] at hm;exact ⟨m,ob,hm,hbm⟩
 ·exact .inr (hfarX b hb)
end
open Go Go.RowKit
section
variable {B:BT} {nt:Nat} {w0:World} {X:Zone} {γ:Nat→Value} {st st':St} {a:Act} {w:World} {P:Program} {E:Env}
theorem sJ (h:Rel B nt w0 X γ st a w) (hg:GX B w0 X) {f:FuncId} {sp:DO} (hS:Snd P B f (fun vs=>(sp vs).get)) {vs:List V} {xs:List Value} (hv:VRels γ st.o w (DI X γ st.o) vs xs) {d:Nat} (hd9:d≠900000) {tks:List (List Kd)} {v:V} {us:List Upd} (he:(RK st.o d tks sp vs).get=some (v,us)) :
  Does P f xs w fun e w'=>∃ x,e = .returned x∧∃ γ',Rel B nt w0 X γ' (st.ups us) a w'∧VRel γ' (st.ups us).o w' (DI X γ' (st.ups us).o) v x:=by
 unfold RK at he;split at he
 ·rename_i hl;obtain ⟨r,out,hsp,he⟩:=R.toT_get he;unfold ZF at he;split at he
  ·split at he
   ·rename_i cs;split at he
    ·rename_i hc;simp only [T.get,AC,AS] at he;obtain ⟨rfl,rfl⟩:=he;exact Kk h hg hS hv hl hsp d hd9 (AM hc)
    ·simp [T.get] at he
   ·simp only [T.get,AC,AS] at he;obtain ⟨rfl,rfl⟩:=he;exact Km h hg hS hv hl hsp d hd9
   ·rename_i hnb hnv;simp only [T.get,AC,AS] at he;obtain ⟨rfl,rfl⟩:=he;exact Kl h hg hS hv hl hsp hnb hnv
  ·simp [T.get] at he
 ·rename_i n hl;split at he
  ·rename_i cs ho;split at he
   ·rename_i hib;obtain ⟨r,outs,hsp,he⟩:=R.toT_get he;unfold ZE at he;split at he
    ·split at he
     ·rename_i hc;simp only [T.get,AC,AS] at he;obtain ⟨rfl,rfl⟩:=he;simp only [AH,vax] at hc;refine Kj h hg hS hv hl ho rfl hsp hib (FK.1 hc.1) (hc.2.1.imp (fun h=>AM h) (fun h=>AM h)) (AM hc.2.2)
     ·simp [T.get] at he
    ·simp [T.get] at he
   ·simp [T.get] at he
  ·rename_i s ho;split at he
   ·rename_i hib;obtain ⟨r,outs,hsp,he⟩:=R.toT_get he;unfold ZD at he;split at he
    ·simp only [T.get,AC,AS] at he;obtain ⟨rfl,rfl⟩:=he;exact Ki h hg hS hv hl ho hsp hib
    ·simp [T.get] at he
   ·simp [T.get] at he
  ·simp [T.get] at he
 ·simp [T.get] at he
def K6 (l:LI):List Value:=l.map fun x=>Value.int .i64 x.toInt
def sM:V→Value
 | .int k n=>.int k n
 | _=>undef
def R7 (w:World) (v:Value):List V→List Value→Prop
 | [],[]=>True
 | [.clo f [.bor cs]],[y]=>∃ b c T,y = .func (.func f) #[] #[.pointer (some ⟨b,0,none⟩)]∧w.heap[b]?=some (.cells c T (0,0))∧c.toList=cs.map sM∧v.ownBlock≠some b
 | _,_=>False
def PS (P:Program) (f:FuncId) (p:Ip):Prop:=
 ∀ (w:World) (v:Value) (l l':LI) (rs:List V) (ys:List Value),w.ownsRow 0 p.e 1 v l.length (K6 l)→(∀ x∈l,AB.min≤x.toInt∧x.toInt≤AB.max)→l.length≤strMax →
  R7 w v rs ys→p.g rs l=some l' →
  Does P f (v :: ys) w fun e w'=>∃ x,e = .returned x∧w.grownBy w' v.ownBlock∧(∀ x∈l',AB.min≤x.toInt∧x.toInt≤AB.max) ∧
   (p.ret=true→w'.ownsRow 0 p.e 1 x l'.length (K6 l')∧∀ b,x.ownBlock=some b→v.ownBlock=some b∨w.heap.size≤b) ∧
   (p.ret=false→w'.ownsRow 0 p.e 1 v l'.length (K6 l'))
theorem Kt {w:World} {O:Nat→Prop} {l:LI} {xs:List Value} (hl:xs.length=l.length*1)
  (h:∀ i y,l[i]?=some y→Kd.RelAll w O [.z] (FQ false y) 0 (fun j u=>xs[i*1+j]?=some u)):xs=K6 l∧∀ x∈l,AB.min≤x.toInt∧x.toInt≤AB.max:=by
 have one:∀ (i:Nat) (y:IV),l[i]?=some y→xs[i]?=some (.int .i64 y.toInt)∧AB.min≤y.toInt∧y.toInt≤AB.max:=fun i y hy=>by
  have:=h i y hy
  simp only [Kd.RelAll,FQ,BX,Nat.mul_one,C4] at this;obtain ⟨u,hu,hk⟩:=this;simp only [Kd.Rel] at hk;rw [hu,hk.1];exact ⟨rfl,hk.2⟩
 constructor
 ·apply List.ext_getElem?;intro i;unfold K6;rw [B5];cases hy:l[i]? with
  | none=>
   rw [List.getElem?_eq_none_iff] at hy;rw [BM (by omega)];rfl
  | some y=>rw [(one i y hy).1]; rfl
 ·intro x hx;obtain ⟨i,hi⟩:=List.getElem?_of_mem hx;exact (one i x hi).2
theorem j7 {w:World} {O:Nat→Prop} {l:LI} (h:∀ x∈l,AB.min≤x.toInt∧x.toInt≤AB.max) (i:Nat) (y:IV) (hy:l[i]?=some y) :
  Kd.RelAll w O [.z] (FQ false y) 0 (fun j u=>(K6 l)[i*1+j]?=some u):=by
 simp only [Kd.RelAll,FQ,BX,Nat.mul_one,C4];refine ⟨.int .i64 y.toInt,?_,?_⟩
 ·unfold K6;rw [B5,hy];rfl
 ·simp only [Kd.Rel];exact ⟨trivial,h y (vag hy)⟩
theorem uZ {γ:Nat→Value} {o:Store} {w:World} {O:Nat→Prop}:∀ {cs:List V} {xs:List Value},dN cs=true→VRels γ o w O cs xs→xs=cs.map sM
 | [],[],_,_=>rfl
 | [],_ :: _,_,h=>by simp only [VRels] at h
 | v :: cs,[],h,h'=>by simp only [VRels] at h'
 | v :: cs,x :: xs,h,h'=>by
  simp only [VRels] at h';unfold dN at h;split at h
  ·rename_i h0; cases h0
  ·rename_i n r h0;injection h0 with h1 h2
   subst h1 h2;have h3:=h'.1;simp only [VRel] at h3;rw [AZ,← uZ h h'.2,h3.1];rfl
  ·cases h
theorem y0 (h:Rel B nt w0 X γ st a w) {v:Value} (hv:∀ m cs b,DG st.o m=some (.box cs)→EY (γ m) (.box cs) b→v.ownBlock≠some b) {rest rs:List V} {ys:List Value} (hr:VRels γ st.o w (DI X γ st.o) rest ys) (he:T7 st.o rest=some rs):R7 w v rs ys:=by
 unfold T7 at he;split at he
 ·simp only [AC] at he;subst he;cases ys with
  | nil=>trivial
  | cons y ys=>simp only [VRels] at hr
 ·rename_i f m i c;split at he
  ·rename_i cs hic ho;split at he
   ·rename_i hi;simp only [AC] at he;subst he;simp only [AH] at hic;obtain rfl:=FK.1 hic.1;obtain rfl:=FK.1 hic.2
    match ys,hr with
    | [y],hr=>
     simp only [VRels,BX] at hr;simp only [VRel] at hr;obtain ⟨cs',rfl,hc⟩:=hr;obtain ⟨b,c,T,hg,hh,hcs⟩:=h.ob m _ ho;have hc1:∃ x0,cs' = #[x0]∧x0 = .pointer (some ⟨b,0,none⟩):=by
      obtain ⟨l⟩:=cs'
      match l,hc with
      | [x0],hc=>
       simp only [VRels,BX,VRel,ho] at hc;obtain ⟨_,b',hb',rfl⟩:=hc;rw [hg] at hb';simp only [CW,AC,DA,BX] at hb';subst hb';exact ⟨_,rfl,rfl⟩
      | [],hc=>simp only [VRels] at hc
      | _ :: _ :: _,hc=>simp only [VRels,and_false] at hc
     obtain ⟨x0,rfl,rfl⟩:=hc1;exact ⟨b,c,T,rfl,hh,uZ hi hcs,hv m cs b ho ⟨_,hg,rfl⟩⟩
    | [],hr=>simp only [VRels] at hr
    | _ :: _ :: _,hr=>simp only [VRels,and_false] at hr
   ·cases he
  ·cases he
 ·cases he
theorem Tz (h:Rel B nt w0 X γ st a w) {f:FuncId} {p:Ip} (hI:PS P f p) {vs:List V} {xs:List Value} (hv:VRels γ st.o w (DI X γ st.o) vs xs) {d:Option Nat} (hd9:∀ d',d=some d'→d'≠900000) {v:V} {us:List Upd} (he:(V7 st.o d p vs).get=some (v,us)) :
  Does P f xs w fun e w'=>∃ x,e = .returned x∧∃ γ',Rel B nt w0 X γ' (st.ups us) a w'∧VRel γ' (st.ups us).o w' (DI X γ' (st.ups us).o) v x:=by
 unfold V7 at he;split at he
 ·rename_i n lo hi rest;cases xs with
  | nil=>simp only [VRels] at hv
  | cons sv ys=>
  simp only [VRels] at hv;obtain ⟨hs,hrest⟩:=hv;split at he
  ·rename_i e l rs hob hra;split at he
   ·rename_i hc;simp only [AH] at hc;obtain ⟨hc1,hc3,hc4⟩:=hc;have he2:=T.get_when he;clear he;obtain ⟨hc2,he⟩:=he2;obtain rfl:=FK.1 hc1;obtain rfl:=FK.1 hc2;obtain rfl:=FK.1 hc3;have he6:p.e < 1000000:=AM hc4;simp only [VRel,hob] at hs;obtain ⟨hlen,q,len,cap,q',hg,hvv,_,h2,h3,hm,_,h5⟩:=hs;rw [h5 rfl,vaY,vaY] at hvv;have hor:=h.ob n _ hob;simp only [ObRel] at hor;obtain ⟨hkp,hstr,xs,hx,hrx⟩:=hor;have hx':=hx.plain he6;have hlen':len=l.length:=by
     rcases hx'.2 with ⟨h6,h7⟩ | ⟨g,cap',cur,h6,_⟩
     ·rw [hg] at h6; simp only [CG] at h6; omega
     ·rw [hg] at h6; simp only [CG] at h6; exact h6.2.1
    subst hlen';have hsv:sv=γ n:=by rw [hvv,hg]
    subst hsv;obtain ⟨rfl,hrng⟩:=Kt hx.1 hrx;split at he
    ·rename_i l' hgl;have hrok:=y0 h (v:=γ n) (fun m cs b hm hb hne=>by
      have hnm:n≠m:=fun e=>by subst e; rw [hob] at hm; cases hm
      exact h.dis n m _ _ b hnm hob hm (by simp only [EY]; exact hne) hb) hrest hra
     have hdoes:=hI w (γ n) l l' rs ys hx' hrng hstr hrok hgl;split at he
     ·rename_i d' hret;obtain ⟨hk,he⟩:=T.get_when he;simp only [T.get,AC,AS] at he;obtain ⟨rfl,rfl⟩:=he;have hk:=AM hk;refine hdoes.mono ?_;rintro e w' ⟨x,rfl,hgrow,hrng',hr1,_⟩;obtain ⟨hown,hblk⟩:=hr1 hret;refine ⟨x,rfl,fun m=>if d'=m then x else γ m,?_,?_⟩
      ·refine Rel.new h [n] d' (hd9 d' rfl) (.row true p.e false [.z] l') x (Keep.grown hgrow (fun g hg'=>⟨n,by simp,_,hob,hg'⟩)) (fun b hb=>⟨(hown.lt b hb).2,?_⟩) (fun O' hO hcmp=>?_)
       ·rcases hblk b hb with h1 | h1
        ·exact .inr ⟨n,by simp,_,hob,h1⟩
        ·exact .inl h1
       ·simp only [ObRel];exact ⟨by simp,by omega,K6 l',OwnRow.of hown he6,fun i y hy=>j7 hrng' i y hy⟩
      ·simp only [St.ups,St.up,VRel,D4,CM];refine ⟨AY _,?_⟩;rcases hown.2 with ⟨h6,h7⟩ | ⟨g,cap',cur,h6,_,_,h8,h9,_⟩
       ·refine ⟨none,0,0,none,h6,?_,BZ _,by omega,AY _,by simp [maxLen],.inr rfl,fun _=>rfl⟩;rw [h6,h7]
       ·refine ⟨some ⟨g,0,none⟩,l'.length,cap',some ⟨g,0,none⟩,h6,by rw [h6]; simp,BZ _,AY _,h8,h9,.inl ?_,fun _=>rfl⟩;simp [Addr.add]
     ·rename_i hret;obtain ⟨hk,he⟩:=T.get_when he;simp only [T.get,AC,AS] at he;obtain ⟨rfl,rfl⟩:=he;have hk:=FK.1 hk;refine hdoes.mono ?_;rintro e w' ⟨x,rfl,hgrow,hrng',_,hr2⟩;have hown:=hr2 hret;refine ⟨x,rfl,γ,?_,by simp only [VRel]⟩;refine Rel.set h (ob':=.row true p.e false [.z] l') hob ⟨rfl,hk.symm⟩ (Keep.grown hgrow (fun g hg'=>hg')) (fun b hb=>hb) (fun hO hcmp=>?_);simp only [ObRel];exact ⟨by simp,by omega,K6 l',OwnRow.of hown he6,fun i y hy=>j7 hrng' i y hy⟩
     ·simp [T.get] at he
    ·simp [T.get] at he
   ·simp [T.get] at he
  ·simp [T.get] at he
 ·rename_i rest;cases xs with
  | nil=>simp only [VRels] at hv
  | cons sv ys=>
  simp only [VRels] at hv;obtain ⟨hs,hrest⟩:=hv;simp only [VRel] at hs;subst hs;split at he
  ·rename_i rs hra;split at he
   ·rename_i hgl;have hrok:=y0 h (v:=.slice none 0 0) (fun m cs b _ _ hne=>by simp [B6] at hne) hrest hra;have hdoes:=hI w (.slice none 0 0) [] [] rs ys (World.ownsRow_nil w 0 p.e _) (fun x hx=>by cases hx) (by simp) hrok hgl;split at he
    ·rename_i d' hret;obtain ⟨hk,he⟩:=T.get_when he;simp only [T.get,AC,AS] at he;obtain ⟨rfl,rfl⟩:=he;have he6:p.e < 1000000:=AM hk;refine hdoes.mono ?_;rintro e w' ⟨x,rfl,hgrow,hrng',hr1,_⟩;obtain ⟨hown,hblk⟩:=hr1 hret;refine ⟨x,rfl,fun m=>if d'=m then x else γ m,?_,?_⟩
     ·refine Rel.new h [] d' (hd9 d' rfl) (.row true p.e false [.z] []) x (Keep.grown hgrow (fun g hg'=>by simp [B6] at hg')) (fun b hb=>⟨(hown.lt b hb).2,?_⟩) (fun O' hO hcmp=>?_)
      ·rcases hblk b hb with h1 | h1
       ·simp [B6] at h1
       ·exact .inl h1
      ·simp only [ObRel];exact ⟨by simp,by simp,K6 [],OwnRow.of hown he6,fun i y hy=>j7 hrng' i y hy⟩
     ·simp only [St.ups,St.up,VRel,D4,CM];refine ⟨AY _,?_⟩;rcases hown.2 with ⟨h6,h7⟩ | ⟨g,cap',cur,h6,_,_,h8,h9,_⟩
      ·refine ⟨none,0,0,none,h6,?_,BZ _,by omega,AY _,by simp [maxLen],.inr rfl,fun _=>rfl⟩;rw [h6]
      ·refine ⟨some ⟨g,0,none⟩,0,cap',some ⟨g,0,none⟩,h6,by rw [h6]; simp,BZ _,AY _,BZ _,h9,.inl ?_,fun _=>rfl⟩;simp [Addr.add]
    ·rename_i hret;simp only [T.get,AC,AS] at he;obtain ⟨rfl,rfl⟩:=he;refine hdoes.mono ?_;rintro e w' ⟨x,rfl,hgrow,_,_,_⟩;refine ⟨x,rfl,γ,Rel.world h (Keep.grown hgrow (fun g hg'=>by simp [B6] at hg')),by simp only [VRel]⟩
    ·simp [T.get] at he
   ·simp [T.get] at he
  ·simp [T.get] at he
 ·simp [T.get] at he
def SpOK (P:Program) (B:BT) (E:Env) (w0:World) (X:Zone):Prop:=GX B w0 X∧(∀ f sp,lk E.sp f=some sp→Snd P B f (fun vs=>(sp vs).get))∧∀ f p,lk E.ip f=some p→PS P f p
theorem SpOK.get (h:SpOK P B E w0 X) (f:FuncId):Snd P B f (fun vs=>(EP (fun _=>R.no) E.sp f vs).get):=by
 rw [WD];cases hf:lk E.sp f with
 | none=>
  intro w X γ vs xs r out hsp;simp [R.get] at hsp
 | some sp=>exact h.2.1 f sp hf
theorem eY (h:Rel B nt w0 X γ st a w):∀ l:List Operand,VRels γ st.o w (DI X γ st.o) (I1 (opd st) l) (l.map a.eval)
 | []=>by simp only [I1,CB,VRels]
 | x :: r=>by
  simp only [I1,AZ,VRels];exact ⟨FS h x,eY h r⟩
theorem lM (o:Oper) {f:FuncId} {xs:List Value} {v:V} {us:List Upd} (hr:(execOp a.eval o).run P w=(callFunc f xs.toArray).run P w)
  (hd:Does P f xs w fun e w'=>∃ x,e = .returned x∧∃ γ',Rel B nt w0 X γ' (st.ups us) a w'∧VRel γ' (st.ups us).o w' (DI X γ' (st.ups us).o) v x):OpWp P B nt w0 X a w o st v us:=by
 intro K Q hK;unfold Oper.wp;rw [hr];unfold Does at hd;split at hd
 ·rename_i g args w' hc;rw [hc,Oper.upon_enter];refine hd.mono ?_;rintro e w'' ⟨x,rfl,γ',h1,h2⟩;exact hK γ' x w'' h1 h2
 ·rename_i x w' hc;rw [hc,Oper.upon_value];obtain ⟨x',he,γ',h1,h2⟩:=hd;cases he;exact hK γ' x w' h1 h2
 ·rename_i row args w' hc;rw [hc,Oper.upon_row];refine Rows.mono hd ?_;rintro x w'' ⟨x',he,γ',h1,h2⟩;cases he;exact hK γ' x w'' h1 h2
 ·exact hd.elim
theorem zap (hT:TiOK P B E) (hSp:SpOK P B E w0 X) (h:Rel B nt w0 X γ st a w) (o:Oper) (hd9:∀ d,o.dst=some d→d≠900000) {c:Call} (ho:o.op = .call c) {v:V} {us:List Upd}
  (he:(D3 E st.o (opd st) o.dst o.op).get=some (v,us)):OpWp P B nt w0 X a w o st v us:=by
 obtain ⟨callee,args,ats⟩:=c;cases callee with
 | builtin b=>exact zao hT h o hd9 ho he
 | invoke recv name=>
  rw [ho] at he;simp only [D3,P6] at he;simp [T.get] at he
 | value x=>
  rw [ho] at he;obtain ⟨args⟩:=args;have clo:∀ (x:Operand),o.op = .call ⟨.value x,⟨args⟩,ats⟩→∀ d,o.dst=some d→(match opd st x with
    | .clo f caps=>match TW caps with
     | true=>RK st.o d (gA E ats.toList) (EP (fun _=>R.no) E.sp f) (I1 (opd st) args++caps)
     | false=>.no
    | _=>.no).get=some (v,us)→OpWp P B nt w0 X a w o st v us:=by
   intro x ho d hd he;split at he
   ·rename_i f caps hclo;split at he
    case h_2=>simp [T.get] at he
    have hx:=FS h x;rw [hclo] at hx;simp only [VRel] at hx;obtain ⟨cs,hx1,hx2⟩:=hx;have hrel:=sJ h hSp.1 (hSp.get f) ((eY h args).append hx2) (hd9 d hd) he;refine lM o (xs:=args.map a.eval++cs.toList) ?_ hrel;obtain ⟨dst,op,type,pos,after,guard⟩:=o;simp only at ho;subst ho
    have:execOp a.eval { dst,op:=.call { callee:=.value x,args:=⟨args⟩,argTypes:=ats },type,pos,after,guard }=(do let d ← Deferred.ofValue (a.eval x) ((⟨args⟩:Array Operand).map a.eval); invoke d.target d.args):=rfl
    rw [this,hx1];have hla:(args.map a.eval).toArray++cs=(args.map a.eval++cs.toList).toArray:=by
     apply Array.ext';simp
    simp [Deferred.ofValue,invoke,hla]
   ·simp [T.get] at he
  cases x with
  | func f=>
   simp only [D3,P6,iE] at he;have hrun:∀ {f:Nat},o.op = .call ⟨.value (.func f),⟨args⟩,ats⟩→(execOp a.eval o).run P w=(callFunc f (args.map a.eval).toArray).run P w:=fun {f} ho=>by
    obtain ⟨dst,op,type,pos,after,guard⟩:=o;simp only at ho;subst ho
    have:execOp a.eval { dst,op:=.call { callee:=.value (.func f),args:=⟨args⟩,argTypes:=ats },type,pos,after,guard }=callFunc f (#[]++(⟨args⟩:Array Operand).map a.eval++#[]):=rfl
    rw [this];simp
   split at he
   ·rename_i p hp;exact lM o (xs:=args.map a.eval) (hrun ho) (Tz h (hSp.2.2 f p hp) (eY h args) hd9 he)
   ·split at he
    ·rename_i d hd;exact lM o (xs:=args.map a.eval) (hrun ho) (sJ h hSp.1 (hSp.get f) (eY h args) (hd9 d hd) he)
    ·simp [T.get] at he
  | tmp t=>
   simp only [D3,P6] at he;cases hd:o.dst with
   | none=>rw [hd] at he; simp [T.get] at he
   | some d=>rw [hd] at he; exact clo _ ho d hd he
  | const t=>
   simp only [D3,P6] at he;cases hd:o.dst with
   | none=>rw [hd] at he; simp [T.get] at he
   | some d=>rw [hd] at he; exact clo _ ho d hd he
  | global t=>
   simp only [D3,P6] at he;cases hd:o.dst with
   | none=>rw [hd] at he; simp [T.get] at he
   | some d=>rw [hd] at he; exact clo _ ho d hd he
theorem zar (hT:TiOK P B E) (h:Rel B nt w0 X γ st a w) (o:Oper) (hd9:∀ d,o.dst=some d→d≠900000) {s t:Nat} {x:Operand} (ho:o.op = .convert s t x) {v:V} {u:Upd} {us:List Upd}
  (he:(D3 E st.o (opd st) o.dst o.op).get=some (v,u :: us)):OpWp P B nt w0 X a w o st v (u :: us):=by
 have hx:=FS h x;rw [ho] at he;simp only [D3] at he;split at he
 ·split at he
  ·simp [T.get] at he
  ·simp [T.get] at he
 ·rename_i b hop;rw [hop] at hx;simp only [VRel] at hx;split at he
  ·simp [T.get] at he
  ·rename_i e k1 kss hd hks hkss;split at he
   ·rename_i d hdst hde hkse;simp only [T.get,AC,AS,vaV] at he;obtain ⟨rfl,rfl,rfl⟩:=he;have hu1:=SB hT hd;obtain ⟨d',hd1',_,_⟩:=(hT.kinds (t:=s) (by rw [hkss]; simp)).und;obtain ⟨d'',hd1'',_,hd2''⟩:=(hT.kinds (t:=e) (by rw [hkse]; simp)).und;rw [hde] at hd2'';obtain rfl:=hd2''.1 _ hkse;have hrun:(execOp a.eval o).run P w = .ok (.value (.slice (some ⟨w.heap.size,0,none⟩) b.size (grownCap w b.size 0 e))) (vaG w e b):=by
     unfold execOp;simp only [ho,hx.1,CJ,Lib.run_convert_string_bytes w s t e b hd1' hu1 hd1'',B2,CK]
    have hsm:=fX;have hcg:=grownCap_ge w b.size 0 e;have hcm:grownCap w b.size 0 e≤maxLen:=grownCap_le_maxLen w b.size 0 e (CZ hx.2 hsm);have hcs:(Lib.bytesCells w e b).size=grownCap w b.size 0 e:=by
     have:b.data.size=b.size:=rfl
     simp only [Lib.bytesCells,Array.size_append,Array.size_map,Array.size_replicate,this];omega
    have hkp:Keep (fun _=>False) w (vaG w e b):=by
     refine ⟨?_,?_,?_,by rw [Lib.bytesWorld_size]; omega,fun j hj _=>Lib.bytesWorld_at_old w e b j hj⟩
     ·simp [vaG,World.freeze]; rfl
     ·simp [vaG,World.freeze]
     ·simp [vaG,World.freeze]; rfl
    have hn:=Rel.new h [] d (hd9 d hdst) (.row true (e+1000000) false [.int .u8] (b.data.toList.map fun b=>.int (b.toNat:Int))) (.slice (some ⟨w.heap.size,0,none⟩) b.size (grownCap w b.size 0 e)) (w':=vaG w e b) (hkp.mono (fun _ _ h=>h.elim))
     (by
      intro b1 hb;simp only [EY,B6,AC] at hb;subst hb;rw [Lib.bytesWorld_size];exact ⟨by omega,.inl (AY _)⟩)
     (by
      intro O' hO hcmp;simp only [ObRel];have hln:(b.data.toList.map fun b=>IV.int (b.toNat:Int)).length=b.size:=by simp
      refine ⟨by simp,by rw [hln]; exact hx.2,b.data.toList.map fun b=>.int .u8 b.toNat,?_,fun i y hy=>?_⟩
      ·rw [hln];refine ⟨by simp,.inr ⟨w.heap.size,grownCap w b.size 0 e,_,_,_,rfl,Lib.bytesWorld_at_new w e b,hcg,hcm,by rw [hcs]; simp,?_,.inr ⟨by omega,AY _⟩⟩⟩;simp only [Lib.bytesCells,vaA,AN,A7];rw [List.take_append_of_le_length (by simp)];rw [CV (by simp)];simp
      ·rw [B5] at hy;cases hbi:b.data.toList[i]? with
       | none=>rw [hbi] at hy; cases hy
       | some c=>
        rw [hbi] at hy;simp only [vaC,AC] at hy;subst hy;simp only [Kd.RelAll,FQ,Kd.Rel,IV.toInt,AN,A7];refine ⟨⟨.int .u8 c.toNat,by simp [hbi],rfl,?_,?_⟩,trivial⟩
        ·simp [IntKind.min,vah]
        ·have:=c.toNat_lt
         simp [IntKind.max,vah,AO];omega)
    refine OpWp.value hrun hn ?_;simp only [St.ups,VRel,F3,CM];refine ⟨by simp,some ⟨w.heap.size,0,none⟩,b.size,grownCap w b.size 0 e,some ⟨w.heap.size,0,none⟩,rfl,by simp,BZ _,AY _,hcg,hcm,.inl ?_,fun _=>rfl⟩;simp [Addr.add]
   ·simp [T.get] at he
  ·simp [T.get] at he
 ·split at he
  ·split at he
   ·simp [T.get] at he
   ·simp [T.get] at he
  ·simp [T.get] at he
def BldOK (P:Program) (B:BT) (E:Env):Prop:=(E.tyd B.T).d = .bld→∃ i,P.info? B.T=some i∧i.zero=some (.agg #[.pointer none,.slice none 0 0])
theorem xG (hT:TiOK P B E) (hE:∀ t,t∈E.eqs→EqSnd P t (E.tyd t).ks) (hSp:SpOK P B E w0 X) (hB:BldOK P B E) (h:Rel B nt w0 X γ st a w) (o:Oper) (hd9:∀ d,o.dst=some d→d≠900000) {v:V} {us:List Upd}
  (he:(D3 E st.o (opd st) o.dst o.op).get=some (v,us)):OpWp P B nt w0 X a w o st v us:=by
 cases ho:o.op with
 | move x=>exact xF h o (.inl ho) he
 | assign x=>exact xF h o (.inr ho) he
 | pick c x y=>exact zaB h o ho he
 | alloc t=>exact zaj hT h o hd9 ho hB he
 | box t x=>exact zal h o hd9 ho he
 | build t parts=>exact zam hT h o ho he
 | buildSlice t len parts=>exact zan hT h o hd9 ho he
 | load t x=>exact zax hT h o ho he
 | store t p x=>exact zaD hT h o ho he
 | nilCheck x=>exact zaA h o ho he
 | binOp op t x y t'=>exact zak hT hE h o ho he
 | unOp op t x=>exact zaE h o ho he
 | convert s t x=>
  cases us with
  | nil=>exact zaq hT h o ho he
  | cons u us=>exact zar hT h o hd9 ho he
 | makeFunc f first caps=>exact zay h o ho he
 | makeSlice t n m=>exact zaz hT h o hd9 ho he
 | slice t x lo hi mx=>exact zaC hT h o ho he
 | fieldAddr s x f=>exact zau hT h o ho he
 | field t x f=>exact zat hT h o ho he
 | indexAddr t x ix=>exact zaw hT h o ho he
 | index t x ix=>exact zav hT h o ho he
 | extract x i=>exact zas h o ho he
 | call c=>exact zap hT hSp h o hd9 ho he
 | _=>rw [ho] at he; simp [D3,T.get] at he
end
open Go Go.RowKit
theorem aW:∀ {l:List V} {n:Nat},n∈E0 l→n∈EW.go l
 | v :: r,n,h=>by
  simp only [E0,AV] at h;rcases h with h | h
  ·cases v <;> simp only [EF] at h <;> first | (cases h; done) | (simp only [EW.go,AV]; exact .inl h)
  ·cases v <;> simp only [EW.go,AV] <;> exact .inr (aW h)
def Agree (o o':Store) (l:List Nat):Prop:=∀ n∈l,DG o' n=DG o n
theorem Agree.left {o o':Store} {l l':List Nat} (h:Agree o o' (l++l')):Agree o o' l:=fun n hn=>h n (vaD _ hn)
theorem Agree.right {o o':Store} {l l':List Nat} (h:Agree o o' (l++l')):Agree o o' l':=fun n hn=>h n (vaz _ hn)
theorem xA {o o':Store} {v:V} (h:Agree o o' (EF v)):J4 o' v=J4 o v:=by
 cases v <;> simp only [J4]
 all_goals rw [h _ (by simp [EF])]
theorem lG {o o':Store} {v:V} (h:Agree o o' (EF v)):PB o' v=PB o v:=by
 cases v <;> simp only [PB] <;> exact xA h
theorem lE {o o':Store}:∀ {l:List V},Agree o o' (E0 l)→QJ o' l=QJ o l
 | [],_=>rfl
 | v :: r,h=>by simp only [QJ,xA h.left,lE (l:=r) h.right]
theorem tL {o o':Store} {v:V} (h:Agree o o' (EF v)):QB o' v=QB o v:=by
 cases v <;> simp only [QB]
 rw [h _ (by simp [EF])]
theorem zS {o o':Store} {v:V} (h:Agree o o' (EF v)):N7 o' v=N7 o v:=by
 cases v <;> simp only [N7]
 rw [h _ (by simp [EF])]
theorem Up {o o':Store} {k:Kd} {v:V} (h:Agree o o' (EF v)):O3 o' k v=O3 o k v:=by
 cases k <;> cases v <;> simp only [O3]
 rw [h _ (by simp [EF])]
theorem Z6 {o o':Store}:∀ {ks:List Kd} {l:List V},Agree o o' (E0 l)→JD o' ks l=JD o ks l
 | [],[],_=>rfl
 | [],_ :: _,_=>rfl
 | _ :: _,[],_=>rfl
 | k :: ks,v :: r,h=>by simp only [JD,Up h.left,Z6 (l:=r) h.right]
theorem PG {v:V} {n:Nat} (h:n∈EF v):n∈EW v:=by
 cases v <;> simp only [EF] at h <;> first | exact h | cases h
theorem Lu {o o':Store} {ag:Bool} {ks:List Kd} {v:V} (h:Agree o o' (EW v)):NU o' ag ks v=NU o ag ks v:=by
 cases ag with
 | false=>
  simp only [NU];rw [Z6 (o:=o) (o':=o') (fun n hn=>h n (PG (by simpa [E0] using hn)))]
 | true=>
  cases v <;> simp only [NU]
  rw [Z6 h]
theorem yQ:∀ (a b:List V),E0 (a++b)=E0 a++E0 b
 | [],b=>rfl
 | v :: r,b=>by simp [E0,yQ r b]
theorem yR {l:List V} {v:V} {n:Nat} (hv:v∈l) (hn:n∈EF v):n∈E0 l:=by
 induction l with
 | nil=>cases hv
 | cons u r ih=>
  simp only [E0,AV];rcases AU.1 hv with h | h
  ·subst h; exact .inl hn
  ·exact .inr (ih h)
theorem mH {l l':List V} (h:∀ v∈l,v∈l') {n:Nat} (hn:n∈E0 l):n∈E0 l':=by
 induction l with
 | nil=>simp [E0] at hn
 | cons u r ih=>
  simp only [E0,AV] at hn;rcases hn with hn | hn
  ·exact yR (h u (AT ..)) hn
  ·exact ih (fun v hv=>h v (AX _ hv)) hn
theorem cX {o o':Store} {ag:Bool} {ks:List Kd} {sz:Nat}:∀ {n:Nat} {cs:List V},Agree o o' (E0 cs)→LR ag ks o' cs sz n=LR ag ks o cs sz n
 | 0,cs,_=>rfl
 | n+1,cs,h=>by
  simp only [LR];rw [cX (n:=n) (cs:=K8 cs sz) (fun m hm=>h m (by rw [OW] at hm; exact mH (fun v hv=>va1 hv) hm))];cases ag with
  | true=>
   rw [Lu];intro m hm;simp only [EW,UV] at hm;exact h m (mH (fun v hv=>va2 hv) hm)
  | false=>
   simp only [NU];rw [Z6 (o:=o) (o':=o')];intro m hm;rw [aG] at hm;cases hc:cs[0]? with
   | none=>rw [hc] at hm; simp [E0,EF] at hm
   | some u=>
    rw [hc] at hm;simp only [vao,E0,vak] at hm;exact h m (yR (vag hc) hm)
theorem UP {l:List V} {n:Nat} (h:n∈EI l):n∈E0 l:=by
 induction l with
 | nil=>simp [EI] at h
 | cons v r ih=>
  simp only [E0,AV];cases v <;> simp only [EI,AU] at h <;> first | exact .inr (ih h) | skip
  rcases h with h | h
  ·exact .inl (by simp [EF,h])
  ·exact .inr (ih h)
theorem ZU {o o':Store}:∀ {l:List Nat},Agree o o' l→D7 o' l=D7 o l
 | [],_=>rfl
 | n :: r,h=>by
  simp only [D7];rw [h n (AT ..),ZU (l:=r) (fun m hm=>h m (AX _ hm))]
theorem jO {o o':Store} {place:Nat→Option (Nat × Nat)}:∀ {cs:List V} {l:List (Nat × V)},(∀ i v,(i,v)∈l→Agree o o' (EW v))→KK o' place cs l=KK o place cs l
 | cs,[],_=>rfl
 | cs,(i,v) :: r,h=>by
  simp only [KK];have h1:PB o' v=PB o v:=lG (fun n hn=>h i v (AT ..) n (PG hn));rw [h1];split
  ·split
   ·exact jO (fun i v hv=>h i v (AX _ hv))
   ·rfl
  ·rfl
theorem cM {o o':Store} {d e:Nat} {ag:Bool} {ks:List Kd} {bytes:Nat} {s:V} {l:LI} (h:Agree o o' (EF s)):MZ o' d e ag ks bytes s l=MZ o d e ag ks bytes s l:=by
 cases s <;> simp only [MZ]
 rw [h _ (by simp [EF])]
theorem T1 {o:Store} {n m:Nat} {cs:List V}:∀ {l:List Nat},n∈l→DG o n=some (.box cs)→m∈E0 cs→m∈JQ o l
 | x :: r,hn,ho,hm=>by
  simp only [JQ];rcases AU.1 hn with h | h
  ·subst h;rw [ho];exact vaD _ hm
  ·have:=T1 h ho hm
   split
   ·exact vaz _ this
   ·exact this
theorem Ix {o o':Store} {d et:Nat} {e:TI} {tk:List Kd} {s x:V} (h:Agree o o' (EF s)):VL o' d et e tk s x=VL o d et e tk s x:=by
 unfold VL;simp only [cM h]
theorem Iv {o o':Store} {d et:Nat} {e:TI} {s x:V} (h:Agree o o' (EF s)) (h':Agree o o' (EF x++JQ o (EF x))):TP o' d et e s x=TP o d et e s x:=by
 have gen:(match QB o' x,N7 o' x with
   | some l,some (ag,ks)=>match ID (.list e.agg e.ks) (.list ag ks) with
    | true=>MZ o' d et e.agg e.ks e.bytes s l
    | false=>.no
   | _,_=>.no)=(match QB o x,N7 o x with
   | some l,some (ag,ks)=>match ID (.list e.agg e.ks) (.list ag ks) with
    | true=>MZ o d et e.agg e.ks e.bytes s l
    | false=>.no
   | _,_=>.no):=by
  simp only [tL h'.left,zS h'.left,cM h]
 cases x
 case bview n c cap sz len=>
  simp only [TP];rw [h' n (by simp [EF])];split
  ·rename_i cs ho;simp only [cM h];split
   ·congr 1
    funext m
    rw [cX (o:=o) (o':=o')];intro k hk;rw [OW] at hk;exact h' k (vaz _ (T1 (by simp [EF]) ho (mH (fun v hv=>va1 hv) hk)))
   ·rfl
  ·rfl
 case zs=>simp only [TP,cM h]
 all_goals exact gen
theorem cN {o o':Store} {bs:List V} {tk:Option Kd} {v:V} (h:Agree o o' (EF v)):ED o' bs tk v=ED o bs tk v:=by
 cases v <;> simp only [ED]
 all_goals rw [h _ (by simp [EF])]
theorem kQ {o o':Store} {bs:List V}:∀ {l:List V} {ks:List Kd},Agree o o' (E0 l)→KR (fun k v=>I2 (ED o' bs k v)) ks l=KR (fun k v=>I2 (ED o bs k v)) ks l
 | [],ks,_=>by cases ks <;> rfl
 | v :: l,[],h=>by simp only [KR,cN h.left,kQ (l:=l) h.right]
 | v :: l,k :: ks,h=>by simp only [KR,cN h.left,kQ (l:=l) h.right]
theorem vW {o o':Store} {bs:List V} {tk:Option Kd}:∀ {l:List V},Agree o o' (E0 l)→l.map (ED o' bs tk)=l.map (ED o bs tk)
 | [],_=>rfl
 | v :: l,h=>by simp only [AZ,cN h.left,vW (l:=l) h.right]
theorem pC {o o':Store} {bs:List V} {ks:List Kd} {v:V} (h:Agree o o' (EW v)):KE o' bs ks v=KE o bs ks v:=by
 by_cases ha:∃ l,v = .agg l
 ·obtain ⟨l,rfl⟩:=ha;simp only [KE,kQ (o:=o) (o':=o') h]
 by_cases hc:∃ f l,v = .clo f l
 ·obtain ⟨f,l,rfl⟩:=hc;simp only [KE,vW (o:=o) (o':=o') (l:=l) (fun n hn=>h n (aW hn))]
 have h1:∀ o,KE o bs ks v=ED o bs ks.head? v:=by
  intro o;cases v <;> first | rfl | exact absurd ⟨_,rfl⟩ ha | exact absurd ⟨_,_,rfl⟩ hc
 rw [h1,h1];exact cN (fun n hn=>h n (PG hn))
theorem gX {o o':Store} {bs:List V}:∀ {l:List V} {tks:List (List Kd)},Agree o o' (GN l)→FT o' bs tks l=FT o bs tks l
 | [],tks,_=>by cases tks <;> rfl
 | v :: l,[],h=>by simp only [FT,pC h.left,gX (l:=l) h.right]
 | v :: l,t :: ts,h=>by simp only [FT,pC h.left,gX (l:=l) h.right]
theorem Kp {o o':Store} {all:List Nat} {v:V} (h:Agree o o' (EF v)):E1 o' all v=E1 o all v:=by
 cases v <;> simp only [E1]
 rw [h _ (by simp [EF])]
theorem vX {o o':Store} {all:List Nat}:∀ {l:List V},Agree o o' (E0 l)→l.map (E1 o' all)=l.map (E1 o all)
 | [],_=>rfl
 | v :: l,h=>by simp only [AZ,Kp h.left,vX (l:=l) h.right]
theorem uP {o o':Store} {all:List Nat}:∀ {l:List V},Agree o o' (E0 l)→GK o' all l=GK o all l
 | [],_=>rfl
 | v :: l,h=>by
  have ih:=uP (all:=all) (l:=l) h.right;cases v <;> simp only [GK,ih]
  rw [h.left _ (by simp [EF])]
theorem zT {o o':Store} {all:List Nat}:∀ {l:List V},Agree o o' (E0 l)→HB o' all l=HB o all l
 | [],_=>rfl
 | v :: l,h=>by
  have ih:=zT (all:=all) (l:=l) h.right;cases v <;> simp only [HB,ih]
  rw [h.left _ (by simp [EF])]
theorem zdP {v:V} {n:Nat} (h:n∈JX v):n∈EW v:=by
 cases v <;> simp only [JX] at h <;> try (cases h; done)
 case row=>simpa [EW,EF] using h
 case agg=>exact UP h
 case clo=>exact aW (UP h)
 case tup l=>
  simp only [EW]
  induction l with
  | nil=>simp [JX.go] at h
  | cons v r ih=>
   cases v <;> simp only [JX.go,EW.go,AU,AV] at h ⊢ <;> first | exact .inr (ih h) | skip
   ·rcases h with h | h
    ·exact .inl (by simp [EF,h])
    ·exact .inr (ih h)
   ·rcases h with h | h
    ·exact .inl (UP h)
    ·exact .inr (ih h)
theorem oC:∀ {l:List V} {n:Nat},n∈EG l→n∈GN l
 | v :: l,n,h=>by
  simp only [EG,GN,AV] at h ⊢;exact h.imp zdP oC
theorem Z7:∀ {l:List V} {n:Nat},n∈FC l→n∈GN l
 | v :: l,n,h=>by
  simp only [GN,AV];cases v <;> simp only [FC,AU,AV] at h <;> first | exact .inr (Z7 h) | skip
  ·rcases h with h | h
   ·exact .inl (by simp [EW,EF,h])
   ·exact .inr (Z7 h)
  ·rename_i f caps;rcases h with h | h
   ·refine .inl ?_;simp only [EW];refine aW ?_;clear Z7
    induction caps with
    | nil=>simp [FC.lentC] at h
    | cons v r ih=>
     simp only [E0,AV];cases v <;> simp only [FC.lentC,AU] at h <;> first | exact .inr (ih h) | skip
     rcases h with h | h
     ·exact .inl (by simp [EF,h])
     ·exact .inr (ih h)
   ·exact .inr (Z7 h)
theorem sI {o o':Store} {d:Nat} {tks:List (List Kd)} {sp:DO} {vs:List V} (h:Agree o o' (GN vs++JQ o (GN vs))):RK o' d tks sp vs=RK o d tks sp vs:=by
 have hA:∀ bs,FT o' bs tks vs=FT o bs tks vs:=fun bs=>gX h.left
 have hF:∀ l,(∀ n∈l,n∈GN vs++JQ o (GN vs))→D7 o' l=D7 o l:=fun l hl=>ZU (fun n hn=>h n (hl n hn))
 have hFv:D7 o' (EG vs)=D7 o (EG vs):=hF _ (fun n hn=>vaD _ (oC hn));have hF0:D7 o' []=D7 o []:=rfl;have hPl:ZF o' d vs=ZF o d vs:=by
  funext v out
  unfold ZF;split
  ·split
   ·rename_i cs;cases HN cs <;> simp only [hFv,hF0]
   ·simp only [hFv]
   ·cases HQ v <;> simp only [hFv,hF0]
  ·rfl
 unfold RK;simp only [hA,hPl];split
 ·rfl
 ·rename_i n hl;have hn:n∈GN vs:=Z7 (by rw [hl]; exact AT ..);rw [h n (vaD _ hn)];split
  ·rename_i cs ho;have hcs:Agree o o' (E0 cs):=fun m hm=>h m (vaz _ (T1 hn ho hm))
   have hsh:∀ m∈HB o (EI cs++EG vs) cs,m∈GN vs++JQ o (GN vs):=by
    intro m hm;obtain ⟨lo,hi,_,_,_,_,_,h1,_⟩:=fJ hm;exact vaz _ (T1 hn ho (UP (UD h1)))
   have hBx:ZE o' d n cs vs=ZE o d n cs vs:=by
    funext v outs
    unfold ZE;rw [uP hcs,zT hcs];split
    ·rename_i out;have h1:D7 o' (HB o (EI cs++EG vs) cs++EG vs)=D7 o (HB o (EI cs++EG vs) cs++EG vs):=hF _ (fun m hm=>(AV.1 hm).elim (hsh m) (fun hm=>vaD _ (oC hm)));have h2:D7 o' (HB o (EI cs++EG vs) cs++[])=D7 o (HB o (EI cs++EG vs) cs++[]):=hF _ (fun m hm=>hsh m (by simpa using hm));cases (HQ v||HN out) <;> simp only [h1,h2]
    ·rfl
   rw [vX hcs,hBx]
  ·have hBd:ZD o' n vs=ZD o n vs:=by
    funext v outs
    unfold ZD;split
    ·cases HQ v <;> simp only [hFv,hF0]
    ·rfl
   rw [hBd]
  ·rfl
 ·rfl
theorem u5 {o o':Store} {l:List V} (h:Agree o o' (GN l)):T7 o' l=T7 o l:=by
 unfold T7;split
 ·rfl
 ·rename_i f m i c;rw [h m (by simp [GN,EW,EW.go,EF])]
 ·rfl
theorem Ty {o o':Store} {d:Option Nat} {p:Ip} {vs:List V} (h:Agree o o' (GN vs)):V7 o' d p vs=V7 o d p vs:=by
 unfold V7;split
 ·rename_i n lo hi rest;rw [h n (by simp [GN,EW,EF]),u5 (fun k hk=>h k (by simp only [GN,AV]; exact .inr hk))]
 ·rename_i rest;rw [u5 (fun k hk=>h k (by simp only [GN,AV]; exact .inr hk))]
 ·rfl
theorem mE:∀ (cs:List V) (n:Nat) (vs:List V) {m:Nat},m∈E0 (GI cs n vs)→m∈E0 cs∨m∈E0 vs
 | cs,n,[],m,h=>by cases cs <;> cases n <;> exact .inl h
 | [],n,v :: vs,m,h=>by cases n <;> simp [GI,E0] at h
 | c :: r,0,v :: vs,m,h=>by
  simp only [GI,E0,AV] at h ⊢;rcases h with h | h
  ·exact .inr (.inl h)
  ·rcases mE r 0 vs h with h | h
   ·exact .inl (.inr h)
   ·exact .inr (.inr h)
 | c :: r,n+1,v :: vs,m,h=>by
  simp only [GI,E0,AV] at h ⊢;rcases h with h | h
  ·exact .inl (.inl h)
  ·rcases mE r n (v :: vs) h with h | h
   ·exact .inl (.inr h)
   ·exact .inr (by simpa [E0] using h)
theorem sO {v:V} {m:Nat} (h:m∈E0 (cells v)):m∈EW v:=by
 by_cases ha:∃ l,v = .agg l
 ·obtain ⟨l,rfl⟩:=ha;exact h
 ·have:cells v=[v]:=by cases v <;> first | rfl | exact absurd ⟨_,rfl⟩ ha
  rw [this] at h;exact PG (by simpa [E0] using h)
theorem WP {l:List V} {v:V} {n:Nat} (hv:v∈l) (hn:n∈EW v):n∈GN l:=by
 induction l with
 | nil=>cases hv
 | cons u r ih=>
  simp only [GN,AV];rcases AU.1 hv with h | h
  ·subst h; exact .inl hn
  ·exact .inr (ih h)
theorem uA {o:Store} {place:Nat→Option (Nat × Nat)}:∀ {l:List (Nat × V)} {cs cs':List V},KK o place cs l=some cs'→∀ m∈E0 cs',m∈E0 cs∨∃ i v,(i,v)∈l∧m∈EW v
 | [],cs,cs',h,m,hm=>by
  simp only [KK,AC] at h;subst h;exact .inl hm
 | (i,v) :: r,cs,cs',h,m,hm=>by
  simp only [KK] at h;split at h
  ·split at h
   ·rcases uA h m hm with h1 | ⟨j,u,h1,h2⟩
    ·rcases mE _ _ _ h1 with h2 | h2
     ·exact .inl h2
     ·exact .inr ⟨i,v,AT ..,sO h2⟩
    ·exact .inr ⟨j,u,AX _ h1,h2⟩
   ·cases h
  ·cases h
theorem yY {z:List V}:∀ {n m:Nat},m∈E0 (N6 z n)→m∈E0 z
 | 0,m,h=>by simp [N6,E0] at h
 | n+1,m,h=>by
  simp only [N6,yQ,AV] at h;exact h.elim id (yY (n:=n))
theorem lL (ρ:Operand→V):∀ {l:List (Nat × Operand)} {i:Nat} {v:V},(i,v)∈J5 ρ l→v∈(l.map (·.2)).map ρ
 | (j,x) :: r,i,v,h=>by
  simp only [J5,AU,AS] at h;simp only [AZ,AU];rcases h with ⟨_,rfl⟩ | h
  ·exact .inl rfl
  ·exact .inr (lL ρ h)
theorem yS:∀ {l:List V} {n:Nat},n∈GN l→∃ v∈l,n∈EW v
 | v :: r,n,h=>by
  simp only [GN,AV] at h;rcases h with h | h
  ·exact ⟨v,AT ..,h⟩
  ·obtain ⟨u,h1,h2⟩:=yS h;exact ⟨u,AX _ h1,h2⟩
theorem i8 {o:Store} {m:Nat}:∀ {l:List Nat},m∈JQ o l→∃ n∈l,∃ cs,DG o n=some (.box cs)∧m∈E0 cs
 | n :: r,h=>by
  simp only [JQ] at h;split at h
  ·rename_i cs ho;rcases AV.1 h with h | h
   ·exact ⟨n,AT ..,cs,ho,h⟩
   ·obtain ⟨k,h1,h2⟩:=i8 h;exact ⟨k,AX _ h1,h2⟩
  ·obtain ⟨k,h1,h2⟩:=i8 h;exact ⟨k,AX _ h1,h2⟩
theorem tF {o:Store} {l l':List Nat} (hs:∀ k∈l,k∈l') {n:Nat} (h:n∈JQ o l):n∈JQ o l':=by
 obtain ⟨k,h1,cs,h2,h3⟩:=i8 h;exact T1 (hs k h1) h2 h3
theorem sK {v:V} {n:Nat}:∀ {l:List V},TW l=true→v∈l→n∈EW v→n∈EW.go l
 | u :: r,hok,hv,hn=>by
  rcases AU.1 hv with h | h
  ·subst h;cases v <;> simp only [TW] at hok <;> first | (cases hok; done) | (simp only [EW,EF] at hn; simp only [EW.go,EF,AV]; first | exact .inl hn | (cases hn; done))
  ·have hr:TW r=true:=by cases u <;> simp only [TW] at hok <;> first | exact hok | (cases hok; done)
   have:=sK hr h hn
   cases u <;> simp only [EW.go,AV] <;> exact .inr this
theorem tV {E:Env} {o o':Store} {ρ:Operand→V} {d:Option Nat} {op:Op} (h:Agree o o' (L3 E o ρ op)):D3 E o' ρ d op=D3 E o ρ d op:=by
 cases hq:yO op with
 | true=>cases op <;> first | rfl | cases hq
 | false=>
 unfold L3 at h;rw [hq] at h;replace h:Agree o o' (fC E o ρ op):=h;unfold fC at h;have hz:=h.left.right;have hd:=h.right;have hv:=h.left.left;clear h;have one:∀ {x:Operand} {n:Nat},x∈op.operands.toList→n∈EW (ρ x)→DG o' n=DG o n:=fun hx hn=>hv _ (WP (vaK hx) hn)
 have two:∀ {x:Operand} {n:Nat} {cs:List V},x∈op.operands.toList→n∈EW (ρ x)→DG o n=some (.box cs)→Agree o o' (E0 cs):=fun hx hn ho m hm=>hd _ (T1 (WP (vaK hx) hn) ho hm)
 cases op
 case box t x=>
  simp only [D3];rw [lG (fun n hn=>one (x:=x) (by simp [CQ]) (PG hn))]
 case build t parts=>
  have hp:∀ i v,(i,v)∈J5 ρ parts.toList→Agree o o' (EW v):=fun i v hm n hn=>hv _ (WP (by have:=lL ρ hm; simpa [CQ] using this) hn)
  simp only [D3,jO hp]
 case buildSlice t len parts=>
  have hp:∀ i v,(i,v)∈J5 ρ parts.toList→Agree o o' (EW v):=fun i v hm n hn=>hv _ (WP (by have:=lL ρ hm; simpa [CQ] using this) hn)
  simp only [D3];split
  ·rename_i d e hd1;simp only [oT,hd1] at hz;rw [jO hp];split
   ·rename_i cs hf;have hcs:Agree o o' (E0 cs):=by
     intro m hm;rcases uA hf m hm with h1 | ⟨i,v,h1,h2⟩
     ·exact hz m (yY h1)
     ·exact hp i v h1 m h2
    rw [cX hcs,ZU (fun m hm=>hcs m (UP hm))]
   ·rfl
  ·rfl
 case load t x=>
  simp only [D3];split
  ·rename_i n i c hx;rw [one (x:=x) (by simp [CQ]) (by rw [hx]; simp [EW,EF])]
  ·rfl
  ·rfl
 case nilCheck x=>
  simp only [D3];split
  ·rename_i n i c hx;rw [one (x:=x) (by simp [CQ]) (by rw [hx]; simp [EW,EF])]
  ·rfl
 case fieldAddr s x f=>
  simp only [D3];split
  ·split
   ·split
    ·rename_i n i c hx;rw [one (x:=x) (by simp [CQ]) (by rw [hx]; simp [EW,EF])]
    ·rfl
    ·rfl
   ·rfl
  ·rfl
 case binOp op t x y t'=>
  simp only [D3];unfold cQ;split <;> try rfl
  rename_i n i c hx hy;rw [one (x:=x) (by simp [CQ]) (by rw [hx]; simp [EW,EF])]
 case convert s t x=>
  simp only [D3];split <;> try rfl
  rw [tL (fun n hn=>one (x:=x) (by simp [CQ]) (PG hn)),zS (fun n hn=>one (x:=x) (by simp [CQ]) (PG hn))]
 case slice t x lo hi mx=>
  simp only [D3];split <;> try rfl
  ·rename_i n a b hx;rw [one (x:=x) (by simp [CQ]) (by rw [hx]; simp [EW,EF])]
  ·rename_i n a c hx;rw [one (x:=x) (by simp [CQ]) (by rw [hx]; simp [EW,EF])]
 case indexAddr t x ix=>
  simp only [D3];split
  ·split
   ·rfl
   ·rename_i n lo hi hx;rw [one (x:=x) (by simp [CQ]) (by rw [hx]; simp [EW,EF])]
   ·rename_i n c cap sz len hx;rw [one (x:=x) (by simp [CQ]) (by rw [hx]; simp [EW,EF])]
   ·rfl
  ·split
   ·rename_i n i0 c hx;rw [one (x:=x) (by simp [CQ]) (by rw [hx]; simp [EW,EF])]
   ·rfl
   ·rfl
  ·rfl
 case store t p x=>
  simp only [D3];have hx:Agree o o' (EW (ρ x)):=fun n hn=>one (x:=x) (by simp [CQ]) hn
  have hc:Agree o o' (E0 (cells (ρ x))):=fun n hn=>hx n (sO hn)
  unfold OA;split
  ·rename_i n i c hp;rw [one (x:=p) (by simp [CQ]) (by rw [hp]; simp [EW,EF]),lG (fun n hn=>hx n (PG hn)),lE hc,ZU (fun m hm=>hc m (UP hm))];simp only [Z6 hc]
  ·rfl
 case makeSlice t n m=>
  simp only [D3];split
  ·rename_i d e k1 n1 k2 m1 hd1 _ _;simp only [oT,hd1] at hz;rw [cX hz];split
   ·rw [ZU (fun m hm=>hz m (UP hm))]
   ·rfl
  ·rfl
 case call c=>
  obtain ⟨callee,args,ats⟩:=c;simp only [D3,P6];have hmem:∀ {x:Operand},x∈args.toList→x∈(Op.call ⟨callee,args,ats⟩).operands.toList:=fun {x} hx=>by
   simp only [CQ,Call.operands,vaA,AV];exact .inr hx
  have harg:∀ {x:Operand},x∈args.toList→Agree o o' (EW (ρ x)):=fun {x} hx n hn=>one (x:=x) (hmem hx) hn
  have hdp:∀ {x:Operand},x∈args.toList→Agree o o' (EF (ρ x)++JQ o (EF (ρ x))):=fun {x} hx n hn=>by
   rcases AV.1 hn with hn | hn
   ·exact harg hx n (PG hn)
   ·refine hd n (tF (fun k hk=>WP (vaK (hmem hx)) (PG hk)) hn)
  have hsub:∀ (l:List V),(∀ v∈l,∃ y∈(Op.call ⟨callee,args,ats⟩).operands.toList,∀ n∈EW v,n∈EW (ρ y))→Agree o o' (GN l++JQ o (GN l)):=by
   intro l hl n hn;have h1:∀ k∈GN l,k∈GN ((Op.call ⟨callee,args,ats⟩).operands.toList.map ρ):=by
    intro k hk;obtain ⟨v,hv1,hv2⟩:=yS hk;obtain ⟨y,hy1,hy2⟩:=hl v hv1;exact WP (vaK hy1) (hy2 k hv2)
   rcases AV.1 hn with hn | hn
   ·exact hv n (h1 n hn)
   ·exact hd n (tF h1 hn)
  split
  ·split
   ·rename_i x t hx _;have hxm:x∈args.toList:=by rw [hx]; simp
    have:=hdp hxm
    unfold d9;split <;> try rfl
    ·rename_i n lo hi hr;rw [this.left n (by rw [hr]; simp [EF])]
    ·rename_i n c cap sz len hr;rw [this.left n (by rw [hr]; simp [EF])]
   ·rfl
  ·split
   ·rename_i s x t t' hx _;have hsm:s∈args.toList:=by rw [hx]; simp
    have hxm:x∈args.toList:=by rw [hx]; simp
    simp only [Iv (hdp hsm).left (hdp hxm),Ix (hdp hsm).left]
   ·rfl
  ·split
   ·rename_i x y t t' hx _;have hxm:x∈args.toList:=by rw [hx]; simp
    have hym:y∈args.toList:=by rw [hx]; simp
    unfold c6;split
    ·rename_i n c cap sz len n' c' cap' sz' len' h1 h2;rw [(hdp hxm).left n (by rw [h1]; simp [EF]),(hdp hym).left n' (by rw [h2]; simp [EF])];split
     ·rename_i cs cs' e ho ho' hde;rw [lE (o:=o) (o':=o') (l:=cs') (fun m hm=>(hdp hym).right m (T1 (by rw [h2]; simp [EF]) ho' hm))]
     ·rfl
    ·rfl
   ·rfl
  ·rfl
  ·rfl
  ·rename_i f d hcal;have hs:=hsub (args.toList.map ρ) (fun v hv=>by
    obtain ⟨y,hy,rfl⟩:=CY.1 hv;exact ⟨y,hmem hy,fun n hn=>hn⟩)
   unfold iE;rw [aD];split
   ·rw [Ty hs.left]
   ·split
    ·rw [sI hs]
    ·rfl
  ·split
   ·rename_i f caps hx;split
    ·rename_i hok;rw [aD,sI (hsub _ (fun v hv=>by
      rcases AV.1 hv with hv | hv
      ·obtain ⟨y,hy,rfl⟩:=CY.1 hv;exact ⟨y,hmem hy,fun n hn=>hn⟩
      ·refine ⟨_,by simp only [CQ,Call.operands,vaA,AV]; exact .inl (AT ..),fun n hn=>?_⟩;rw [hx];simp only [EW];exact sK hok hv hn))]
    ·rfl
   ·rfl
  ·rfl
 case makeFunc f a b=>cases f <;> rfl
 all_goals rfl
open Go Go.RowKit
theorem lJ {ρ ρ':Operand→V}:∀ {l:List (Nat × Operand)},(∀ x∈l.map (·.2),ρ x=ρ' x)→J5 ρ l=J5 ρ' l
 | [],_=>rfl
 | (i,x) :: r,h=>by
  simp only [J5,h x (by simp),lJ (l:=r) (fun y hy=>h y (AX _ hy))]
theorem kT {ρ ρ':Operand→V}:∀ {l:List Operand},(∀ x∈l,ρ x=ρ' x)→I1 ρ l=I1 ρ' l
 | [],_=>rfl
 | x :: r,h=>by simp only [I1,h x (AT ..),kT (l:=r) (fun y hy=>h y (AX _ hy))]
theorem xI {ρ ρ':Operand→V} {x:Option Operand} (h:∀ y∈x.toArray.toList,ρ y=ρ' y):x.map ρ=x.map ρ':=by
 cases x with
 | none=>rfl
 | some x=>simp only [vaC,h x (by simp)]
theorem Mf {E:Env} {o:Store} {ρ ρ':Operand→V} {d:Option Nat} {op:Op} (h:∀ x∈op.operands.toList,ρ x=ρ' x):D3 E o ρ d op=D3 E o ρ' d op:=by
 cases op
 case build t ps=>simp only [D3,lJ (l:=ps.toList) (fun x hx=>h x (by simpa [CQ] using hx))]
 case buildSlice t n ps=>simp only [D3,lJ (l:=ps.toList) (fun x hx=>h x (by simpa [CQ] using hx))]
 case makeFunc f first caps=>
  cases f <;> simp only [D3]
  rw [kT (l:=caps.toList) (fun x hx=>h x (by simp only [CQ,vaA,AV]; exact .inr hx))]
 case slice t x lo hi mx=>
  have h1:ρ x=ρ' x:=h x (by simp [CQ]);have h2:lo.map ρ=lo.map ρ':=xI (fun y hy=>h y (by simp only [CQ,vaA,AV]; exact .inl (.inl (.inr hy))));have h3:hi.map ρ=hi.map ρ':=xI (fun y hy=>h y (by simp only [CQ,vaA,AV]; exact .inl (.inr hy)));simp only [D3,h1,h2,h3]
 case call c=>
  obtain ⟨callee,args,ats⟩:=c;have ha:∀ x∈args.toList,ρ x=ρ' x:=fun x hx=>h x (by simp only [CQ,Call.operands,vaA,AV]; exact .inr hx)
  have hm:I1 ρ args.toList=I1 ρ' args.toList:=kT ha;simp only [D3,P6];split
  ·split
   ·rename_i x t hx _;rw [ha x (by rw [hx]; simp)]
   ·rfl
  ·split
   ·rename_i s x t t' hx _;rw [ha s (by rw [hx]; simp),ha x (by rw [hx]; simp)]
   ·rfl
  ·split
   ·rename_i x y t t' hx _;rw [ha x (by rw [hx]; simp),ha y (by rw [hx]; simp)]
   ·rfl
  ·simp only [hm]
  ·simp only [hm]
  ·simp only [hm]
  ·rename_i x _ _;have hxx:ρ x=ρ' x:=h x (by simp [CQ,Call.operands]);simp only [hm,hxx]
  ·rfl
 all_goals first
  | rfl
  | (simp only [CQ] at h; simp only [D3]; simp (config:={decide:=false}) only [AU,CL,C1,forall_eq_or_imp,forall_eq] at h; simp only [h])
structure SEq (s s':St):Prop where
 t:∀ i,s.get i=s'.get i
 o:∀ n,DG s.o n=DG s'.o n
theorem SEq.refl (s:St):SEq s s:=⟨fun _=>rfl,fun _=>rfl⟩
theorem SEq.symm {s s':St} (h:SEq s s'):SEq s' s:=⟨fun i=>(h.t i).symm,fun n=>(h.o n).symm⟩
theorem SEq.trans {a b c:St} (h:SEq a b) (k:SEq b c):SEq a c:=⟨fun i=>(h.t i).trans (k.t i),fun n=>(h.o n).trans (k.o n)⟩
theorem SEq.opd {s s':St} (h:SEq s s'):opd s=opd s':=by
 funext x
 cases x <;> simp only [FM.opd,h.t]
theorem SEq.put {s s':St} (h:SEq s s') (d:Option Nat) (v:V):SEq (s.put d v) (s'.put d v):=by
 cases d with
 | none=>exact h
 | some d=>exact ⟨fun i=>by simp only [St.put,St.get,O4]; split <;> first | rfl | exact h.t i,h.o⟩
theorem Pb (s:St) (d:Nat) (v:V) (i:Nat):(s.put (some d) v).get i=if d=i then v else s.get i:=by simp only [St.put,St.get,O4]
theorem SEq.up {s s':St} (h:SEq s s') (u:Upd):SEq (s.up u) (s'.up u):=by
 cases u with
 | new n ob=>exact ⟨fun i=>by rw [ZX,ZX,h.t],fun m=>by rw [F3,F3,h.o]⟩
 | set n ob=>exact ⟨h.t,fun m=>by simp only [St.up,D4,h.o]⟩
 | kill n=>exact ⟨h.t,fun m=>by simp only [St.up,D4,h.o]⟩
theorem SEq.ups:∀ {us:List Upd} {s s':St},SEq s s'→SEq (s.ups us) (s'.ups us)
 | [],_,_,h=>h
 | u :: r,_,_,h=>SEq.ups (us:=r) (h.up u)
theorem SEq.lit {s:St} {j:Nat} {b:Bool} (h:s.get j = .bool b):SEq s (LX s j b):=
 ⟨fun i=>by
  simp only [LX,St.get,O4];split
  ·rename_i e; subst e; exact h
  ·rfl,fun _=>rfl⟩
theorem gC:∀ {us:List Upd} {o o':Store},(∀ n,DG o n=DG o' n)→∀ n,DG (IQ us o) n=DG (IQ us o') n
 | [],_,_,h=>h
 | .set m ob :: r,o,o',h=>gC (us:=r) (fun n=>by rw [D4,D4,h])
 | .new m ob :: r,o,o',h=>gC (us:=r) (fun n=>by rw [D4,D4,h])
 | .kill m :: r,o,o',h=>gC (us:=r) (fun n=>by rw [D4,D4,h])
theorem SI:∀ {us:List Upd} {o:Store} {n:Nat},n ∉ H5 us→DG (IQ us o) n=DG o n
 | [],_,_,_=>rfl
 | .set m ob :: r,o,n,h=>by
  simp only [H5,AU,not_or] at h;rw [IQ,SI h.2,D4,A4 (fun e=>h.1 e.symm)]
 | .new m ob :: r,o,n,h=>by
  simp only [H5,AU,not_or] at h;rw [IQ,SI h.2,D4,A4 (fun e=>h.1 e.symm)]
 | .kill m :: r,o,n,h=>by
  simp only [H5,AU,not_or] at h;rw [IQ,SI h.2,D4,A4 (fun e=>h.1 e.symm)]
theorem oA:∀ {us:List Upd} {o o':Store} {n:Nat},n∈H5 us→DG (IQ us o) n=DG (IQ us o') n
 | [],_,_,_,h=>by simp [H5] at h
 | u :: r,o,o',n,h=>by
  by_cases hr:n∈H5 r
  ·cases u <;> simp only [IQ] <;> exact oA hr
  ·cases u <;> simp only [H5,AU,hr,C1] at h <;> subst h <;> simp only [IQ] <;> rw [SI hr,SI hr,D4,D4,BL rfl,BL rfl]
theorem SEq.apD {s s':St} (h:SEq s s') (x:Dn):SEq (apD s x) (apD s' x):=⟨(h.put x.dst x.v).t,gC h.o⟩
theorem SEq.apDs:∀ {l:List Dn} {s s':St},SEq s s'→SEq (apDs s l) (apDs s' l)
 | [],_,_,h=>h
 | x :: r,_,_,h=>SEq.apDs (l:=r) (h.apD x)
theorem gU:∀ (l l':List Dn) (s:St),apDs s (l++l')=apDs (apDs s l) l'
 | [],_,_=>rfl
 | x :: r,l',s=>gU r l' (apD s x)
theorem vK {n:Nat} {v:V} (hc:VU v=true) (hn:n ∉ EF v):FG.leaf n v=v:=by
 cases v <;> simp only [VU] at hc <;> first | (cases hc; done) | rfl | skip
 ·simp only [EF,BU] at hn;simp only [FG.leaf,HV.2 (fun e=>hn e.symm)]
 ·simp only [EF,BU] at hn;simp only [FG.leaf,HV.2 (fun e=>hn e.symm)]
theorem d7 {n:Nat}:∀ {l:List V},VV l=true→n ∉ E0 l→l.map (FG.leaf n)=l
 | [],_,_=>rfl
 | v :: r,hc,hn=>by
  simp only [VV] at hc;split at hc
  ·rename_i h1;simp only [E0,AV,not_or] at hn;simp only [AZ,vK h1 hn.1,d7 hc hn.2]
  ·cases hc
theorem kJ {n:Nat}:∀ {l:List V},NQ.go l=true→n ∉ EW.go l→l.map (FG.leaf2 n)=l
 | [],_,_=>rfl
 | v :: r,hc,hn=>by
  by_cases ha:∃ l,v = .agg l
  ·obtain ⟨l,rfl⟩:=ha;simp only [NQ.go] at hc;split at hc
   ·rename_i h1;simp only [EW.go,AV,not_or] at hn;simp only [AZ,FG.leaf2,d7 h1 hn.1,kJ hc hn.2]
   ·cases hc
  ·have h0:FG.leaf2 n v=FG.leaf n v:=by cases v <;> first | rfl | exact absurd ⟨_,rfl⟩ ha
   have h1:VU v=true∧NQ.go r=true:=by
    cases v <;> simp only [NQ.go,VU] at hc ⊢ <;> first | (simp at hc; done) | (simpa using hc) | (cases hc; done) | exact absurd ⟨_,rfl⟩ ha
   have h2:n ∉ EF v∧n ∉ EW.go r:=by
    cases v <;> simp only [EW.go,AV,not_or] at hn <;> first | exact hn | exact absurd ⟨_,rfl⟩ ha
   simp only [AZ,h0,vK h1.1 h2.1,kJ h1.2 h2.2]
theorem zL {n:Nat} {v:V} (hc:NQ v=true) (hn:n ∉ EW v):FG n v=v:=by
 cases v <;> simp only [NQ] at hc <;> first | rfl | skip
 case row a b c=>simp only [EW,EF,BU] at hn; simp only [FG,HV.2 (fun e=>hn e.symm)]
 case ptr a b c=>simp only [EW,EF,BU] at hn; simp only [FG,HV.2 (fun e=>hn e.symm)]
 case bview a b c d e=>simp only [EW,EF,BU] at hn; simp only [FG,HV.2 (fun e=>hn e.symm)]
 case agg l=>simp only [FG,d7 hc hn]
 case tup l=>simp only [FG,kJ hc hn]
 case clo f l=>
  have:n ∉ E0 l:=fun h=>hn (aW h)
  simp only [FG,d7 hc this]
theorem zM {n:Nat}:∀ {l:List V},cY l=true→n ∉ GN l→l.map (FG n)=l
 | [],_,_=>rfl
 | v :: r,hc,hn=>by
  simp only [cY] at hc;split at hc
  ·rename_i h1;simp only [GN,AV,not_or] at hn;simp only [AZ,zL h1 hn.1,zM hc hn.2]
  ·cases hc
theorem fH {n:Nat} {ob:Ob} (hc:iK ob=true) (hn:n ∉ aX ob):G3 n (some ob)=some ob:=by
 cases ob with
 | box cs=>simp only [G3,zM hc hn]
 | row _ _ _ _ _=>rfl
 | bld _=>rfl
theorem xK {p:Nat→Bool} {n:Nat} (hp:p n=true) (v:V):FG.leaf n (F9.leaf p v)=F9.leaf p v:=by
 cases v <;> simp only [F9.leaf] <;> first | rfl | skip
 all_goals
  rename_i m _ _;cases hm:p m with
  | true=>rfl
  | false=>
   simp only [FG.leaf];rw [HV.2 (fun e=>by subst e; rw [hp] at hm; cases hm)]
theorem e9 {p:Nat→Bool} {n:Nat} (hp:p n=true):∀ (l:List V),(F9.go p l).map (FG.leaf n)=F9.go p l
 | []=>rfl
 | v :: r=>by simp only [F9.go,AZ,xK hp,e9 hp r]
theorem zaJ {p:Nat→Bool} {n:Nat} (hp:p n=true) (v:V):FG.leaf2 n (F9.leaf2 p v)=F9.leaf2 p v:=by
 by_cases ha:∃ l,v = .agg l
 ·obtain ⟨l,rfl⟩:=ha;simp only [F9.leaf2,FG.leaf2,e9 hp]
 ·have h0:F9.leaf2 p v=F9.leaf p v:=by cases v <;> first | rfl | exact absurd ⟨_,rfl⟩ ha
  rw [h0]
  have:=xK hp v
  cases hx:F9.leaf p v <;> rw [hx] at this <;> first | exact this | skip
  exfalso;cases v <;> simp only [F9.leaf] at hx <;> try (cases hx; done)
  all_goals (split at hx <;> cases hx)
theorem xM {p:Nat→Bool} {n:Nat} (hp:p n=true):∀ (l:List V),(F9.go2 p l).map (FG.leaf2 n)=F9.go2 p l
 | []=>rfl
 | v :: r=>by simp only [F9.go2,AZ,zaJ hp,xM hp r]
theorem xO {p:Nat→Bool} {n:Nat} (hp:p n=true) (v:V):FG n (F9 p v)=F9 p v:=by
 have key:∀ m,p m=false→BI m n=false:=fun m hm=>HV.2 (fun e=>by subst e; rw [hp] at hm; cases hm)
 cases v <;> simp only [F9] <;> try rfl
 case row m _ _=>cases hm:p m <;> simp only [FG,key m,hm]
 case ptr m _ _=>cases hm:p m <;> simp only [FG,key m,hm]
 case bview m _ _ _ _=>cases hm:p m <;> simp only [FG,key m,hm]
 case agg l=>simp only [FG,e9 hp]
 case tup l=>simp only [FG,xM hp]
 case clo f l=>simp only [FG,e9 hp]
theorem eE (f:V→V):∀ l,KX.mapV f l=l.map f
 | []=>rfl
 | v :: r=>by simp only [KX.mapV,AZ,eE f r]
theorem zaL {p:Nat→Bool} {n:Nat} (hp:p n=true) (x:Option Ob):G3 n (KX p x)=KX p x:=by
 match x with
 | none=>rfl
 | some (.row _ _ _ _ _)=>rfl
 | some (.bld _)=>rfl
 | some (.box cs)=>
  simp only [KX,G3,eE,List.map_map];congr 2;exact List.map_congr_left (fun v _=>xO hp v)
structure Fr (n:Nat) (s:St):Prop where
 t:∀ i,FG n (s.get i)=s.get i
 o:∀ m,G3 n (DG s.o m)=DG s.o m
theorem Fr.congr {n:Nat} {s s':St} (h:Fr n s) (e:SEq s s'):Fr n s':=⟨fun i=>by rw [← e.t]; exact h.t i,fun m=>by rw [← e.o]; exact h.o m⟩
theorem aF {n:Nat} {l:List Nat}:JE n l=false↔n ∉ l:=by
 rw [← aE]; simp
theorem VZ:∀ {l l':List Nat},P9 l l'=true↔∀ n∈l,n ∉ l'
 | [],l'=>by simp [P9]
 | m :: r,l'=>by
  simp only [P9];cases hb:JE m l' with
  | true=>simp [aE.1 hb]
  | false=>simp [aF.1 hb,VZ (l:=r)]
theorem gD:∀ {us:List Upd} {s:St},(∀ n∈NA us,Fr n s)→NH us=true→SEq (s.ups us) ⟨s.t,IQ us s.o⟩
 | [],s,_,_=>SEq.refl s
 | .kill m :: r,s,hf,ho=>by
  simp only [St.ups,IQ];exact gD (us:=r) (s:=s.up (.kill m)) (fun n hn=>⟨(hf n hn).t,fun k=>by
   simp only [St.up,D4];split
   ·rfl
   ·exact (hf n hn).o k⟩) ho
 | .set m ob :: r,s,hf,ho=>by
  simp only [NH,AH] at ho;simp only [St.ups,IQ];exact gD (us:=r) (s:=s.up (.set m ob)) (fun n hn=>⟨(hf n hn).t,fun k=>by
   simp only [St.up,D4];split
   ·exact fH ho.1 (VZ.1 ho.2.1 n hn)
   ·exact (hf n hn).o k⟩) ho.2.2
 | .new m ob :: r,s,hf,ho=>by
  simp only [NH,AH] at ho;simp only [St.ups,IQ];have hm:Fr m s:=hf m (by simp [NA]);have e:SEq (s.up (.new m ob)) (s.up (.set m ob)):=⟨fun i=>by rw [ZX,hm.t]; rfl,fun k=>by rw [F3,hm.o]; simp only [St.up,D4]⟩;refine (e.ups (us:=r)).trans ?_;exact gD (us:=r) (s:=s.up (.set m ob)) (fun n hn=>⟨(hf n (by simp [NA,hn])).t,fun k=>by
   simp only [St.up,D4];split
   ·exact fH ho.1 (VZ.1 ho.2.1 n hn)
   ·exact (hf n (by simp [NA,hn])).o k⟩) ho.2.2
open Go Go.RowKit
def CmpP (p:Nat→Bool) (γ:Nat→Value) (o:Store) (γ':Nat→Value) (o':Store):Prop:=
 ∀ n ob',p n=false→DG o' n=some ob'→γ' n=γ n∧∃ ob,DG o n=some ob∧ob.fits ob'
section
variable {γ γ':Nat→Value} {o o':Store} {w:World} {O:Nat→Prop} {p:Nat→Bool}
theorem CmpP.but (hc:CmpP p γ o γ' o') {n:Nat} (hn:p n=false) {v:V} (hv:v = .any∨(∃ lo hi,v = .row n lo hi)∨(∃ i c,v = .ptr n i c)∨∃ c cap sz len,v = .bview n c cap sz len) {x:Value} (h:VRel γ o w O v x):VRel γ' o' w O v x:=by
 let f:Nat→Value:=fun m=>if m=n then γ' n else γ m
 rcases hv with rfl | ⟨lo,hi,rfl⟩ | ⟨i,c,rfl⟩ | ⟨c,cap,sz,len,rfl⟩
 ·simp only [VRel]
 ·simp only [VRel] at h ⊢;cases h':DG o' n with
  | none=>trivial
  | some ob'=>
   obtain ⟨hg,ob,ho,hf⟩:=hc n ob' hn h';rw [ho] at h;rw [hg];cases ob <;> cases ob' <;> simp only [Ob.fits] at hf <;> try trivial
   obtain ⟨rfl,hl⟩:=hf;exact ⟨by rw [← hl]; exact h.1,h.2⟩
 ·simp only [VRel] at h ⊢;cases h':DG o' n with
  | none=>trivial
  | some ob'=>
   obtain ⟨hg,ob,ho,hf⟩:=hc n ob' hn h';rw [ho] at h;rw [hg];cases ob <;> cases ob' <;> simp only [Ob.fits] at hf
   ·exact h
   ·obtain ⟨rfl,hl⟩:=hf;exact ⟨by rw [← hl]; exact h.1,h.2⟩
   ·exact h
 ·simp only [VRel] at h ⊢;cases h':DG o' n with
  | none=>trivial
  | some ob'=>
   obtain ⟨hg,ob,ho,hf⟩:=hc n ob' hn h';rw [ho] at h;rw [hg];cases ob <;> cases ob' <;> simp only [Ob.fits] at hf <;> try trivial
   exact ⟨h.1,h.2.1,by rw [← hf]; exact h.2.2.1,h.2.2.2⟩
theorem xL (hc:CmpP p γ o γ' o') {v:V} {x:Value} (h:VRel γ o w O v x):VRel γ' o' w O (F9.leaf p v) x:=by
 cases v <;> simp only [F9.leaf]
 case row n lo hi=>
  cases hb:p n with
  | true=>simp only [VRel]
  | false=>exact hc.but hb (.inr (.inl ⟨_,_,rfl⟩)) h
 case ptr n i c=>
  cases hb:p n with
  | true=>simp only [VRel]
  | false=>exact hc.but hb (.inr (.inr (.inl ⟨_,_,rfl⟩))) h
 all_goals first
  | (simp only [VRel] at h ⊢; exact h)
  | simp only [VRel]
theorem fA (hc:CmpP p γ o γ' o'):∀ {l:List V} {xs:List Value},VRels γ o w O l xs→VRels γ' o' w O (F9.go p l) xs
 | [],[],_=>by simp only [F9.go,VRels]
 | [],_ :: _,h=>by simp only [VRels] at h
 | _ :: _,[],h=>by simp only [VRels] at h
 | v :: vs,x :: xs,h=>by
  simp only [VRels,F9.go] at h ⊢;exact ⟨xL hc h.1,fA hc h.2⟩
theorem zaK (hc:CmpP p γ o γ' o') {v:V} {x:Value} (h:VRel γ o w O v x):VRel γ' o' w O (F9.leaf2 p v) x:=by
 cases v <;> simp only [F9.leaf2] <;> try exact xL hc h
 simp only [VRel] at h ⊢;obtain ⟨cs,hx,hr⟩:=h;exact ⟨cs,hx,fA hc hr⟩
theorem xN (hc:CmpP p γ o γ' o'):∀ {l:List V} {xs:List Value},VRels γ o w O l xs→VRels γ' o' w O (F9.go2 p l) xs
 | [],[],_=>by simp only [F9.go2,VRels]
 | [],_ :: _,h=>by simp only [VRels] at h
 | _ :: _,[],h=>by simp only [VRels] at h
 | v :: vs,x :: xs,h=>by
  simp only [VRels,F9.go2] at h ⊢;exact ⟨zaK hc h.1,xN hc h.2⟩
theorem xP (hc:CmpP p γ o γ' o') {v:V} {x:Value} (h:VRel γ o w O v x):VRel γ' o' w O (F9 p v) x:=by
 cases v <;> simp only [F9]
 case row n lo hi=>
  cases hb:p n with
  | true=>simp only [VRel]
  | false=>exact hc.but hb (.inr (.inl ⟨_,_,rfl⟩)) h
 case ptr n i c=>
  cases hb:p n with
  | true=>simp only [VRel]
  | false=>exact hc.but hb (.inr (.inr (.inl ⟨_,_,rfl⟩))) h
 case bview n c cap sz len=>
  cases hb:p n with
  | true=>simp only [VRel]
  | false=>exact hc.but hb (.inr (.inr (.inr ⟨_,_,_,_,rfl⟩))) h
 case agg l=>
  simp only [VRel] at h ⊢;obtain ⟨cs,hx,hr⟩:=h;exact ⟨cs,hx,fA hc hr⟩
 case tup l=>
  simp only [VRel] at h ⊢;obtain ⟨cs,hx,hr⟩:=h;exact ⟨cs,hx,xN hc hr⟩
 case clo f l=>
  simp only [VRel] at h ⊢;obtain ⟨cs,hx,hr⟩:=h;exact ⟨cs,hx,fA hc hr⟩
 all_goals (simp only [VRel] at h ⊢; try exact h)
theorem xQ (hc:CmpP p γ o γ' o'):∀ {l:List V} {xs:List Value},VRels γ o w O l xs→VRels γ' o' w O (l.map (F9 p)) xs
 | [],[],_=>by simp only [CB,VRels]
 | [],_ :: _,h=>by simp only [VRels] at h
 | _ :: _,[],h=>by simp only [VRels] at h
 | v :: vs,x :: xs,h=>by
  simp only [VRels,AZ] at h ⊢;exact ⟨xP hc h.1,xQ hc h.2⟩
end
theorem iL (p:Nat→Bool):∀ (o:Store) (n:Nat),DG (VW p o) n=match p n with | true=>none | false=>KX p (DG o n)
 | [],n=>by simp only [VW,DG,EP]; cases p n <;> rfl
 | (m,x) :: r,n=>by
  simp only [VW];by_cases e:m=n
  ·subst e;cases hp:p m <;> simp only [D4,CM]
  ·cases hp:p m <;> simp only [D4,A4 e,iL p r n]
theorem zbJ {p:Nat→Bool} {x:Option Ob} {ob:Ob} (h:KX p x=some ob):∃ ob0,x=some ob0∧KX p (some ob0)=some ob:=by
 cases x with
 | none=>simp [KX] at h
 | some ob0=>exact ⟨ob0,rfl,h⟩
theorem bA {p:Nat→Bool} {ob0 ob:Ob} (h:KX p (some ob0)=some ob):ob0.fits ob∧∀ g b,EY g ob b↔EY g ob0 b:=by
 cases ob0 <;> simp only [KX,AC] at h <;> subst h
 ·exact ⟨by simp [Ob.fits,eE],fun _ _=>Iff.rfl⟩
 ·exact ⟨⟨rfl,rfl⟩,fun _ _=>Iff.rfl⟩
 ·exact ⟨trivial,fun _ _=>Iff.rfl⟩
section
variable {B:BT} {nt:Nat} {w0:World} {X:Zone} {γ:Nat→Value} {st st':St} {a:Act} {w:World} {P:Program} {E:Env}
theorem Rel.less (h:Rel B nt w0 X γ st a w) {st':St} (ht:∀ i,st'.get i=st.get i∨st'.get i = .any) (ho:∀ n ob,DG st'.o n=some ob→DG st.o n=some ob):Rel B nt w0 X γ st' a w:=by
 have hP:∀ b,EX γ st'.o b→EX γ st.o b:=fun b ⟨n,ob,h1,h2⟩=>⟨n,ob,ho n ob h1,h2⟩
 have hO:∀ b,b < w.heap.size→DI X γ st'.o b→DI X γ st.o b:=fun b _ hb=>hb.imp_left (hP b)
 have hc:Cmp γ st.o γ st'.o:=fun n ob hn=>⟨rfl,ob,ho n ob hn,ob.fits_refl⟩
 refine ⟨h.sz,h.df,fun i=>?_,fun n ob hn=>(h.ob n ob (ho n ob hn)).later (fun _ _=>rfl) (Keep.refl _ w) hO hc,fun b hb=>h.lt b (hP b hb),fun n m ob ob' b hne h1 h2=>h.dis n m ob ob' b hne (ho n ob h1) (ho m ob' h2),h.keep,fun b hb=>h.nr b (hP b hb),h.fl,fun p hp ob h1=>h.pn p hp ob (ho _ ob h1)⟩;rcases ht i with h1 | h1
 ·rw [h1];exact VRel.mono (Keep.refl _ w) hO (VRel.cmp hc (h.tm i))
 ·rw [h1];simp only [VRel]
theorem Rel.lit (h:Rel B nt w0 X γ st a w) {i:Nat} {v:V} (hv:st.get i=v):Rel B nt w0 X γ ⟨(i,v) :: st.t,st.o⟩ a w:=by
 refine h.less (fun j=>?_) (fun _ _ h=>h);simp only [St.get,O4];by_cases e:i=j
 ·subst e;simp only [CM];exact .inl hv.symm
 ·simp only [A4 e];exact .inl trivial
theorem ZQ:∀ (ops:List Oper) (j d:Nat),M3 ops j=some d→(ops[j]?).bind (·.dst)=some d
 | [],j,d,h=>by simp [M3] at h
 | o :: r,0,d,h=>by simpa [M3] using h
 | o :: r,j+1,d,h=>by simpa [M3] using ZQ r j d (by simpa [M3] using h)
theorem pQ (h:Rel B nt w0 X γ st a w) {i:Nat} {c:Bool} (hv:st.get i = .bool c):a.tmps[i]?=some (.bool c):=by
 have:=h.tm i
 rw [hv] at this;simp only [VRel,vbl] at this;cases ht:a.tmps[i]? with
 | none=>rw [ht] at this; simp [undef] at this
 | some u=>rw [ht] at this; simp only [vao] at this; rw [this]
theorem El (h:Rel B nt w0 X γ st a w) {i:Nat} (hv:st.get i = .tup []):a.tmps[i]?=none∨a.tmps[i]?=some (.tuple #[]):=by
 have:=h.tm i
 rw [hv] at this;simp only [VRel,vbl] at this;obtain ⟨cs,h1,h2⟩:=this;cases hl:cs.toList with
 | nil=>
  have e:cs = #[]:=by simpa using hl
  rw [e] at h1;cases ht:a.tmps[i]? with
  | none=>exact .inl rfl
  | some u=>rw [ht] at h1; simp only [vao] at h1; rw [h1]; exact .inr rfl
 | cons x l=>rw [hl] at h2; simp only [VRels] at h2
theorem Rel.clear (h:Rel B nt w0 X γ st a w) (ds:List Nat):Rel B nt w0 X γ (LT ds st) a w:=by
 have hget:∀ n ob,DG (LT ds st).o n=some ob→M5 ds n=false∧∃ ob0,DG st.o n=some ob0∧KX (M5 ds) (some ob0)=some ob:=by
  intro n ob hn;simp only [LT,iL] at hn;split at hn
  ·cases hn
  ·rename_i hp;exact ⟨hp,zbJ hn⟩
 have hP:∀ b,EX γ (LT ds st).o b→EX γ st.o b:=by
  rintro b ⟨n,ob,h1,h2⟩;obtain ⟨_,ob0,h3,h4⟩:=hget n ob h1;exact ⟨n,ob0,h3,((bA h4).2 _ _).1 h2⟩
 have hO:∀ b,b < w.heap.size→DI X γ (LT ds st).o b→DI X γ st.o b:=fun b _ hb=>hb.imp_left (hP b)
 have hc:CmpP (M5 ds) γ st.o γ (LT ds st).o:=by
  intro n ob' _ hn;obtain ⟨_,ob0,h3,h4⟩:=hget n ob' hn;exact ⟨rfl,ob0,h3,(bA h4).1⟩
 refine ⟨h.sz,h.df,fun i=>?_,fun n ob hn=>?_,fun b hb=>h.lt b (hP b hb),fun n m ob ob' b hne h1 h2 hb1 hb2=>?_,h.keep,fun b hb=>h.nr b (hP b hb),h.fl,fun p hp ob h1=>?_⟩
 ·have:(LT ds st).get i=F9 (M5 ds) (st.get i):=by
   simp only [LT,St.get];exact Z9 _ _ rfl _ _
  rw [this];exact VRel.mono (Keep.refl _ w) hO (xP hc (h.tm i))
 ·obtain ⟨_,ob0,h3,h4⟩:=hget n ob hn;have hor:=h.ob n ob0 h3;cases ob0 with
  | box l=>
   simp only [KX,AC] at h4;subst h4;simp only [ObRel] at hor ⊢;obtain ⟨b,c,T,hg,hh,hr⟩:=hor;rw [eE];exact ⟨b,c,T,hg,hh,VRels.mono (Keep.refl _ w) hO (xQ hc hr)⟩
  | row own e ag ks l=>
   simp only [KX,AC] at h4;subst h4;exact hor.later (fun _ _=>rfl) (Keep.refl _ w) hO (fun m ob1 hm=>by
    obtain ⟨_,ob0,h5,h6⟩:=hget m ob1 hm;exact ⟨rfl,ob0,h5,(bA h6).1⟩)
  | bld s=>
   simp only [KX,AC] at h4;subst h4;simpa only [ObRel] using hor
 ·obtain ⟨_,ob0,h3,h4⟩:=hget n ob h1;obtain ⟨_,ob1,h5,h6⟩:=hget m ob' h2;exact h.dis n m ob0 ob1 b hne h3 h5 (((bA h4).2 _ _).1 hb1) (((bA h6).2 _ _).1 hb2)
 ·obtain ⟨_,ob0,h3,_⟩:=hget _ ob h1;exact h.pn p hp ob0 h3
theorem Rel.seq (h:Rel B nt w0 X γ st a w) (e:SEq st st'):Rel B nt w0 X γ st' a w:=
 h.less (fun i=>.inl (e.t i).symm) (fun n ob hn=>by rw [e.o]; exact hn)
end
theorem Ku {ds:List Nat} {n:Nat} (hn:M5 ds n=true) (s:St):Fr n (LT ds s):=by
 refine ⟨fun i=>?_,fun m=>?_⟩
 ·have:(LT ds s).get i=F9 (M5 ds) (s.get i):=by
   simp only [LT,St.get];exact Z9 _ _ rfl _ _
  rw [this];exact xO hn _
 ·simp only [LT,iL];split
  ·rfl
  ·exact zaL hn _
def StepOK (E:Env) (all:List Oper) (o:Oper) (s:St) (D:Dn):Prop:=
 N2 E o.dst=true∧D.dst=o.dst∧D.tm=K0 all o ∧
 match o.guard with
 | none=>(D3 E s.o (opd s) o.dst o.op).get=some (D.v,D.us)∧D.rd=L3 E s.o (opd s) o.op
 | some (j,b)=>(∃ dj c,M3 all j=some dj∧s.get dj = .bool c ∧
  ((c=b∧(D3 E s.o (opd s) o.dst o.op).get=some (D.v,D.us)∧D.rd=L3 E s.o (opd s) o.op)∨(c≠b∧D.v = .tup []∧D.us=[]))) ∨
  (∃ dj,M3 all j=some dj∧s.get dj = .tup []∧D.v = .tup []∧D.us=[])
def Steps (E:Env) (all:List Oper):List Oper→St→List Dn→Prop
 | [],_,[]=>True
 | o :: r,s,D :: Ds=>StepOK E all o s D∧Steps E all r (apD s D) Ds
 | _,_,_=>False
theorem StepOK.congr {E:Env} {all:List Oper} {o:Oper} {s s':St} {D:Dn} (h:StepOK E all o s D) (e:SEq s s'):StepOK E all o s' D:=by
 have hag:∀ (ρ:Operand→V) d op,D3 E s'.o ρ d op=D3 E s.o ρ d op:=fun ρ d op=>tV (fun n _=>(e.o n).symm)
 have hdp:∀ l,JQ s'.o l=JQ s.o l:=by
  intro l
  induction l with
  | nil=>rfl
  | cons n r ih=>simp only [JQ,ih,e.o]
 have hrd:∀ (ρ:Operand→V) op,L3 E s'.o ρ op=L3 E s.o ρ op:=fun ρ op=>by unfold L3 fC; rw [hdp]
 unfold StepOK at h ⊢;refine ⟨h.1,h.2.1,h.2.2.1,?_⟩;have h3:=h.2.2.2;rw [← e.opd];simp only [hag,hrd];split at h3
 ·exact h3
 ·rcases h3 with ⟨dj,c,h4,h5,h6⟩ | ⟨dj,h4,h5,h6⟩
  ·exact .inl ⟨dj,c,h4,by rw [← e.t]; exact h5,h6⟩
  ·exact .inr ⟨dj,h4,by rw [← e.t]; exact h5,h6⟩
theorem Steps.congr {E:Env} {all:List Oper}:∀ {l:List Oper} {s s':St} {Ds:List Dn},Steps E all l s Ds→SEq s s'→Steps E all l s' Ds
 | [],_,_,[],_,_=>trivial
 | [],_,_,_ :: _,h,_=>by simp [Steps] at h
 | _ :: _,_,_,[],h,_=>by simp [Steps] at h
 | o :: r,s,s',D :: Ds,h,e=>by
  simp only [Steps] at h ⊢;exact ⟨h.1.congr e,Steps.congr h.2 (e.apD D)⟩
theorem tU {E:Env} {all:List Oper} {res:V × List (List V)}:∀ (l:List Oper) {s:St} {acc:List Dn} {k:List Dn→St→DH},NX E all l s acc k=some res →
  ∃ Ds s',Steps E all l s Ds∧SEq s' (apDs s Ds)∧k (Ds.reverse++acc) s'=some res
 | [],s,acc,k,h=>⟨[],s,trivial,SEq.refl s,by simpa [NX] using h⟩
 | o :: r,s,acc,k,h=>by
  simp only [NX] at h;have hd:N2 E o.dst=true:=by
   cases hd:N2 E o.dst with
   | true=>rfl
   | false=>rw [hd] at h; cases h
  rw [hd] at h;simp only at h;have fin:∀ (s1:St) (D:Dn),SEq s s1→StepOK E all o s1 D→NX E all r (apD s1 D) (D :: acc) k=some res →
    ∃ Ds s',Steps E all (o :: r) s Ds∧SEq s' (apDs s Ds)∧k (Ds.reverse++acc) s'=some res:=by
   intro s1 D e hs he;obtain ⟨Ds,s',h1,h2,h3⟩:=tU r he;refine ⟨D :: Ds,s',⟨hs.congr e.symm,h1.congr (e.symm.apD D)⟩,h2.trans ((e.symm.apD D).apDs),?_⟩;simpa using h3
  split at h
  ·rename_i hg;obtain ⟨v,us,h1,h2⟩:=T.run_some h;exact fin s _ (SEq.refl s) ⟨hd,rfl,rfl,by rw [hg]; exact ⟨h1,rfl⟩⟩ h2
  ·rename_i j b hg;split at h
   ·rename_i dj hdj;split at h
    ·rename_i c hc;have hl:∀ c',(LX s dj c').get dj = .bool c':=fun c'=>by simp [LX,St.get,O4]
     cases c with
     | true=>
      have e:=SEq.lit hc;cases b with
      | true=>
       simp only at h;obtain ⟨v,us,h1,h2⟩:=T.run_some h;exact fin _ _ e ⟨hd,rfl,rfl,by rw [hg]; exact .inl ⟨dj,true,hdj,hl _,.inl ⟨rfl,h1,rfl⟩⟩⟩ h2
      | false=>exact fin _ _ e ⟨hd,rfl,rfl,by rw [hg]; exact .inl ⟨dj,true,hdj,hl _,.inr ⟨by simp,rfl,rfl⟩⟩⟩ h
     | false=>
      have e:=SEq.lit hc;cases b with
      | false=>
       simp only at h;obtain ⟨v,us,h1,h2⟩:=T.run_some h;exact fin _ _ e ⟨hd,rfl,rfl,by rw [hg]; exact .inl ⟨dj,false,hdj,hl _,.inl ⟨rfl,h1,rfl⟩⟩⟩ h2
      | true=>exact fin _ _ e ⟨hd,rfl,rfl,by rw [hg]; exact .inl ⟨dj,false,hdj,hl _,.inr ⟨by simp,rfl,rfl⟩⟩⟩ h
    ·rename_i hc;exact fin _ _ (SEq.refl s) ⟨hd,rfl,rfl,by rw [hg]; exact .inr ⟨dj,hdj,hc,rfl,rfl⟩⟩ h
    ·cases h
   ·cases h
theorem Steps.length {E:Env} {all:List Oper}:∀ {l:List Oper} {s:St} {Ds:List Dn},Steps E all l s Ds→Ds.length=l.length
 | [],_,[],_=>rfl
 | [],_,_ :: _,h=>by simp [Steps] at h
 | _ :: _,_,[],h=>by simp [Steps] at h
 | _ :: _,_,_ :: _,h=>by simp only [AN,Steps.length h.2]
theorem Steps.get {E:Env} {all:List Oper}:∀ {l:List Oper} {s:St} {Ds:List Dn} {i:Nat} {o:Oper} {D:Dn},Steps E all l s Ds→l[i]?=some o→Ds[i]?=some D→StepOK E all o (apDs s (Ds.take i)) D
 | [],_,_,_,_,_,_,h,_=>by simp at h
 | _ :: _,_,[],_,_,_,_,_,h=>by simp at h
 | o :: r,s,D :: Ds,0,_,_,h,h1,h2=>by
  simp only [BK,AC] at h1 h2;subst h1; subst h2;exact h.1
 | o :: r,s,D :: Ds,i+1,_,_,h,h1,h2=>by
  simp only [DB] at h1 h2;simp only [List.take_succ_cons,apDs];exact Steps.get h.2 h1 h2
def EA (L:Nat→Bool):Nat→List Dn→List Dn
 | _,[]=>[]
 | i,D :: r=>match L i with | true=>D :: EA L (i+1) r | false=>EA L (i+1) r
theorem WS {L L':Nat→Bool}:∀ (l:List Dn) (i:Nat),(∀ j,i≤j→j < i+l.length→L j=L' j)→EA L i l=EA L' i l
 | [],_,_=>rfl
 | D :: r,i,h=>by
  simp only [EA];rw [h i (AY i) (by simp),WS r (i+1) (fun j h1 h2=>h j (by omega) (by simp only [AN]; omega))]
theorem bC:∀ (l:List Dn) (i:Nat),EA (fun _=>false) i l=[]
 | [],_=>rfl
 | D :: r,i=>by simp only [EA,bC r]
theorem zQ:∀ (l:List Dn) (i:Nat),EA (fun _=>true) i l=l
 | [],_=>rfl
 | D :: r,i=>by simp only [EA,zQ r]
theorem zR (k:Nat):∀ (l:List Dn) (i:Nat),EA (fun j=>decide (j < i+k)) i l=l.take k
 | [],i=>by simp [EA]
 | D :: r,i=>by
  cases k with
  | zero=>
   rw [WS (L':=fun _=>false) _ _ (fun j h1 h2=>by simp; omega),bC];rfl
  | succ k=>
   simp only [EA];rw [show decide (i < i+(k+1))=true by simp];simp only [List.take_succ_cons,vaV,vaZ]
   have:=zR k r (i+1)
   rw [show i+(k+1)=i+1+k by omega];exact this
theorem QM {L L':Nat→Bool} {n:Nat}:∀ (l:List Dn) (i:Nat) {s s':St},DG s.o n=DG s'.o n→(∀ j D,l[j]?=some D→n∈H5 D.us→L (i+j)=L' (i+j))→DG (apDs s (EA L i l)).o n=DG (apDs s' (EA L' i l)).o n
 | [],_,_,_,h,_=>h
 | D :: r,i,s,s',h,hl=>by
  have hr:∀ j E,r[j]?=some E→n∈H5 E.us→L (i+1+j)=L' (i+1+j):=fun j E hj hn=>by
   have:=hl (j+1) E (by simpa using hj) hn
   rwa [show i+(j+1)=i+1+j by omega] at this
  have one:∀ {s:St},n ∉ H5 D.us→DG (apD s D).o n=DG s.o n:=fun h=>SI h
  by_cases hn:n∈H5 D.us
  ·have h0:=hl 0 D rfl hn;simp only [C4] at h0;simp only [EA,h0];cases L' i with
   | true=>exact QM r (i+1) (oA hn) hr
   | false=>exact QM r (i+1) h hr
  ·simp only [EA];cases L i <;> cases L' i <;> simp only [apDs]
   ·exact QM r (i+1) h hr
   ·exact QM r (i+1) (h.trans (one hn).symm) hr
   ·exact QM r (i+1) ((one hn).trans h) hr
   ·exact QM r (i+1) ((one hn).trans (h.trans (one hn).symm)) hr
theorem NP (s:St) (D:Dn) (t:Nat):(apD s D).get t=if D.dst=some t then D.v else s.get t:=by
 unfold apD;cases hd:D.dst with
 | none=>simp [St.put,St.get]
 | some d=>
  have:=Pb s d D.v t
  simp only [AC];exact this
theorem QL {L L':Nat→Bool} {t:Nat}:∀ (l:List Dn) (i:Nat) {s s':St},s.get t=s'.get t→(∀ j D,l[j]?=some D→D.dst=some t→L (i+j)=L' (i+j))→(apDs s (EA L i l)).get t=(apDs s' (EA L' i l)).get t
 | [],_,_,_,h,_=>h
 | D :: r,i,s,s',h,hl=>by
  have hr:∀ j E,r[j]?=some E→E.dst=some t→L (i+1+j)=L' (i+1+j):=fun j E hj hn=>by
   have:=hl (j+1) E (by simpa using hj) hn
   rwa [show i+(j+1)=i+1+j by omega] at this
  by_cases hn:D.dst=some t
  ·have h0:=hl 0 D rfl hn;simp only [C4] at h0;simp only [EA,h0];cases L' i with
   | true=>exact QL r (i+1) (by rw [NP,NP,BL hn,BL hn]) hr
   | false=>exact QL r (i+1) h hr
  ·simp only [EA];cases L i <;> cases L' i <;> simp only [apDs]
   ·exact QL r (i+1) h hr
   ·exact QL r (i+1) (by rw [NP,A4 hn]; exact h) hr
   ·exact QL r (i+1) (by rw [NP,A4 hn]; exact h) hr
   ·exact QL r (i+1) (by rw [NP,NP,A4 hn,A4 hn]; exact h) hr
theorem mU {L:Nat→Bool} {n:Nat}:∀ (l:List Dn) (i:Nat) {s:St},Fr n s→(∀ j D,l[j]?=some D→L (i+j)=true→NQ D.v=true∧n ∉ EW D.v∧∀ u∈D.us,∀ m ob,(u = .new m ob∨u = .set m ob)→G3 n (some ob)=some ob)→Fr n (apDs s (EA L i l))
 | [],_,_,h,_=>h
 | D :: r,i,s,h,hl=>by
  have hr:∀ j E,r[j]?=some E→L (i+1+j)=true→NQ E.v=true∧n ∉ EW E.v∧∀ u∈E.us,∀ m ob,(u = .new m ob∨u = .set m ob)→G3 n (some ob)=some ob:=fun j E hj hn=>by
   refine hl (j+1) E (by simpa using hj) ?_
   rwa [show i+(j+1)=i+1+j by omega]
  simp only [EA];cases hL:L i with
  | false=>exact mU r (i+1) h hr
  | true=>
   refine mU r (i+1) ?_ hr;obtain ⟨h1,h2,h3⟩:=hl 0 D rfl hL;refine ⟨fun t=>?_,?_⟩
   ·rw [NP];split
    ·exact zL h1 h2
    ·exact h.t t
   ·have key:∀ (us:List Upd) (o:Store),(∀ u∈us,∀ m ob,(u = .new m ob∨u = .set m ob)→G3 n (some ob)=some ob)→(∀ m,G3 n (DG o m)=DG o m)→∀ m,G3 n (DG (IQ us o) m)=DG (IQ us o) m:=by
     intro us
     induction us with
     | nil=>intro o _ h; exact h
     | cons u us ih=>
      intro o hu ho;have hu':=fun u' hu'=>hu u' (AX _ hu')
      cases u with
      | kill k=>exact ih _ hu' (fun m=>by rw [D4]; split <;> first | rfl | exact ho m)
      | set k ob=>exact ih _ hu' (fun m=>by rw [D4]; split <;> first | exact hu _ (AT ..) k ob (.inr rfl) | exact ho m)
      | new k ob=>exact ih _ hu' (fun m=>by rw [D4]; split <;> first | exact hu _ (AT ..) k ob (.inl rfl) | exact ho m)
    exact key D.us s.o h3 h.o
theorem mV {L:Nat→Bool}:∀ (l l':List Dn) (i:Nat),EA L i (l++l')=EA L i l++EA L (i+l.length) l'
 | [],l',i=>by simp [EA]
 | D :: r,l',i=>by
  simp only [vaa,EA,AN];rw [show i+(r.length+1)=i+1+r.length by omega];cases L i <;> simp [mV r l' (i+1)]
open Go Go.RowKit
theorem WF:∀ (l:List (List Nat)) (i:Nat),G8 l i=(l[i]?).getD []
 | [],i=>by simp [G8]
 | x :: r,0=>rfl
 | x :: r,i+1=>by simp only [G8,WF r i,DB]
theorem eG {acc:List (List Nat)} {j:Nat}:∀ {es:List Edge},j∈R4 acc es→∃ e∈es,vaS .any e=true∧(j=e.on∨j∈G8 acc e.on)
 | [],h=>by simp [R4] at h
 | e :: r,h=>by
  simp only [R4] at h;split at h
  ·rename_i hb;simp only [AU,AV] at h;rcases h with h | h | h
   ·exact ⟨e,AT ..,hb,.inl h⟩
   ·exact ⟨e,AT ..,hb,.inr h⟩
   ·obtain ⟨e',h1,h2⟩:=eG h;exact ⟨e',AX _ h1,h2⟩
  ·obtain ⟨e',h1,h2⟩:=eG h;exact ⟨e',AX _ h1,h2⟩
def QI (acc:List Nat):List Nat→List Nat
 | []=>acc
 | n :: r=>match JE n acc with
  | true=>QI acc r
  | false=>QI (n :: acc) r
theorem UF (k:List Nat→List (List Nat)):∀ (l acc:List Nat),aH acc l k=k (QI acc l)
 | [],_=>rfl
 | n :: r,acc=>by
  simp only [aH,QI];cases JE n acc with
  | true=>exact UF k r acc
  | false=>exact UF k r (n :: acc)
theorem kY {j:Nat}:∀ {l acc:List Nat},j∈QI acc l→j∈acc∨j∈l
 | [],_,h=>.inl h
 | n :: r,acc,h=>by
  simp only [QI] at h;cases hb:JE n acc with
  | true=>
   rw [hb] at h;exact (kY h).imp_right (AX _)
  | false=>
   rw [hb] at h;rcases kY h with h1 | h1
   ·rcases AU.1 h1 with rfl | h1
    ·exact .inr (AT ..)
    ·exact .inl h1
   ·exact .inr (AX _ h1)
theorem wA {j:Nat} {l:List Nat} (h:j∈QI [] l):j∈l:=(kY h).resolve_left (by simp)
theorem lZ:∀ (l:List Oper) (acc:List (List Nat)) (i:Nat),i < acc.length→G8 (H9 acc l) i=G8 acc i
 | [],_,_,_=>rfl
 | o :: r,acc,i,h=>by
  simp only [H9,UF];rw [lZ r _ i (by simp; omega),WF,WF,vbp h]
theorem lY:∀ (l:List Oper) (acc:List (List Nat)) (i:Nat) (o:Oper),l[i]?=some o →
  ∃ acc',acc'.length=acc.length+i∧G8 (H9 acc l) (acc.length+i)=QI [] (R4 acc' o.after.toList)∧∀ k,k < acc'.length→G8 acc' k=G8 (H9 acc l) k
 | [],_,_,_,h=>by simp at h
 | o :: r,acc,0,o',h=>by
  simp only [BK,AC] at h;subst h;refine ⟨acc,rfl,?_,fun k hk=>?_⟩
  ·simp only [H9,UF,C4];rw [lZ r _ acc.length (by simp),WF];simp
  ·simp only [H9,UF];rw [lZ r _ k (by simp; omega),WF,WF,vbp hk]
 | o :: r,acc,i+1,o',h=>by
  simp only [DB] at h;obtain ⟨acc',h1,h2,h3⟩:=lY r (acc++[QI [] (R4 acc o.after.toList)]) i o' h;simp only [AW,AN,A7] at h1 h2;refine ⟨acc',by omega,?_,fun k hk=>by rw [H9,UF]; exact h3 k hk⟩;rw [show acc.length+(i+1)=acc.length+(0+1)+i by omega,H9,UF];exact h2
theorem c8:∀ {l:List Oper} {k i:Nat} {o:Oper} {e:Edge},QA k l=true→l[i]?=some o→e∈o.after.toList→vaS .any e=true→e.on < k+i
 | [],_,_,_,_,_,h,_,_=>by simp at h
 | o :: r,k,0,o',e,hu,h,he,hb=>by
  simp only [BK,AC] at h;subst h;simp only [QA,AH] at hu;have key:∀ (es:List Edge),QA.go k es=true→e∈es→e.on < k:=by
   intro es
   induction es with
   | nil=>intro _ h; cases h
   | cons x es ih=>
    intro hg hm;simp only [QA.go] at hg;rcases AU.1 hm with h1 | h1
    ·subst h1;rw [hb] at hg;simp only [AH] at hg;exact AM hg.1
    ·split at hg
     ·simp only [AH] at hg;exact ih hg.2 h1
     ·exact ih hg h1
  exact key _ hu.1 he
 | o :: r,k,i+1,o',e,hu,h,he,hb=>by
  simp only [DB] at h;simp only [QA,AH] at hu
  have:=c8 hu.2 h he hb
  omega
section
variable {ops:List Oper}
def oU (ops:List Oper) (L:Nat→Bool):Prop:=∀ i o,ops[i]?=some o→L i=true→∀ e∈o.after.toList,vaS .any e=true→L e.on=true
theorem yA (hu:QA 0 ops=true):∀ (i:Nat) {o:Oper},ops[i]?=some o→∀ j∈G8 (H9 [] ops) i,j < i:=by
 intro i
 induction i using vbB with
 | _ i ih=>
  intro o ho j hj;obtain ⟨acc',h1,h2,h3⟩:=lY ops [] i o ho;simp only [A7,BF] at h1 h2;rw [h2] at hj;obtain ⟨e,he,hb,h4⟩:=eG (wA hj);have hlt:=c8 hu ho he hb;rw [BF] at hlt;rcases h4 with h4 | h4
  ·omega
  ·have hk:e.on < acc'.length:=by omega
   rw [h3 _ hk] at h4;have hlen:i < ops.length:=(BN.1 ho).1
   have:=ih e.on hlt (o:=ops[e.on]'(by omega)) (by simp [Nat.lt_trans hlt hlen]) j h4
   omega
theorem yB {L:Nat→Bool} (hu:QA 0 ops=true) (hL:oU ops L):∀ (i:Nat) {o:Oper},ops[i]?=some o→(∀ e∈o.after.toList,vaS .any e=true→L e.on=true)→∀ j∈G8 (H9 [] ops) i,L j=true:=by
 intro i
 induction i using vbB with
 | _ i ih=>
  intro o ho hr j hj;obtain ⟨acc',h1,h2,h3⟩:=lY ops [] i o ho;simp only [A7,BF] at h1 h2;rw [h2] at hj;obtain ⟨e,he,hb,h4⟩:=eG (wA hj);have hlt:=c8 hu ho he hb;rw [BF] at hlt;rcases h4 with h4 | h4
  ·subst h4;exact hr e he hb
  ·have hk:e.on < acc'.length:=by omega
   rw [h3 _ hk] at h4;have hlen:i < ops.length:=(BN.1 ho).1;have hg:ops[e.on]?=some (ops[e.on]'(by omega)):=by simp [Nat.lt_trans hlt hlen]
   exact ih e.on hlt hg (hL e.on _ hg (hr e he hb)) j h4
end
theorem zaG {d:Option Nat} {l:List Nat} (h:xH d l=false):∀ t,d=some t→t ∉ l:=by
 rintro t rfl;exact aF.1 h
theorem zaF {d e:Option Nat} (h:lN d e=false):∀ t,d=some t→e≠some t:=by
 rintro t rfl h';subst h';simp only [lN] at h;exact HV.1 h rfl
theorem xS {ps:List (List Nat)} {pi:List Nat} {i:Nat} {x:Dn}:∀ {l:List Dn} {k j:Nat} {y:Dn},WJ ps pi i x k l=true→l[j]?=some y→i≠k+j→aM pi (G8 ps (k+j)) i (k+j) x y=true
 | [],_,_,_,_,h,_=>by simp at h
 | z :: r,k,0,y,h,hy,hne=>by
  simp only [BK,AC] at hy;subst hy;simp only [WJ,AH,vax] at h;rcases h.1 with h1 | h1
  ·exact absurd (FK.1 h1) hne
  ·exact h1
 | z :: r,k,j+1,y,h,hy,hne=>by
  simp only [DB] at hy;simp only [WJ,AH] at h
  have:=xS (k:=k+1) h.2 hy (by omega)
  rw [show k+(j+1)=k+1+j by omega];exact this
theorem xR {ps:List (List Nat)} {all:List Dn}:∀ {l:List Dn} {k i:Nat} {x:Dn},aN ps all k l=true→l[i]?=some x→WJ ps (G8 ps (k+i)) (k+i) x 0 all=true
 | [],_,_,_,_,h=>by simp at h
 | z :: r,k,0,x,h,hx=>by
  simp only [BK,AC] at hx;subst hx;simp only [aN,AH] at h;exact h.1
 | z :: r,k,i+1,x,h,hx=>by
  simp only [DB] at hx;simp only [aN,AH] at h
  have:=xR (k:=k+1) h.2 hx
  rw [show k+(i+1)=k+1+i by omega];exact this
theorem oZ {ds:List Nat}:∀ {l:List Nat},cJ ds l=true→∀ n∈l,M5 ds n=true
 | [],_,n,h=>by cases h
 | m :: r,h,n,hn=>by
  simp only [cJ,AH] at h;rcases AU.1 hn with e | e
  ·subst e; exact h.1
  ·exact oZ h.2 n e
theorem lI {ds:List Nat}:∀ {l:List Dn} {i:Nat} {x:Dn},aI ds l=true→l[i]?=some x→NQ x.v=true∧NH x.us=true∧∀ n∈NA x.us,M5 ds n=true
 | [],_,_,_,h=>by simp at h
 | z :: r,0,x,h,hx=>by
  simp only [BK,AC] at hx;subst hx;simp only [aI,AH] at h;exact ⟨h.1,h.2.1,oZ h.2.2.1⟩
 | z :: r,i+1,x,h,hx=>by
  simp only [DB] at hx;simp only [aI,AH] at h;exact lI h.2.2.2 hx
theorem Em {n:Nat}:∀ {us:List Upd},NH us=true→n ∉ RV us→∀ u∈us,∀ m ob,(u = .new m ob∨u = .set m ob)→G3 n (some ob)=some ob
 | [],_,_,u,hu,_,_,_=>by cases hu
 | u :: r,ho,hn,u',hu',m,ob,he=>by
  have h1:NH r=true∧n ∉ RV r∧(∀ m ob,(u = .new m ob∨u = .set m ob)→G3 n (some ob)=some ob):=by
   cases u with
   | kill k=>exact ⟨ho,hn,fun m ob h=>by rcases h with h | h <;> cases h⟩
   | set k ob'=>
    simp only [NH,AH] at ho;simp only [RV,AV,not_or] at hn;refine ⟨ho.2.2,hn.2,fun m ob h=>?_⟩;rcases h with h | h <;> cases h
    exact fH ho.1 hn.1
   | new k ob'=>
    simp only [NH,AH] at ho;simp only [RV,AV,not_or] at hn;refine ⟨ho.2.2,hn.2,fun m ob h=>?_⟩;rcases h with h | h <;> cases h
    exact fH ho.1 hn.1
  rcases AU.1 hu' with h | h
  ·subst h;exact h1.2.2 m ob he
  ·exact Em h1.1 h1.2.1 u' h m ob he
theorem nY {t:Nat}:∀ {l:List Operand},Operand.tmp t∈l→t∈UW l
 | x :: r,h=>by
  rcases AU.1 h with h1 | h1
  ·subst h1; exact AT ..
  ·cases x <;> simp only [UW,AU] <;> first | exact .inr (nY h1) | exact nY h1
theorem sZ {α:Type} {p q:α→Bool}:∀ {l:List α},(∀ x∈l,q x=true→p x=true)→(∃ x∈l,p x=true∧q x=false)→l.countP q < l.countP p
 | [],_,⟨_,h,_⟩=>by cases h
 | y :: r,h,⟨x,hx,h1,h2⟩=>by
  have hr:r.countP q≤r.countP p:=by
   clear hx;have h':∀ x∈r,q x=true→p x=true:=fun x hx=>h x (AX _ hx)
   exact List.countP_mono_left h'
  rcases AU.1 hx with e | e
  ·subst e;rw [vaJ h1,vbf (by simp [h2])];omega
  ·have:=sZ (l:=r) (fun x hx=>h x (AX _ hx)) ⟨x,e,h1,h2⟩
   by_cases hq:q y=true
   ·rw [vaJ (h y (AT ..) hq),vaJ hq];omega
   ·rw [vbf hq];by_cases hp:p y=true
    ·rw [vaJ hp]; omega
    ·rw [vbf hp]; omega
section
variable {B:BT} {nt:Nat} {w0:World} {X:Zone} {γ:Nat→Value} {st st':St} {a:Act} {w:World} {P:Program} {E:Env}
variable (hT:TiOK P B E) (hE:∀ t,t∈E.eqs→EqSnd P t (E.tyd t).ks) (hSp:SpOK P B E w0 X) (hB:BldOK P B E) (hnt:E.nt=nt) (hn9:nt≤900000)
include hT hE hSp hB hnt hn9
theorem Lt {Q:Exit→Act→World→Prop} {ops:Array Oper} {s0:St} {Ds:List Dn} (hs:Steps E ops.toList ops.toList s0 Ds) (hfree:jS ops.toList Ds=true)
  (hfr:∀ n,M5 (T2 ops.toList) n=true→Fr n s0) (hQ:∀ γ' a' w',Rel B nt w0 X γ' (apDs s0 Ds) a' w'→Q .normal a' w') :
  ∀ (fuel:Nat) (listed:Array Bool) {γ:Nat→Value} {a:Act} {w:World},listed.size=ops.size→oU ops.toList (fun i=>listed.getD i false) →
   (vav ops.size).countP (fun i=>!listed.getD i false)≤fuel→Rel B nt w0 X γ (apDs s0 (EA (fun i=>listed.getD i false) 0 Ds)) a w→wpAny P .any ops Q fuel listed a w:=by
 have hlen:Ds.length=ops.size:=by simpa using hs.length
 simp only [jS,AH] at hfree;obtain ⟨hup,hone,hpairs⟩:=hfree;have hgd:∀ (listed:Array Bool) (i:Nat),listed.size=ops.size→i < ops.size→listed.getD i true=listed.getD i false:=fun listed i h1 h2=>by
  simp [Array.getD,h1,h2]
 have hready:∀ (listed:Array Bool) (i:Nat),listed.size=ops.size→(i∈vbC .any ops listed↔∃ o,ops.toList[i]?=some o∧listed.getD i false=false∧∀ e∈o.after.toList,vaS .any e=true→listed.getD e.on false=true):=by
  intro listed i hsz;simp only [vbC,List.mem_filter,vaH,AH,BY];constructor
  ·rintro ⟨h1,h2,h3⟩;refine ⟨ops[i],by simp [h1],by rw [← hgd listed i hsz h1]; exact h2,fun e he hb=>?_⟩;simp only [Array.getElem?_eq_getElem h1,vaC,vao,vbE,vax,BY] at h3;rcases h3 e (by simpa using he) with h4 | h4
   ·rw [hb] at h4; cases h4
   ·exact h4
  ·rintro ⟨o,ho,h2,h3⟩;obtain ⟨h1,rfl⟩:=BN.1 ho;simp only [CR] at h1;refine ⟨h1,by rw [hgd listed i hsz h1]; exact h2,?_⟩;simp only [Array.getElem?_eq_getElem h1,vaC,vao,vbE,vax,BY];intro e he;cases hb:vaS .any e with
   | false=>exact .inl rfl
   | true=>exact .inr (h3 e (by simpa using he) hb)
 have hend:∀ (listed:Array Bool) {γ:Nat→Value} {a:Act} {w:World},(∀ i,i < ops.size→listed.getD i false=true)→Rel B nt w0 X γ (apDs s0 (EA (fun i=>listed.getD i false) 0 Ds)) a w→Q .normal a w:=by
  intro listed γ a w hall h;rw [WS (L':=fun _=>true) _ _ (fun j _ h2=>hall j (by omega)),zQ] at h;exact hQ γ a w h
 have hnil:∀ (listed:Array Bool),listed.size=ops.size→vbC .any ops listed=[]→∀ i,i < ops.size→listed.getD i false=true:=by
  intro listed hsz hr i
  induction i using vbB with
  | _ i ih=>
   intro hi;cases hL:listed.getD i false with
   | true=>rfl
   | false=>
    exfalso;have hm:i∈vbC .any ops listed:=by
     refine (hready listed i hsz).2 ⟨ops[i],by simp [hi],hL,fun e he hb=>?_⟩
     have:=c8 (i:=i) hup (by simp [hi]:ops.toList[i]?=some ops[i]) he hb
     exact ih e.on (by omega) (by omega)
    rw [hr] at hm;cases hm
 intro fuel
 induction fuel with
 | zero=>
  intro listed γ a w hsz hcl hcount h;have hall:∀ i,i < ops.size→listed.getD i false=true:=by
   intro i hi;have h0:(vav ops.size).countP (fun i=>!listed.getD i false)=0:=by omega
   have:=(List.countP_eq_zero.1 h0) i (vaH.2 hi)
   simpa using this
  refine ⟨?_,hend listed hall h⟩;refine List.eq_nil_iff_forall_not_mem.2 (fun i hi=>?_);obtain ⟨o,ho,h2,_⟩:=(hready listed i hsz).1 hi;have h1:i < ops.size:=by simpa using (BN.1 ho).1
  rw [hall i h1] at h2;cases h2
 | succ fuel ih=>
  intro listed γ a w hsz hcl hcount h;refine ⟨fun hr=>hend listed (hnil listed hsz hr) h,fun i hi=>?_⟩;obtain ⟨o,ho,hLi,hedges⟩:=(hready listed i hsz).1 hi;have hi':i < ops.size:=by simpa using (BN.1 ho).1
  have hoi:ops[i]?=some o:=by simpa using ho
  obtain ⟨D,hD⟩:∃ D,Ds[i]?=some D:=⟨Ds[i]'(by omega),by simp [hlen,hi']⟩;generalize hLdef:(fun i=>listed.getD i false)=L at *;have hL:∀ j,listed.getD j false=L j:=fun j=>congrFun hLdef j
  simp only [hL] at hLi hedges;have hin:∀ j∈G8 (H9 [] ops.toList) i,L j=true:=yB hup hcl i ho hedges;have hout:∀ j D',Ds[j]?=some D'→L j=true→i ∉ G8 (H9 [] ops.toList) j:=by
   intro j D' hj hLj hm;have hj':j < ops.size:=by have:=(BN.1 hj).1; omega
   have hoj:ops.toList[j]?=some ops[j]:=by simp [hj']
   have:=yB hup hcl j hoj (hcl j _ hoj hLj) i hm
   rw [hLi] at this;cases this
  have hlt:∀ j,j∈G8 (H9 [] ops.toList) i→j < i:=yA hup i ho;have hltj:∀ j D',Ds[j]?=some D'→i∈G8 (H9 [] ops.toList) j→i < j:=by
   intro j D' hj hm;have hj':j < ops.size:=by have:=(BN.1 hj).1; omega
   exact yA hup j (by simp [hj']:ops.toList[j]?=some ops[j]) i hm
  have hpair:∀ j D',Ds[j]?=some D'→i≠j→aM (G8 (H9 [] ops.toList) i) (G8 (H9 [] ops.toList) j) i j D D'=true:=by
   intro j D' hj hne;have h1:=xR (k:=0) hpairs hD;rw [BF] at h1;have h2:=xS (k:=0) h1 hj (by omega)
   rwa [BF] at h2
  have hunord:∀ j D',Ds[j]?=some D'→i≠j→i ∉ G8 (H9 [] ops.toList) j→j ∉ G8 (H9 [] ops.toList) i →
    (∀ t,D'.dst=some t→t ∉ D.tm)∧(∀ t,D.dst=some t→D'.dst≠some t)∧(∀ n∈H5 D'.us,n ∉ D.rd)∧(∀ n∈H5 D.us,n ∉ H5 D'.us):=by
   intro j D' hj hne h1 h2;have hp:=hpair j D' hj hne;simp only [aM,aF.2 h1,aF.2 h2,AH,BY] at hp;exact ⟨zaG hp.2.1,zaF hp.2.2.1,VZ.1 hp.2.2.2.1,VZ.1 hp.2.2.2.2⟩
  have hdiff:∀ j D',Ds[j]?=some D'→L j≠decide (j < i)→i≠j∧i ∉ G8 (H9 [] ops.toList) j∧j ∉ G8 (H9 [] ops.toList) i:=by
   intro j D' hj hne;cases hLj:L j with
   | true=>
    rw [hLj] at hne;have hji:¬ j < i:=fun h=>hne (by simp [h])
    have hij:i≠j:=fun e=>by subst e; rw [hLi] at hLj; cases hLj
    exact ⟨hij,hout j D' hj hLj,fun hm=>hji (hlt j hm)⟩
   | false=>
    rw [hLj] at hne;have hji:j < i:=by
     rcases C6 j i with h | h
     ·exact h
     ·exact absurd (by simp; omega) hne
    refine ⟨by omega,fun hm=>?_,fun hm=>?_⟩
    ·have:=hltj j D' hj hm; omega
    ·have:=hin j hm; rw [hLj] at this; cases this
  have hstep:=Steps.get hs ho hD;have htake:apDs s0 (Ds.take i)=apDs s0 (EA (fun j=>decide (j < i)) 0 Ds):=by
   have:=zR i Ds 0
   rw [BF] at this;rw [this]
  rw [htake] at hstep;have hobj:∀ n∈D.rd,DG (apDs s0 (EA L 0 Ds)).o n=DG (apDs s0 (EA (fun j=>decide (j < i)) 0 Ds)).o n:=by
   intro n hn;refine QM Ds 0 rfl (fun j D' hj hnm=>?_);rw [BF];refine vbK (fun hne=>?_);obtain ⟨h1,h2,h3⟩:=hdiff j D' hj hne;exact (hunord j D' hj h1 h2 h3).2.2.1 n hnm hn
  have htm:∀ t∈D.tm,(apDs s0 (EA L 0 Ds)).get t=(apDs s0 (EA (fun j=>decide (j < i)) 0 Ds)).get t:=by
   intro t ht;refine QL Ds 0 rfl (fun j D' hj hnm=>?_);rw [BF];refine vbK (fun hne=>?_);obtain ⟨h1,h2,h3⟩:=hdiff j D' hj hne;exact (hunord j D' hj h1 h2 h3).1 t hnm ht
  have hafter:SEq (apD (apDs s0 (EA L 0 Ds)) D) (apDs s0 (EA (fun j=>(listed.setIfInBounds i true).getD j false) 0 Ds)):=by
   have hset:∀ j,(listed.setIfInBounds i true).getD j false=(L j||BI j i):=by
    intro j;rw [← hL j];simp only [vbl,Array.getElem?_setIfInBounds,hsz];by_cases e:i=j
    ·subst e;simp [hi',vbh]
    ·rw [A4 e,HV.2 (fun h=>e h.symm),Bool.or_false]
   rw [show (fun j=>(listed.setIfInBounds i true).getD j false)=(fun j=>L j||BI j i) from funext hset];have hsplit:Ds=Ds.take i++D :: Ds.drop (i+1):=by
    have hi2:i < Ds.length:=by omega
    have h1:Ds[i]=D:=by have:=BN.1 hD; exact this.2
    rw [← h1];simp
   have hlate:∀ j D',(Ds.drop (i+1))[j]?=some D'→L (i+1+j)=true→(∀ t,D.dst=some t→D'.dst≠some t)∧∀ n∈H5 D.us,n ∉ H5 D'.us:=by
    intro j D' hj hLj;have hj':Ds[i+1+j]?=some D':=by rw [← hj,vam]
    have h2:=hout _ D' hj' hLj;have h3:i+1+j ∉ G8 (H9 [] ops.toList) i:=fun hm=>by have:=hlt _ hm; omega
    exact ⟨(hunord _ D' hj' (by omega) h2 h3).2.1,(hunord _ D' hj' (by omega) h2 h3).2.2.2⟩
   have hli:(Ds.take i).length=i:=by simp; omega
   have hR:∀ s,apDs s (EA (fun j=>L j||BI j i) 0 Ds)=apDs (apD (apDs s (EA L 0 (Ds.take i))) D) (EA L (i+1) (Ds.drop (i+1))):=by
    intro s;rw [show EA (fun j=>L j||BI j i) 0 Ds=EA (fun j=>L j||BI j i) 0 (Ds.take i++D :: Ds.drop (i+1)) by rw [← hsplit]];rw [mV,gU,hli,BF];simp only [EA,vbh,Bool.or_true,apDs];rw [WS (L':=L) (Ds.take i) 0 (fun j _ h2=>by rw [HV.2 (by omega),Bool.or_false]),WS (L':=L) (Ds.drop (i+1)) (i+1) (fun j h1 _=>by rw [HV.2 (by omega),Bool.or_false])]
   have hLs:∀ s,apDs s (EA L 0 Ds)=apDs (apDs s (EA L 0 (Ds.take i))) (EA L (i+1) (Ds.drop (i+1))):=by
    intro s;rw [show EA L 0 Ds=EA L 0 (Ds.take i++D :: Ds.drop (i+1)) by rw [← hsplit]];rw [mV,gU,hli,BF];simp only [EA,hLi]
   rw [hR,hLs];generalize apDs s0 (EA L 0 (Ds.take i))=s1;refine ⟨fun t=>?_,fun n=>?_⟩
   ·by_cases e:D.dst=some t
    ·rw [NP,BL e]
     have:(apDs (apD s1 D) (EA L (i+1) (Ds.drop (i+1)))).get t=(apDs (apD s1 D) (EA (fun _=>false) (i+1) (Ds.drop (i+1)))).get t:=by
      refine QL _ _ rfl (fun j D' hj hd=>?_);cases hLj:L (i+1+j) with
      | false=>rfl
      | true=>exact absurd hd ((hlate j D' hj hLj).1 t e)
     rw [this,bC];simp only [apDs];rw [NP,BL e]
    ·rw [NP,A4 e];exact QL _ _ (by rw [NP,A4 e]) (fun _ _ _ _=>rfl)
   ·by_cases e:n∈H5 D.us
    ·have:DG (apDs (apD s1 D) (EA L (i+1) (Ds.drop (i+1)))).o n=DG (apDs (apD s1 D) (EA (fun _=>false) (i+1) (Ds.drop (i+1)))).o n:=by
      refine QM _ _ rfl (fun j D' hj hd=>?_);cases hLj:L (i+1+j) with
      | false=>rfl
      | true=>exact absurd hd ((hlate j D' hj hLj).2 n e)
     rw [this,bC];exact oA e
    ·have h1:DG (apD (apDs s1 (EA L (i+1) (Ds.drop (i+1)))) D).o n=DG (apDs s1 (EA L (i+1) (Ds.drop (i+1)))).o n:=SI e;rw [h1];exact QM _ _ (SI e).symm (fun _ _ _ _=>rfl)
  have hnext:∀ γ' a' w',Rel B nt w0 X γ' (apD (apDs s0 (EA L 0 Ds)) D) a' w'→wpAny P .any ops Q fuel (listed.setIfInBounds i true) a' w':=by
   intro γ' a' w' h';have hset:∀ j,(listed.setIfInBounds i true).getD j false=(L j||BI j i):=by
    intro j;rw [← hL j];simp only [vbl,Array.getElem?_setIfInBounds,hsz];by_cases e:i=j
    ·subst e;simp [hi',vbh]
    ·rw [A4 e,HV.2 (fun h=>e h.symm),Bool.or_false]
   refine ih (listed.setIfInBounds i true) (by simpa using hsz) ?_ ?_ (h'.seq hafter)
   ·intro j o' ho' hLj e he hb;simp only [hset] at hLj ⊢;by_cases e':j=i
    ·subst e';rw [ho] at ho';simp only [AC] at ho';subst ho';rw [hedges e he hb];rfl
    ·rw [HV.2 e',Bool.or_false] at hLj;rw [hcl j o' ho' hLj e he hb];rfl
   ·have:(vav ops.size).countP (fun j=>!(listed.setIfInBounds i true).getD j false) < (vav ops.size).countP (fun j=>!listed.getD j false):=by
     refine sZ (fun j _ hj=>?_) ⟨i,vaH.2 hi',by rw [hL,hLi]; rfl,by rw [hset,vbh,Bool.or_true]; rfl⟩;rw [hset] at hj;rw [hL];cases hLj:L j <;> simp_all
    simp only [hL] at this hcount;omega
  obtain ⟨hok,hdst,htms,hguard⟩:=hstep;have hclean:=lI hone hD;have run:(D3 E (apDs s0 (EA (fun j=>decide (j < i)) 0 Ds)).o (opd (apDs s0 (EA (fun j=>decide (j < i)) 0 Ds))) o.dst o.op).get=some (D.v,D.us)→D.rd=L3 E (apDs s0 (EA (fun j=>decide (j < i)) 0 Ds)).o (opd (apDs s0 (EA (fun j=>decide (j < i)) 0 Ds))) o.op →
    (∀ x∈o.op.operands.toList,∀ t,x = .tmp t→t∈D.tm)→o.wp P a w (wpAny P .any ops Q fuel (listed.setIfInBounds i true)) Q:=by
   intro he hrd htmo;have h1:D3 E (apDs s0 (EA L 0 Ds)).o (opd (apDs s0 (EA L 0 Ds))) o.dst o.op=D3 E (apDs s0 (EA (fun j=>decide (j < i)) 0 Ds)).o (opd (apDs s0 (EA (fun j=>decide (j < i)) 0 Ds))) o.dst o.op:=by
    rw [Mf (ρ:=opd (apDs s0 (EA L 0 Ds))) (ρ':=opd (apDs s0 (EA (fun j=>decide (j < i)) 0 Ds))) (fun x hx=>?_)]
    ·exact tV (fun n hn=>hobj n (by rw [hrd]; exact hn))
    ·cases x with
     | tmp t=>exact htm t (htmo _ hx t rfl)
     | _=>rfl
   rw [← h1] at he;have hn9':∀ d,o.dst=some d→d≠900000:=fun d hdd e=>by
    subst e;rw [hdd] at hok;simp only [N2] at hok;have h8:900000+1≤E.nt:=AM hok;omega
   refine xG hT hE hSp hB h o hn9' he _ _ (fun γ' x w' h3 h4=>hnext γ' _ w' ?_);refine (h3.put hnt hok h4).seq ?_;have hfr':∀ n∈NA D.us,Fr n (apDs s0 (EA L 0 Ds)):=by
    intro n hn;refine mU Ds 0 (hfr n (hclean.2.2 n hn)) (fun j D' hj hLj=>?_);rw [BF] at hLj;have hne:i≠j:=fun e=>by subst e; rw [hLi] at hLj; cases hLj
    have hp:=hpair j D' hj hne;simp only [aM,aF.2 (hout j D' hj hLj),AH] at hp;have hdj:=VZ.1 hp.1 n hn;simp only [AV,not_or] at hdj;have hc':=lI hone hj;exact ⟨hc'.1,hdj.1,Em hc'.2.1 hdj.2⟩
   have:=(gD hfr' hclean.2.1).put o.dst D.v
   refine this.trans ?_;rw [← hdst];cases hdd:D.dst <;> exact ⟨fun t=>by simp only [apD,hdd,St.put]; try rfl,fun n=>by simp only [apD,St.put]⟩
  unfold wpOp;rw [hoi];simp only;have htmo:∀ x∈o.op.operands.toList,∀ t,x = .tmp t→t∈D.tm:=by
   rintro x hx t rfl
   have:=nY hx
   rw [htms];unfold K0;split
   ·split
    ·exact AX _ this
    ·exact this
   ·exact this
  split at hguard
  ·rename_i hg;rw [BL (by simp [C0,hg])];exact .inl (run hguard.1 hguard.2 htmo)
  ·rename_i j b hg;have skip:D.v = .tup []→D.us=[]→C0 o (yielded ops a.tmps)=false→(if C0 o (yielded ops a.tmps)=true then o.wp P a w (wpAny P .any ops Q fuel (listed.setIfInBounds i true)) Q∨(o.asks P a w∧LetsOut Q) else wpAny P .any ops Q fuel (listed.setIfInBounds i true) (a.put o.dst undef) w):=by
    intro h1 h2 h3;rw [A4 (by rw [h3]; simp)];refine hnext γ _ w ?_;refine (h.put hnt hok (v:=.tup []) (x:=undef) (by simp only [VRel]; exact ⟨#[],rfl,by simp only [VRels]⟩)).seq ?_;rw [← hdst,← h1];cases hdd:D.dst <;> exact ⟨fun t=>by simp only [apD,hdd,St.put]; try rfl,fun n=>by simp only [apD,St.put,h2,IQ]⟩
   have hdjm0:∀ dj,M3 ops.toList j=some dj→dj∈D.tm:=by
    intro dj hdj;rw [htms];unfold K0;rw [hg];simp only [hdj];exact AT ..
   rcases hguard with ⟨dj,c,hdj,hc,hcase⟩ | ⟨dj,hdj,hc,h1,h2⟩
   case inr=>
    rw [← htm dj (hdjm0 dj hdj)] at hc;have hy:yielded ops a.tmps j=none:=by
     unfold yielded;rw [show ops[j]?=ops.toList[j]? by simp,ZQ _ _ _ hdj];rcases El h hc with h0 | h0 <;> simp [h0]
    exact skip h1 h2 (by simp [C0,hg,hy])
   have hdjm:dj∈D.tm:=by
    rw [htms];unfold K0;rw [hg];simp only [hdj];exact AT ..
   rw [← htm dj hdjm] at hc;have hy:yielded ops a.tmps j=some c:=by
    unfold yielded;rw [show ops[j]?=ops.toList[j]? by simp,ZQ _ _ _ hdj];simp [pQ h hc]
   rcases hcase with ⟨rfl,h1,h2⟩ | ⟨hne,h1,h2⟩
   ·rw [BL (by simp [C0,hg,hy])];exact .inl (run h1 h2 htmo)
   ·exact skip h1 h2 (by simp [C0,hg,hy,hne])
theorem Mc {Q:Exit→Act→World→Prop} (hm:P.follows .mixedOrders=true) {r:V × List (List V)} {id:Nat} {ops:Array Oper} {k:St→DH} {γ:Nat→Value} {st:St} {a:Act} {w:World}
  (he:jK E ops.toList st k=some r) (h:Rel B nt w0 X γ st a w) (hk:∀ γ' st' a' w',Rel B nt w0 X γ' st' a' w'→k st'=some r→Q .normal a' w'):(Code.region id ops true).wp P Q a w:=by
 refine wp_region_any hm ?_;unfold jK at he;obtain ⟨Ds,s',h1,h2,h3⟩:=tU ops.toList he;split at h3
 ·rename_i hf;simp only [vak,List.reverse_reverse] at hf;have h0:Rel B nt w0 X γ (LT (T2 ops.toList) st) a { w with drawn:=w.drawn+1 }:=(h.clear (T2 ops.toList)).world (Keep.drew _ w);refine Lt hT hE hSp hB hnt hn9 h1 hf (fun n hn=>Ku hn st) (fun γ' a' w' h'=>hk γ' s' a' w' (h'.seq h2.symm) h3) ops.size (Array.replicate ops.size false) (by simp) ?_ ?_ (γ:=γ) ?_
  ·intro i o ho hL;have hi:i < ops.size:=by simpa using (BN.1 ho).1
   simp [Array.getD,hi] at hL
  ·refine CZ (List.countP_le_length) ?_;simp
  ·rw [WS (L':=fun _=>false) _ _ (fun j _ _=>by simp [Array.getD]),bC];exact h0
 ·cases h3
end
open Go Go.RowKit
section
variable {B:BT} {nt:Nat} {w0:World} {X:Zone} {γ:Nat→Value} {st st':St} {a:Act} {w:World} {P:Program} {E:Env}
theorem dX (s:St):∀ (l:List Nat) (i:Nat),EP .any (RQ s l) i=s.get i∨EP .any (RQ s l) i = .any
 | [],i=>.inr rfl
 | j :: r,i=>by
  simp only [RQ,O4];by_cases e:j=i
  ·subst e; simp
  ·simp only [A4 e];exact dX s r i
theorem u9 (s:St):∀ (l:List Nat) (n:Nat) (ob:Ob),DG (Z3 s l) n=some ob→DG s.o n=some ob
 | [],n,ob,h=>by simp [Z3,DG,EP] at h
 | j :: r,n,ob,h=>by
  simp only [Z3,D4] at h;split at h
  ·rename_i e;subst e;exact h
  ·exact u9 s r n ob h
theorem Rel.prune (h:Rel B nt w0 X γ st a w) (kp:Option (List Nat)):Rel B nt w0 X γ (prune kp st) a w:=by
 cases kp with
 | none=>exact h
 | some l=>exact h.less (fun i=>dX st l i) (fun _ _ h=>h)
theorem VRels.putOne {γ:Nat→Value} {o:Store} {w:World} {O:Nat→Prop} {v:V} {x:Value} (hv:VRel γ o w O v x):∀ {cs:List V} {xs:List Value} {c:Nat},VRels γ o w O cs xs→xs[c]?=some x→VRels γ o w O (GI cs c [v]) xs
 | [],[],_,_,h=>by simp at h
 | [],_ :: _,_,h,_=>by simp only [VRels] at h
 | _ :: _,[],_,h,_=>by simp only [VRels] at h
 | u :: cs,y :: xs,0,h,hx=>by
  simp only [VRels] at h;simp only [BK,AC] at hx;subst hx
  have:GI cs 0 []=cs:=by cases cs <;> rfl
  simp only [GI,this,VRels];exact ⟨hv,h.2⟩
 | u :: cs,y :: xs,c+1,h,hx=>by
  simp only [VRels] at h;simp only [DB] at hx;simp only [GI,VRels];exact ⟨h.1,VRels.putOne hv h.2 hx⟩
def Ih (γ:Nat→Value) (o:Store) (w:World) (a:Act) (x:Value):Loc→Prop
 | .tmp t=>x=a.tmps.getD t undef
 | .cell b c=>∃ cs bb T cc,DG o b=some (.box cs)∧γ b = .pointer (some ⟨bb,0,none⟩)∧w.heap[bb]?=some (.cells cc T (0,0))∧cc.toList[c]?=some x
def gR (γ:Nat→Value) (o:Store) (w:World) (a:Act) (x:Value):Loc→Prop
 | .tmp t=>x=a.tmps.getD t undef
 | .cell b c=>∀ cs,DG o b=some (.box cs)→∃ bb T cc,γ b = .pointer (some ⟨bb,0,none⟩)∧w.heap[bb]?=some (.cells cc T (0,0))∧cc.toList[c]?=some x
theorem Rel.at (h:Rel B nt w0 X γ st a w) (l:Loc) {v:V} (hv:kP st l=v) (hne:v≠.any):∃ x,VRel γ st.o w (DI X γ st.o) v x ∧
  Ih γ st.o w a x l:=by
 subst hv;cases l with
 | tmp t=>exact ⟨_,h.tm t,rfl⟩
 | cell b c=>
  simp only [kP] at hne ⊢;split at hne
  ·rename_i cs hob;have hor:=h.ob b _ hob;simp only [ObRel] at hor;obtain ⟨bb,cc,T,hg,hh,hr⟩:=hor;rw [aG] at hne ⊢;cases hc:cs[c]? with
   | none=>rw [hc] at hne; exact absurd rfl hne
   | some u=>
    obtain ⟨x,hx,hrx⟩:=hr.get hc;exact ⟨x,hrx,cs,bb,T,cc,hob,hg,hh,hx⟩
  ·exact absurd rfl hne
theorem Rel.putLoc {γ2:Nat→Value} {st2:St} (h2:Rel B nt w0 X γ2 st2 a w) (l:Loc) {v:V} {x:Value} (hv:VRel γ2 st2.o w (DI X γ2 st2.o) v x)
  (hx:gR γ2 st2.o w a x l):Rel B nt w0 X γ2 (putLoc st2 v l) a w:=by
 cases l with
 | tmp t=>
  simp only [gR] at hx;subst hx;refine ⟨h2.sz,h2.df,fun i=>?_,h2.ob,h2.lt,h2.dis,h2.keep,h2.nr,h2.fl,h2.pn⟩;simp only [FM.putLoc,St.get,O4];split
  ·rename_i e;subst e;exact hv
  ·exact h2.tm i
 | cell b c=>
  simp only [FM.putLoc];split
  ·rename_i cs hob;simp only [gR] at hx;obtain ⟨bb,T,cc,hg,hh,hcx⟩:=hx cs hob;have hob':∀ m,DG ((b,some (.box (GI cs c [v]))) :: st2.o) m=if b=m then some (.box (GI cs c [v])) else DG st2.o m:=fun m=>D4 ..
   have hlen:(GI cs c [v]).length=cs.length:=by
    have key:∀ (cs:List V) (c:Nat),(GI cs c [v]).length=cs.length:=by
     intro cs
     induction cs with
     | nil=>intro c; cases c <;> rfl
     | cons u r ih=>
      intro c;cases c with
      | zero=>
       have:GI r 0 []=r:=by cases r <;> rfl
       simp [GI,this]
      | succ c=>simp [GI,ih]
    exact key cs c
   have hP:∀ b',EX γ2 ((b,some (.box (GI cs c [v]))) :: st2.o) b'→EX γ2 st2.o b':=by
    rintro b' ⟨m,ob,hm,hb⟩;rw [hob'] at hm;split at hm
    ·rename_i e;subst e;simp only [AC] at hm;subst hm;exact ⟨_,_,hob,hb⟩
    ·exact ⟨m,ob,hm,hb⟩
   have hO:∀ b',b' < w.heap.size→DI X γ2 ((b,some (.box (GI cs c [v]))) :: st2.o) b'→DI X γ2 st2.o b':=fun b' _ hb=>hb.imp_left (hP b')
   have hc:Cmp γ2 st2.o γ2 ((b,some (.box (GI cs c [v]))) :: st2.o):=by
    intro m ob' hm;rw [hob'] at hm;split at hm
    ·rename_i e;subst e;simp only [AC] at hm;subst hm;exact ⟨rfl,_,hob,hlen.symm⟩
    ·exact ⟨rfl,ob',hm,ob'.fits_refl⟩
   refine ⟨h2.sz,h2.df,fun i=>VRel.mono (Keep.refl _ w) hO (VRel.cmp hc (h2.tm i)),fun m ob hm=>?_,fun b' hb=>h2.lt b' (hP b' hb),fun m1 m2 ob1 ob2 b' hne h3 h4 hb1 hb2=>?_,h2.keep,fun b' hb=>h2.nr b' (hP b' hb),h2.fl,fun p hp ob hm=>?_⟩
   ·simp only at hm ⊢;rw [hob'] at hm;split at hm
    ·rename_i e;subst e;simp only [AC] at hm;subst hm;have hor:=h2.ob _ _ hob;simp only [ObRel] at hor ⊢;obtain ⟨bb',cc',T',hg',hh',hr'⟩:=hor;rw [hg] at hg';simp only [CW,AC,DA,BX] at hg';subst hg';rw [hh] at hh';simp only [AC,Obj.cells.injEq] at hh';obtain ⟨rfl,rfl,_⟩:=hh';exact ⟨bb,cc,T,hg,hh,VRels.mono (Keep.refl _ w) hO (VRels.cmp hc (VRels.putOne hv hr' hcx))⟩
    ·exact (h2.ob m ob hm).later (fun _ _=>rfl) (Keep.refl _ w) hO hc
   ·have key:∀ m ob,DG ((b,some (.box (GI cs c [v]))) :: st2.o) m=some ob→EY (γ2 m) ob b'→∃ ob0,DG st2.o m=some ob0∧EY (γ2 m) ob0 b':=by
     intro m ob hm hb;rw [hob'] at hm;split at hm
     ·rename_i e;subst e;simp only [AC] at hm;subst hm;exact ⟨_,hob,hb⟩
     ·exact ⟨ob,hm,hb⟩
    obtain ⟨o1,q1,q2⟩:=key m1 ob1 h3 hb1;obtain ⟨o2,q3,q4⟩:=key m2 ob2 h4 hb2;exact h2.dis m1 m2 o1 o2 b' hne q1 q3 q2 q4
   ·simp only at hm;rw [hob'] at hm;split at hm
    ·rename_i e;exact h2.pn p hp _ (e ▸ hob)
    ·exact h2.pn p hp ob hm
  ·exact h2
theorem Rel.canon1 (h:Rel B nt w0 X γ st a w) (c:Can):∃ γ',Rel B nt w0 X γ' (canon1 c st) a w:=by
 unfold FM.canon1;split
 ·exact ⟨γ,h⟩
 rename_i h9;have h9:=HV.1 h9;split
 ·rename_i hv;split
  ·rename_i hks;have hks':0 < c.ks.length:=AM hks;obtain ⟨x,hx,hat⟩:=h.at c.loc hv (by simp);simp only [VRel] at hx;have hadd:=h.add c.nm h9 (.row true c.e c.ag c.ks []) (.slice none 0 0) (fun b hb=>by simp [EY,B6] at hb) (fun O' hO'=>by
    simp only [ObRel];exact ⟨hks',by simp [strMax],[],⟨by simp,.inl ⟨rfl,rfl⟩⟩,fun i y hy=>by simp at hy⟩)
   have hadd:=hadd.shrink (F:=X.far) (fun b hb=>⟨hb,fun hb'=>by simp [EY,B6] at hb'⟩);refine ⟨_,hadd.putLoc c.loc (x:=x) ?_ ?_⟩
   ·simp only [VRel,F3,CM];subst hx;exact ⟨AY _,none,0,0,none,rfl,rfl,AY _,AY _,AY _,by simp [maxLen],.inl rfl,fun _=>rfl⟩
   ·revert hat;cases c.loc with
    | tmp t=>exact fun hat=>hat
    | cell b k=>
     intro hat;obtain ⟨cs,bb,T,cc,q1,q2,q3,q4⟩:=hat;intro cs2 hcs2;rw [F3] at hcs2;split at hcs2
     ·cases hcs2
     ·rename_i hne;exact ⟨bb,T,cc,by simp only [A4 hne]; exact q2,q3,q4⟩
  ·exact ⟨γ,h⟩
 ·rename_i n lo hi hv;split
  ·rename_i e ag ks l hn hlo hob;have hn':=HV.1 hn;obtain rfl:=FK.1 hlo;obtain ⟨x,hx,hat⟩:=h.at c.loc hv (by simp);simp only [VRel,hob] at hx;have hk:=h.kill n;have hor:=h.ob n _ hob;have hkb:∀ b,EY (γ n) (.row true e ag ks l) b→ES γ st.o n b:=fun b hb=>⟨_,hob,hb⟩
   have hadd:=hk.add c.nm h9 (.row true e ag ks l) (γ n) (fun b hb=>⟨.inr (hkb b hb),(h.lt b ⟨n,_,hob,hb⟩).2⟩) (fun O' hO'=>by
    simp only [ObRel] at hor ⊢;obtain ⟨k1,k2,xs,k3,k4⟩:=hor;refine ⟨k1,k2,xs,k3,fun i y hy=>Kd.RelAll.mono (Keep.refl _ w) (fun b _ hb=>?_) (fun _ _ hu=>hu) (k4 i y hy)⟩;rcases hO' b hb with h1 | h1 | h1
    ·obtain ⟨m,ob1,q1,q2⟩:=h1;simp only [St.up] at q1;rw [D4] at q1;split at q1
     ·cases q1
     ·exact .inl ⟨m,ob1,q1,q2⟩
    ·exact .inr h1
    ·obtain ⟨ob1,q1,q2⟩:=h1;exact .inl ⟨n,ob1,q1,q2⟩)
   have hadd:=hadd.shrink (F:=X.far) (fun b hb=>⟨.inl hb,fun hb'=>h.nr b ⟨n,_,hob,hb'⟩ hb⟩);refine ⟨_,hadd.putLoc c.loc (x:=x) ?_ ?_⟩
   ·simp only [VRel,F3,CM];exact hx
   ·revert hat;cases c.loc with
    | tmp t=>exact fun hat=>hat
    | cell b k=>
     intro hat;obtain ⟨cs,bb,T,cc,q1,q2,q3,q4⟩:=hat;intro cs2 hcs2;rw [F3] at hcs2;split at hcs2
     ·cases hcs2
     ·rename_i hne;exact ⟨bb,T,cc,by simp only [A4 hne]; exact q2,q3,q4⟩
  ·exact ⟨γ,h⟩
 ·exact ⟨γ,h⟩
theorem Rel.canons:∀ (l:List Can) {γ:Nat→Value} {st:St},Rel B nt w0 X γ st a w→∃ γ',Rel B nt w0 X γ' (canons l st) a w
 | [],γ,st,h=>⟨γ,h⟩
 | c :: r,γ,st,h=>by
  obtain ⟨γ1,h1⟩:=h.canon1 c;exact Rel.canons r h1
theorem Rel.restrict (h:Rel B nt w0 X γ st a w) (kp:KP):∃ γ',Rel B nt w0 X γ' (restrict kp st) a w:=by
 have h1:Rel B nt w0 X γ ⟨RQ st kp.t,st.o⟩ a w:=h.less (fun i=>dX st kp.t i) (fun _ _ h=>h);obtain ⟨γ',h2⟩:=h1.canons kp.c;exact ⟨γ',h2.less (fun i=>dX _ kp.t i) (fun n ob=>u9 _ kp.o n ob)⟩
variable (hT:TiOK P B E) (hE:∀ t,t∈E.eqs→EqSnd P t (E.tyd t).ks) (hSp:SpOK P B E w0 X) (hB:BldOK P B E) (hnt:E.nt=nt) (hn9:nt≤900000)
include hT hE hSp hB hnt hn9
theorem jL {Q:Exit→Act→World→Prop} {r:V × List (List V)} {ops:Array Oper} {k:St→DH} :
  ∀ (l:List Oper) (i:Nat) {γ:Nat→Value} {st:St} {a:Act} {w:World},ops.toList.drop i=l→M4 E ops.toList l st k=some r→Rel B nt w0 X γ st a w →
   (∀ γ' st' a' w',Rel B nt w0 X γ' st' a' w'→k st'=some r→Q .normal a' w')→wpOps P ops Q (List.range' i l.length) a w
 | [],i,γ,st,a,w,hl,he,h,hk=>by
  simp only [M4] at he;exact hk _ _ _ _ h he
 | o :: l,i,γ,st,a,w,hl,he,h,hk=>by
  have hoi:ops[i]?=some o:=by
   rw [← vaq]
   have:=congrArg (·[0]?) hl
   simpa using this
  have hl':ops.toList.drop (i+1)=l:=by
   have:=congrArg (AR 1) hl
   simpa using this
  simp only [AN,List.range'_succ,wpOps,hoi];simp only [M4] at he;have hd:N2 E o.dst=true:=by
   cases hd:N2 E o.dst with
   | true=>rfl
   | false=>rw [hd] at he; cases he
  rw [hd] at he;simp only at he;have go:∀ {st:St},Rel B nt w0 X γ st a w→C0 o (yielded ops a.tmps)=true→((D3 E st.o (opd st) o.dst o.op).run fun v us=>M4 E ops.toList l ((st.ups us).put o.dst v) k)=some r →
    (if C0 o (yielded ops a.tmps)=true then o.wp P a w (wpOps P ops Q (List.range' (i+1) l.length)) Q∨(o.asks P a w∧LetsOut Q) else wpOps P ops Q (List.range' (i+1) l.length) (a.put o.dst undef) w):=by
   intro st h hw he;rw [BL hw];obtain ⟨v,us,h1,h2⟩:=T.run_some he;refine .inl (xG hT hE hSp hB h o (fun d hdd e=>by subst e; rw [hdd] at hd; simp only [N2] at hd; have h8:900000+1≤E.nt:=AM hd; omega) h1 _ _ (fun γ' x w' h3 h4=>?_));exact jL l (i+1) hl' h2 (h3.put hnt hd h4) hk
  have no:∀ {st:St},Rel B nt w0 X γ st a w→C0 o (yielded ops a.tmps)=false→M4 E ops.toList l (st.put o.dst (.tup [])) k=some r →
    (if C0 o (yielded ops a.tmps)=true then o.wp P a w (wpOps P ops Q (List.range' (i+1) l.length)) Q∨(o.asks P a w∧LetsOut Q) else wpOps P ops Q (List.range' (i+1) l.length) (a.put o.dst undef) w):=by
   intro st h hw he;rw [A4 (by rw [hw]; simp)];exact jL l (i+1) hl' he (h.put hnt hd (by simp only [VRel]; exact ⟨#[],rfl,by simp only [VRels]⟩)) hk
  split at he
  ·rename_i hg;exact go h (by simp [C0,hg]) he
  ·rename_i j b hg;split at he
   ·rename_i dj hdj;split at he
    ·rename_i c hc;have hy:yielded ops a.tmps j=some c:=by
      unfold yielded;rw [show ops[j]?=ops.toList[j]? by simp,ZQ _ _ _ hdj];simp [pQ h hc]
     have hlit:=h.lit hc;cases c with
     | true=>
      simp only at he;cases b with
      | true=>exact go (st:=st.put (some dj) (.bool true)) hlit (by simp [C0,hg,hy]) he
      | false=>exact no (st:=st.put (some dj) (.bool true)) hlit (by simp [C0,hg,hy]) he
     | false=>
      simp only at he;cases b with
      | false=>exact go (st:=st.put (some dj) (.bool false)) hlit (by simp [C0,hg,hy]) he
      | true=>exact no (st:=st.put (some dj) (.bool false)) hlit (by simp [C0,hg,hy]) he
    ·rename_i hc;have hy:yielded ops a.tmps j=none:=by
      unfold yielded;rw [show ops[j]?=ops.toList[j]? by simp,ZQ _ _ _ hdj];rcases El h hc with h0 | h0 <;> simp [h0]
     exact no h (by simp [C0,hg,hy]) he
    ·cases he
   ·cases he
def jN:Out→Exit
 | .normal=>.normal
 | .exit i=>.exit i
 | .ret=>.ret
omit hT hE hSp hB hnt hn9 in
theorem vL (J:Nat→Prop) (h:∃ n,J n):∃ n,J n∧∀ m,J m→n≤m:=by
 obtain ⟨n,hn⟩:=h
 induction n using Nat.strongRecOn with
 | _ n ih=>
  by_cases hm:∃ m,m < n∧J m
  ·obtain ⟨m,h1,h2⟩:=hm;exact ih m h1 h2
  ·exact ⟨n,hn,fun m hJ=>Nat.le_of_not_lt (fun hlt=>hm ⟨m,hlt,hJ⟩)⟩
theorem T3 (hm:P.follows .mixedOrders=true) {r:V × List (List V)}:∀ (c:Code) {k:Out→St→DH} {Q:Exit→Act→World→Prop} {γ:Nat→Value} {st:St} {a:Act} {w:World},NW E c st k=some r→Rel B nt w0 X γ st a w →
  (∀ o γ' st' a' w',Rel B nt w0 X γ' st' a' w'→k o st'=some r→Q (jN o) a' w')→c.wp P Q a w
 | .skip,k,Q,γ,st,a,w,he,h,hk=>wp_skip (hk .normal γ st a w h he)
 | .exit id,k,Q,γ,st,a,w,he,h,hk=>wp_exit (hk (.exit id) γ st a w h he)
 | .ret,k,Q,γ,st,a,w,he,h,hk=>wp_ret (hk .ret γ st a w h he)
 | .label _,k,Q,γ,st,a,w,he,h,hk=>by simp [NW,IX] at he
 | .goto _,k,Q,γ,st,a,w,he,h,hk=>by simp [NW,IX] at he
 | .scope _,k,Q,γ,st,a,w,he,h,hk=>by simp [NW,IX] at he
 | .rangeFunc _ _ _ _,k,Q,γ,st,a,w,he,h,hk=>by simp [NW,IX] at he
 | .region id ops draw,k,Q,γ,st,a,w,he,h,hk=>by
  simp only [NW,IX] at he;cases draw with
  | true=>
   simp only at he;exact Mc hT hE hSp hB hnt hn9 hm he h (fun γ' st' a' w' h' hk'=>hk .normal γ' _ a' w' (h'.prune _) hk')
  | false=>
   simp only at he;refine wp_region ?_;rw [show ops.size=ops.toList.length by simp,List.range_eq_range'];exact jL hT hE hSp hB hnt hn9 ops.toList 0 rfl he h (fun γ' st' a' w' h' hk'=>hk .normal γ' _ a' w' (h'.prune _) hk')
 | .seq x y,k,Q,γ,st,a,w,he,h,hk=>by
  simp only [NW,IX] at he;refine wp_seq (T3 hm x he h (fun o γ' st' a' w' h' hk'=>?_));cases o with
  | normal=>exact T3 hm y hk' h' hk
  | exit i=>exact hk (.exit i) γ' st' a' w' h' hk'
  | ret=>exact hk .ret γ' st' a' w' h' hk'
 | .cond c x y,k,Q,γ,st,a,w,he,h,hk=>by
  simp only [NW,IX] at he;split at he
  ·rename_i b hc;have hcr:=FS h c;rw [hc] at hcr;simp only [VRel] at hcr;have hlit:Rel B nt w0 X γ (eD st c b) a w:=by
    unfold eD;split
    ·exact h.lit hc
    ·exact h
   cases b with
   | true=>exact wp_cond_true hcr (T3 hm x he hlit hk)
   | false=>exact wp_cond_false hcr (T3 hm y he hlit hk)
  ·cases he
 | .block id c,k,Q,γ,st,a,w,he,h,hk=>by
  simp only [NW,IX] at he;refine wp_block (T3 hm c he h (fun o γ' st' a' w' h' hk'=>?_));cases o with
  | normal=>exact hk .normal γ' st' a' w' h' hk'
  | ret=>exact hk .ret γ' st' a' w' h' hk'
  | exit i=>
   simp only [jN,Exit.inBlock];simp only [DK] at hk';cases hb:BI i id with
   | true=>
    rw [hb] at hk';rw [BL (FK.1 hb)];exact hk .normal γ' st' a' w' h' hk'
   | false=>
    rw [hb] at hk';rw [A4 (HV.1 hb)];exact hk (.exit i) γ' st' a' w' h' hk'
 | .loop c,k,Q,γ,st,a,w,he,h,hk=>by
  simp only [NW,IX] at he;generalize EP ⟨[],[],[]⟩ E.lp (V2 c)=kp at he
  let J:Act→World→Nat→Prop:=fun a w n=>∃ γ st,Rel B nt w0 X γ st a w∧O5 c (IX O5 E c) kp n st k=some r
  obtain ⟨γr,hr⟩:=h.restrict kp;refine wp_loop (fun a w=>∃ n,J a w n) (fun a w=>(Classical.epsilon fun n=>J a w n∧∀ m,J a w m→n≤m)) ⟨_,γr,_,hr,he⟩ ?_;intro a w hI;have hleast:=Classical.epsilon_spec (vL (J a w) hI);generalize (Classical.epsilon fun n=>J a w n∧∀ m,J a w m→n≤m)=n at hleast;obtain ⟨⟨γ1,st1,h1,he1⟩,_⟩:=hleast;cases n with
  | zero=>simp [O5] at he1
  | succ n=>
   simp only [O5] at he1;refine T3 hm c he1 h1 (fun o γ' st' a' w' h' hk'=>?_);obtain ⟨γr,hr⟩:=h'.restrict kp;cases o with
   | normal=>
    simp only [jN,Exit.then];have hJ:J a' w' n:=⟨γr,_,hr,hk'⟩;refine ⟨⟨n,hJ⟩,?_⟩
    have:=Classical.epsilon_spec (vL (J a' w') ⟨n,hJ⟩)
    exact Nat.lt_succ_of_le (this.2 n hJ)
   | exit i=>exact hk (.exit i) γr _ a' w' hr hk'
   | ret=>exact hk .ret γr _ a' w' hr hk'
end
open Go Go.RowKit
theorem k9 (o:Store) (bs:List V) (tk:Option Kd) (v:V):G1 (I2 (ED o bs tk v))=true:=by
 cases v <;> simp only [ED] <;> repeat' split
 all_goals rfl
theorem kR (o:Store) (bs:List V):∀ (l:List V) (ks:List Kd),(KR (fun k v=>I2 (ED o bs k v)) ks l).all G1=true
 | [],ks=>by cases ks <;> rfl
 | v :: l,[]=>by simp [KR,k9,kR o bs l []]
 | v :: l,k :: ks=>by simp [KR,k9,kR o bs l ks]
theorem mK (o:Store) (ks:List Kd) (v:V):(match LG o ks v with | .agg l=>l.all G1 | v=>G1 v)=true∧∀ l,LG o ks v≠.tup l:=by
 by_cases hc:∃ l,v = .agg l
 ·obtain ⟨l,rfl⟩:=hc;simp only [LG];exact ⟨kR o [] l ks,fun l' h=>by cases h⟩
 ·have h1:LG o ks v=I2 (ED o [] ks.head? v):=by cases v <;> first | rfl | exact absurd ⟨_,rfl⟩ hc
  have h2:=k9 o [] ks.head? v;rw [h1];cases hx:I2 (ED o [] ks.head? v) <;> rw [hx] at h2 <;> simp only [G1] at h2 ⊢ <;> first | (cases h2; done) | (refine ⟨trivial,fun l h=>?_⟩; cases h)
theorem mM (o:Store) (ks:List (List Kd)) (v:V):KL (GV o ks v)=true:=by
 by_cases hc:∃ l,v = .tup l
 ·obtain ⟨l,rfl⟩:=hc;simp only [GV,KL];have key:∀ (l:List V) (ks:List (List Kd)),((GV.go o ks l).all fun v=>match v with | .agg l=>l.all G1 | v=>G1 v)=true:=by
   intro l
   induction l with
   | nil=>intro ks; cases ks <;> rfl
   | cons v l ih=>
    intro ks;cases ks with
    | nil=>simp only [GV.go,vaU,AH]; exact ⟨(mK o [] v).1,ih []⟩
    | cons k ks=>simp only [GV.go,vaU,AH]; exact ⟨(mK o k v).1,ih ks⟩
  exact key l ks
 ·have h1:GV o ks v=LG o (ks.headD []) v:=by cases v <;> first | rfl | exact absurd ⟨_,rfl⟩ hc
  rw [h1];obtain ⟨h2,h3⟩:=mK o (ks.headD []) v;cases hx:LG o (ks.headD []) v <;> rw [hx] at h2 <;> simp only [KL] at h2 ⊢ <;> first | exact h2 | exact absurd hx (h3 _)
theorem iG (o:Store) (all:List Nat) (cs:List V):(cs.map (E1 o all)).all PA=true:=by
 refine CP.2 (fun v hv=>?_);obtain ⟨u,_,rfl⟩:=CY.1 hv;rcases ZM o all u with ⟨_,_,_,_,_,_,_,_,_,h1⟩ | ⟨h1,_⟩
 ·rw [h1]; rfl
 ·cases hcc:E1 o all u <;> first | rfl | (rw [hcc] at h1; cases h1)
section
variable {B:BT} {nt:Nat} {w0:World} {X:Zone} {γ:Nat→Value} {st st':St} {a:Act} {w:World} {P:Program} {E:Env}
theorem zab (h:Rel B nt w0 X γ st a w) {n:Nat} {cs:List V} (ho:DG st.o n=some (.box cs)) {extra:List Nat} {m:Nat} (hm:m∈extra) {b:Nat} (hr:RowOf γ st.o m b) :
  ¬ (ES γ st.o n b∨∃ m∈GK st.o (EI cs++extra) cs,ES γ st.o m b):=by
 intro hLb;obtain ⟨e,ag,ks,l,h5,h6⟩:=hr;rcases hLb with ⟨ob,h7,h8⟩ | ⟨m2,h9,ob,h7,h8⟩
 ·have hne:n≠m:=by
   rintro rfl;rw [ho] at h5;cases h5
  exact h.dis n m ob _ b hne h7 h5 h8 h6
 ·by_cases hne:m2=m
  ·subst hne;obtain ⟨hi2,e2,ag2,ks2,l2,k1,k2,k3⟩:=QD.1 h9;rw [RW] at k3;have q1:=RX (UD k1);have q2:=RX hm;omega
  ·exact h.dis m2 m ob _ b hne h7 h5 h8 h6
theorem Om {p:Value} (h:Rel ⟨B.T,B.e,some p,B.ng,B.F⟩ nt w0 X γ st a w) {v:V} {x:Value} (hv:VRel γ st.o w (DI X γ st.o) v x) {ks:List (List Kd)} {vs:List V} {r:V} {out:List (List V)} (he:dH st.o ks (FW vs) v=some (r,out)) {g0:Value} (hp:p=P0 g0) :
  ∃ γ',Rel B.base 0 w0 X γ' ⟨[],F2 r out⟩ IU w∧VRel γ' (F2 r out) w (DI X γ' (F2 r out)) (LH r) x∧JN vs r out g0 (γ' 900000):=by
 have hfar:∀ b,X.far b→DI X γ st.o b∧∀ b',b'=b→¬ EX γ st.o b':=fun b hb=>⟨.inr hb,fun b' e hP=>h.nr b' hP (e ▸ hb)⟩
 have hbd:∀ {n:Nat} {cs:List V} (ho:DG st.o n=some (.box cs)) (extra:List Nat),∃ γb,Rel B.base 0 w0 X γb ⟨[],D8 (cs.map (E1 st.o (EI cs++extra)))⟩ IU w∧γb 900000=γ n ∧
   ∀ b,EX γb (D8 (cs.map (E1 st.o (EI cs++extra)))) b→ES γ st.o n b∨∃ m∈GK st.o (EI cs++extra) cs,ES γ st.o m b:=by
  intro n cs ho extra;exact h.bound ho extra (w1:=w0) (own1:=X.own) (F:=X.far) h.keep (fun b hb=>⟨.inr hb,fun ⟨ob,h1,h2⟩=>h.nr b ⟨n,ob,h1,h2⟩ hb,fun m _ ⟨ob,h1,h2⟩=>h.nr b ⟨m,ob,h1,h2⟩ hb,fun m _ ⟨ob,h1,h2⟩=>h.nr b ⟨m,ob,h1,h2⟩ hb⟩)
   (fun b hb=>by
    rcases hb with ⟨ob,h1,h2⟩ | ⟨m,_,ob,h1,h2⟩
    ·exact (h.lt b ⟨n,ob,h1,h2⟩).2
    ·exact (h.lt b ⟨m,ob,h1,h2⟩).2)
 have hbP:∀ {n b:Nat} {hs:List Nat},(ES γ st.o n b∨∃ m∈hs,ES γ st.o m b)→EX γ st.o b:=by
  rintro n b hs (⟨ob,h1,h2⟩ | ⟨m,_,ob,h1,h2⟩)
  ·exact ⟨n,ob,h1,h2⟩
  ·exact ⟨m,ob,h1,h2⟩
 unfold dH at he;split at he
 ·rename_i s0 hb;split at he
  ·rename_i s hob;simp only [AC,AS] at he;obtain ⟨rfl,rfl⟩:=he;obtain ⟨hR,hP⟩:=h.boundB hob (w1:=w0) (own1:=X.own) (F:=X.far) h.keep (fun b hb=>⟨.inr hb,fun ⟨ob,h1,h2⟩=>h.nr b ⟨_,ob,h1,h2⟩ hb⟩) (fun b ⟨ob,h1,h2⟩=>(h.lt b ⟨_,ob,h1,h2⟩).2);have hmo:F2 (GV st.o ks v) [[.bld s]]=D8 [.bld s]:=by cases GV st.o ks v <;> rfl
   have hf:=mM st.o ks v;refine ⟨_,by rw [hmo]; exact hR,?_,?_⟩
   ·rw [hmo,R8 hf];refine mN h hv (fun b _ hb=>?_) (fun m hm b hr hb=>?_) ks
    ·exact hb.imp_left (fun hb=>by obtain ⟨ob,h1,h2⟩:=hP b hb; exact ⟨_,ob,h1,h2⟩)
    ·obtain ⟨e,ag,ks',l,q1,q2⟩:=hr;rcases hb with hb | hb
     ·obtain ⟨ob,h1,h2⟩:=hP b hb;refine h.dis 900000 m ob _ b ?_ h1 q1 h2 q2;rintro rfl;rw [hob] at q1;cases q1
     ·exact h.nr b ⟨m,_,q1,q2⟩ hb
   ·simp only [JN,hb];exact ⟨hf,rfl,(h.pn p rfl _ hob).trans hp⟩
  ·cases he
 ·rename_i cs0 hnb hb;split at he
  ·rename_i cs hob;simp only [AC,AS] at he;obtain ⟨rfl,rfl⟩:=he;obtain ⟨γb,hR,hg,hP⟩:=hbd hob (JX v);have hmo:F2 (GV st.o ks v) [cs.map (E1 st.o (EI cs++JX v))]=D8 (cs.map (E1 st.o (EI cs++JX v))):=by cases GV st.o ks v <;> rfl
   have hf:=mM st.o ks v;refine ⟨γb,by rw [hmo]; exact hR,?_,?_⟩
   ·rw [hmo,R8 hf];refine mN h hv (fun b _ hb=>hb.imp_left (fun hb=>hbP (hP b hb))) (fun m hm b hr hb=>?_) ks;rcases hb with hb | hb
    ·exact zab h hob hm hr (hP b hb)
    ·obtain ⟨e,ag,ks',l,q1,q2⟩:=hr;exact h.nr b ⟨m,_,q1,q2⟩ hb
   ·simp only [JN,hb];refine ⟨hf,?_,?_⟩
    ·unfold mS;split
     ·exact absurd rfl (hnb _)
     ·exact absurd rfl (hnb _)
     ·exact iG _ _ _
    ·rw [hg];exact (h.pn p rfl _ hob).trans hp
  ·cases he
 ·rename_i hb;have fin9:∀ v,VRel γ st.o w (DI X γ st.o) v x→∃ γ',Rel B.base 0 w0 X γ' ⟨[],F2 (GV st.o ks v) []⟩ IU w∧VRel γ' (F2 (GV st.o ks v) []) w (DI X γ' (F2 (GV st.o ks v) [])) (LH (GV st.o ks v)) x∧JN vs (GV st.o ks v) [] g0 (γ' 900000):=by
   intro v hv;have hf:=mM st.o ks v;have hmo:F2 (GV st.o ks v) []=[]:=by
    cases hx:GV st.o ks v <;> first | rfl | (rw [hx] at hf; simp only [KL,G1] at hf; cases hf)
   refine ⟨γ,?_,?_,?_⟩
   ·rw [hmo];refine ⟨rfl,rfl,fun i=>by simp only [St.get,EP,VRel],fun n ob hn=>?_,?_,?_,h.keep,?_,h.fl,fun p hp=>by cases hp⟩
    ·simp only [DG,EP] at hn; cases hn
    ·rintro b ⟨n,ob,hn,_⟩; simp only [DG,EP] at hn; cases hn
    ·intro n m ob ob' b _ hn; simp only [DG,EP] at hn; cases hn
    ·rintro b ⟨n,ob,hn,_⟩; simp only [DG,EP] at hn; cases hn
   ·rw [hmo,R8 hf];refine mN h hv (fun b _ hb=>?_) (fun m hm b hr hb=>?_) ks
    ·rcases hb with ⟨n,ob,hn,_⟩ | hb
     ·simp only [DG,EP] at hn; cases hn
     ·exact .inr hb
    ·rcases hb with ⟨n,ob,hn,_⟩ | hb
     ·simp only [DG,EP] at hn; cases hn
     ·obtain ⟨e,ag,ks',l,q1,q2⟩:=hr;exact h.nr b ⟨m,_,q1,q2⟩ hb
   ·simp only [JN,hb];cases hx:GV st.o ks v <;> first | (rw [hx] at hf; exact hf) | (rw [hx] at hf; simp only [KL,G1] at hf; cases hf)
  split at he
  ·rename_i n i c;split at he
   ·rename_i cs hob hc;simp only [AC,AS] at he;obtain ⟨rfl,rfl⟩:=he;obtain rfl:=FK.1 hc;obtain ⟨γb,hR,hg,hP⟩:=hbd hob [];refine ⟨γb,hR,?_,?_⟩
    ·simp only [VRel,hob] at hv;simp only [F2,LH,EE,VRel];rw [V1 (iG _ _ _),D4,BL rfl,hg];exact ⟨trivial,hv.2⟩
    ·simp only [JN,hb,WG];exact iG _ _ _
   ·cases he
  ·rename_i n lo hi;split at he
   ·rename_i e ag ks' l hob;split at he
    ·rename_i hlo;simp only [AC,AS] at he;obtain ⟨rfl,rfl⟩:=he;obtain rfl:=FK.1 hlo;obtain ⟨hpr,hpb⟩:=lU (γ':=fun m=>if m=900000 then x else γ m) (o':=[(900000,some (Ob.row true e ag ks' (l.take hi)))]) h hob hv;have hmo:F2 (.vec e ag ks' (l.take hi)) []=[(900000,some (.row true e ag ks' (l.take hi)))]:=rfl;have obs:∀ m ob,DG [(900000,some (Ob.row true e ag ks' (l.take hi)))] m=some ob→m=900000∧ob = .row true e ag ks' (l.take hi):=fun m ob hn=>by
      rw [D4] at hn;split at hn
      ·rename_i h9;simp only [AC] at hn;exact ⟨h9.symm,hn.symm⟩
      ·simp [DG,EP] at hn
     have ownP:∀ b,EX (fun m=>if m=900000 then x else γ m) [(900000,some (Ob.row true e ag ks' (l.take hi)))] b→ES γ st.o n b:=by
      rintro b ⟨m,ob,hn,hb⟩;obtain ⟨rfl,rfl⟩:=obs m ob hn;exact hpb b (by simpa only [CM] using hb)
     have hlt:∀ b,ES γ st.o n b→EX γ st.o b:=fun b ⟨ob,h1,h2⟩=>⟨n,ob,h1,h2⟩
     have hO:∀ b,b < w.heap.size→DI X (fun m=>if m=900000 then x else γ m) [(900000,some (Ob.row true e ag ks' (l.take hi)))] b→DI X γ st.o b:=fun b _ hb=>hb.imp_left (fun hb=>hlt b (ownP b hb))
     rw [hmo];refine ⟨fun m=>if m=900000 then x else γ m,⟨rfl,rfl,fun i=>by simp only [St.get,EP,VRel],fun m ob hn=>?_,fun b hb=>h.lt b (hlt b (ownP b hb)),fun m m' ob ob' b hnm h1 h2=>?_,h.keep,fun b hb=>h.nr b (hlt b (ownP b hb)),h.fl,fun p hp=>by cases hp⟩,?_,?_⟩
     ·obtain ⟨rfl,rfl⟩:=obs m ob hn;simp only [ObRel,CM] at hpr ⊢;obtain ⟨k1,k2,xs,k3,k4⟩:=hpr;exact ⟨k1,k2,xs,k3,fun i y hy=>Kd.RelAll.mono (Keep.refl _ w) hO (fun _ _ hu=>hu) (k4 i y hy)⟩
     ·obtain ⟨rfl,rfl⟩:=obs m ob h1;obtain ⟨rfl,rfl⟩:=obs m' ob' h2;exact absurd rfl hnm
     ·simp only [LH,VRel,D4,CM];refine ⟨AY _,?_⟩;simp only [VRel,hob] at hv;obtain ⟨hl,p,len,cap,p',hgm,hxx,_,h22,h33,hm4,_,h5⟩:=hv;have htl:(l.take hi).length=hi:=by rw [A8,var hl]
      rw [htl];rw [vaY,vaY] at hxx;refine ⟨p',hi,cap,p',hxx,by rw [hxx]; simp,BZ _,AY _,by omega,hm4,.inl ?_,fun _=>rfl⟩;cases p' <;> simp [Addr.add]
     ·simp only [JN,hb,WG]
    ·cases he
   ·simp only [AC,AS] at he;obtain ⟨rfl,rfl⟩:=he;exact fin9 _ hv
  ·rename_i hnp;simp only [AC,AS] at he;obtain ⟨rfl,rfl⟩:=he;exact fin9 _ hv
theorem tN:∀ (vs:List V) (i j:Nat),EP .any (ZS i vs) j=if i≤j∧j < i+vs.length then EE (vs.getD (j - i) .any) else .any
 | [],i,j=>by
  rw [A4 (by simp only [A7]; omega)];rfl
 | v :: r,i,j=>by
  simp only [ZS,O4,tN r (i+1) j,AN];by_cases e:i=j
  ·subst e;simp
  ·rw [A4 e];by_cases h:i+1≤j∧j < i+1+r.length
   ·rw [BL h,BL (by omega),show j - i=(j - (i+1))+1 by omega];simp
   ·rw [A4 h,A4 (by omega)]
theorem mL (hT:TiOK P B E) {w:World}:∀ {rs:List ResultVar} {l:List V},R6 E st rs=some l→Rel B nt w0 X γ st a w →
  ∃ xs:List Value,(rs.mapM fun r=>match r with | .tmp t=>pure (a.tmps.getD t undef) | .cell ad t=>do loadVar t (← asAddr (a.tmps.getD ad undef)):Sem (List Value)).run P w = .ok xs w∧VRels γ st.o w (DI X γ st.o) l xs
 | [],l,h,hR=>by
  simp only [R6,AC] at h;subst h;exact ⟨[],by simp,by simp only [VRels]⟩
 | .tmp t :: r,l,h,hR=>by
  simp only [R6] at h;split at h
  ·rename_i l' hl';simp only [AC] at h;subst h;obtain ⟨xs,h1,h2⟩:=mL hT hl' hR;refine ⟨a.tmps.getD t undef :: xs,?_,?_⟩
   ·simp only [List.mapM_cons,CJ,CK,B2,h1]
   ·simp only [VRels];exact ⟨hR.tm t,h2⟩
  ·cases h
 | .cell ad t :: r,l,h,hR=>by
  simp only [R6] at h;split at h
  ·rename_i n i c hop;split at h
   ·rename_i cs hob;split at h
    ·rename_i v l' hv hl';simp only [AC] at h;subst h;obtain ⟨xs,h1,h2⟩:=mL hT hl' hR;have hx:=hR.tm ad;rw [hop] at hx;simp only [VRel,hob] at hx;obtain ⟨_,b,hg,hx⟩:=hx;have hor:=hR.ob n _ hob;simp only [ObRel] at hor;obtain ⟨b',cs',T,hg',hh,hr⟩:=hor;rw [hg] at hg';simp only [CW,AC,DA,BX] at hg';subst hg';obtain ⟨y,hy,hr'⟩:=vH (hT.known (vG hv)) hv hh hr;refine ⟨y :: xs,?_,?_⟩
     ·have hy':(do loadVar t (← asAddr (a.tmps.getD ad undef)):Sem Value).run P w = .ok y w:=by
       rw [hx];exact hy
      simp only [CJ] at hy';simp only [List.mapM_cons,CJ,hy',CK,B2,h1]
     ·simp only [VRels];exact ⟨hr',h2⟩
    ·cases h
   ·cases h
  ·cases h
theorem Me {f:FuncId} {fn:Func} {code:Code} (hf:P.funcs[f]?=some fn) (hn:(fn.name == "runtime.NumGoroutine")=false) (hb:fn.body=some code) (hnt:E.nt=fn.ntmps) (hn9:BW fn.ntmps 900000=true) {rs:List ResultVar} (hrs:fn.results.toList=rs)
  (rks:List (List Kd)) (hm:P.follows .mixedOrders=true) (hT:TiOK P B E) (hE:∀ t,t∈E.eqs→EqSnd P t (E.tyd t).ks) (hSp:∀ f sp,lk E.sp f=some sp→Snd P B f (fun vs=>(sp vs).get)) (hIp:∀ f p,lk E.ip f=some p→PS P f p) (hB:BldOK P B E):Snd P B f (DS E code rs rks):=by
 intro w X γ vs xs r out hsp hgl hxo hR hV;unfold DS at hsp;split at hsp
 case h_2=>cases hsp
 rename_i hle;have hle':=AM hle;have hlen:xs.length=vs.length:=by rw [← hV.length,B7]
 refine Does.enter hf hn (by rw [hb]; rfl) (calls_of_wp hf hb ?_)
 let B':BT:=⟨B.T,B.e,some (P0 (γ 900000)),B.ng,B.F⟩
 have hT':TiOK P B' E:=fun t x ht=>⟨(hT t x ht).info,(hT t x ht).ks,(hT t x ht).by1,(hT t x ht).one,(hT t x ht).und⟩
 have hSp':SpOK P B' E w X:=⟨⟨hgl,hxo⟩,fun f sp hfs=>hSp f sp hfs,hIp⟩;have hB':BldOK P B' E:=hB;have hstart:Rel B' fn.ntmps w X γ ⟨ZS 0 vs,H3 vs⟩ { tmps:=xs.toArray++Array.replicate (fn.ntmps - xs.toArray.size) undef,defers:=[] } w:=by
  refine ⟨?_,rfl,fun i=>?_,fun n ob hnob=>?_,hR.lt,hR.dis,hR.keep,hR.nr,hR.fl,fun p hp ob _=>?_⟩
  ·simp;omega
  ·simp only [St.get,tN];split
   ·rename_i hi;have hi':i < vs.length:=by omega
    have h1:(vs.map EE)[i]?=some (EE vs[i]):=by simp [hi']
    obtain ⟨x,hx,hvx⟩:=hV.get h1;have h2:vs.getD (i - 0) .any=vs[i]:=by simp [hi']
    rw [h2];have h3:(xs.toArray++Array.replicate (fn.ntmps - xs.toArray.size) undef).getD i undef=x:=by
     rw [vbl,Array.getElem?_append_left (by simp; omega)];simp [hx]
    simp only [h3];exact hvx
   ·simp only [VRel]
  ·have:=hR.ob n ob hnob
   cases ob with
   | box l=>simpa only [ObRel] using this
   | row own e ag ks l=>cases own <;> simpa only [ObRel] using this
   | bld s=>simpa only [ObRel,BT.base] using this
  ·simp only [B',AC] at hp;exact hp
 refine T3 hT' hE hSp' hB' hnt (AM hn9) hm code hsp hstart (fun o γ' st' a' w' h' hk'=>?_);have fin:∀ l,R6 E st' rs=some l→dH st'.o rks (FW vs) (WQ l)=some (r,out)→bodyPost P fn (fun e w'=>∃ x,e = .returned x∧∃ γ',Rel B.base 0 w X γ' ⟨[],F2 r out⟩ IU w'∧VRel γ' (F2 r out) w' (DI X γ' (F2 r out)) (LH r) x∧JN vs r out (γ 900000) (γ' 900000)) .ret a' w':=by
  intro l hl he;obtain ⟨ys,hy1,hy2⟩:=mL (P:=P) hT' hl h';have hval:(results fn a'.tmps).run P w' = .ok (if h:ys.toArray.size=1 then ys.toArray[0] else .tuple ys.toArray) w':=by
   unfold results;rw [show fn.results=rs.toArray by rw [← hrs]];rw [Array.mapM_eq_mapM_toList];simp only [CJ,Sem.run_map]
   erw [hy1]
   rfl
  have hrel:VRel γ' st'.o w' (DI X γ' st'.o) (WQ l) (if h:ys.toArray.size=1 then ys.toArray[0] else .tuple ys.toArray):=by
   match l,ys,hy2 with
   | [],[],_=>simp only [WQ,VRel]; exact ⟨#[],by simp,by simp only [VRels]⟩
   | [v],[y],h2=>simp only [VRels] at h2; simpa [WQ] using h2.1
   | v :: v' :: l,y :: y' :: ys,h2=>simp only [WQ,VRel]; exact ⟨(y :: y' :: ys).toArray,by simp,by simpa using h2⟩
  obtain ⟨γ2,q1,q2,q3⟩:=Om (B:=B) h' hrel he rfl;exact ⟨h'.df,_,hval,_,rfl,γ2,q1,q2,q3⟩
 cases o with
 | exit i=>simp [DP] at hk'
 | normal=>
  simp only [DP] at hk';split at hk'
  ·rename_i l hl;exact fin l hl hk'
  ·cases hk'
 | ret=>
  simp only [DP] at hk';split at hk'
  ·rename_i l hl;exact fin l hl hk'
  ·cases hk'
end
open Go Go.RowKit
def zB:V→Value→Bool
 | .int k n,.int k' n'=>k==k'&&(n==n'&&V6 k n)
 | .bool b,.bool c=>b==c
 | .str s,.string s'=>s.size==0&&s'.size==0
 | .zs,.slice none 0 0=>true
 | .nilp,.pointer none=>true
 | .err true,.nilIface=>true
 | .any,_=>true
 | _,_=>false
def W9:List V→List Value→Bool
 | [],[]=>true
 | v :: vs,x :: xs=>zB v x&&W9 vs xs
 | _,_=>false
def dB (P:Program) (T t:Nat) (ks:List Kd):TD→TypeDesc→Bool
 | .slice e,.slice e'=>e==e'
 | .struct fs,.struct fields=>fs==fields.toList.map (fun f=>(f.offset,f.type))&&fields.toList.all (fun f=>(P.info? f.type).isSome)
 | .array n e,.array n' e'=>n==n'&&e==e'
 | .ptr e,.pointer e'=>e==e'
 | .bld,_=>t==T
 | .iface,.interface _=>true
 | .leaf,d=>match ks with
  | [.int k]=>(match d with | .int k'=>k==k' | _=>false)
  | [.str]=>(match d with | .string=>true | _=>false)
  | [.bool]=>(match d with | .bool=>true | _=>false)
  | _=>true
 | _,_=>false
def f5 (P:Program) (T t:Nat) (x:TI):Bool:=
 match P.info? t,P.underlying t with
 | some i,some d=>match i.zero with
  | some z=>i.size==x.size&&(i.bytes==x.bytes&&(z.cells.size==x.size&&(W9 x.zero z.cells.toList&&(x.ks.length==x.size&&(BW 1 x.bytes&&((x.agg||x.size==1)&&(d.isRow==x.agg&&dB P T t x.ks x.d d)))))))
  | none=>false
 | _,_=>false
def bJ (P:Program) (T:Nat):List (Nat × TI)→Bool
 | []=>true
 | (t,x) :: r=>f5 P T t x&&bJ P T r
theorem zea {γ:Nat→Value} {o:Store} {w:World} {O:Nat→Prop} {v:V} {x:Value} (h:zB v x=true):VRel γ o w O v x:=by
 unfold zB at h;split at h
 ·simp only [AH,B3,V6,AQ] at h;obtain ⟨rfl,rfl,h1,h2⟩:=h;simp only [VRel];exact ⟨trivial,h1,h2⟩
 ·simp only [B3] at h;subst h;simp only [VRel]
 ·rename_i s s';simp only [AH,B3] at h;have e:∀ s:BA,s.size=0→s=CH:=fun s hs=>by
   obtain ⟨⟨l⟩⟩:=s;cases l with
   | nil=>rfl
   | cons a l=>simp [AF] at hs
  simp only [VRel];rw [e s h.1,e s' h.2];exact ⟨rfl,by simp [ByteArray.size_empty]⟩
 ·simp only [VRel]
 ·simp only [VRel]
 ·simp only [VRel]
 ·simp only [VRel]
 ·cases h
theorem Fj {γ:Nat→Value} {o:Store} {w:World} {O:Nat→Prop}:∀ {l:List V} {xs:List Value},W9 l xs=true→VRels γ o w O l xs
 | [],[],_=>by simp only [VRels]
 | [],_ :: _,h=>by simp [W9] at h
 | _ :: _,[],h=>by simp [W9] at h
 | v :: vs,x :: xs,h=>by
  simp only [W9,AH] at h;simp only [VRels];exact ⟨zea h.1,Fj h.2⟩
theorem zdz {P:Program} {B:BT} {t:Nat} {x:TI} (h:f5 P B.T t x=true):TISnd P B t x:=by
 unfold f5 at h;split at h
 ·rename_i i d hi hd;split at h
  ·rename_i z hz;simp only [AH,B3,vax] at h;obtain ⟨h1,h2,h3,h4,h5,h6,h7,h8,h9⟩:=h;refine ⟨⟨i,z,hi,h1,h2,hz,h3,fun γ o w O=>Fj h4⟩,h5,AM h6,fun ha=>by rw [ha] at h7; simpa using h7,⟨d,hd,h8,?_⟩⟩;cases hx:x.d with
   | slice e=>rw [hx] at h9; cases d <;> simp only [dB] at h9 <;> first | (cases h9; done) | (simp only [B3] at h9; subst h9; rfl)
   | struct fs=>
    rw [hx] at h9;cases d <;> simp only [dB] at h9 <;> first | (cases h9; done) | skip
    rename_i fields;simp only [AH,B3,CP] at h9;exact ⟨fields,rfl,h9.1,h9.2⟩
   | array n e=>
    rw [hx] at h9;cases d <;> simp only [dB] at h9 <;> first | (cases h9; done) | skip
    simp only [AH,B3] at h9;obtain ⟨rfl,rfl⟩:=h9;rfl
   | ptr e=>rw [hx] at h9; cases d <;> simp only [dB] at h9 <;> first | (cases h9; done) | (simp only [B3] at h9; subst h9; rfl)
   | bld=>rw [hx] at h9; simp only [dB,B3] at h9; exact h9
   | iface=>rw [hx] at h9; cases d <;> simp only [dB] at h9 <;> first | (cases h9; done) | exact ⟨_,rfl⟩
   | leaf=>
    rw [hx] at h9;refine ⟨fun k hk=>?_,fun hk=>?_,fun hk=>?_⟩ <;> rw [hk] at h9 <;> cases d <;> simp only [dB] at h9 <;> first | (cases h9; done) | (simp only [B3] at h9; subst h9; rfl) | rfl
  ·cases h
 ·cases h
theorem Dw {P:Program} {B:BT} {E:Env} {ti:List (Nat × TI)} (he:E.ti=ti) (h:bJ P B.T ti=true):TiOK P B E:=by
 subst he;have key:∀ (l:List (Nat × TI)),bJ P B.T l=true→∀ t x,lk l t=some x→f5 P B.T t x=true:=by
  intro l
  induction l with
  | nil=>intro _ t x hx; simp [lk] at hx
  | cons p r ih=>
   obtain ⟨j,y⟩:=p;intro hl t x hx;simp only [bJ,AH] at hl;simp only [lk] at hx;split at hx
   ·rename_i hb;simp only [AC] at hx;subst hx;rw [← FK.1 hb];exact hl.1
   ·exact ih hl.2 t x hx
 exact fun t x ht=>zdz (key E.ti h t x ht)
def WU (P:Program) (t w:Nat):Bool:=match P.info? t with | some _=>P.cellsOf t==w | none=>false
def UN (ks:List Kd):Nat→List Kd
 | 0=>[]
 | n+1=>ks++UN ks n
def ZT (P:Program) (g:Nat→Option (List Kd)):List Field→Nat→Option (List Kd)
 | [],_=>some []
 | f :: r,o=>match g f.type with
  | some ks=>match f.name != "_"&&(f.offset==o&&WU P f.type ks.length) with
   | true=>match ZT P g r (o+ks.length) with
    | some ks'=>some (ks++ks')
    | none=>none
   | false=>none
  | none=>none
def QC (P:Program):Nat→Nat→Option (List Kd)
 | 0,_=>none
 | d+1,t=>match P.underlying t with
  | some (.int k)=>some [.int k]
  | some .bool=>some [.bool]
  | some (.struct fs)=>match P.stoodInHeld t with
   | true=>none
   | false=>ZT P (QC P d) fs.toList 0
  | some (.array n e)=>match QC P d e with
   | some ks=>match WU P e ks.length with
    | true=>some (UN ks n)
    | false=>none
   | none=>none
  | _=>none
def dG (P:Program) (ti:List (Nat × TI)):List Nat→Bool
 | []=>true
 | t :: r=>(!(P.eqGuardType P.depth t))&&((match P.underlying t with | some d=>d.isRow | none=>false)&&(match QC P 10 t with | some ks=>ID.kdsEq (EP TI.none ti t).ks ks | none=>false))&&dG P ti r
theorem Z0:∀ {ks:List Kd} {l:List V},IO ks l=true→l.length=ks.length
 | [],[],_=>rfl
 | [],_ :: _,h=>by simp [IO] at h
 | k :: _,[],h=>by cases k <;> simp [IO] at h
 | k :: ks,v :: l,h=>by
  cases k <;> cases v <;> simp only [IO] at h <;> try (cases h; done)
  ·split at h
   ·simp [Z0 h]
   ·cases h
  ·simp [Z0 h]
theorem dU:∀ {ks ks':List Kd} {l:List V},IO (ks++ks') l=true→IO ks (l.take ks.length)=true∧IO ks' (l.drop ks.length)=true
 | [],_,_,h=>⟨rfl,h⟩
 | k :: ks,ks',[],h=>by cases k <;> simp [IO] at h
 | k :: ks,ks',v :: l,h=>by
  cases k <;> cases v <;> simp only [vaa,IO] at h <;> try (cases h; done)
  ·split at h
   ·rename_i hk;obtain ⟨h1,h2⟩:=dU h;simp only [AN,List.take_succ_cons,List.drop_succ_cons,IO,hk];exact ⟨h1,h2⟩
   ·cases h
  ·obtain ⟨h1,h2⟩:=dU h;simp only [AN,List.take_succ_cons,List.drop_succ_cons,IO];exact ⟨h1,h2⟩
theorem dF:∀ {a a':List V} {b b':List V} {c:Bool},a.length=a'.length→IW (a++b) (a'++b')=some c→∃ c1 c2,IW a a'=some c1∧IW b b'=some c2∧c=(c1&&c2)
 | [],[],b,b',c,_,h=>⟨true,c,rfl,h,by simp⟩
 | [],_ :: _,_,_,_,hl,_=>by simp at hl
 | _ :: _,[],_,_,_,hl,_=>by simp at hl
 | x :: a,y :: a',b,b',c,hl,h=>by
  have hl':a.length=a'.length:=by simpa using hl
  cases x <;> cases y <;> simp only [vaa,IW] at h ⊢ <;> try (cases h; done)
  ·split at h
   ·rename_i hk;split at h
    ·rename_i c0 h0;simp only [AC] at h;obtain ⟨c1,c2,h1,h2,h3⟩:=dF hl' h0;rw [h1];exact ⟨_,c2,rfl,h2,by rw [← h,h3,Bool.and_assoc]⟩
    ·cases h
   ·cases h
  ·split at h
   ·rename_i c0 h0;simp only [AC] at h;obtain ⟨c1,c2,h1,h2,h3⟩:=dF hl' h0;rw [h1];exact ⟨_,c2,rfl,h2,by rw [← h,h3,Bool.and_assoc]⟩
   ·cases h
theorem dE:∀ {a a':List V} {c:Bool},IW a a'=some c→a.length=a'.length
 | [],[],_,_=>rfl
 | [],_ :: _,_,h=>by simp [IW] at h
 | x :: _,[],_,h=>by cases x <;> simp [IW] at h
 | x :: a,y :: a',c,h=>by
  cases x <;> cases y <;> simp only [IW] at h <;> try (cases h; done)
  ·split at h
   ·split at h
    ·rename_i h0;simp [dE h0]
    ·cases h
   ·cases h
  ·split at h
   ·rename_i h0;simp [dE h0]
   ·cases h
section
variable {P:Program} {γ:Nat→Value} {o:Store} {w:World} {O:Nat→Prop}
def Q0 (P:Program) (γ:Nat→Value) (o:Store) (w:World) (O:Nat→Prop) (t:Nat) (l:List V) (x:Value):Prop:=
 match P.underlying t with
 | some d=>match d.isRow with
  | true=>∃ xs,x = .agg xs∧VRels γ o w O l xs.toList
  | false=>∃ v,l=[v]∧VRel γ o w O v x
 | none=>False
theorem tQ {d t:Nat} {ks:List Kd} (h:QC P d t=some ks):∃ k,P.underlying t=some k∧(k.isRow=false→ks.length=1):=by
 cases d with
 | zero=>simp [QC] at h
 | succ d=>
  simp only [QC] at h;split at h
  ·rename_i hu; simp only [AC] at h; exact ⟨_,hu,fun _=>by rw [← h]; rfl⟩
  ·rename_i hu; simp only [AC] at h; exact ⟨_,hu,fun _=>by rw [← h]; rfl⟩
  ·rename_i hu; exact ⟨_,hu,fun h=>by simp [vbk] at h⟩
  ·rename_i hu; exact ⟨_,hu,fun h=>by simp [vbk] at h⟩
  ·cases h
theorem cW {t n off:Nat} {l:List V} {xs:Array Value} (hu:∃ k,P.underlying t=some k∧(k.isRow=false→n=1)) (hs:WU P t n=true) (hr:VRels γ o w O l xs.toList) (hl:off+n≤l.length) (W:World) :
  ∃ y,(part t xs off).run P W = .ok y W∧Q0 P γ o w O t ((l.drop off).take n) y:=by
 obtain ⟨k,hu,hn⟩:=hu;unfold WU at hs;split at hs
 ·rename_i i hi;simp only [B3] at hs;cases hrow:k.isRow with
  | true=>
   refine ⟨.agg (xs.extract off (off+n)),?_,?_⟩
   ·cases k <;> simp [vbk] at hrow <;> simp [part,isAgg,BC hu,run_sizeOf W hi,hs]
   ·unfold Q0;rw [hu];simp only [hrow];refine ⟨_,rfl,?_⟩
    have:(xs.extract off (off+n)).toList=(xs.toList.drop off).take n:=by
     simp [List.extract_eq_take_drop]
    rw [this];exact (hr.drop off).take n
  | false=>
   obtain rfl:=hn hrow;obtain ⟨v,hv⟩:∃ v,l[off]?=some v:=⟨l[off]'(by omega),A6 _⟩;obtain ⟨y,hy,hyr⟩:=hr.get hv;have hy':xs[off]?=some y:=by simpa using hy
   refine ⟨y,?_,?_⟩
   ·cases k <;> simp [vbk] at hrow <;> simp [part,isAgg,BC hu,hy']
   ·unfold Q0;rw [hu];simp only [hrow];refine ⟨v,?_,hyr⟩;rw [List.take_one,List.head?_drop,hv];rfl
 ·cases hs
def gQ (P:Program) (γ:Nat→Value) (o:Store) (w:World) (O:Nat→Prop) (dd t:Nat) (ks:List Kd):Prop:=∀ (W:World) (x y:Value) (l l':List V) (c:Bool),IO ks l=true→Q0 P γ o w O t l x→Q0 P γ o w O t l' y→IW l l'=some c→(vbm dd t x y).run P W = .ok c W
theorem fZ (l:List V) (off n:Nat):l.drop off=(l.drop off).take n++l.drop (off+n):=by
 rw [← List.drop_drop]; exact (List.take_append_drop n (l.drop off)).symm
theorem tO {dd:Nat} {g:Nat→Option (List Kd)} (hg:∀ t ks,g t=some ks→gQ P γ o w O dd t ks∧∃ k,P.underlying t=some k∧(k.isRow=false→ks.length=1)) {xs ys:Array Value} {l l':List V} (hx:VRels γ o w O l xs.toList) (hy:VRels γ o w O l' ys.toList) (hll:l.length=l'.length) (W:World) :
  ∀ (fs:List Field) (off:Nat) {ks:List Kd} {c:Bool},off≤l.length→ZT P g fs off=some ks→IO ks (l.drop off)=true→IW (l.drop off) (l'.drop off)=some c→(Op.eqFields dd xs ys fs).run P W = .ok c W
 | [],off,ks,c,hoff,hf,hk,he=>by
  simp only [ZT,AC] at hf;subst hf;have h0:=Z0 hk;have h1:l.drop off=[]:=List.length_eq_zero_iff.1 h0;have h2:l'.drop off=[]:=by
   have:=dE he
   rw [h1] at this;exact List.length_eq_zero_iff.1 this.symm
  rw [h1,h2] at he;simp only [IW,AC] at he;subst he;simp [Op.eqFields]
 | f :: r,off,ks,c,hoff,hf,hk,he=>by
  simp only [ZT] at hf;split at hf
  ·rename_i ks1 hw;split at hf
   ·rename_i hb;split at hf
    ·rename_i ks2 hf2;simp only [AC] at hf;subst hf;simp only [AH,B3,bne_iff_ne,ne_eq] at hb;obtain ⟨hn,ho,hs⟩:=hb;obtain ⟨hrun,hu⟩:=hg _ _ hw;obtain ⟨hk1,hk2⟩:=dU hk;rw [List.drop_drop] at hk2;have hkl:=Z0 hk;simp only [C7,AW] at hkl;have hle:off+ks1.length≤l.length:=by omega
     rw [fZ l off ks1.length,fZ l' off ks1.length] at he;obtain ⟨c1,c2,h1,h2,h3⟩:=dF (by simp; omega) he;obtain ⟨a,ha,hac⟩:=cW (off:=off) hu hs hx hle W;obtain ⟨b,hb,hbc⟩:=cW (off:=off) hu hs hy (by omega) W;have he1:=hrun W a b _ _ c1 hk1 hac hbc h1;have ih:=tO hg hx hy hll W r (off+ks1.length) hle hf2 hk2 h2;simp only [Op.eqFields,hn,ne_eq,not_false_eq_true,CM,CJ,ho,ha,hb,he1,B2];subst h3;cases c1
     ·simp
     ·simpa using ih
    ·cases hf
   ·cases hf
  ·cases hf
theorem tP {dd e:Nat} {ks:List Kd} (hrun:gQ P γ o w O dd e ks) (hu:∃ k,P.underlying e=some k∧(k.isRow=false→ks.length=1)) (hs:WU P e ks.length=true) {xs ys:Array Value} {l l':List V} (hx:VRels γ o w O l xs.toList) (hy:VRels γ o w O l' ys.toList) (hll:l.length=l'.length) (W:World) :
  ∀ (m i:Nat) {c:Bool},i*ks.length+m*ks.length=l.length→IO (UN ks m) (l.drop (i*ks.length))=true→IW (l.drop (i*ks.length)) (l'.drop (i*ks.length))=some c→(Op.eqItems dd e ks.length xs ys (List.range' i m)).run P W = .ok c W
 | 0,i,c,hl,hk,he=>by
  rw [CN (by omega),CN (by omega)] at he;simp only [IW,AC] at he;subst he;simp [Op.eqItems]
 | m+1,i,c,hl,hk,he=>by
  rw [vai,vbr] at hl;obtain ⟨hk1,hk2⟩:=dU (ks:=ks) (ks':=UN ks m) hk;rw [List.drop_drop] at hk2;rw [fZ l (i*ks.length) ks.length,fZ l' (i*ks.length) ks.length] at he;obtain ⟨c1,c2,h1,h2,h3⟩:=dF (by simp; omega) he;obtain ⟨a,ha,hac⟩:=cW (off:=i*ks.length) hu hs hx (by omega) W;obtain ⟨b,hb,hbc⟩:=cW (off:=i*ks.length) hu hs hy (by omega) W;have he1:=hrun W a b _ _ c1 hk1 hac hbc h1;have ih:=tP hrun hu hs hx hy hll W m (i+1) (by rw [vai,vbr]; omega) (by rw [vai,vbr]; exact hk2) (by rw [vai,vbr]; exact h2);simp only [List.range'_succ,Op.eqItems,CJ,ha,hb,he1,B2];subst h3;cases c1
  ·simp
  ·simpa using ih
theorem yW (ks:List Kd):∀ n,(UN ks n).length=n*ks.length
 | 0=>by simp [UN]
 | n+1=>by simp only [UN,AW,yW ks n,vai,vbr]; omega
theorem jJ (dd:Nat):∀ (d t:Nat) (ks:List Kd),QC P d t=some ks→gQ P γ o w O (dd+d) t ks
 | 0,t,ks,h=>by simp [QC] at h
 | d+1,t,ks,h=>by
  intro W x y l l' c hk hx hy he;have hll:=dE he;simp only [QC] at h;unfold Q0 at hx hy;split at h
  ·rename_i k hu;simp only [AC] at h;subst h;rw [hu] at hx hy;simp only at hx hy;obtain ⟨v,rfl,hx⟩:=hx;obtain ⟨v',rfl,hy⟩:=hy;cases v <;> simp only [IO] at hk <;> try (cases hk; done)
   cases v' <;> simp only [IW] at he <;> try (cases he; done)
   simp only [VRel] at hx hy;obtain ⟨rfl,_⟩:=hx;obtain ⟨rfl,_⟩:=hy;split at he
   ·rename_i hkk;simp only [AC,CE] at he;have hkk:=eq_of_beq hkk;subst hkk;rw [show dd+(d+1)=(dd+d)+1 from rfl,run_equalIn_int W _ t _ k _ _ hu,he]
   ·cases he
  ·rename_i hu;simp only [AC] at h;subst h;rw [hu] at hx hy;simp only at hx hy;obtain ⟨v,rfl,hx⟩:=hx;obtain ⟨v',rfl,hy⟩:=hy;cases v <;> simp only [IO] at hk <;> try (cases hk; done)
   cases v' <;> simp only [IW] at he <;> try (cases he; done)
   simp only [VRel] at hx hy;subst hx; subst hy;simp only [AC,CE] at he;rw [show dd+(d+1)=(dd+d)+1 from rfl,run_equalIn_bool W _ t _ _ hu,he]
  ·rename_i fs hu;rw [hu] at hx hy;simp only at hx hy;obtain ⟨xs,rfl,hx⟩:=hx;obtain ⟨ys,rfl,hy⟩:=hy;split at h
   ·cases h
   ·rename_i hst;have hfs:P.fieldsOf t=fs:=by simp [Program.fieldsOf,hu]
    rw [show dd+(d+1)=(dd+d)+1 from rfl,run_equalIn_struct W (dd+d) t xs ys (by rw [hfs]; exact hu) hst,hfs];exact tO (fun t ks ht=>⟨jJ dd d t ks ht,tQ ht⟩) hx hy hll W fs.toList 0 (BZ _) h hk he
  ·rename_i m e hu;rw [hu] at hx hy;simp only at hx hy;obtain ⟨xs,rfl,hx⟩:=hx;obtain ⟨ys,rfl,hy⟩:=hy;split at h
   ·rename_i ks1 hw;split at h
    ·rename_i hs;simp only [AC] at h;subst h;have hs':=hs;unfold WU at hs';split at hs'
     ·rename_i i hi;simp only [B3] at hs';have hkl:=Z0 hk;rw [yW] at hkl;rw [show dd+(d+1)=(dd+d)+1 from rfl,run_equalIn_array W (dd+d) xs ys hu hi,hs',List.range_eq_range'];exact tP (jJ dd d e ks1 hw) (tQ hw) hs hx hy hll W m 0 (by omega) (by simpa using hk) (by simpa using he)
     ·cases hs'
    ·cases h
   ·cases h
  ·cases h
end
theorem tS {P:Program} {E:Env} {ti:List (Nat × TI)} (hti:E.ti=ti) {l:List Nat} (h:dG P ti l=true):∀ t,t∈l→EqSnd P t (E.tyd t).ks:=by
 induction l with
 | nil=>intro t ht; cases ht
 | cons t r ih=>
  intro t' ht';simp only [dG,AH,BY] at h;rcases AU.1 ht' with e | e
  ·subst e;refine ⟨h.1.1,fun γ o w w' O l l' xs ys c hk hc hx hy=>?_⟩;obtain ⟨⟨_,h2,h3⟩,_⟩:=h;split at h3
   ·rename_i ks hn;have hks:(E.tyd t').ks=ks:=by
     unfold Env.tyd;rw [hti];exact kC h3
    rw [hks] at hk;split at h2
    ·rename_i k hk2;have hcx:∀ {l:List V} {xs:Array Value},VRels γ o w O l xs.toList→Q0 P γ o w O t' l (.agg xs):=fun hx=>by
      unfold Q0;rw [hk2];simp only [h2];exact ⟨_,rfl,hx⟩
     exact jJ (P:=P) (γ:=γ) (o:=o) (w:=w) (O:=O) 9990 10 t' ks hn w' (.agg xs) (.agg ys) l l' c hk (hcx hx) (hcx hy) hc
    ·cases h2
   ·cases h3
  ·exact ih h.2 t' e
open Go Go.RowKit
theorem Snd.mono {P:Program} {B:BT} {f:FuncId} {sp sp':Q7} (h:Snd P B f sp) (hs:∀ vs r,sp' vs=some r→sp vs=some r):Snd P B f sp':=
 fun w X γ vs xs r out hsp=>h w X γ vs xs r out (hs vs _ hsp)
def DQ (P:Program) (B:BT) (f:FuncId) (sp:DO):Prop:=Snd P B f (fun vs=>(sp vs).get)
mutual
def U4:Kd→IV→Prop
 | .int k,x=>k.min≤x.toInt∧x.toInt≤k.max
 | .bool,_=>True
 | .str,x=>x.toStr.size≤strMax
 | .list ag ks,x=>x.toList.length≤strMax∧∀ y∈x.toList,U5 ks (FQ ag y) 0
def U5:List Kd→(Nat→IV)→Nat→Prop
 | [],_,_=>True
 | k :: ks,f,j=>U4 k (f j)∧U5 ks f (j+1)
end
def wfL:V→Prop
 | .int k n=>k.min≤n∧n≤k.max
 | .str s=>s.size≤strMax
 | .list ag ks l=>l.length≤strMax∧∀ y∈l,U5 ks (FQ ag y) 0
 | .vec _ ag ks l=>l.length≤strMax∧∀ y∈l,U5 ks (FQ ag y) 0
 | .bld s=>s.size≤strMax
 | _=>True
def wfLs:List V→Prop
 | []=>True
 | v :: r=>wfL v∧wfLs r
def PL:V→Prop
 | .agg l=>wfLs l
 | .bor l=>wfLs l
 | v=>wfL v
def QT:List V→Prop
 | []=>True
 | v :: r=>PL v∧QT r
mutual
theorem Kd.Rel.wf {w:World} {O:Nat→Prop}:∀ {k:Kd} {x:IV} {v:Value},Kd.Rel w O k x v→U4 k x
 | .int k,x,v,h=>by simp only [Kd.Rel] at h; simp only [U4]; exact h.2
 | .bool,x,v,h=>by simp only [U4]
 | .str,x,v,h=>by simp only [Kd.Rel] at h; simp only [U4]; exact h.2
 | .list ag ks,x,v,h=>by
  simp only [Kd.Rel] at h;obtain ⟨p,c,_,_,_,hl,hi⟩:=h;simp only [U4];refine ⟨hl,fun y hy=>?_⟩;obtain ⟨i,hi'⟩:=List.getElem?_of_mem hy;obtain ⟨b,o,_,_,_,hr⟩:=hi i y hi';exact Kd.RelAll.wf hr
theorem Kd.RelAll.wf {w:World} {O:Nat→Prop}:∀ {ks:List Kd} {f:Nat→IV} {j:Nat} {R:Nat→Value→Prop},Kd.RelAll w O ks f j R→U5 ks f j
 | [],_,_,_,_=>by simp only [U5]
 | k :: ks,f,j,R,h=>by
  simp only [Kd.RelAll] at h;obtain ⟨⟨u,_,hr⟩,h2⟩:=h;simp only [U5];exact ⟨Kd.Rel.wf hr,Kd.RelAll.wf h2⟩
end
theorem VRel.wfL {γ:Nat→Value} {o:Store} {w:World} {O:Nat→Prop} {v:V} {x:Value} (h:VRel γ o w O v x):wfL v:=by
 cases v <;> simp only [FM.wfL] <;> simp only [VRel] at h
 ·exact h.2
 ·exact h.2
 ·have:=Kd.Rel.wf h
  simp only [U4,IV.toList] at this;exact this
theorem VRels.wfLs {γ:Nat→Value} {o:Store} {w:World} {O:Nat→Prop}:∀ {l:List V} {xs:List Value},VRels γ o w O l xs→wfLs l
 | [],[],_=>by simp only [FM.wfLs]
 | [],_ :: _,h=>by simp only [VRels] at h
 | _ :: _,[],h=>by simp only [VRels] at h
 | v :: vs,x :: xs,h=>by
  simp only [VRels] at h;simp only [FM.wfLs];exact ⟨h.1.wfL,VRels.wfLs h.2⟩
theorem zbv {B:BT} {γ:Nat→Value} {o:Store} {w:World} {O:Nat→Prop} {g:Value} {e:Nat} {ag:Bool} {ks:List Kd} {l:LI} (h:ObRel B γ o w O g (.row true e ag ks l)):wfL (.vec e ag ks l):=by
 simp only [ObRel] at h;obtain ⟨_,hl,xs,_,hr⟩:=h;simp only [FM.wfL];refine ⟨hl,fun y hy=>?_⟩;obtain ⟨i,hi⟩:=List.getElem?_of_mem hy;exact Kd.RelAll.wf (hr i y hi)
theorem Uy {B:BT} {nt:Nat} {w0:World} {X:Zone} {γ:Nat→Value} {a:Act} {w:World} {cs:List V} (h:Rel B nt w0 X γ ⟨[],D8 cs⟩ a w):wfLs cs:=by
 by_cases hb:∃ s,cs=[.bld s]
 ·obtain ⟨s,rfl⟩:=hb
  have:=h.ob 900000 (.bld s) (by simp [D8,D4])
  simp only [ObRel] at this;obtain ⟨b,v,p,_,_,_,_,_,hs⟩:=this;simp only [FM.wfLs,FM.wfL,BX];exact hs
 ·have he:D8 cs=(900000,some (.box (F1 900001 cs))) :: JT 900001 cs:=jH (fun s e=>hb ⟨s,e⟩);have hbox:=h.ob 900000 (.box (F1 900001 cs)) (by rw [he,D4,BL rfl]);simp only [ObRel] at hbox;obtain ⟨b,c,T,_,_,hr⟩:=hbox;have hall:∀ (j:Nat) (v:V),cs[j]?=some v→FM.wfL v:=by
   intro j v hj;by_cases hv:∃ e ag ks l,v = .vec e ag ks l
   ·obtain ⟨e,ag,ks,l,rfl⟩:=hv;have hat:=a7 (nr:=900001) hj
    have:=h.ob (900001+j) _ (show DG (D8 cs) (900001+j)=_ by rw [he,D4,A4 (by omega)]; exact hat)
    exact zbv this
   ·have hbk:(F1 900001 cs)[j]?=some v:=by
     rw [ZJ,hj];cases v <;> first | rfl | exact absurd ⟨_,_,_,_,rfl⟩ hv
    obtain ⟨x,_,hx⟩:=hr.get hbk;exact hx.wfL
  clear hr he hb h
  induction cs with
  | nil=>simp only [FM.wfLs]
  | cons v r ih=>
   simp only [FM.wfLs];exact ⟨hall 0 v rfl,ih (fun j u hj=>hall (j+1) u (by simpa using hj))⟩
theorem pD {B:BT} {nt:Nat} {w0:World} {X:Zone} {γ:Nat→Value} {a:Act} {w:World} {O:Nat→Prop} {o:Store} {cs:Option (List V)} (hcs:∀ l,cs=some l→wfLs l):∀ {vs:List V} {xs:List Value},(∀ l,.bor l∈vs→cs=some l)→VRels γ o w O (vs.map EE) xs→QT vs
 | [],_,_,_=>by simp only [QT]
 | v :: r,[],_,h=>by simp only [AZ,VRels] at h
 | v :: r,x :: xs,hb,h=>by
  simp only [AZ,VRels] at h;simp only [QT];refine ⟨?_,pD (B:=B) (nt:=nt) (w0:=w0) (X:=X) (a:=a) hcs (fun l hl=>hb l (AX _ hl)) h.2⟩;have h1:=h.1;by_cases hbor:∃ l,v = .bor l
  ·obtain ⟨l,rfl⟩:=hbor;simp only [PL];exact hcs l (hb l (AT ..))
  ·by_cases hagg:∃ l,v = .agg l
   ·obtain ⟨l,rfl⟩:=hagg;simp only [EE,VRel] at h1;obtain ⟨cs',_,hr⟩:=h1;simp only [PL];exact hr.wfLs
   ·have:PL v=FM.wfL v:=by cases v <;> first | rfl | exact absurd ⟨_,rfl⟩ hbor | exact absurd ⟨_,rfl⟩ hagg
    rw [this];cases v <;> first | exact h1.wfL | exact absurd ⟨_,rfl⟩ hbor | exact absurd ⟨_,rfl⟩ hagg | (simp only [FM.wfL])
def KU:List V→Option (List V)→Prop
 | [],_=>True
 | .bor l :: r,c=>c=some l∧KU r c
 | _ :: r,c=>KU r c
theorem lH:∀ {vs:List V} {c:Option (List V)},KU vs c→∀ l,.bor l∈vs→c=some l
 | [],_,_,l,h=>by cases h
 | v :: r,c,ho,l,h=>by
  rcases AU.1 h with e | e
  ·subst e;exact ho.1
  ·cases v <;> simp only [KU] at ho <;> first | exact lH ho l e | exact lH ho.2 l e
theorem Ag {P:Program} {B:BT} {f:FuncId} {fn:Func} (E:Nat→Env) (sp:DO) (rks:List (List Kd)) (hf:P.funcs[f]?=some fn) {code:Code} {rs:List ResultVar} {nt:Nat}
  (hc:(fn.name == "runtime.NumGoroutine")=false∧fn.body=some code∧fn.ntmps=nt∧BW nt 900000=true∧fn.results.toList=rs) (hnt:∀ N,(E N).nt=nt) (hm:P.follows .mixedOrders=true)
  (hT:∀ N,TiOK P B (E N)) (hE:∀ N t,t∈(E N).eqs→EqSnd P t ((E N).tyd t).ks) (hSp:∀ N f sp,lk (E N).sp f=some sp→DQ P B f sp) (hIp:∀ N f p,lk (E N).ip f=some p→PS P f p) (hB:∀ N,BldOK P B (E N))
  (h:∀ vs r,(KU vs (FW vs)→QT vs)→(sp vs).get=some r→∃ N,DS (E N) code rs rks vs=some r):DQ P B f sp:=by
 intro w X γ vs xs r out hsp hg hx hR hV;have hwf:KU vs (FW vs)→QT vs:=fun ho=>by
  refine pD (B:=B.base) (nt:=0) (w0:=w) (X:=X) (a:=IU) (cs:=FW vs) (fun l hl=>?_) (lH ho) hV;have hm:H3 vs=D8 l:=by simp only [H3,hl]
  rw [hm] at hR;exact Uy hR
 obtain ⟨N,hN⟩:=h vs _ hwf hsp;exact Me hf hc.1 hc.2.1 ((hnt N).trans hc.2.2.1.symm) (by rw [hc.2.2.1]; exact hc.2.2.2.1) hc.2.2.2.2 rks hm (hT N) (hE N) (hSp N) (hIp N) (hB N) w X γ vs xs r out hN hg hx hR hV
abbrev ic (n:Nat):Int:=n
abbrev DT (E:Env) (c:Code) (kp:KP) (n:Nat) (s:St) (k:Out→St→DH):DH:=O5 c (IX O5 E c) kp n s k
abbrev DM (E:Env) (c:Code) (k:Out→St→DH):Out→St→DH:=u7 c (IX O5 E c) k
abbrev E4 (E:Env) (c:Code) (s:St) (k:Out→St→DH):DH:=IX O5 E c s k
theorem D2 (E:Env) (c:Code) (kp:KP) (n:Nat) (s:St) (k:Out→St→DH):DT E c kp (n+1) s k=E4 E c s (EO (fun s'=>DT E c kp n s' k) kp k):=rfl
def DX (fn:Func):Code:=match fn.body with | some c=>c | none=>.skip
def DE:Code→List Nat→Code
 | c,[]=>c
 | .seq a _,0 :: r=>DE a r
 | .seq _ b,_ :: r=>DE b r
 | .cond _ a _,0 :: r=>DE a r
 | .cond _ _ b,_ :: r=>DE b r
 | .block _ c,_ :: r=>DE c r
 | .loop c,_ :: r=>DE c r
 | .scope c,_ :: r=>DE c r
 | _,_=>.skip
open Go Go.RowKit
section
variable {P:Program} {B:BT} {f:FuncId}
theorem Does.of_calls {fn:Func} (hf:P.funcs[f]?=some fn) (hn:(fn.name == "runtime.NumGoroutine")=false) (hb:fn.body.isNone=false) {xs:List Value} {w:World} {R:Ending→World→Prop} (h:Calls P f xs.toArray w R):Does P f xs w R:=Does.enter hf hn hb h
theorem Vj {r:V} (h:∀ cs,r≠.bor cs) (hv:∀ e ag ks l,r≠.vec e ag ks l):F2 r []=[]:=by
 cases r <;> first | rfl | exact absurd rfl (h _) | exact absurd rfl (hv _ _ _ _)
theorem PJ {w:World} {X:Zone} {γ:Nat→Value} {vs:List V} {xs:List Value} {r:V} (hR:Rel B.base 0 w X γ ⟨[],H3 vs⟩ IU w) (hb:FW vs=none) (hr:KL r=true)
  (h:Does P f xs w fun e w'=>∃ x,e = .returned x∧Keep (fun _=>False) w w'∧∀ O:Nat→Prop,(∀ b,O b→b < w.heap.size)→VRel γ [] w' O r x) :
  Does P f xs w fun e w'=>∃ x,e = .returned x∧∃ γ',Rel B.base 0 w X γ' ⟨[],F2 r []⟩ IU w'∧VRel γ' (F2 r []) w' (DI X γ' (F2 r [])) (LH r) x∧JN vs r [] (γ 900000) (γ' 900000):=by
 have hm:H3 vs=[]:=by simp only [H3,hb]
 rw [hm] at hR;have hnb:∀ cs,r≠.bor cs:=fun cs e=>by subst e; simp [KL,G1] at hr
 have hnv:∀ e ag ks l,r≠.vec e ag ks l:=fun e ag ks l h=>by subst h; simp [KL,G1] at hr
 rw [Vj hnb hnv,R8 hr];refine h.mono ?_;rintro e w' ⟨x,rfl,hk,hv⟩;refine ⟨x,rfl,γ,hR.world hk,hv _ (fun b hb=>?_),?_⟩
 ·rcases hb with ⟨n,ob,hn,_⟩ | hb
  ·simp [DG,EP] at hn
  ·exact hR.fl b hb
 ·simp only [JN,hb];cases r <;> first | exact hr | exact absurd rfl (hnb _) | exact absurd rfl (hnv _ _ _ _)
structure BldIs (B:BT) (w:World) (b:Nat) (p v:Value) (s:BA):Prop where
 self:p = .pointer none∨p = .pointer (some ⟨b,0,none⟩)
 heap:w.heap[b]?=some (.cells #[p,v] B.T (0,0))
 own:w.ownsRowF 0 B.e 1 v s.size (C5 s)
 ne:v.ownBlock≠some b
 size:s.size≤strMax
theorem m7 {w:World} {X:Zone} {γ:Nat→Value} {vs:List V} {xs:List Value} {r:V} {s s':BA} (hR:Rel B.base 0 w X γ ⟨[],H3 vs⟩ IU w) (hb:FW vs=some [.bld s]) (hr:KL r=true) (hnl:∀ γ' o w' O x,VRel γ [] w O r x→VRel γ' o w' O r x)
  (h:∀ b v p,γ 900000 = .tuple #[.pointer (some ⟨b,0,none⟩),v]→BldIs B w b p v s→Does P f xs w fun e w'=>∃ x,e = .returned x∧(∃ p' v',BldIs B w' b p' v' s'∧Keep (fun k=>k=b∨v.ownBlock=some k) w w'∧∀ k,v'.ownBlock=some k→v.ownBlock=some k∨w.heap.size≤k)∧∀ O,VRel γ [] w O r x) :
  Does P f xs w fun e w'=>∃ x,e = .returned x∧∃ γ',Rel B.base 0 w X γ' ⟨[],F2 r [[.bld s']]⟩ IU w'∧VRel γ' (F2 r [[.bld s']]) w' (DI X γ' (F2 r [[.bld s']])) (LH r) x∧JN vs r [[.bld s']] (γ 900000) (γ' 900000):=by
 have hm:H3 vs=D8 [.bld s]:=by simp only [H3,hb]
 have hmo:F2 r [[.bld s']]=D8 [.bld s']:=by cases r <;> rfl
 rw [hm] at hR;have hob:DG (D8 [.bld s]) 900000=some (.bld s):=by simp [D8,D4]
 have hor:=hR.ob 900000 _ hob;simp only [ObRel,BT.base] at hor;obtain ⟨b,v,p,hg,hp,hh,how,hne,hsz⟩:=hor;rw [hmo,R8 hr];refine (h b v p hg ⟨hp,hh,how,hne,hsz⟩).mono ?_;rintro e w' ⟨x,rfl,⟨p',v',hB,hk,hnew⟩,hx⟩;have hPb:∀ k,(k=b∨v.ownBlock=some k)→EX γ (D8 [.bld s]) k:=by
  rintro k hk;refine ⟨900000,_,hob,⟨b,0,none⟩,v,hg,?_⟩;rcases hk with rfl | hk
  ·exact .inl rfl
  ·exact .inr hk
 have hXb:∀ k,(k=b∨v.ownBlock=some k)→k < w.heap.size∧X.own k∧¬ X.far k:=fun k hk=>by
  obtain ⟨h1,h2⟩:=hR.lt k (hPb k hk);exact ⟨h1,h2.resolve_left (by omega),hR.nr k (hPb k hk)⟩
 have hkX:Keep X.own w w':=hk.mono (fun k _ h=>(hXb k h).2.1);have hobs:∀ n ob,DG (D8 [.bld s']) n=some ob→n=900000∧ob = .bld s':=by
  intro n ob hn;simp only [D8,D4] at hn;split at hn
  ·rename_i e;simp only [AC] at hn;exact ⟨e.symm,hn.symm⟩
  ·simp [DG,EP] at hn
 have hP':∀ k,EX (fun _=>.tuple #[.pointer (some ⟨b,0,none⟩),v']) (D8 [.bld s']) k→k=b∨v'.ownBlock=some k:=by
  rintro k ⟨n,ob,hn,hbk⟩;obtain ⟨rfl,rfl⟩:=hobs n ob hn;obtain ⟨a,v2,h1,h2⟩:=hbk;simp only [Value.tuple.injEq] at h1;have e1:a=⟨b,0,none⟩∧v2=v':=by
   have:=congrArg Array.toList h1
   simp at this;exact ⟨this.1.symm,this.2.symm⟩
  obtain ⟨rfl,rfl⟩:=e1;rcases h2 with h2 | h2
  ·exact .inl h2.symm
  ·exact .inr h2
 have hlt':∀ k,v'.ownBlock=some k→k < w'.heap.size:=by
  intro k hk;rcases hB.own.2 with ⟨rfl,_⟩ | ⟨g,cap,cur,fz,rfl,_,hgh,_⟩
  ·simp [B6] at hk
  ·simp only [B6,AC] at hk;subst hk;exact (C9.1 hgh).1
 refine ⟨x,rfl,fun _=>.tuple #[.pointer (some ⟨b,0,none⟩),v'],⟨rfl,rfl,fun i=>by simp only [St.get,EP,VRel],fun n ob hn=>?_,fun k hk2=>?_,fun n m ob ob' k hnm h1 h2=>?_,hkX,fun k hk2 hf=>?_,fun k hf=>CT (hR.fl k hf) hk.size,fun q hq=>by cases hq⟩,hnl _ _ _ _ _ (hx _),?_⟩
 ·obtain ⟨rfl,rfl⟩:=hobs n ob hn;simp only [ObRel,BT.base];exact ⟨b,v',p',rfl,hB.self,hB.heap,hB.own,hB.ne,hB.size⟩
 ·rcases hP' k hk2 with rfl | h2
  ·obtain ⟨h3,h4,_⟩:=hXb k (.inl rfl);exact ⟨CT h3 hk.size,.inr h4⟩
  ·refine ⟨hlt' k h2,?_⟩;rcases hnew k h2 with h3 | h3
   ·exact .inr (hXb k (.inr h3)).2.1
   ·exact .inl h3
 ·obtain ⟨rfl,rfl⟩:=hobs n ob h1;obtain ⟨rfl,rfl⟩:=hobs m ob' h2;exact absurd rfl hnm
 ·rcases hP' k hk2 with rfl | h2
  ·exact (hXb k (.inl rfl)).2.2 hf
  ·rcases hnew k h2 with h3 | h3
   ·exact (hXb k (.inr h3)).2.2 hf
   ·have:=hR.fl k hf
    omega
 ·simp only [JN,hb];exact ⟨hr,rfl,by rw [hg]; rfl⟩
theorem hU {w:World} {γ:Nat→Value} {s:BA} {O:Nat→Prop} {x:Value} {b:Nat} {v:Value} (hg:γ 900000 = .tuple #[.pointer (some ⟨b,0,none⟩),v]) (h:VRel γ (D8 [.bld s]) w O (.ptr 900000 0 0) x):x = .pointer (some ⟨b,0,none⟩):=by
 simp only [VRel,D8,D4,CM] at h;obtain ⟨_,b',v',h1,rfl⟩:=h;rw [hg] at h1;simp only [Value.tuple.injEq] at h1
 have:=congrArg Array.toList h1
 simp at this;rw [this.1]
theorem Af {w:World} {X:Zone} {γ:Nat→Value} {vs:List V} {xs:List Value} {e:Nat} {ag:Bool} {ks:List Kd} {l:LI} (hR:Rel B.base 0 w X γ ⟨[],H3 vs⟩ IU w) (hb:FW vs=none) (he:e < 1000000) (hks:0 < ks.length) (hl:l.length≤strMax)
  (h:Does P f xs w fun e' w'=>∃ v ys,e' = .returned v∧Keep (fun _=>False) w w'∧w'.ownsRow w.heap.size e ks.length v l.length ys∧∀ (O:Nat→Prop) i y,l[i]?=some y→Kd.RelAll w' O ks (FQ ag y) 0 (fun j u=>ys[i*ks.length+j]?=some u)) :
  Does P f xs w fun e' w'=>∃ x,e' = .returned x∧∃ γ',Rel B.base 0 w X γ' ⟨[],F2 (.vec e ag ks l) []⟩ IU w'∧VRel γ' (F2 (.vec e ag ks l) []) w' (DI X γ' (F2 (.vec e ag ks l) [])) (LH (.vec e ag ks l)) x∧JN vs (.vec e ag ks l) [] (γ 900000) (γ' 900000):=by
 have hm:H3 vs=[]:=by simp only [H3,hb]
 rw [hm] at hR;have hmo:F2 (.vec e ag ks l) []=[(900000,some (.row true e ag ks l))]:=rfl;rw [hmo];refine h.mono ?_;rintro e' w' ⟨v,ys,rfl,hk,hown,hel⟩;have hown0:w'.ownsRow 0 e ks.length v l.length ys:=by
  refine ⟨hown.1,?_⟩;rcases hown.2 with h1 | ⟨g,cap,cur,h1,_,h2,h3,h4,h5,h6⟩
  ·exact .inl h1
  ·exact .inr ⟨g,cap,cur,h1,BZ _,h2,h3,h4,h5,h6⟩
 have obs:∀ n ob,DG [(900000,some (Ob.row true e ag ks l))] n=some ob→n=900000∧ob = .row true e ag ks l:=fun n ob hn=>by
  rw [D4] at hn;split at hn
  ·rename_i h9;simp only [AC] at hn;exact ⟨h9.symm,hn.symm⟩
  ·simp [DG,EP] at hn
 have hfresh:∀ b,v.ownBlock=some b→w.heap.size≤b∧b < w'.heap.size:=fun b hb=>hown.lt b hb
 have ownP:∀ b,EX (fun n=>if n=900000 then v else γ n) [(900000,some (Ob.row true e ag ks l))] b→v.ownBlock=some b:=by
  rintro b ⟨n,ob,hn,hb⟩;obtain ⟨rfl,rfl⟩:=obs n ob hn;simpa only [EY,CM] using hb
 refine ⟨v,rfl,fun n=>if n=900000 then v else γ n,⟨hR.sz,hR.df,fun i=>by simp only [St.get,EP,VRel],fun n ob hn=>?_,fun b hb=>?_,fun n m ob ob' b hnm h1 h2=>?_,hk.mono (fun _ _ h=>h.elim),fun b hb hf=>?_,fun b hf=>CT (hR.fl b hf) hk.size,fun p hp=>by cases hp⟩,?_,?_⟩
 ·obtain ⟨rfl,rfl⟩:=obs n ob hn;simp only [ObRel,CM];exact ⟨hks,hl,ys,OwnRow.of hown0 he,hel _⟩
 ·have:=hfresh b (ownP b hb)
  exact ⟨this.2,.inl this.1⟩
 ·obtain ⟨rfl,rfl⟩:=obs n ob h1;obtain ⟨rfl,rfl⟩:=obs m ob' h2;exact absurd rfl hnm
 ·have:=hfresh b (ownP b hb)
  have:=hR.fl b hf
  omega
 ·simp only [LH,VRel,D4,CM];refine ⟨AY _,?_⟩;rcases hown.2 with ⟨rfl,h0⟩ | ⟨g,cap,cur,rfl,_,h2,h3,h4,h5,h6⟩
  ·exact ⟨none,0,0,none,rfl,by rw [h0],BZ _,by rw [h0]; exact AY _,AY _,BZ _,.inl rfl,fun _=>rfl⟩
  ·refine ⟨some ⟨g,0,none⟩,l.length,cap,some ⟨g,0,none⟩,rfl,by simp,BZ _,AY _,h3,h4,.inl ?_,fun _=>rfl⟩;simp [Addr.add]
 ·simp only [JN,hb,WG]
end
theorem zdo {w w':World} {O:Nat→Prop} (hO:∀ b,O b→b < w.heap.size) {g:Nat} {T:TypeId} {l:List BA} {c:Nat} (hg:w.heap.size≤g) (hh:w'.heap[g]?=some (.cells (l.map Value.string).toArray T (0,0))) (hc:l.length≤c) (hcm:c≤maxLen) (hl:l.length≤strMax)
  (hs:∀ s∈l,s.size≤strMax):Kd.Rel w' O (.list false [.str]) (.list (l.map IV.str)) (.slice (some ⟨g,0,none⟩) l.length c):=by
 simp only [Kd.Rel,IV.toList,B7];refine ⟨_,c,rfl,hc,hcm,hl,fun i y hy=>⟨g,0,rfl,fun h=>by have:=hO g h; omega,(C9.1 hh).1,?_⟩⟩;simp only [B5,C8] at hy;obtain ⟨s,hs1,rfl⟩:=hy;simp only [Kd.RelAll,AN,A7,BF,Nat.mul_one,C4,BX];refine ⟨.string s,?_,?_⟩
 ·simp only [vaF,hh];simp [hs1]
 ·simp only [Kd.Rel,FQ,IV.toStr];exact ⟨trivial,hs s (vag hs1)⟩
open Go Go.RowKit
theorem R.get_br (b:Bool) (x y:R):(R.br b x y).get=cond b x.get y.get:=by cases b <;> rfl
theorem R.get_ok (v:V) (o:List (List V)):(R.ok v o).get=some (v,o):=rfl
theorem R.get_no:R.no.get=none:=rfl
def DJ (n:Int):BA:=⟨(Lib.itoa n).toArray⟩
def FP (s:BA):Int:=match Lib.atoiAll s.data.toList with | .ok v=>v | .range=>Lib.atoiSat s.data.toList | _=>0
def MD (s:BA):Bool:=match Lib.atoiAll s.data.toList with | .ok _=>true | _=>false
def cutL (s sep:BA):BA:=⟨(Lib.cut s.data.toList sep.data.toList).1.toArray⟩
def GQ (s sep:BA):BA:=⟨(Lib.cut s.data.toList sep.data.toList).2.1.toArray⟩
def Le (s sep:BA):Bool:=(Lib.cut s.data.toList sep.data.toList).2.2
def D5 (s sep:BA):List BA:=Lib.splitB sep 0 (Lib.countB s sep) s
def LP (c:Int):UInt8:=UInt8.ofNat c.toNat
def Q6:DO
 | [.bor [.bld s],.str t]=>.br (decide (s.size+t.size≤strMax)) (.ok (.tup [.int .i64 (ic t.size),.err true]) [[.bld (s++t)]]) .no
 | _=>.no
def VG:DO
 | [.bor [.bld s],.int .u8 c]=>.br (decide (s.size+1≤strMax)) (.ok (.err true) [[.bld (s.push (LP c))]]) .no
 | _=>.no
def Q5:DO
 | [.bor [.bld s]]=>.ok (.str s) [[.bld s]]
 | _=>.no
def OR:DO
 | [.int .i64 n]=>.ok (.str (DJ n)) []
 | _=>.no
def VF:DO
 | [.str s]=>.ok (.tup [.int .i64 (FP s),.err (MD s)]) []
 | _=>.no
def VH:DO
 | [.str s,.str sep]=>.br (decide (s.size < 4294967281)) (.ok (.tup [.str (cutL s sep),.str (GQ s sep),.bool (Le s sep)]) []) .no
 | _=>.no
def OS:DO
 | [.str s,.str sep]=>.br (decide (s.size < 4294967281)&&decide (1≤sep.size)) (.ok (.list false [.str] ((D5 s sep).map IV.str)) []) .no
 | _=>.no
def ET (n:Int):BA:=⟨(CD n.toNat).toArray⟩
def F5 (s:BA):Int:=match Lib.parseMag s.data.toList with | .ok v=>(v:Int) | .range=>18446744073709551615 | _=>0
def IF (s:BA):Bool:=match Lib.parseMag s.data.toList with | .ok _=>true | _=>false
def NG (s cs:BA):BA:=⟨(Lib.trimRightB s.data.toList (cs.data.toList.headD 0)).toArray⟩
def HA (s:BA) (n:Nat):BA:=⟨(Lib.repeatL s.data.toList n).toArray⟩
def GJ (s p:BA):BA:=⟨(Lib.trimPrefix s.data.toList p.data.toList).toArray⟩
def RO (s p:BA):Bool:=Lib.hasPrefix s.data.toList p.data.toList
def cD:DO
 | [.int .u64 n,.int .i64 b]=>.br (decide (b=10)) (.ok (.str (ET n)) []) .no
 | _=>.no
def cE:DO
 | [.str s,.int .i64 b,.int .i64 c]=>.br (decide (b=10)&&decide (c=64)) (.ok (.tup [.int .u64 (F5 s),.err (IF s)]) []) .no
 | _=>.no
def cG:DO
 | [.str s,.str cs]=>.br (decide (cs.size=1)&&decide ((cs.data.toList.headD 0).toNat < 128)) (.ok (.str (NG s cs)) []) .no
 | _=>.no
def VJ:DO
 | [.str s,.int .i64 n]=>.br (decide (0≤n)&&decide (s.size*n.toNat≤strMax)) (.ok (.str (HA s n.toNat)) []) .no
 | _=>.no
def cF:DO
 | [.str s,.str p]=>.ok (.tup [.str (GJ s p),.bool (RO s p)]) []
 | _=>.no
def GB (l:List BA) (sep:BA):BA:=⟨(Lib.join (l.map (·.data.toList)) sep.data.toList).toArray⟩
def VI:DO
 | [.list false [.str] l,.str sep]=>.br (decide (l.length≤strMax)&&decide ((GB (l.map IV.toStr) sep).size≤strMax)) (.ok (.str (GB (l.map IV.toStr) sep)) []) .no
 | _=>.no
def FX:LI→BA→Int→Int
 | [],_,_ => -1
 | x :: l,s,i=>cond (s.toList==x.toStr.toList) i (FX l s (i+1))
theorem Jk {l:List UInt8} {v:Int} (h:Lib.atoiAll l = .ok v):AB.min≤v∧v≤AB.max:=by
 have e1:AB.min = -9223372036854775808:=rfl;have e2:AB.max=9223372036854775807:=rfl;rw [e1,e2];unfold Lib.atoiAll at h;split at h
 ·cases h
 ·simp only at h;split at h
  ·cases h
  ·cases h
  ·rename_i u hu;split at h
   ·cases h
   ·split at h
    ·cases h
    ·simp only [Lib.NumEnd.ok.injEq] at h;subst h;split <;> omega
theorem Ji (s:BA):AB.min≤FP s∧FP s≤AB.max:=by
 have e1:AB.min = -9223372036854775808:=rfl;have e2:AB.max=9223372036854775807:=rfl;unfold FP;split
 ·rename_i v hv;exact Jk hv
 ·unfold Lib.atoiSat;rw [e1,e2];split <;> omega
 ·rw [e1,e2]; omega
theorem ZZ {n:Int} (h0:AB.min≤n) (h1:n≤AB.max):(DJ n).size≤21:=by
 have e1:AB.min = -9223372036854775808:=rfl;have e2:AB.max=9223372036854775807:=rfl;rw [e1] at h0;rw [e2] at h1
 have:=Lib.itoa_length_le n h0 h1
 simpa [DJ,AF] using this
theorem mD (s:BA):AJ.min≤F5 s∧F5 s≤AJ.max:=by
 have e1:AJ.min=0:=rfl;have e2:AJ.max=18446744073709551615:=rfl;unfold F5;split
 ·rename_i v hv
  have:=Lib.parseMag_lt hv
  rw [e1,e2]; omega
 ·rw [e1,e2]; omega
 ·rw [e1,e2]; omega
theorem lD {n:Int} (h0:0≤n) (h1:n≤18446744073709551615):(ET n).size≤20:=by
 rcases Int.lt_or_le 0 n with h | h
 ·have hd:=Lib.numDigits_eq n.toNat (by omega) (by omega);have hl:=Lib.decDigits_length n.toNat;have hs:(ET n).size=(CD n.toNat).length:=by simp [ET,AF]
  rw [hs,hl];split at hd <;> omega
 ·have:n=0:=by omega
  subst this;have hd:CD (0:Int).toNat=[UInt8.ofNat (48+0)]:=by rw [show (0:Int).toNat=0 from rfl,CD]; rfl
  unfold ET;rw [hd];decide
theorem Ei (s cs:BA):(NG s cs).size≤s.size:=by
 have:∀ (l:List UInt8) c,(Lib.trimRightB l c).length≤l.length:=fun l c=>by
  unfold Lib.trimRightB;rw [List.length_reverse]
  have:=(List.dropWhile_sublist (·==c) (l:=l.reverse)).length_le
  simpa using this
 have h:=this s.data.toList (cs.data.toList.headD 0);simp only [NG,AF,vad];simpa using h
theorem Eh (s p:BA):(GJ s p).size≤s.size:=by
 simp only [GJ,AF,vad,Lib.trimPrefix];split
 ·simp
 ·simp
theorem mI (s:BA) (n:Nat):(HA s n).size=s.size*n:=by
 have:∀ (l:List UInt8) n,(Lib.repeatL l n).length=l.length*n:=fun l n=>by rw [Lib.repeatL_length,Nat.mul_comm]
 show (Lib.repeatL s.data.toList n).toArray.size=s.size*n;rw [vad,this,CR];rfl
theorem tA (s sep:BA):(cutL s sep).size≤s.size∧(GQ s sep).size≤s.size:=by
 unfold cutL GQ Lib.cut;split
 ·simp only [AF,vad,A8,C7,CR];omega
 ·simp only [AF,vad,CR,A7];omega
theorem US (sep:BA):∀ (k:Nat) (s:BA),(Lib.splitB sep 0 k s).length≤k+1∧∀ p∈Lib.splitB sep 0 k s,p.size≤s.size
 | 0,s=>by simp [Lib.splitB]
 | k+1,s=>by
  unfold Lib.splitB;split
  ·simp
  ·obtain ⟨h1,h2⟩:=US sep k (s.extract ((Lib.indexB s sep).toNat+sep.size) s.size);refine ⟨by simp only [AN]; omega,fun p hp=>?_⟩;rcases AU.1 hp with h | h
   ·subst h;simp only [ByteArray.size_extract];omega
   ·have:=h2 p h
    simp only [ByteArray.size_extract] at this;omega
open Go Go.Proofs
def bO:List (Nat × TI):=[
 (2,⟨1,8,false,[.z],[.int .i64 0],.leaf⟩),
 (3,⟨1,8,false,[.z],[.int .i64 0],.leaf⟩),
 (4,⟨1,1,false,[.bool],[.bool false],.leaf⟩),
 (5,⟨1,1,false,[.int .u8],[.int .u8 0],.leaf⟩),
 (6,⟨1,1,false,[.int .u8],[.int .u8 0],.leaf⟩),
 (7,⟨4,24,true,[.z,.z,.bool,.int .u8],[.int .i64 0,.int .i64 0,.bool false,.int .u8 0],.struct [(0,2),(1,3),(2,4),(3,6)]⟩),
 (8,⟨4,24,true,[.z,.z,.bool,.int .u8],[.int .i64 0,.int .i64 0,.bool false,.int .u8 0],.struct [(0,2),(1,3),(2,4),(3,6)]⟩),
 (9,⟨1,16,false,[.str],[.str ⟨#[]⟩],.leaf⟩),
 (22,⟨1,24,false,[.list false [.z]],[.zs],.slice 3⟩),
 (23,⟨1,24,false,[.list true [.z,.list false [.z],.list false [.z],.list false [.z],.list false [.z]]],[.zs],.slice 84⟩),
 (25,⟨4,64,true,[.z,.z,.list false [.z],.list true [.z,.list false [.z],.list false [.z],.list false [.z],.list false [.z]]],[.int .i64 0,.int .i64 0,.zs,.zs],.struct [(0,3),(1,3),(2,22),(3,23)]⟩),
 (26,⟨1,24,false,[.list true [.z,.z,.z,.z,.z,.z,.bool,.list false [.z]]],[.zs],.slice 40⟩),
 (27,⟨3,24,true,[.z,.z,.z],[.int .i64 0,.int .i64 0,.int .i64 0],.array 3 3⟩),
 (28,⟨1,24,false,[.list true [.z,.list false [.int .u64]]],[.zs],.slice 88⟩),
 (30,⟨6,64,true,[.z,.z,.z,.z,.z,.list true [.z,.list false [.int .u64]]],[.int .i64 0,.int .i64 0,.int .i64 0,.int .i64 0,.int .i64 0,.zs],.struct [(0,3),(1,3),(2,27),(5,28)]⟩),
 (32,⟨1,24,false,[.list true [.z,.z,.z,.z,.z,.z,.z,.z,.z,.z,.z,.z,.z,.z,.z,.bool,.z]],[.zs],.slice 38⟩),
 (34,⟨2,16,true,[.z,.z],[.int .i64 0,.int .i64 0],.struct [(0,3),(1,3)]⟩),
 (36,⟨10,80,true,[.z,.z,.z,.z,.z,.z,.z,.z,.z,.z],[.int .i64 0,.int .i64 0,.int .i64 0,.int .i64 0,.int .i64 0,.int .i64 0,.int .i64 0,.int .i64 0,.int .i64 0,.int .i64 0],.array 5 34⟩),
 (38,⟨17,136,true,[.z,.z,.z,.z,.z,.z,.z,.z,.z,.z,.z,.z,.z,.z,.z,.bool,.z],[.int .i64 0,.int .i64 0,.int .i64 0,.int .i64 0,.int .i64 0,.int .i64 0,.int .i64 0,.int .i64 0,.int .i64 0,.int .i64 0,.int .i64 0,.int .i64 0,.int .i64 0,.int .i64 0,.int .i64 0,.bool false,.int .i64 0],.struct [(0,3),(1,3),(2,36),(12,3),(13,3),(14,3),(15,4),(16,3)]⟩),
 (40,⟨8,80,true,[.z,.z,.z,.z,.z,.z,.bool,.list false [.z]],[.int .i64 0,.int .i64 0,.int .i64 0,.int .i64 0,.int .i64 0,.int .i64 0,.bool false,.zs],.struct [(0,3),(1,3),(2,3),(3,3),(4,3),(5,3),(6,4),(7,22)]⟩),
 (47,⟨1,24,false,[.list true [.z,.list true [.bool,.z,.z],.z,.z,.z,.z,.z,.z]],[.zs],.slice 55⟩),
 (51,⟨1,24,false,[.list true [.bool,.z,.z]],[.zs],.slice 127⟩),
 (53,⟨4,32,true,[.z,.z,.z,.z],[.int .i64 0,.int .i64 0,.int .i64 0,.int .i64 0],.array 4 3⟩),
 (55,⟨8,80,true,[.z,.list true [.bool,.z,.z],.z,.z,.z,.z,.z,.z],[.int .i64 0,.zs,.int .i64 0,.int .i64 0,.int .i64 0,.int .i64 0,.int .i64 0,.int .i64 0],.struct [(0,3),(1,51),(2,53),(6,3),(7,3)]⟩),
 (66,⟨1,24,false,[.list false [.str]],[.zs],.slice 9⟩),
 (69,⟨1,24,false,[.list false [.int .u8]],[.zs],.slice 5⟩),
 (84,⟨5,104,true,[.z,.list false [.z],.list false [.z],.list false [.z],.list false [.z]],[.int .i64 0,.zs,.zs,.zs,.zs],.struct [(0,3),(1,22),(2,22),(3,22),(4,22)]⟩),
 (85,⟨1,24,false,[.list false [.int .u64]],[.zs],.slice 103⟩),
 (88,⟨2,32,true,[.z,.list false [.int .u64]],[.int .i64 0,.zs],.struct [(0,3),(1,85)]⟩),
 (93,⟨1,24,false,[.list true [.z,.z]],[.zs],.slice 34⟩),
 (95,⟨1,8,false,[.list false []],[.nilp],.ptr 98⟩),
 (98,⟨1,24,true,[.list false [.str]],[.zs],.struct [(0,66)]⟩),
 (103,⟨1,8,false,[.int .u64],[.int .u64 0],.leaf⟩),
 (106,⟨1,8,false,[.list false []],[.nilp],.ptr 108⟩),
 (108,⟨2,32,true,[.list false [],.list false [.int .u8]],[.nilp,.zs],.bld⟩),
 (111,⟨6,48,true,[.bool,.z,.z,.z,.z,.z],[.bool false,.int .i64 0,.int .i64 0,.int .i64 0,.int .i64 0,.int .i64 0],.struct [(0,4),(1,3),(2,3),(3,3),(4,3),(5,3)]⟩),
 (120,⟨1,16,false,[.list false []],[.err true],.iface⟩),
 (127,⟨3,24,true,[.bool,.z,.z],[.bool false,.int .i64 0,.int .i64 0],.struct [(0,4),(1,3),(2,3)]⟩),
 (131,⟨1,24,false,[.list true [.z,.z,.z,.z,.z,.z,.z,.z,.z,.z]],[.zs],.slice 36⟩),
 (141,⟨1,8,false,[.list false []],[.nilp],.ptr 183⟩),
 (150,⟨1,24,false,[.list true [.bool,.z,.z,.z,.z,.z]],[.zs],.slice 111⟩),
 (152,⟨1,8,false,[.int .u64],[.int .u64 0],.leaf⟩),
 (183,⟨34,336,true,[.z,.z,.z,.z,.z,.list true [.z,.list false [.int .u64]],.z,.z,.z,.z,.z,.z,.z,.z,.z,.z,.z,.z,.z,.z,.z,.bool,.z,.list true [.z,.z,.z,.z,.z,.z,.z,.z,.z,.z],.list true [.bool,.z,.z],.z,.list true [.bool,.z,.z],.z,.z,.z,.z,.z,.z,.z],[.int .i64 0,.int .i64 0,.int .i64 0,.int .i64 0,.int .i64 0,.zs,.int .i64 0,.int .i64 0,.int .i64 0,.int .i64 0,.int .i64 0,.int .i64 0,.int .i64 0,.int .i64 0,.int .i64 0,.int .i64 0,.int .i64 0,.int .i64 0,.int .i64 0,.int .i64 0,.int .i64 0,.bool false,.int .i64 0,.zs,.zs,.int .i64 0,.zs,.int .i64 0,.int .i64 0,.int .i64 0,.int .i64 0,.int .i64 0,.int .i64 0,.int .i64 0],.struct [(0,30),(6,38),(23,131),(24,51),(25,55),(33,3)]⟩),
 (252,⟨11,88,true,[.z,.z,.z,.z,.z,.z,.z,.z,.z,.z,.z],[.int .i64 0,.int .i64 0,.int .i64 0,.int .i64 0,.int .i64 0,.int .i64 0,.int .i64 0,.int .i64 0,.int .i64 0,.int .i64 0,.int .i64 0],.struct [(0,3),(1,36)]⟩),
 (253,⟨1,24,false,[.list true [.z,.z,.z,.z,.z,.z,.z,.z,.z,.z,.z]],[.zs],.slice 252⟩),
 (272,⟨1,24,false,[.list true [.z,.z,.z,.z,.z,.z,.z,.z,.z,.z,.z]],[.zs],.slice 275⟩),
 (275,⟨11,88,true,[.z,.z,.z,.z,.z,.z,.z,.z,.z,.z,.z],[.int .i64 0,.int .i64 0,.int .i64 0,.int .i64 0,.int .i64 0,.int .i64 0,.int .i64 0,.int .i64 0,.int .i64 0,.int .i64 0,.int .i64 0],.struct [(0,36),(10,3)]⟩)]
def jI:List Nat:=[34,38,53,111,127]
noncomputable abbrev PR:Program:=Tryz.prog
theorem Dv:bJ PR 108 bO=true:=by kernel_rfl
theorem tR:dG PR bO jI=true:=by kernel_rfl
theorem wF:PR.follows .mixedOrders=true:=by kernel_rfl
theorem Ju:∃ i,PR.info? 108=some i∧i.zero=some (.agg #[.pointer none,.slice none 0 0]):=by
 refine ⟨(PR.info? 108).getD default,by kernel_rfl,by kernel_rfl⟩
theorem pL (_h:(EP TI.none bO 108).d = .bld):∃ i,PR.info? 108=some i∧i.zero=some (.agg #[.pointer none,.slice none 0 0]):=Ju
def DZ (sp:List (Nat × DO)) (lp:List (Nat × KP)) (nt N:Nat):Env:=⟨bO,sp,[],lp,nt,N,jI,[]⟩
def eH (sp:List (Nat × DO)) (ip:List (Nat × Ip)) (lp:List (Nat × KP)) (nt N:Nat):Env:=⟨bO,sp,[],lp,nt,N,jI,ip⟩
abbrev HF (fn:Func) (c:Code) (nt:Nat) (rs:List ResultVar):Prop:=(fn.name == "runtime.NumGoroutine")=false∧fn.body=some c∧fn.ntmps=nt∧BW nt 900000=true∧fn.results.toList=rs
theorem DY {fn:Func} {nt:Nat} {rs:List ResultVar} (h:(!(fn.name == "runtime.NumGoroutine")&&(fn.body.isSome&&(fn.ntmps==nt&&BW nt 900000)))=true:=by kernel_rfl) (h2:fn.results.toList=rs:=by kernel_rfl):HF fn (DX fn) nt rs:=by
 simp only [AH,BY,B3] at h;refine ⟨h.1,?_,h.2.2.1,h.2.2.2,h2⟩;unfold DX;cases hb:fn.body with
 | none=>rw [hb] at h; exact absurd h.2.1 (by decide)
 | some c=>rfl
noncomputable def qN:Code:=DX Tryz.f6
theorem Qr:HF Tryz.f6 qN 16 [.tmp 0]:=DY
noncomputable def M0:Code:=DX Tryz.f8
theorem Qq:HF Tryz.f8 M0 92 [.tmp 8]:=DY
noncomputable def LQ:Code:=DX Tryz.f15
theorem Ql:HF Tryz.f15 LQ 63 [.cell 2 30]:=DY
noncomputable def qK:Code:=DX Tryz.f16
theorem Qk:HF Tryz.f16 qK 58 [.cell 4 38]:=DY
noncomputable def qJ:Code:=DX Tryz.f17
theorem Qj:HF Tryz.f17 qJ 24 [.tmp 6]:=DY
noncomputable def KH:Code:=DX Tryz.f18
theorem Pf:HF Tryz.f18 KH 100 [.tmp 4]:=DY
noncomputable def IJ:Code:=DX Tryz.f19
theorem Td:HF Tryz.f19 IJ 88 [.cell 2 30,.tmp 3]:=DY
noncomputable def JO:Code:=DX Tryz.f20
theorem Te:HF Tryz.f20 JO 94 [.tmp 2]:=DY
noncomputable def TV:Code:=DX Tryz.f22
theorem Rh:HF Tryz.f22 TV 37 [.tmp 4]:=DY
noncomputable def TT:Code:=DX Tryz.f24
theorem Qa:HF Tryz.f24 TT 61 [.tmp 2]:=DY
noncomputable def KI:Code:=DX Tryz.f26
theorem Qe:HF Tryz.f26 KI 59 [.tmp 6]:=DY
noncomputable def qL:Code:=DX Tryz.f28
theorem Qn:HF Tryz.f28 qL 14 [.cell 0 30]:=DY
noncomputable def RE:Code:=DX Tryz.f30
theorem Qi:HF Tryz.f30 RE 26 [.tmp 4]:=DY
noncomputable def rB:Code:=DX Tryz.f31
theorem Rg:HF Tryz.f31 rB 8 [.tmp 2]:=DY
noncomputable def rA:Code:=DX Tryz.f32
theorem Rf:HF Tryz.f32 rA 46 [.cell 4 55]:=DY
noncomputable def RI:Code:=DX Tryz.f35
theorem So:HF Tryz.f35 RI 13 [.cell 4 55]:=DY
noncomputable def qM:Code:=DX Tryz.f38
theorem Qp:HF Tryz.f38 qM 15 [.tmp 4]:=DY
noncomputable def K5:Code:=DX Tryz.f39
theorem Qo:HF Tryz.f39 K5 113 [.tmp 4]:=DY
noncomputable def RF:Code:=DX Tryz.f40
theorem Qm:HF Tryz.f40 RF 32 [.cell 4 36]:=DY
noncomputable def p7:Code:=DX Tryz.f41
theorem Pk:HF Tryz.f41 p7 39 [.cell 4 38]:=DY
noncomputable def pZ:Code:=DX Tryz.f42
theorem Pj:HF Tryz.f42 pZ 9 [.tmp 2]:=DY
noncomputable def qX:Code:=DX Tryz.f44
theorem Rb:HF Tryz.f44 qX 38 [.tmp 2]:=DY
noncomputable def sA:Code:=DX Tryz.f47
theorem Tc:HF Tryz.f47 sA 8 [.tmp 4]:=DY
noncomputable def sD:Code:=DX Tryz.f48
theorem Th:HF Tryz.f48 sD 26 [.tmp 2]:=DY
noncomputable def sB:Code:=DX Tryz.f49
theorem Tf:HF Tryz.f49 sB 24 [.tmp 4]:=DY
noncomputable def sG:Code:=DX Tryz.f50
theorem Tk:HF Tryz.f50 sG 13 [.tmp 4]:=DY
noncomputable def sF:Code:=DX Tryz.f51
theorem Tj:HF Tryz.f51 sF 11 [.tmp 2]:=DY
noncomputable def sE:Code:=DX Tryz.f52
theorem Ti:HF Tryz.f52 sE 28 [.tmp 2]:=DY
noncomputable def OU:Code:=DX Tryz.f53
theorem Rt:HF Tryz.f53 OU 54 [.tmp 2]:=DY
noncomputable def sC:Code:=DX Tryz.f54
theorem Tg:HF Tryz.f54 sC 10 []:=DY
noncomputable def rL:Code:=DX Tryz.f55
theorem Rz:HF Tryz.f55 rL 33 [.cell 2 111,.tmp 3]:=DY
noncomputable def qI:Code:=DX Tryz.f62
theorem Qb:HF Tryz.f62 qI 47 [.tmp 2]:=DY
noncomputable def TU:Code:=DX Tryz.f63
theorem Qc:HF Tryz.f63 TU 26 []:=DY
noncomputable def rQ:Code:=DX Tryz.f65
theorem Sh:HF Tryz.f65 rQ 41 [.tmp 4]:=DY
noncomputable def rS:Code:=DX Tryz.f66
theorem Sj:HF Tryz.f66 rS 16 [.cell 2 36]:=DY
noncomputable def VS:Code:=DX Tryz.f67
theorem Sd:HF Tryz.f67 VS 75 [.tmp 4,.tmp 5]:=DY
noncomputable def ME:Code:=DX Tryz.f68
theorem Qh:HF Tryz.f68 ME 94 [.tmp 6]:=DY
noncomputable def qG:Code:=DX Tryz.f69
theorem Py:HF Tryz.f69 qG 25 [.tmp 6]:=DY
noncomputable def MF:Code:=DX Tryz.f70
theorem Sg:HF Tryz.f70 MF 75 [.tmp 8]:=DY
noncomputable def qP:Code:=DX Tryz.f71
theorem Qt:HF Tryz.f71 qP 32 [.tmp 2]:=DY
noncomputable def P3:Code:=DX Tryz.f73
theorem Pe:HF Tryz.f73 P3 82 [.cell 2 38,.tmp 3,.tmp 4]:=DY
noncomputable def rW:Code:=DX Tryz.f74
theorem Sn:HF Tryz.f74 rW 26 [.tmp 4]:=DY
noncomputable def ZK:Code:=DX Tryz.f75
theorem Sq:HF Tryz.f75 ZK 165 [.tmp 2]:=DY
noncomputable def ZL:Code:=DX Tryz.f76
theorem Ss:HF Tryz.f76 ZL 22 [.cell 2 55]:=DY
noncomputable def qH:Code:=DX Tryz.f81
theorem Pz:HF Tryz.f81 qH 16 [.cell 2 53]:=DY
noncomputable def q9:Code:=DX Tryz.f84
theorem Re:HF Tryz.f84 q9 8 [.tmp 0]:=DY
noncomputable def rG:Code:=DX Tryz.f89
theorem Rq:HF Tryz.f89 rG 16 [.tmp 4]:=DY
noncomputable def qY:Code:=DX Tryz.f91
theorem Rc:HF Tryz.f91 qY 76 [.tmp 2,.tmp 3]:=DY
noncomputable def rJ:Code:=DX Tryz.f92
theorem Rx:HF Tryz.f92 rJ 32 [.tmp 2]:=DY
noncomputable def p8:Code:=DX Tryz.f93
theorem Pl:HF Tryz.f93 p8 25 [.tmp 4]:=DY
noncomputable def rX:Code:=DX Tryz.f94
theorem Su:HF Tryz.f94 rX 9 [.tmp 4]:=DY
noncomputable def rI:Code:=DX Tryz.f95
theorem Ru:HF Tryz.f95 rI 22 [.tmp 3]:=DY
noncomputable def KJ:Code:=DX Tryz.f96
theorem Tl:HF Tryz.f96 KJ 94 [.tmp 4]:=DY
noncomputable def qB:Code:=DX Tryz.f98
theorem Po:HF Tryz.f98 qB 14 [.tmp 6]:=DY
noncomputable def p9:Code:=DX Tryz.f99
theorem Pm:HF Tryz.f99 p9 18 [.tmp 6]:=DY
noncomputable def rM:Code:=DX Tryz.f100
theorem Sa:HF Tryz.f100 rM 11 [.tmp 5]:=DY
noncomputable def RD:Code:=DX Tryz.f106
theorem Qd:HF Tryz.f106 RD 37 [.tmp 2]:=DY
noncomputable def rV:Code:=DX Tryz.f107
theorem Sm:HF Tryz.f107 rV 35 [.tmp 4]:=DY
noncomputable def rT:Code:=DX Tryz.f108
theorem Sk:HF Tryz.f108 rT 71 [.tmp 4]:=DY
noncomputable def rU:Code:=DX Tryz.f109
theorem Sl:HF Tryz.f109 rU 16 [.tmp 2]:=DY
noncomputable def rO:Code:=DX Tryz.f110
theorem Sc:HF Tryz.f110 rO 6 [.tmp 2]:=DY
noncomputable def Kh:Code:=DX Tryz.f111
theorem Pw:HF Tryz.f111 Kh 32 [.cell 6 36,.cell 7 36]:=DY
noncomputable def qF:Code:=DX Tryz.f112
theorem Px:HF Tryz.f112 qF 12 [.tmp 2]:=DY
noncomputable def HY:Code:=DX Tryz.f113
theorem Qf:HF Tryz.f113 HY 66 [.tmp 6,.tmp 7]:=DY
noncomputable def r7:Code:=DX Tryz.f114
theorem Sz:HF Tryz.f114 r7 15 [.tmp 4]:=DY
noncomputable def rH:Code:=DX Tryz.f115
theorem Rs:HF Tryz.f115 rH 24 [.tmp 6]:=DY
noncomputable def rR:Code:=DX Tryz.f116
theorem Si:HF Tryz.f116 rR 14 [.cell 6 53]:=DY
noncomputable def qQ:Code:=DX Tryz.f117
theorem Qu:HF Tryz.f117 qQ 66 [.tmp 2]:=DY
noncomputable def RJ:Code:=DX Tryz.f118
theorem Sw:HF Tryz.f118 RJ 19 [.tmp 4]:=DY
noncomputable def pW:Code:=DX Tryz.f119
theorem Ph:HF Tryz.f119 pW 46 [.cell 2 38]:=DY
noncomputable def pY:Code:=DX Tryz.f120
theorem Pi:HF Tryz.f120 pY 11 [.tmp 2]:=DY
noncomputable def pV:Code:=DX Tryz.f121
theorem Pg:HF Tryz.f121 pV 11 [.tmp 2]:=DY
noncomputable def rC:Code:=DX Tryz.f122
theorem Rj:HF Tryz.f122 rC 86 [.tmp 6]:=DY
noncomputable def rD:Code:=DX Tryz.f123
theorem Rk:HF Tryz.f123 rD 9 [.cell 2 53,.tmp 3]:=DY
noncomputable def P4:Code:=DX Tryz.f124
theorem Rl:HF Tryz.f124 P4 31 [.tmp 6,.tmp 7,.tmp 8]:=DY
noncomputable def iD:Code:=DX Tryz.f126
theorem Rm:HF Tryz.f126 iD 24 [.tmp 8]:=DY
noncomputable def rF:Code:=DX Tryz.f141
theorem Ro:HF Tryz.f141 rF 21 [.tmp 4]:=DY
noncomputable def qZ:Code:=DX Tryz.f144
theorem Rd:HF Tryz.f144 qZ 19 [.tmp 2,.tmp 3]:=DY
noncomputable def rK:Code:=DX Tryz.f145
theorem Ry:HF Tryz.f145 rK 43 [.tmp 2]:=DY
noncomputable def qA:Code:=DX Tryz.f146
theorem Pn:HF Tryz.f146 qA 30 [.tmp 8]:=DY
noncomputable def P5:Code:=DX Tryz.f147
theorem Sv:HF Tryz.f147 P5 19 [.tmp 4]:=DY
noncomputable def qC:Code:=DX Tryz.f148
theorem Pp:HF Tryz.f148 qC 21 [.tmp 4]:=DY
noncomputable def qD:Code:=DX Tryz.f149
theorem Pq:HF Tryz.f149 qD 21 [.tmp 4]:=DY
noncomputable def qE:Code:=DX Tryz.f150
theorem Pr:HF Tryz.f150 qE 7 [.tmp 2]:=DY
noncomputable def rZ:Code:=DX Tryz.f155
theorem Sy:HF Tryz.f155 rZ 8 [.tmp 2]:=DY
noncomputable def RH:Code:=DX Tryz.f156
theorem Se:HF Tryz.f156 RH 40 [.tmp 2]:=DY
noncomputable def rY:Code:=DX Tryz.f157
theorem Sx:HF Tryz.f157 rY 29 [.cell 4 34,.cell 5 34]:=DY
noncomputable def VR:Code:=DX Tryz.f158
theorem Qg:HF Tryz.f158 VR 88 [.tmp 4,.tmp 5]:=DY
noncomputable def M2:Code:=DX Tryz.f159
theorem Rw:HF Tryz.f159 M2 33 [.tmp 6]:=DY
noncomputable def qO:Code:=DX Tryz.f160
theorem Qs:HF Tryz.f160 qO 27 [.tmp 4]:=DY
noncomputable def HX:Code:=DX Tryz.f162
theorem Pu:HF Tryz.f162 HX 69 [.tmp 6,.tmp 7,.tmp 8]:=DY
noncomputable def RB:Code:=DX Tryz.f163
theorem Ps:HF Tryz.f163 RB 62 [.tmp 6,.tmp 7]:=DY
noncomputable def qU:Code:=DX Tryz.f164
theorem Qx:HF Tryz.f164 qU 23 [.tmp 4]:=DY
noncomputable def qR:Code:=DX Tryz.f165
theorem Qv:HF Tryz.f165 qR 54 [.tmp 6,.tmp 7,.tmp 8]:=DY
noncomputable def rE:Code:=DX Tryz.f166
theorem Rn:HF Tryz.f166 rE 23 [.tmp 4]:=DY
noncomputable def M1:Code:=DX Tryz.f168
theorem Rv:HF Tryz.f168 M1 54 [.tmp 4]:=DY
noncomputable def rN:Code:=DX Tryz.f190
theorem Sb:HF Tryz.f190 rN 9 [.tmp 2]:=DY
noncomputable def rP:Code:=DX Tryz.f192
theorem Sf:HF Tryz.f192 rP 16 [.tmp 2]:=DY
noncomputable def r9:Code:=DX Tryz.f193
theorem Tb:HF Tryz.f193 r9 12 [.cell 4 34]:=DY
noncomputable def r8:Code:=DX Tryz.f194
theorem Ta:HF Tryz.f194 r8 2 [.cell 0 34]:=DY
noncomputable def sH:Code:=DX Tryz.f195
theorem Tm:HF Tryz.f195 sH 15 [.tmp 4]:=DY
noncomputable def RC:Code:=DX Tryz.f196
theorem Pv:HF Tryz.f196 RC 43 [.tmp 4,.tmp 5,.tmp 6]:=DY
noncomputable def qW:Code:=DX Tryz.f197
theorem Ra:HF Tryz.f197 qW 16 [.tmp 2]:=DY
noncomputable def qT:Code:=DX Tryz.f198
theorem Qw:HF Tryz.f198 qT 10 [.cell 4 36]:=DY
noncomputable def qV:Code:=DX Tryz.f199
theorem Qz:HF Tryz.f199 qV 15 [.cell 4 36]:=DY
noncomputable def MG:Code:=DX Tryz.f217
theorem Tn:HF Tryz.f217 MG 46 [.tmp 4,.cell 5 111]:=DY
noncomputable def RG:Code:=DX Tryz.f218
theorem Rr:HF Tryz.f218 RG 79 [.tmp 4]:=DY
open Go Go.Proofs Go.RowKit
theorem Keep.freeze {O:Nat→Prop} (w:World) (a:Addr) (n:Nat) (h:O a.block):Keep O w (w.freeze a n):=by
 unfold World.freeze;split
 ·exact Keep.refl _ _
 ·exact ⟨rfl,rfl,rfl,by simp,fun b _ hn=>by simp only [va0]; rw [A4 (fun e:a.block=b=>hn (e ▸ h))]⟩
theorem Keep.setCell {O:Nat→Prop} (w:World) (a:Addr) (v:Value) (h:O a.block):Keep O w (w.setCell a v):=
 ⟨rfl,rfl,rfl,by simp [vbt],fun b _ hn=>Below.heap_setCell _ _ _ _ (fun e=>hn (e ▸ h))⟩
theorem aA {w:World} {b:Nat} {o:Obj} (h:w.heap[b]?=some o):b < w.heap.size:=(C9.1 h).1
theorem Jt:liesAt PR PR.depth 108 (2 / PR.cellsOf 108) 0 108 1=true:=by kernel_rfl
theorem pO:(PR.info? 108).map (·.size)=some 2:=by kernel_rfl
theorem Ek:(PR.info? 5).map (fun i=>(i.zero,i.size,i.bytes))=some (some (.int .u8 0),1,1):=by kernel_rfl
set_option maxHeartbeats 1000000 in
theorem Js (b:Nat) (w:World) (h0:w.cell? ⟨b,0,none⟩=some (.pointer (some ⟨b,0,none⟩))) :
  Calls Tryz.prog 103 #[.pointer (some ⟨b,0,none⟩)] w fun e w'=>e = .returned (.tuple #[])∧w'=w:=by
 obtain ⟨j,hj,_⟩:=Option.map_eq_some_iff.1 pO
 go_enter Tryz.func103,Tryz.ntmps103
 go_wp2
 rw [Lib.run_neq_ptr_same w _ Tryz.underlying106 hj]
 go_wp2
 go_end0
 exact ⟨rfl,rfl⟩
set_option maxHeartbeats 1000000 in
theorem Jr (b:Nat) (w:World) (h0:w.cell? ⟨b,0,none⟩=some (.pointer none)) (hsh:w.shape? b=some (108,2)) (hfz:w.frozen? ⟨b,0,none⟩=false) :
  Calls Tryz.prog 103 #[.pointer (some ⟨b,0,none⟩)] w fun e w'=>e = .returned (.tuple #[])∧w'=w.setCell ⟨b,0,none⟩ (.pointer (some ⟨b,0,none⟩)):=by
 obtain ⟨j,hj,hjs⟩:=Option.map_eq_some_iff.1 pO
 go_enter Tryz.func103,Tryz.ntmps103
 go_wp2
 rw [Lib.run_to_unsafe w ⟨b,0,none⟩ Tryz.underlying106 Tryz.underlying211 hj (by rw [hjs]; decide) hsh (Nat.zero_lt_succ 1)];simp only [Result.andThen];rw [Oper.upon_value]
 go_wp2
 rw [run_callFunc_extern Tryz.func153 (by kernel_rfl) (by kernel_rfl) (by kernel_rfl) (e:=Extern.AbiNoEscape.same) (by kernel_rfl)];rw [Lib.run_noEscape];simp only [Result.andThen];rw [Oper.upon_value]
 go_wp2
 rw [Lib.run_from_unsafe w ⟨b,0,none⟩ Tryz.underlying211 Tryz.underlying106 hj hsh Jt];simp only [Result.andThen];rw [Oper.upon_value]
 go_wp2
 go_end0
 exact ⟨rfl,rfl⟩
theorem pM (b:Nat) (p v:Value) (w:World) (hp:p = .pointer none∨p = .pointer (some ⟨b,0,none⟩)) (hbk:w.heap[b]?=some (.cells #[p,v] 108 (0,0))) :
  Calls Tryz.prog 103 #[.pointer (some ⟨b,0,none⟩)] w fun e w'=>e = .returned (.tuple #[])∧w'.heap[b]?=some (.cells #[.pointer (some ⟨b,0,none⟩),v] 108 (0,0))∧Keep (fun k=>k=b) w w'∧w'.heap.size=w.heap.size:=by
 have hc0:w.cell? ⟨b,0,none⟩=some p:=by rw [Lib.cell_of_heap hbk]; rfl
 rcases hp with rfl | rfl
 ·refine (Jr b w hc0 (by simp [World.shape?,hbk]) (Lib.frozen_of_heap hbk 0)).mono ?_;rintro e w' ⟨rfl,rfl⟩;exact ⟨rfl,by simp [vbt,va0,hbk],Keep.setCell w ⟨b,0,none⟩ _ rfl,by simp [vbt]⟩
 ·refine (Js b w hc0).mono ?_;rintro e w' ⟨rfl,rfl⟩;exact ⟨rfl,hbk,Keep.refl _ _,rfl⟩
def XG (b:Nat) (v:Value) (bs:List Value) (w w':World):Prop:=
 ∃ v',w'.heap[b]?=some (.cells #[.pointer (some ⟨b,0,none⟩),v'] 108 (0,0))∧w'.ownsRowF 0 5 1 v' bs.length bs∧v'.ownBlock≠some b ∧
  Keep (fun k=>k=b∨v.ownBlock=some k) w w'∧∀ k,v'.ownBlock=some k→v.ownBlock=some k∨w.heap.size≤k
theorem pN {b:Nat} {v v':Value} {bs:List Value} {w w1 w2:World} (hs1:w1.heap.size=w.heap.size) (hk1:Keep (fun k=>k=b) w w1)
  (hb2:w2.heap[b]?=some (.cells #[.pointer (some ⟨b,0,none⟩),v] 108 (0,0))) (hown:w2.ownsRowF 0 5 1 v' bs.length bs) (hk2:Keep (fun k=>v.ownBlock=some k) w1 w2) (hv:∀ k,v'.ownBlock=some k→v.ownBlock=some k∨w1.heap.size≤k) :
  XG b v bs w (w2.setCell ⟨b,1,none⟩ v'):=by
 have hput:=Lib.BuilderAtF.put (T:=108) (e:=5) (BZ b) hb2 hown (by decide);obtain ⟨_,v2,q1,q2,q3⟩:=hput;have e2:v2=v':=by
  have:(w2.setCell ⟨b,1,none⟩ v').heap[b]?=some (.cells #[.pointer (some ⟨b,0,none⟩),v'] 108 (0,0)):=by simp [vbt,va0,hb2]
  rw [this] at q1;simp at q1;exact q1.symm
 subst e2;refine ⟨v2,q1,q2,q3,?_,fun k hk=>by rw [← hs1]; exact hv k hk⟩;have h3:Keep (fun k=>k=b) w2 (w2.setCell ⟨b,1,none⟩ v2):=Keep.setCell w2 ⟨b,1,none⟩ v2 rfl;refine (hk1.mono (fun _ _ h=>Or.inl h)).trans ((hk2.mono (O':=fun k=>k=b∨v.ownBlock=some k) (fun _ _ h=>Or.inr h)).trans h3 (fun _ _ h=>Or.inl h)) (fun _ _ h=>h)
theorem uN {w w':World} {v:Value} (hg:w.grownBy w' v.ownBlock):Keep (fun k=>v.ownBlock=some k) w w':=
 ⟨hg.os,hg.tape,hg.output,hg.size,fun b hb hn=>hg.block b hb (fun h=>hn h.symm)⟩
theorem UK {g n c k:Nat} (h:(Value.slice (some ⟨g,0,none⟩) n c).ownBlock=some k):k=g:=by
 simp only [B6,AC] at h;exact h.symm
theorem Jc {P:Program} (w:World) (t u ty e:TypeId) (i:TypeInfo) (ht:P.underlying t=some (.slice e)) (hu:P.underlying u=some .string) (hi:P.info? e=some i) (hz:i.zero=some (.int .u8 0)) (hsize:i.size=1) (hby:i.bytes=1)
  (v:Value) (n:Nat) (xs:List Value) (hown:w.ownsRowF 0 e 1 v n xs) (s:BA) (hbytes:n+s.size≤140737488355328) :
  ∃ v' w',(CU #[t,u] ty #[v,.string s]).run P w = .ok v' w'∧w'.ownsRowF 0 e 1 v' (n+s.size) (xs++C5 s)∧w.grownBy w' v.ownBlock∧∀ k,v'.ownBlock=some k→v.ownBlock=some k∨w.heap.size≤k:=by
 have h63:n+s.size≤maxLen:=by unfold maxLen; omega
 rcases hown.2 with ⟨rfl,rfl⟩ | ⟨g,cap,cur,fz,rfl,hbg,hg,hfz,hnc,hcm,hcs,htake⟩
 ·obtain ⟨v',w',h1,h2,h3,_⟩:=Lib.run_append_own_string (P:=P) w w.heap.size t u ty e i ht hu hi hz hsize hby (.slice none 0 0) 0 xs ⟨hown.1,.inl ⟨rfl,rfl⟩⟩ s h63 hbytes (AY _);refine ⟨v',w',h1,⟨h2.1,?_⟩,h3,fun k hk=>.inr ?_⟩
  ·rcases h2.2 with q | ⟨g,cap,cur,q1,_,q2,q3,q4,q5,q6⟩
   ·exact .inl q
   ·exact .inr ⟨g,cap,cur,(0,0),q1,BZ _,q2,BZ _,q3,q4,q5,q6⟩
  ·rcases h2.2 with ⟨rfl,_⟩ | ⟨g,cap,cur,rfl,q1,_⟩
   ·simp [B6] at hk
   ·rw [UK hk]; exact q1
 ·obtain ⟨v',w',h1,h2,h3,_⟩:=Lib.run_append_own_stringF (P:=P) w 0 t u ty e i ht hu hi hz hsize hby _ n xs hown s h63 hbytes (BZ _);refine ⟨v',w',h1,h2,h3,fun k hk=>?_⟩;have hsmall:n+s.size≤9223372036854775807:=by omega
  by_cases hroom:n+s.size≤cap
  ·have hr:=Lib.run_append_room_stringF (P:=P) w t u ty e i ht hu hi hsize g n cap cur fz hg (by simpa using hfz) s hroom (by simp at hcs; omega);rw [h1] at hr;simp only [vbb] at hr;obtain ⟨rfl,_⟩:=hr;exact .inl (by rw [UK hk]; rfl)
  ·have hxl:xs.length=n:=by simpa using hown.1
   have hr:=Lib.run_append_grow_string (P:=P) w t u ty e i (.int .u8 0) ht hu hi hz ⟨g,0,none⟩ n cap xs (by rw [hsize]; simpa using hxl) (hown.cells (g:=g) rfl) s (by omega) (by omega) (by rw [hby]; exact growslice_fits (by omega) (by omega));rw [h1] at hr;simp only [vbb] at hr;obtain ⟨rfl,_⟩:=hr;exact .inr (by rw [UK hk]; exact AY _)
theorem zdZ {P:Program} {w:World} {ops:Array Oper} {rest:List Oper} {o:Oper} {a:Act} {Q:Exit→Act→World→Prop} (hgd:o.guard=none) (sl x:Operand) (t u:TypeId)
  (ho:o.op = .call { callee:=.builtin .append,args:=#[sl,x],argTypes:=#[t,u] })
  (e:TypeId) (i:TypeInfo) (ht:P.underlying t=some (.slice e)) (hu:P.underlying u=some .string) (hi:P.info? e=some i) (hz:i.zero=some (.int .u8 0)) (hsize:i.size=1) (hby:i.bytes=1)
  (v:Value) (n:Nat) (xs:List Value) (hs:a.eval sl=v) (hown:w.ownsRowF 0 e 1 v n xs) (s:BA) (hx:a.eval x = .string s) (hbytes:n+s.size≤140737488355328)
  (h:∀ v' w',w'.ownsRowF 0 e 1 v' (n+s.size) (xs++C5 s)→w.grownBy w' v.ownBlock→(∀ k,v'.ownBlock=some k→v.ownBlock=some k∨w.heap.size≤k)→wpList P ops Q rest (a.put o.dst v') w'):wpList P ops Q (o :: rest) a w:=by
 refine wpList_plain hgd fun K hK=>?_
 obtain ⟨v',w',hr,h2,h3,h4⟩:=Jc (P:=P) w t u o.type e i ht hu hi hz hsize hby v n xs hown s hbytes;unfold Oper.wp execOp;simp only [ho,resolve,invoke,builtin,CJ,CK,B2,List.map_toArray,AZ,CB,hs,hx,hr];exact hK _ _ (h v' w' h2 h3 h4)
theorem Iz {P:Program} (w:World) (t ty e:TypeId) (i:TypeInfo) (ht:P.underlying t=some (.slice e)) (hi:P.info? e=some i) (hz:i.zero=some (.int .u8 0)) (hsize:i.size=1) (hby:i.bytes=1)
  (v:Value) (n:Nat) (xs:List Value) (hown:w.ownsRowF 0 e 1 v n xs) (ad:Addr) (c:Nat) (x:Int) (hx:w.cell? ad=some (.int .u8 x)) (hbytes:n+1≤140737488355328) :
  ∃ v' w',(CU #[t,t] ty #[v,.slice (some ad) 1 c]).run P w = .ok v' w'∧w'.ownsRowF 0 e 1 v' (n+1) (xs++[.int .u8 x])∧w.grownBy w' v.ownBlock∧∀ k,v'.ownBlock=some k→v.ownBlock=some k∨w.heap.size≤k:=by
 have h63:n+1≤maxLen:=by unfold maxLen; omega
 have hnews:∀ j u,[Value.int .u8 x][j]?=some u→w.cell? (ad.add j)=some u:=by
  intro j u hj
  match j,hj with
  | 0,hj=>simp at hj; subst hj; obtain ⟨b,o,p⟩:=ad; cases p <;> simpa [Addr.add] using hx
 have h1c:∀ u∈[Value.int .u8 x],u.oneCell'=true:=fun u hu=>by simp at hu; subst hu; rfl
 rcases hown.2 with ⟨rfl,rfl⟩ | ⟨g,cap,cur,fz,rfl,hbg,hg,hfz,hnc,hcm,hcs,htake⟩
 ·obtain ⟨v',w',h1,h2,h3,_⟩:=run_append_own (P:=P) w w.heap.size t ty e i (.int .u8 0) 1 1 ht hi hz hsize hby rfl (by decide) (.slice none 0 0) 0 xs ⟨hown.1,.inl ⟨rfl,rfl⟩⟩ ad 1 c [.int .u8 x] rfl hnews h1c h63 (by omega) (AY _);refine ⟨v',w',h1,⟨h2.1,?_⟩,h3,fun k hk=>.inr ?_⟩
  ·rcases h2.2 with q | ⟨g,cap,cur,q1,_,q2,q3,q4,q5,q6⟩
   ·exact .inl q
   ·exact .inr ⟨g,cap,cur,(0,0),q1,BZ _,q2,BZ _,q3,q4,q5,q6⟩
  ·rcases h2.2 with ⟨rfl,_⟩ | ⟨g,cap,cur,rfl,q1,_⟩
   ·simp [B6] at hk
   ·rw [UK hk]; exact q1
 ·obtain ⟨v',w',h1,h2,h3,_⟩:=run_append_ownF (P:=P) w 0 t ty e i (.int .u8 0) 1 1 ht hi hz hsize hby rfl (by decide) _ n xs hown ad 1 c [.int .u8 x] rfl hnews h1c h63 (by omega) (BZ _);refine ⟨v',w',h1,h2,h3,fun k hk=>?_⟩;by_cases hroom:n+1≤cap
  ·have hr:=run_append_roomF (P:=P) w t ty e i ht hi g n cap cur fz hg (by rw [hsize]; simpa using hfz) ad 1 c [.int .u8 x] (by rw [hsize]; rfl) hnews h1c hroom (by rw [hsize]; simp at hcs ⊢; omega);rw [h1] at hr;simp only [vbb] at hr;obtain ⟨rfl,_⟩:=hr;exact .inl (by rw [UK hk]; rfl)
  ·have hxl:xs.length=n:=by simpa using hown.1
   have hr:=run_append_grow (P:=P) w t ty e i (.int .u8 0) ht hi hz ⟨g,0,none⟩ n cap xs (by rw [hsize]; simpa using hxl) (hown.cells (g:=g) rfl) ad 1 c [.int .u8 x] (by rw [hsize]; rfl) hnews (by omega) (by omega) (by rw [hby]; exact growslice_fits (by omega) (by omega));rw [h1] at hr;simp only [vbb] at hr;obtain ⟨rfl,_⟩:=hr;exact .inr (by rw [UK hk]; exact AY _)
theorem zdY {P:Program} {w:World} {ops:Array Oper} {rest:List Oper} {o:Oper} {a:Act} {Q:Exit→Act→World→Prop} (hgd:o.guard=none) (sl x:Operand) (t:TypeId)
  (ho:o.op = .call { callee:=.builtin .append,args:=#[sl,x],argTypes:=#[t,t] })
  (e:TypeId) (i:TypeInfo) (ht:P.underlying t=some (.slice e)) (hi:P.info? e=some i) (hz:i.zero=some (.int .u8 0)) (hsize:i.size=1) (hby:i.bytes=1)
  (v:Value) (n:Nat) (xs:List Value) (hs:a.eval sl=v) (hown:w.ownsRowF 0 e 1 v n xs) (ad:Addr) (c:Nat) (y:Int) (hx:a.eval x = .slice (some ad) 1 c) (hc:w.cell? ad=some (.int .u8 y)) (hbytes:n+1≤140737488355328)
  (h:∀ v' w',w'.ownsRowF 0 e 1 v' (n+1) (xs++[.int .u8 y])→w.grownBy w' v.ownBlock→(∀ k,v'.ownBlock=some k→v.ownBlock=some k∨w.heap.size≤k)→wpList P ops Q rest (a.put o.dst v') w'):wpList P ops Q (o :: rest) a w:=by
 refine wpList_plain hgd fun K hK=>?_
 obtain ⟨v',w',hr,h2,h3,h4⟩:=Iz (P:=P) w t o.type e i ht hi hz hsize hby v n xs hown ad c y hc hbytes;unfold Oper.wp execOp;simp only [ho,resolve,invoke,builtin,CJ,CK,B2,List.map_toArray,AZ,CB,hs,hx,hr];exact hK _ _ (h v' w' h2 h3 h4)
theorem lP {w:World} {e:Nat} {v:Value} {bs:List Value} {n k:Nat} (hown:w.ownsRowF 0 e 1 v n bs) (hk:v.ownBlock=some k):k < w.heap.size:=by
 rcases hown.2 with ⟨rfl,_⟩ | ⟨g,cap,cur,fz,rfl,_,hg,_⟩
 ·simp [B6] at hk
 ·rw [UK hk];exact aA hg
set_option maxHeartbeats 2000000 in
theorem Kb (b:Nat) (p v:Value) (bs:List Value) (s:BA) (w:World) (hp:p = .pointer none∨p = .pointer (some ⟨b,0,none⟩)) (hbk:w.heap[b]?=some (.cells #[p,v] 108 (0,0)))
  (hown:w.ownsRowF 0 5 1 v bs.length bs) (hne:v.ownBlock≠some b) (hlen:bs.length+s.size≤140737488355328) :
  Calls Tryz.prog 60 #[.pointer (some ⟨b,0,none⟩),.string s] w fun e w'=>e = .returned (.tuple #[.int .i64 s.size,.nilIface])∧XG b v (bs++Lib.strCells s) w w':=by
 obtain ⟨i0,hi,hz0,hz1,hz2⟩:=info_parts Ek
 go_enter Tryz.func60,Tryz.ntmps60
 go_wp2_with (go_at_call 103; refine (pM b p v _ hp hbk).mono ?_)
 rintro e w1 ⟨rfl,hb1,hk1,hs1⟩;have HS:Hid (w1.heap.size=w.heap.size):=hs1;clear hs1;have hown1:w1.ownsRowF 0 5 1 v bs.length bs:=WI hown (fun k hk=>hk1.block k (lP hown hk) (fun e=>hne (e ▸ hk)));have c0:w1.cell? ⟨b,0,none⟩=some (.pointer (some ⟨b,0,none⟩)):=by rw [Lib.cell_of_heap hb1]; rfl
 have c1:w1.cell? ⟨b,1,none⟩=some v:=by rw [Lib.cell_of_heap hb1]; rfl
 go_wp2_with (at_builtin; refine zdZ rfl _ _ 69 9 rfl 5 i0 Tryz.underlying69 Tryz.underlying9 hi hz0 hz1 hz2 _ _ _ rfl hown1 s rfl hlen ?_)
 intro v' w2 hown' hgrow hblk;have hlt:b < w1.heap.size:=aA hb1;have hb2:w2.heap[b]?=some (.cells #[.pointer (some ⟨b,0,none⟩),v] 108 (0,0)):=by
  rw [hgrow.block b hlt (fun e=>hne e.symm)];exact hb1
 have d0:w2.cell? ⟨b,0,none⟩=some (.pointer (some ⟨b,0,none⟩)):=by rw [Lib.cell_of_heap hb2]; rfl
 have d1:w2.cell? ⟨b,1,none⟩=some v:=by rw [Lib.cell_of_heap hb2]; rfl
 have f1:w2.frozen? ⟨b,1,none⟩=false:=Lib.frozen_of_heap hb2 1;have hX:Hid (XG b v (bs++Lib.strCells s) w (w2.setCell ⟨b,1,none⟩ v')):=pN HS hk1 hb2 (by simpa [Lib.strCells_length] using hown') (uN hgrow) hblk;clear hblk HS;obtain ⟨ao,n',cap,rfl⟩:∃ ao n' cap,v' = .slice ao n' cap:=by
  rcases hown'.2 with ⟨hv,_⟩ | ⟨g,cap,cur,fz,hv,_⟩
  ·exact ⟨_,_,_,hv⟩
  ·exact ⟨_,_,_,hv⟩
 go_wp2
 go_ret2
 exact ⟨rfl,hX⟩
set_option maxHeartbeats 2000000 in
theorem Ka (b:Nat) (p v:Value) (bs:List Value) (c:Int) (w:World) (hp:p = .pointer none∨p = .pointer (some ⟨b,0,none⟩)) (hbk:w.heap[b]?=some (.cells #[p,v] 108 (0,0)))
  (hown:w.ownsRowF 0 5 1 v bs.length bs) (hne:v.ownBlock≠some b) (hlen:bs.length+1≤140737488355328) :
  Calls Tryz.prog 97 #[.pointer (some ⟨b,0,none⟩),.int .u8 c] w fun e w'=>e = .returned .nilIface∧XG b v (bs++[.int .u8 c]) w w':=by
 obtain ⟨i0,hi,hz0,hz1,hz2⟩:=info_parts Ek
 go_enter Tryz.func97,Tryz.ntmps97
 go_wp2_with (go_at_call 103; refine (pM b p v _ hp hbk).mono ?_)
 rintro e w1 ⟨rfl,hb1,hk1,hs1⟩;have HS:Hid (w1.heap.size=w.heap.size):=hs1;clear hs1;have hown1:w1.ownsRowF 0 5 1 v bs.length bs:=WI hown (fun k hk=>hk1.block k (lP hown hk) (fun e=>hne (e ▸ hk)));have c0:w1.cell? ⟨b,0,none⟩=some (.pointer (some ⟨b,0,none⟩)):=by rw [Lib.cell_of_heap hb1]; rfl
 have c1:w1.cell? ⟨b,1,none⟩=some v:=by rw [Lib.cell_of_heap hb1]; rfl
 have hlt:b < w1.heap.size:=aA hb1
 go_wp2_with (at_builtin; refine zdY rfl _ _ 69 rfl 5 i0 Tryz.underlying69 hi hz0 hz1 hz2 _ _ _ rfl (hown1.alloc _) ⟨w1.heap.size,0,none⟩ 1 c rfl (by rw [Lib.cell_of_heap (heap_alloc_new w1 _)]; rfl) hlen ?_)
 intro v' w2 hown' hgrow hblk;have hb2:w2.heap[b]?=some (.cells #[.pointer (some ⟨b,0,none⟩),v] 108 (0,0)):=by
  rw [hgrow.block b (by simp; omega) (fun e=>hne e.symm),Lib.alloc_old w1 _ b hlt];exact hb1
 have d0:w2.cell? ⟨b,0,none⟩=some (.pointer (some ⟨b,0,none⟩)):=by rw [Lib.cell_of_heap hb2]; rfl
 have d1:w2.cell? ⟨b,1,none⟩=some v:=by rw [Lib.cell_of_heap hb2]; rfl
 have f1:w2.frozen? ⟨b,1,none⟩=false:=Lib.frozen_of_heap hb2 1;have hX:Hid (XG b v (bs++[.int .u8 c]) w (w2.setCell ⟨b,1,none⟩ v')):=pN HS hk1 hb2 (by simpa using hown') (((Keep.alloc (fun k=>v.ownBlock=some k) w1 _)).trans (uN hgrow) (fun _ _ h=>h)) (fun k hk=>(hblk k hk).imp_right (fun h=>by first | omega | (simp at h; omega)));clear hblk HS;obtain ⟨ao,n',cap,rfl⟩:∃ ao n' cap,v' = .slice ao n' cap:=by
  rcases hown'.2 with ⟨hv,_⟩ | ⟨g,cap,cur,fz,hv,_⟩
  ·exact ⟨_,_,_,hv⟩
  ·exact ⟨_,_,_,hv⟩
 go_wp2
 go_ret
 exact ⟨rfl,hX⟩
def MY (b:Nat) (p v:Value) (n:Nat) (bs:List Value) (w w':World):Prop:=
 w'.heap[b]?=some (.cells #[p,v] 108 (0,0))∧w'.ownsRowF 0 5 1 v n bs∧Keep (fun k=>k=b∨v.ownBlock=some k) w w'
theorem zdm {b g cap:Nat} {p:Value} {bs:List Value} {w:World} (hbk:w.heap[b]?=some (.cells #[p,.slice (some ⟨g,0,none⟩) bs.length cap] 108 (0,0))) (hown:w.ownsRowF 0 5 1 (.slice (some ⟨g,0,none⟩) bs.length cap) bs.length bs) (hne:(Value.slice (some ⟨g,0,none⟩) bs.length cap).ownBlock≠some b) :
  MY b p (.slice (some ⟨g,0,none⟩) bs.length cap) bs.length bs w (w.drew.freeze ⟨g,0,none⟩ bs.length):=by
 have hA:Lib.BuilderAtF 108 5 0 b p bs w.drew:=⟨BZ _,_,hbk,hown,hne⟩;have c1:w.drew.cell? ⟨b,1,none⟩=some (.slice (some ⟨g,0,none⟩) bs.length cap):=by
  have:w.drew.heap[b]?=some (.cells #[p,.slice (some ⟨g,0,none⟩) bs.length cap] 108 (0,0)):=hbk
  rw [Lib.cell_of_heap this]; rfl
 obtain ⟨_,v',q1,q2,q3⟩:=hA.froze c1;have hk:Keep (fun k=>k=g) w (w.drew.freeze ⟨g,0,none⟩ bs.length):=(Keep.drew _ w).trans (Keep.freeze (O:=fun k=>k=g) w.drew ⟨g,0,none⟩ _ rfl) (fun _ _ h=>h);have hgb:b≠g:=fun e=>hne (by simp [B6,e])
 have hb2:(w.drew.freeze ⟨g,0,none⟩ bs.length).heap[b]?=some (.cells #[p,.slice (some ⟨g,0,none⟩) bs.length cap] 108 (0,0)):=(hk.block b (aA hbk) hgb).trans hbk;have e:v' = .slice (some ⟨g,0,none⟩) bs.length cap:=by
  rw [hb2] at q1;simp at q1;exact q1.symm
 subst e;exact ⟨hb2,q2,hk.mono (fun k _ h=>.inr (by rw [h]; rfl))⟩
set_option maxHeartbeats 1000000 in
theorem Jz (b g cap:Nat) (p:Value) (l:List UInt8) (w:World) (h0:l≠[]) (hbk:w.heap[b]?=some (.cells #[p,.slice (some ⟨g,0,none⟩) l.length cap] 108 (0,0)))
  (hown:w.ownsRowF 0 5 1 (.slice (some ⟨g,0,none⟩) l.length cap) l.length (Lib.byteCells l)) (hne:(Value.slice (some ⟨g,0,none⟩) l.length cap).ownBlock≠some b) :
  Calls Tryz.prog 56 #[.pointer (some ⟨b,0,none⟩)] w fun e w'=>e = .returned (.string ⟨l.toArray⟩)∧MY b p (.slice (some ⟨g,0,none⟩) l.length cap) l.length (Lib.byteCells l) w w':=by
 have hl0:l.length≠0:=by simpa using h0
 obtain ⟨cur,fz,hg,hnc,hcm,hcs⟩:∃ cur fz,w.heap[g]?=some (.cells cur 5 fz)∧l.length≤cap∧cap≤maxLen∧cur.size=cap*1:=by
  rcases hown.2 with ⟨hv,_⟩ | ⟨g',cap',cur,fz,hv,_,q1,_,q2,q3,q4,_⟩
  ·cases hv
  ·injection hv with ha _ hc
   injection ha with ha
   injection ha with hgg
   subst hgg; subst hc;exact ⟨cur,fz,q1,q2,q3,q4⟩
 have c1:w.drew.cell? ⟨b,1,none⟩=some (.slice (some ⟨g,0,none⟩) l.length cap):=by
  have:w.drew.heap[b]?=some (.cells #[p,.slice (some ⟨g,0,none⟩) l.length cap] 108 (0,0)):=hbk
  rw [Lib.cell_of_heap this]; rfl
 have hSD:(Builtin.unsafeSliceData_ #[69] 165 #[.slice (some ⟨g,0,none⟩) l.length cap]).run Tryz.prog w.drew = .ok (.pointer (some ⟨g,0,none⟩)) w.drew:=
  Lib.run_unsafeSliceData_row _ _ _ _ _ _ (by omega)
 have hcells:PR.cellsOf 5=1:=by kernel_rfl
 have hUS:(Builtin.unsafeString_ #[165,3] 9 #[.pointer (some ⟨g,0,none⟩),.int .i64 l.length]).run Tryz.prog w.drew = .ok (.string ⟨l.toArray⟩) (w.drew.freeze ⟨g,0,none⟩ l.length):=by
  refine Lib.run_unsafeString_row w.drew 165 3 9 5 Tryz.underlying165 hcells g cur.size (by have hg':w.drew.heap[g]?=some (.cells cur 5 fz):=hg; simp [World.shape?,hg']) l h0 (by omega) (by unfold maxLen at hcm; omega) ?_;intro j x hx
  have:=hown.cells (g:=g) rfl j (.int .u8 x.toNat) (by simp [Lib.byteCells,hx])
  exact this
 have hP:Hid (MY b p (.slice (some ⟨g,0,none⟩) l.length cap) l.length (Lib.byteCells l) w (w.drew.freeze ⟨g,0,none⟩ l.length)):=by
  have:=zdm (bs:=Lib.byteCells l) (by rw [Lib.byteCells_length]; exact hbk) (by rw [Lib.byteCells_length]; exact hown) (by rw [Lib.byteCells_length]; exact hne)
  rw [Lib.byteCells_length] at this;exact this
 clear hcells hcs hg hnc hcm hl0
 go_enter Tryz.func56,Tryz.ntmps56
 go_wp2
 go_region
 all_goals (go_wp2; go_ret; exact ⟨rfl,hP⟩)
set_option maxHeartbeats 2000000 in
theorem Jw (b:Nat) (p:Value) (w:World) (hbk:w.heap[b]?=some (.cells #[p,.slice none 0 0] 108 (0,0))) :
  Calls Tryz.prog 56 #[.pointer (some ⟨b,0,none⟩)] w fun e w'=>e = .returned (.string ⟨#[]⟩)∧MY b p (.slice none 0 0) 0 [] w w':=by
 have hUS:∀ (W:World) (q:Option Addr),(Builtin.unsafeString_ #[165,3] 9 #[.pointer q,.int .i64 0]).run Tryz.prog W = .ok (.string .empty) W:=fun W q=>Lib.run_unsafeString_none W _ _ _ q
 have c1:w.drew.cell? ⟨b,1,none⟩=some (.slice none 0 0):=by
  have:w.drew.heap[b]?=some (.cells #[p,.slice none 0 0] 108 (0,0)):=hbk
  rw [Lib.cell_of_heap this]; rfl
 have hSD:(Builtin.unsafeSliceData_ #[69] 165 #[.slice none 0 0]).run Tryz.prog w.drew = .ok (.pointer none) w.drew:=rfl;have hP:Hid (MY b p (.slice none 0 0) 0 [] w w.drew):=⟨hbk,⟨rfl,.inl ⟨rfl,rfl⟩⟩,Keep.drew _ w⟩
 go_enter Tryz.func56,Tryz.ntmps56
 go_wp2
 go_region
 all_goals (go_wp2; go_ret; exact ⟨rfl,hP⟩)
set_option maxHeartbeats 2000000 in
theorem Jx (b g:Nat) (p:Value) (cur:Array Value) (fz:Nat × Nat) (w:World) (hbk:w.heap[b]?=some (.cells #[p,.slice (some ⟨g,0,none⟩) 0 0] 108 (0,0))) (hg:w.heap[g]?=some (.cells cur 5 fz)) (hown:w.ownsRowF 0 5 1 (.slice (some ⟨g,0,none⟩) 0 0) 0 []) :
  Calls Tryz.prog 56 #[.pointer (some ⟨b,0,none⟩)] w fun e w'=>e = .returned (.string ⟨#[]⟩)∧MY b p (.slice (some ⟨g,0,none⟩) 0 0) 0 [] w w':=by
 have hUS:∀ (W:World) (q:Option Addr),(Builtin.unsafeString_ #[165,3] 9 #[.pointer q,.int .i64 0]).run Tryz.prog W = .ok (.string .empty) W:=fun W q=>Lib.run_unsafeString_none W _ _ _ q
 have hlt:b < w.heap.size:=aA hbk;have c1:w.drew.cell? ⟨b,1,none⟩=some (.slice (some ⟨g,0,none⟩) 0 0):=by
  have:w.drew.heap[b]?=some (.cells #[p,.slice (some ⟨g,0,none⟩) 0 0] 108 (0,0)):=hbk
  rw [Lib.cell_of_heap this]; rfl
 have hSD:(Builtin.unsafeSliceData_ #[69] 165 #[.slice (some ⟨g,0,none⟩) 0 0]).run Tryz.prog w.drew = .ok (.pointer (some ⟨w.drew.heap.size,0,none⟩)) (w.drew.alloc (.view ⟨g,0,none⟩ 5)):=
  Lib.run_unsafeSliceData_zero w.drew _ _ 5 Tryz.underlying165 ⟨g,0,none⟩ 0 (5,cur.size) (by have hg':w.drew.heap[g]?=some (.cells cur 5 fz):=hg; simp [World.shape?,hg'])
 have c2:(w.drew.alloc (.view ⟨g,0,none⟩ 5)).cell? ⟨b,1,none⟩=some (.slice (some ⟨g,0,none⟩) 0 0):=by
  have:(w.drew.alloc (.view ⟨g,0,none⟩ 5)).heap[b]?=_:=(Lib.alloc_old w.drew _ b hlt).trans hbk
  rw [Lib.cell_of_heap this]; rfl
 have c3:(w.alloc (.view ⟨g,0,none⟩ 5)).drew.cell? ⟨b,1,none⟩=some (.slice (some ⟨g,0,none⟩) 0 0):=c2;have c0:w.cell? ⟨b,1,none⟩=some (.slice (some ⟨g,0,none⟩) 0 0):=c1;have hP:∀ W:World,W.heap=(w.drew.alloc (.view ⟨g,0,none⟩ 5)).heap→W.os=w.os→W.tape=w.tape→W.output=w.output→MY b p (.slice (some ⟨g,0,none⟩) 0 0) 0 [] w W:=by
  intro W h1 h2 h3 h4;have hk:Keep (fun k=>k=b∨(Value.slice (some ⟨g,0,none⟩) 0 0).ownBlock=some k) w W:=by
   have:=Keep.alloc (fun _=>False) w.drew (.view ⟨g,0,none⟩ 5)
   exact ⟨h2,h3,h4,by rw [h1]; exact this.size,fun k hk _=>by rw [h1]; exact this.block k hk (fun h=>h)⟩
  have hblk:∀ k,k < w.heap.size→W.heap[k]?=w.heap[k]?:=fun k hk=>by
   rw [h1]; exact (Keep.alloc (fun _=>False) w.drew (.view ⟨g,0,none⟩ 5)).block k hk (fun h=>h)
  exact ⟨(hblk b hlt).trans hbk,WI hown (fun k hk=>hblk k (lP hown hk)),hk⟩
 have hP:Hid (∀ W:World,W.heap=(w.drew.alloc (.view ⟨g,0,none⟩ 5)).heap→W.os=w.os→W.tape=w.tape→W.output=w.output→MY b p (.slice (some ⟨g,0,none⟩) 0 0) 0 [] w W):=hP
 go_enter Tryz.func56,Tryz.ntmps56
 go_wp2
 go_region
 all_goals (go_wp2; go_ret; exact ⟨rfl,hP _ rfl rfl rfl rfl⟩)
set_option maxHeartbeats 2000000 in
theorem Jy (b g cap:Nat) (p:Value) (w:World) (hc0:cap≠0) (hbk:w.heap[b]?=some (.cells #[p,.slice (some ⟨g,0,none⟩) 0 cap] 108 (0,0))) (hown:w.ownsRowF 0 5 1 (.slice (some ⟨g,0,none⟩) 0 cap) 0 []) :
  Calls Tryz.prog 56 #[.pointer (some ⟨b,0,none⟩)] w fun e w'=>e = .returned (.string ⟨#[]⟩)∧MY b p (.slice (some ⟨g,0,none⟩) 0 cap) 0 [] w w':=by
 have hUS:∀ (W:World) (q:Option Addr),(Builtin.unsafeString_ #[165,3] 9 #[.pointer q,.int .i64 0]).run Tryz.prog W = .ok (.string .empty) W:=fun W q=>Lib.run_unsafeString_none W _ _ _ q
 have c1:w.drew.cell? ⟨b,1,none⟩=some (.slice (some ⟨g,0,none⟩) 0 cap):=by
  have:w.drew.heap[b]?=some (.cells #[p,.slice (some ⟨g,0,none⟩) 0 cap] 108 (0,0)):=hbk
  rw [Lib.cell_of_heap this]; rfl
 have hSD:(Builtin.unsafeSliceData_ #[69] 165 #[.slice (some ⟨g,0,none⟩) 0 cap]).run Tryz.prog w.drew = .ok (.pointer (some ⟨g,0,none⟩)) w.drew:=
  Lib.run_unsafeSliceData_row _ _ _ _ _ _ hc0
 clear hc0;have hP:Hid (MY b p (.slice (some ⟨g,0,none⟩) 0 cap) 0 [] w w.drew):=⟨hbk,hown,Keep.drew _ w⟩
 go_enter Tryz.func56,Tryz.ntmps56
 go_wp2
 go_region
 all_goals (go_wp2; go_ret; exact ⟨rfl,hP⟩)
theorem zdl (s:BA):C5 s=vby s.data.toList:=by
 simp [C5,vby]
theorem Jv (b:Nat) (p v:Value) (s:BA) (w:World) (hbk:w.heap[b]?=some (.cells #[p,v] 108 (0,0))) (hown:w.ownsRowF 0 5 1 v s.size (C5 s)) (hne:v.ownBlock≠some b) :
  Calls Tryz.prog 56 #[.pointer (some ⟨b,0,none⟩)] w fun e w'=>e = .returned (.string s)∧MY b p v s.size (C5 s) w w':=by
 obtain ⟨⟨l⟩⟩:=s;rw [zdl] at hown ⊢
 change w.ownsRowF 0 5 1 v l.length (vby l) at hown
 change Calls Tryz.prog 56 #[.pointer (some ⟨b,0,none⟩)] w fun e w'=>e = .returned (.string ⟨l.toArray⟩)∧MY b p v l.length (vby l) w w'
 by_cases h0:l=[]
 ·subst h0;rcases hown.2 with ⟨rfl,_⟩ | ⟨g,cap,cur,fz,rfl,_,hg,_⟩
  ·exact Jw b p w hbk
  ·by_cases hc:cap=0
   ·subst hc;exact Jx b g p cur fz w hbk hg hown
   ·exact Jy b g cap p w hc hbk hown
 ·rcases hown.2 with ⟨rfl,hz⟩ | ⟨g,cap,cur,fz,rfl,_⟩
  ·exact absurd (vaE hz) h0
  ·exact Jz b g cap p l w h0 hbk hown hne
end Go.FM
namespace Go.Proofs
open Go.Shelf
def Tryz.lays156_ren:Go.Shelf.Ren:=⟨fun | 156=>45 | 165=>87 | 166=>60 | 169=>56 | 240=>103 | 241=>137 | 276=>153 | 277=>179 | n=>n,fun | 31=>66 | 9=>9 | 3=>3 | 4=>4 | 0=>0 | 20=>20 | 72=>108 | 76=>121 | 70=>106 | 37=>69 | 75=>120 | 127=>165 | 164=>211 | 5=>5 | 80=>114 | n=>n,fun | n=>n⟩
theorem Tryz.lays156:Go.Proofs.Lays.n156 Tryz.prog Tryz.lays156_ren:= by constructor <;> first | kernel_rfl | (intro _; kernel_rfl)
theorem Tryz.Builder_Extra_156:Builder.Extra Tryz.prog Tryz.lays156_ren:={
 sizeBuilder:=by kernel_rfl
 liesBuilder:=by kernel_rfl
 t5:=Tryz.underlying5
 a5:=Tryz.isAgg5
 z5:=Tryz.sizeOf5
 v5:=Tryz.zeroValue5
 infoByte:=by kernel_rfl
 cellsByte:=by kernel_rfl
 sizeByte:=by kernel_rfl
 neB5:=by decide }
open Go.RowKit in
theorem Tryz.strings_Join_none (a:Option Addr) (c:Nat) (sep:BA) (w:World) :
 Calls Tryz.prog 45 #[.slice a 0 c,.string sep] w fun e w'=>e = .returned (.string ⟨#[]⟩)∧w'=w:=Any.strings_Join_none Tryz.lays156 Tryz.Builder_Extra_156 a c sep w
open Go.RowKit in
theorem Tryz.strings_Join (bk o c:Nat) (xs:List BA) (sep:BA) (w:World) (hcells:∀ (j:Nat) x,xs[j]?=some x→w.cell? ⟨bk,o+j,none⟩=some (.string x)) (hbk:bk < w.heap.size) (hN:xs.length≤140737488355328) (hcap:xs.length≤c) (hlen:(Lib.join (xs.map (·.data.toList)) sep.data.toList).length≤140737488355328) :
 Calls Tryz.prog 45 #[.slice (some ⟨bk,o,none⟩) xs.length c,.string sep] w fun e w'=>e = .returned (.string ⟨(Lib.join (xs.map (·.data.toList)) sep.data.toList).toArray⟩)∧Below w.heap.size w w':=Any.strings_Join Tryz.lays156 Tryz.Builder_Extra_156 bk o c xs sep w hcells hbk hN hcap hlen
def Tryz.lays162_ren:Go.Shelf.Ren:=⟨fun | 162=>85 | 232=>130 | 227=>131 | 234=>132 | 236=>133 | 228=>174 | 271=>175 | 151=>176 | 120=>208 | 197=>181 | 152=>209 | 260=>210 | 137=>102 | 119=>223 | 224=>212 | 225=>211 | 217=>152 | 266=>191 | n=>n,fun | 9=>9 | 4=>4 | 3=>3 | 5=>5 | 117=>195 | 116=>194 | 0=>0 | 124=>198 | 21=>21 | 105=>231 | 46=>152 | 119=>279 | 139=>282 | 138=>281 | n=>n,fun | 3=>4 | 4=>5 | n=>n⟩
theorem Tryz.lays162:Go.Proofs.Lays.n162 Tryz.prog Tryz.lays162_ren:={
 mixed:=by kernel_rfl
 f119:=Tryz.func223.trans (congrArg some (by kernel_rfl))
 f120:=Tryz.func208.trans (congrArg some (by kernel_rfl))
 f137:=Tryz.func102.trans (congrArg some (by kernel_rfl))
 f151:=Tryz.func176.trans (congrArg some (by kernel_rfl))
 f152:=Tryz.func209.trans (congrArg some (by kernel_rfl))
 f162:=Tryz.func85.trans (congrArg some (by kernel_rfl))
 f197:=Tryz.func181.trans (congrArg some (by kernel_rfl))
 f217:=Tryz.func152.trans (congrArg some (by kernel_rfl))
 f224:=Tryz.func212.trans (congrArg some (by kernel_rfl))
 f225:=Tryz.func211.trans (congrArg some (by kernel_rfl))
 f227:=Tryz.func131.trans (congrArg some (by kernel_rfl))
 f228:=Tryz.func174.trans (congrArg some (by kernel_rfl))
 f232:=Tryz.func130.trans (congrArg some (by kernel_rfl))
 f234:=Tryz.func132.trans (congrArg some (by kernel_rfl))
 f236:=Tryz.func133.trans (congrArg some (by kernel_rfl))
 f260:=Tryz.func210.trans (congrArg some (by kernel_rfl))
 f266:=Tryz.func191.trans (congrArg some (by kernel_rfl))
 f271:=Tryz.func175.trans (congrArg some (by kernel_rfl))
 t0:=Tryz.underlying0
 a0:=Tryz.isAgg0
 z0:=Tryz.sizeOf0
 v0:=Tryz.zeroValue0
 t3:=Tryz.underlying3
 a3:=Tryz.isAgg3
 z3:=Tryz.sizeOf3
 v3:=Tryz.zeroValue3
 t4:=Tryz.underlying4
 a4:=Tryz.isAgg4
 z4:=Tryz.sizeOf4
 v4:=Tryz.zeroValue4
 t5:=Tryz.underlying5
 a5:=Tryz.isAgg5
 z5:=Tryz.sizeOf5
 v5:=Tryz.zeroValue5
 t9:=Tryz.underlying9
 a9:=Tryz.isAgg9
 z9:=Tryz.sizeOf9
 v9:=Tryz.zeroValue9
 t21:=Tryz.underlying21
 a21:=Tryz.isAgg21
 z21:=Tryz.sizeOf21
 v21:=Tryz.zeroValue21
 t46:=Tryz.underlying152
 a46:=Tryz.isAgg152
 z46:=Tryz.sizeOf152
 v46:=Tryz.zeroValue152
 t105:=Tryz.underlying231
 a105:=Tryz.isAgg231
 z105:=Tryz.sizeOf231
 v105:=Tryz.zeroValue231
 t116:=Tryz.underlying194
 a116:=Tryz.isAgg194
 z116:=Tryz.sizeOf194
 t117:=Tryz.underlying195
 a117:=Tryz.isAgg195
 z117:=Tryz.sizeOf195
 v117:=Tryz.zeroValue195
 t119:=Tryz.underlying279
 a119:=Tryz.isAgg279
 z119:=Tryz.sizeOf279
 t124:=Tryz.underlying198
 a124:=Tryz.isAgg198
 z124:=Tryz.sizeOf198
 v124:=Tryz.zeroValue198
 t138:=Tryz.underlying281
 a138:=Tryz.isAgg281
 z138:=Tryz.sizeOf281
 v138:=Tryz.zeroValue281
 t139:=Tryz.underlying282
 a139:=Tryz.isAgg282
 z139:=Tryz.sizeOf282
 v139:=Tryz.zeroValue282
 g3:=by kernel_rfl
 g4:=by kernel_rfl }
open Go.RowKit in
theorem Tryz.strings_TrimRight_one (s:BA) (c:UInt8) (hc:c.toNat < 128) (w:World) (hs:s.size≤9223372036854775807) :
 Calls Tryz.prog 85 #[.string s,.string ⟨#[c]⟩] w fun e w'=>e = .returned (.string ⟨(Lib.trimRightB s.data.toList c).toArray⟩)∧w'=w:=Any.strings_TrimRight_one Tryz.lays162 s c hc w hs
def Tryz.lays103_ren:Go.Shelf.Ren:=⟨fun | 103=>57 | 210=>101 | 206=>151 | n=>n,fun | 9=>9 | 4=>4 | 24=>115 | 3=>3 | n=>n,fun | n=>n⟩
theorem Tryz.lays103:Go.Proofs.Lays.n103 Tryz.prog Tryz.lays103_ren:= by constructor <;> first | kernel_rfl | (intro _; kernel_rfl)
open Go.RowKit in
theorem Tryz.strings_CutPrefix (s p:BA) (w:World) :
 Calls Tryz.prog 57 #[.string s,.string p] w fun e w'=>e = .returned (.tuple #[.string ⟨(Lib.trimPrefix s.data.toList p.data.toList).toArray⟩,.bool (Lib.hasPrefix s.data.toList p.data.toList)])∧w'=w:=Any.strings_CutPrefix Tryz.lays103 s p w
def Tryz.lays283_ren:Go.Shelf.Ren:=⟨fun | 283=>170 | n=>n,fun | 3=>3 | 9=>9 | 4=>4 | n=>n,fun | n=>n⟩
theorem Tryz.lays283:Go.Proofs.Lays.n283 Tryz.prog Tryz.lays283_ren:= by constructor <;> first | kernel_rfl | (intro _; kernel_rfl)
open Go.Lib in
theorem Tryz.internal_strconv_small (i:Nat) (h:i < 100) (w:World) :
 Calls Tryz.prog 170 #[.int .i64 i] w fun e w'=>e = .returned (.string ⟨(Lib.decDigits i).toArray⟩)∧w'=w:=Any.internal_strconv_small Tryz.lays283 i h w
def Tryz.laysM284_ren:Go.Shelf.Ren:=⟨fun | 284=>171 | 129=>204 | 317=>203 | 318=>205 | n=>n,fun | 53=>103 | 3=>3 | 212=>262 | 0=>0 | 4=>4 | 46=>152 | 5=>5 | 9=>9 | n=>n,fun | 17=>0 | n=>n⟩
theorem Tryz.laysM284:Go.Proofs.LaysM.n284 Tryz.prog Tryz.laysM284_ren:={
 mixed:=by kernel_rfl
 f129:=Tryz.func204.trans (congrArg some (by kernel_rfl))
 f284:=Tryz.func171.trans (congrArg some (by kernel_rfl))
 f317:=Tryz.func203.trans (congrArg some (by kernel_rfl))
 f318:=Tryz.func205.trans (congrArg some (by kernel_rfl))
 t0:=Tryz.underlying0
 a0:=Tryz.isAgg0
 z0:=Tryz.sizeOf0
 v0:=Tryz.zeroValue0
 t3:=Tryz.underlying3
 a3:=Tryz.isAgg3
 z3:=Tryz.sizeOf3
 v3:=Tryz.zeroValue3
 t4:=Tryz.underlying4
 a4:=Tryz.isAgg4
 z4:=Tryz.sizeOf4
 v4:=Tryz.zeroValue4
 t5:=Tryz.underlying5
 a5:=Tryz.isAgg5
 z5:=Tryz.sizeOf5
 v5:=Tryz.zeroValue5
 t9:=Tryz.underlying9
 a9:=Tryz.isAgg9
 z9:=Tryz.sizeOf9
 v9:=Tryz.zeroValue9
 t46:=Tryz.underlying152
 a46:=Tryz.isAgg152
 z46:=Tryz.sizeOf152
 v46:=Tryz.zeroValue152
 t53:=Tryz.underlying103
 a53:=Tryz.isAgg103
 z53:=Tryz.sizeOf103
 v53:=Tryz.zeroValue103
 t212:=Tryz.underlying262
 a212:=Tryz.isAgg262
 z212:=Tryz.sizeOf262
 v212:=Tryz.zeroValue262
 g17:=by kernel_rfl
 i0:=by kernel_rfl
 i3:=by kernel_rfl
 i4:=by kernel_rfl
 i5:=by kernel_rfl
 i9:=by kernel_rfl
 i46:=by kernel_rfl
 i53:=by kernel_rfl
 i212:=by kernel_rfl
 m17:=by kernel_rfl }
open Go.Lib in
theorem Tryz.internal_strconv_numDigits (u:Nat) (h1:1≤u) (h2:u < 18446744073709551616) (w:World) (htab:Lib.TabIs Tryz.prog w "internal/strconv.uint64pow10" .u64 Lib.pow10Tab) :
 Calls Tryz.prog 171 #[.int .u64 u] w fun e w'=>e = .returned (.int .i64 (Lib.nDigits u))∧w'=w:=Any.internal_strconv_numDigits Tryz.laysM284 u h1 h2 w htab
def Tryz.lays285_ren:Go.Shelf.Ren:=⟨fun | 285=>172 | n=>n,fun | 37=>69 | 53=>103 | 3=>3 | 4=>4 | 51=>234 | 9=>9 | 5=>5 | 0=>0 | n=>n,fun | n=>n⟩
theorem Tryz.lays285:Go.Proofs.Lays.n285 Tryz.prog Tryz.lays285_ren:= by constructor <;> first | kernel_rfl | (intro _; kernel_rfl)
open Go.RowKit Go.Sort Go.Lib in
theorem Tryz.internal_strconv_formatBase10 (blk off cap:Nat) (u:Nat) (d:Array UInt8) (w:World) (hH:Holds (fun (b:UInt8)=>Value.int .u8 (b.toNat:Int)) w blk off d) (hu:u < 10 ^ d.size) (hu64:u < 18446744073709551616) (hsz:d.size < 4611686018427387904) :
 Calls Tryz.prog 172 #[.slice (some ⟨blk,off,none⟩) d.size cap,.int .u64 u] w fun e w'=>
  e = .returned (.tuple #[])∧∃ (n v':Nat) (dk:Array UInt8),w'=(putRow (fun (b:UInt8)=>Value.int .u8 (b.toNat:Int)) w blk off dk).drewN n∧FmtInv d.size u 0 v' dk:=Any.internal_strconv_formatBase10 Tryz.lays285 blk off cap u d w hH hu hu64 hsz
def Tryz.laysM171_ren:Go.Shelf.Ren:=⟨fun | 171=>43 | 243=>82 | 246=>128 | 283=>170 | 284=>171 | 285=>172 | 286=>173 | 129=>204 | 317=>203 | 318=>205 | 319=>206 | 320=>207 | 337=>221 | 338=>222 | n=>n,fun | 3=>3 | 9=>9 | 2=>2 | 4=>4 | 171=>225 | 0=>0 | 53=>103 | 37=>69 | 5=>5 | 173=>228 | 212=>262 | 51=>234 | 20=>20 | 213=>263 | 46=>152 | 232=>296 | 233=>297 | n=>n,fun | 17=>0 | 18=>6 | 19=>7 | n=>n⟩
theorem Tryz.laysM171:Go.Proofs.LaysM.n171 Tryz.prog Tryz.laysM171_ren:={
 mixed:=by kernel_rfl
 f129:=Tryz.func204.trans (congrArg some (by kernel_rfl))
 f171:=Tryz.func43.trans (congrArg some (by kernel_rfl))
 f243:=Tryz.func82.trans (congrArg some (by kernel_rfl))
 f246:=Tryz.func128.trans (congrArg some (by kernel_rfl))
 f283:=Tryz.func170.trans (congrArg some (by kernel_rfl))
 f284:=Tryz.func171.trans (congrArg some (by kernel_rfl))
 f285:=Tryz.func172.trans (congrArg some (by kernel_rfl))
 f286:=Tryz.func173.trans (congrArg some (by kernel_rfl))
 f317:=Tryz.func203.trans (congrArg some (by kernel_rfl))
 f318:=Tryz.func205.trans (congrArg some (by kernel_rfl))
 f319:=Tryz.func206.trans (congrArg some (by kernel_rfl))
 f320:=Tryz.func207.trans (congrArg some (by kernel_rfl))
 f337:=Tryz.func221.trans (congrArg some (by kernel_rfl))
 f338:=Tryz.func222.trans (congrArg some (by kernel_rfl))
 t0:=Tryz.underlying0
 a0:=Tryz.isAgg0
 z0:=Tryz.sizeOf0
 v0:=Tryz.zeroValue0
 t2:=Tryz.underlying2
 a2:=Tryz.isAgg2
 z2:=Tryz.sizeOf2
 v2:=Tryz.zeroValue2
 t3:=Tryz.underlying3
 a3:=Tryz.isAgg3
 z3:=Tryz.sizeOf3
 v3:=Tryz.zeroValue3
 t4:=Tryz.underlying4
 a4:=Tryz.isAgg4
 z4:=Tryz.sizeOf4
 v4:=Tryz.zeroValue4
 t5:=Tryz.underlying5
 a5:=Tryz.isAgg5
 z5:=Tryz.sizeOf5
 v5:=Tryz.zeroValue5
 t9:=Tryz.underlying9
 a9:=Tryz.isAgg9
 z9:=Tryz.sizeOf9
 v9:=Tryz.zeroValue9
 t20:=Tryz.underlying20
 a20:=Tryz.isAgg20
 z20:=Tryz.sizeOf20
 v20:=Tryz.zeroValue20
 t37:=Tryz.underlying69
 a37:=Tryz.isAgg69
 z37:=Tryz.sizeOf69
 v37:=Tryz.zeroValue69
 t46:=Tryz.underlying152
 a46:=Tryz.isAgg152
 z46:=Tryz.sizeOf152
 v46:=Tryz.zeroValue152
 t51:=Tryz.underlying234
 a51:=Tryz.isAgg234
 z51:=Tryz.sizeOf234
 v51:=Tryz.zeroValue234
 t53:=Tryz.underlying103
 a53:=Tryz.isAgg103
 z53:=Tryz.sizeOf103
 v53:=Tryz.zeroValue103
 t171:=Tryz.underlying225
 a171:=Tryz.isAgg225
 z171:=Tryz.sizeOf225
 v171:=Tryz.zeroValue225
 t173:=Tryz.underlying228
 a173:=Tryz.isAgg228
 z173:=Tryz.sizeOf228
 v173:=Tryz.zeroValue228
 t212:=Tryz.underlying262
 a212:=Tryz.isAgg262
 z212:=Tryz.sizeOf262
 v212:=Tryz.zeroValue262
 t213:=Tryz.underlying263
 a213:=Tryz.isAgg263
 z213:=Tryz.sizeOf263
 t232:=Tryz.underlying296
 a232:=Tryz.isAgg296
 z232:=Tryz.sizeOf296
 v232:=Tryz.zeroValue296
 t233:=Tryz.underlying297
 a233:=Tryz.isAgg297
 z233:=Tryz.sizeOf297
 v233:=Tryz.zeroValue297
 g17:=by kernel_rfl
 g18:=by kernel_rfl
 g19:=by kernel_rfl
 i0:=by kernel_rfl
 i2:=by kernel_rfl
 i3:=by kernel_rfl
 i4:=by kernel_rfl
 i5:=by kernel_rfl
 i9:=by kernel_rfl
 i20:=by kernel_rfl
 i37:=by kernel_rfl
 i46:=by kernel_rfl
 i51:=by kernel_rfl
 i53:=by kernel_rfl
 i171:=by kernel_rfl
 i173:=by kernel_rfl
 i212:=by kernel_rfl
 i232:=by kernel_rfl
 i233:=by kernel_rfl
 m17:=by kernel_rfl
 m18:=by kernel_rfl
 m19:=by kernel_rfl }
open Go.RowKit Go.Sort Go.Lib in
theorem Tryz.strconv_Itoa (n:Int) (h0 : -9223372036854775808≤n) (h1:n≤9223372036854775807) (w:World) (htab:Lib.TabIs Tryz.prog w "internal/strconv.uint64pow10" .u64 Lib.pow10Tab) :
 Calls Tryz.prog 43 #[.int .i64 n] w fun e w'=>e = .returned (.string ⟨(Lib.itoa n).toArray⟩)∧∃ k os,w'=grow (w.drewN k) os:=Any.strconv_Itoa Tryz.laysM171 n h0 h1 w htab
def Tryz.laysC172_ren:Go.Shelf.Ren:=⟨fun | 172=>90 | 244=>142 | 245=>143 | 247=>184 | 279=>185 | 280=>186 | 281=>187 | 282=>188 | 287=>214 | 316=>215 | 171=>43 | 205=>216 | 321=>225 | 322=>226 | 243=>82 | 246=>128 | 283=>170 | 284=>171 | 285=>172 | 286=>173 | 129=>204 | 317=>203 | 318=>205 | 319=>206 | 320=>207 | 337=>221 | 338=>222 | n=>n,fun | 9=>9 | 3=>3 | 75=>120 | 76=>121 | 4=>4 | 5=>5 | 167=>240 | 37=>69 | 0=>0 | 85=>241 | 2=>2 | 168=>243 | 53=>103 | 175=>246 | 46=>152 | 210=>268 | 127=>165 | 145=>288 | 143=>286 | 21=>21 | 171=>225 | 173=>228 | 212=>262 | 51=>234 | 20=>20 | 213=>263 | 232=>296 | 233=>297 | 80=>114 | n=>n,fun | 15=>2 | 16=>3 | 17=>0 | 18=>6 | 19=>7 | n=>n⟩
theorem Tryz.laysC172:Go.Proofs.LaysC.n172 Tryz.prog Tryz.laysC172_ren:={
 mixed:=by kernel_rfl
 f129:=Tryz.func204.trans (congrArg some (by kernel_rfl))
 f171:=Tryz.func43.trans (congrArg some (by kernel_rfl))
 f172:=Tryz.func90.trans (congrArg some (by kernel_rfl))
 f205:=Tryz.func216.trans (congrArg some (by kernel_rfl))
 f243:=Tryz.func82.trans (congrArg some (by kernel_rfl))
 f244:=Tryz.func142.trans (congrArg some (by kernel_rfl))
 f245:=Tryz.func143.trans (congrArg some (by kernel_rfl))
 f246:=Tryz.func128.trans (congrArg some (by kernel_rfl))
 f247:=Tryz.func184.trans (congrArg some (by kernel_rfl))
 f279:=Tryz.func185.trans (congrArg some (by kernel_rfl))
 f280:=Tryz.func186.trans (congrArg some (by kernel_rfl))
 f281:=Tryz.func187.trans (congrArg some (by kernel_rfl))
 f282:=Tryz.func188.trans (congrArg some (by kernel_rfl))
 f283:=Tryz.func170.trans (congrArg some (by kernel_rfl))
 f284:=Tryz.func171.trans (congrArg some (by kernel_rfl))
 f285:=Tryz.func172.trans (congrArg some (by kernel_rfl))
 f286:=Tryz.func173.trans (congrArg some (by kernel_rfl))
 f287:=Tryz.func214.trans (congrArg some (by kernel_rfl))
 f316:=Tryz.func215.trans (congrArg some (by kernel_rfl))
 f317:=Tryz.func203.trans (congrArg some (by kernel_rfl))
 f318:=Tryz.func205.trans (congrArg some (by kernel_rfl))
 f319:=Tryz.func206.trans (congrArg some (by kernel_rfl))
 f320:=Tryz.func207.trans (congrArg some (by kernel_rfl))
 f321:=Tryz.func225.trans (congrArg some (by kernel_rfl))
 f322:=Tryz.func226.trans (congrArg some (by kernel_rfl))
 f337:=Tryz.func221.trans (congrArg some (by kernel_rfl))
 f338:=Tryz.func222.trans (congrArg some (by kernel_rfl))
 t0:=Tryz.underlying0
 a0:=Tryz.isAgg0
 z0:=Tryz.sizeOf0
 v0:=Tryz.zeroValue0
 t2:=Tryz.underlying2
 a2:=Tryz.isAgg2
 z2:=Tryz.sizeOf2
 v2:=Tryz.zeroValue2
 t3:=Tryz.underlying3
 a3:=Tryz.isAgg3
 z3:=Tryz.sizeOf3
 v3:=Tryz.zeroValue3
 t4:=Tryz.underlying4
 a4:=Tryz.isAgg4
 z4:=Tryz.sizeOf4
 v4:=Tryz.zeroValue4
 t5:=Tryz.underlying5
 a5:=Tryz.isAgg5
 z5:=Tryz.sizeOf5
 v5:=Tryz.zeroValue5
 t9:=Tryz.underlying9
 a9:=Tryz.isAgg9
 z9:=Tryz.sizeOf9
 v9:=Tryz.zeroValue9
 t20:=Tryz.underlying20
 a20:=Tryz.isAgg20
 z20:=Tryz.sizeOf20
 v20:=Tryz.zeroValue20
 t21:=Tryz.underlying21
 a21:=Tryz.isAgg21
 z21:=Tryz.sizeOf21
 v21:=Tryz.zeroValue21
 t37:=Tryz.underlying69
 a37:=Tryz.isAgg69
 z37:=Tryz.sizeOf69
 v37:=Tryz.zeroValue69
 t46:=Tryz.underlying152
 a46:=Tryz.isAgg152
 z46:=Tryz.sizeOf152
 v46:=Tryz.zeroValue152
 t51:=Tryz.underlying234
 a51:=Tryz.isAgg234
 z51:=Tryz.sizeOf234
 v51:=Tryz.zeroValue234
 t53:=Tryz.underlying103
 a53:=Tryz.isAgg103
 z53:=Tryz.sizeOf103
 v53:=Tryz.zeroValue103
 t75:=Tryz.underlying120
 a75:=Tryz.isAgg120
 z75:=Tryz.sizeOf120
 v75:=Tryz.zeroValue120
 t76:=Tryz.underlying121
 a76:=Tryz.isAgg121
 z76:=Tryz.sizeOf121
 v76:=Tryz.zeroValue121
 t85:=Tryz.underlying241
 a85:=Tryz.isAgg241
 z85:=Tryz.sizeOf241
 v85:=Tryz.zeroValue241
 t127:=Tryz.underlying165
 a127:=Tryz.isAgg165
 z127:=Tryz.sizeOf165
 v127:=Tryz.zeroValue165
 t143:=Tryz.underlying286
 a143:=Tryz.isAgg286
 z143:=Tryz.sizeOf286
 v143:=Tryz.zeroValue286
 t145:=Tryz.underlying288
 a145:=Tryz.isAgg288
 z145:=Tryz.sizeOf288
 v145:=Tryz.zeroValue288
 t167:=Tryz.underlying240
 a167:=Tryz.isAgg240
 z167:=Tryz.sizeOf240
 v167:=Tryz.zeroValue240
 t168:=Tryz.underlying243
 a168:=Tryz.isAgg243
 z168:=Tryz.sizeOf243
 v168:=Tryz.zeroValue243
 t171:=Tryz.underlying225
 a171:=Tryz.isAgg225
 z171:=Tryz.sizeOf225
 v171:=Tryz.zeroValue225
 t173:=Tryz.underlying228
 a173:=Tryz.isAgg228
 z173:=Tryz.sizeOf228
 v173:=Tryz.zeroValue228
 t175:=Tryz.underlying246
 a175:=Tryz.isAgg246
 z175:=Tryz.sizeOf246
 v175:=Tryz.zeroValue246
 t210:=Tryz.underlying268
 a210:=Tryz.isAgg268
 z210:=Tryz.sizeOf268
 v210:=Tryz.zeroValue268
 t212:=Tryz.underlying262
 a212:=Tryz.isAgg262
 z212:=Tryz.sizeOf262
 v212:=Tryz.zeroValue262
 t213:=Tryz.underlying263
 a213:=Tryz.isAgg263
 z213:=Tryz.sizeOf263
 t232:=Tryz.underlying296
 a232:=Tryz.isAgg296
 z232:=Tryz.sizeOf296
 v232:=Tryz.zeroValue296
 t233:=Tryz.underlying297
 a233:=Tryz.isAgg297
 z233:=Tryz.sizeOf297
 v233:=Tryz.zeroValue297
 g15:=by kernel_rfl
 g16:=by kernel_rfl
 g17:=by kernel_rfl
 g18:=by kernel_rfl
 g19:=by kernel_rfl
 t80:=Tryz.underlying114
 a80:=Tryz.isAgg114
 z80:=Tryz.sizeOf114
 v80:=Tryz.zeroValue114
 i0:=by kernel_rfl
 i2:=by kernel_rfl
 i3:=by kernel_rfl
 i4:=by kernel_rfl
 i5:=by kernel_rfl
 i9:=by kernel_rfl
 i20:=by kernel_rfl
 i21:=by kernel_rfl
 i37:=by kernel_rfl
 i46:=by kernel_rfl
 i51:=by kernel_rfl
 i53:=by kernel_rfl
 i75:=by kernel_rfl
 i76:=by kernel_rfl
 i80:=by kernel_rfl
 i85:=by kernel_rfl
 i127:=by kernel_rfl
 i143:=by kernel_rfl
 i145:=by kernel_rfl
 i167:=by kernel_rfl
 i168:=by kernel_rfl
 i171:=by kernel_rfl
 i173:=by kernel_rfl
 i175:=by kernel_rfl
 i210:=by kernel_rfl
 i212:=by kernel_rfl
 i232:=by kernel_rfl
 i233:=by kernel_rfl
 m15:=by kernel_rfl
 m16:=by kernel_rfl
 m17:=by kernel_rfl
 m18:=by kernel_rfl
 m19:=by kernel_rfl
 c0:=by kernel_rfl
 c2:=by kernel_rfl
 c3:=by kernel_rfl
 c4:=by kernel_rfl
 c5:=by kernel_rfl
 c9:=by kernel_rfl
 c20:=by kernel_rfl
 c21:=by kernel_rfl
 c37:=by kernel_rfl
 c46:=by kernel_rfl
 c51:=by kernel_rfl
 c53:=by kernel_rfl
 c75:=by kernel_rfl
 c76:=by kernel_rfl
 c80:=by kernel_rfl
 c85:=by kernel_rfl
 c127:=by kernel_rfl
 c143:=by kernel_rfl
 c145:=by kernel_rfl
 c167:=by kernel_rfl
 c168:=by kernel_rfl
 c171:=by kernel_rfl
 c173:=by kernel_rfl
 c175:=by kernel_rfl
 c210:=by kernel_rfl
 c212:=by kernel_rfl
 c213:=by kernel_rfl
 c232:=by kernel_rfl
 c233:=by kernel_rfl }
open Go.RowKit in
theorem Tryz.strconv_Atoi_ok (s:BA) (hmax:s.size≤9223372036854775806) (v:Int) (h:Lib.atoiAll s.data.toList = .ok v) (w:World) :
 Calls Tryz.prog 90 #[.string s] w fun e w'=>e = .returned (.tuple #[.int .i64 v,.nilIface])∧(w'=w∨∃ t,w'=Lib.bytesWorld w 5 t):=Any.strconv_Atoi_ok Tryz.laysC172 s hmax v h w
open Go.RowKit in
theorem Tryz.strconv_Atoi_syntax (s:BA) (hlim:s.size≤281474976710656) (h:Lib.atoiAll s.data.toList=Lib.NumEnd.syntax) (ev:Value) (w:World) (hv:w.cell? ⟨2,0,none⟩=some ev) (hev:ev = .nilIface∨∃ te pe,ev = .iface te pe) :
 Calls Tryz.prog 90 #[.string s] w fun e w'=>∃ N,e = .returned (.tuple #[.int .i64 (0),.iface 243 (.pointer (some ⟨N,0,none⟩))])∧w.heap.size≤N∧w'.heap[N]?=some (.cells #[.string ⟨#[65,116,111,105]⟩,.string s,ev] 268 (0,0))∧Below w.heap.size w w':=Any.strconv_Atoi_syntax Tryz.laysC172 s hlim h ev w hv hev
open Go.RowKit in
theorem Tryz.strconv_Atoi_range (s:BA) (hlim:s.size≤281474976710656) (h:Lib.atoiAll s.data.toList = .range) (ev:Value) (w:World) (hv:w.cell? ⟨3,0,none⟩=some ev) (hev:ev = .nilIface∨∃ te pe,ev = .iface te pe) :
 Calls Tryz.prog 90 #[.string s] w fun e w'=>∃ N,e = .returned (.tuple #[.int .i64 (Lib.atoiSat s.data.toList),.iface 243 (.pointer (some ⟨N,0,none⟩))])∧w.heap.size≤N∧w'.heap[N]?=some (.cells #[.string ⟨#[65,116,111,105]⟩,.string s,ev] 268 (0,0))∧Below w.heap.size w w':=Any.strconv_Atoi_range Tryz.laysC172 s hlim h ev w hv hev
def Tryz.laysPu14_ren:Go.Shelf.Ren:=⟨fun | 14=>189 | 16=>214 | 17=>143 | 19=>225 | 20=>226 | 21=>185 | 22=>186 | 23=>187 | 24=>188 | 25=>215 | 27=>43 | 26=>216 | 28=>82 | 29=>128 | 30=>170 | 31=>171 | 32=>172 | 33=>173 | 35=>204 | 34=>203 | 36=>205 | 37=>206 | 38=>207 | 39=>221 | 40=>222 | n=>n,fun | 9=>9 | 3=>3 | 22=>103 | 24=>120 | 25=>246 | 4=>4 | 34=>240 | 5=>5 | 36=>152 | 37=>69 | 0=>0 | 39=>243 | 21=>21 | 44=>268 | 47=>165 | 50=>288 | 48=>286 | 2=>2 | 52=>225 | 55=>228 | 59=>262 | 60=>234 | 20=>20 | 61=>263 | 65=>296 | 66=>297 | 67=>114 | n=>n,fun | 0=>2 | 1=>3 | 2=>0 | 3=>6 | 4=>7 | n=>n⟩
theorem Tryz.laysPu14:Go.Proofs.LaysPu.n14 Tryz.prog Tryz.laysPu14_ren:={
 mixed:=by kernel_rfl
 f14:=Tryz.func189.trans (congrArg some (by kernel_rfl))
 f16:=Tryz.func214.trans (congrArg some (by kernel_rfl))
 f17:=Tryz.func143.trans (congrArg some (by kernel_rfl))
 f19:=Tryz.func225.trans (congrArg some (by kernel_rfl))
 f20:=Tryz.func226.trans (congrArg some (by kernel_rfl))
 f21:=Tryz.func185.trans (congrArg some (by kernel_rfl))
 f22:=Tryz.func186.trans (congrArg some (by kernel_rfl))
 f23:=Tryz.func187.trans (congrArg some (by kernel_rfl))
 f24:=Tryz.func188.trans (congrArg some (by kernel_rfl))
 f25:=Tryz.func215.trans (congrArg some (by kernel_rfl))
 f26:=Tryz.func216.trans (congrArg some (by kernel_rfl))
 f27:=Tryz.func43.trans (congrArg some (by kernel_rfl))
 f28:=Tryz.func82.trans (congrArg some (by kernel_rfl))
 f29:=Tryz.func128.trans (congrArg some (by kernel_rfl))
 f30:=Tryz.func170.trans (congrArg some (by kernel_rfl))
 f31:=Tryz.func171.trans (congrArg some (by kernel_rfl))
 f32:=Tryz.func172.trans (congrArg some (by kernel_rfl))
 f33:=Tryz.func173.trans (congrArg some (by kernel_rfl))
 f34:=Tryz.func203.trans (congrArg some (by kernel_rfl))
 f35:=Tryz.func204.trans (congrArg some (by kernel_rfl))
 f36:=Tryz.func205.trans (congrArg some (by kernel_rfl))
 f37:=Tryz.func206.trans (congrArg some (by kernel_rfl))
 f38:=Tryz.func207.trans (congrArg some (by kernel_rfl))
 f39:=Tryz.func221.trans (congrArg some (by kernel_rfl))
 f40:=Tryz.func222.trans (congrArg some (by kernel_rfl))
 t0:=Tryz.underlying0
 a0:=Tryz.isAgg0
 z0:=Tryz.sizeOf0
 v0:=Tryz.zeroValue0
 i0:=by kernel_rfl
 t2:=Tryz.underlying2
 a2:=Tryz.isAgg2
 z2:=Tryz.sizeOf2
 v2:=Tryz.zeroValue2
 i2:=by kernel_rfl
 t3:=Tryz.underlying3
 a3:=Tryz.isAgg3
 z3:=Tryz.sizeOf3
 v3:=Tryz.zeroValue3
 i3:=by kernel_rfl
 t4:=Tryz.underlying4
 a4:=Tryz.isAgg4
 z4:=Tryz.sizeOf4
 v4:=Tryz.zeroValue4
 i4:=by kernel_rfl
 t5:=Tryz.underlying5
 a5:=Tryz.isAgg5
 z5:=Tryz.sizeOf5
 v5:=Tryz.zeroValue5
 i5:=by kernel_rfl
 t9:=Tryz.underlying9
 a9:=Tryz.isAgg9
 z9:=Tryz.sizeOf9
 v9:=Tryz.zeroValue9
 i9:=by kernel_rfl
 t20:=Tryz.underlying20
 a20:=Tryz.isAgg20
 z20:=Tryz.sizeOf20
 v20:=Tryz.zeroValue20
 i20:=by kernel_rfl
 t21:=Tryz.underlying21
 a21:=Tryz.isAgg21
 z21:=Tryz.sizeOf21
 v21:=Tryz.zeroValue21
 i21:=by kernel_rfl
 t22:=Tryz.underlying103
 a22:=Tryz.isAgg103
 z22:=Tryz.sizeOf103
 v22:=Tryz.zeroValue103
 i22:=by kernel_rfl
 t24:=Tryz.underlying120
 a24:=Tryz.isAgg120
 z24:=Tryz.sizeOf120
 v24:=Tryz.zeroValue120
 i24:=by kernel_rfl
 t25:=Tryz.underlying246
 a25:=Tryz.isAgg246
 z25:=Tryz.sizeOf246
 v25:=Tryz.zeroValue246
 i25:=by kernel_rfl
 t34:=Tryz.underlying240
 a34:=Tryz.isAgg240
 z34:=Tryz.sizeOf240
 v34:=Tryz.zeroValue240
 i34:=by kernel_rfl
 c34:=by kernel_rfl
 t36:=Tryz.underlying152
 a36:=Tryz.isAgg152
 z36:=Tryz.sizeOf152
 v36:=Tryz.zeroValue152
 i36:=by kernel_rfl
 t37:=Tryz.underlying69
 a37:=Tryz.isAgg69
 z37:=Tryz.sizeOf69
 v37:=Tryz.zeroValue69
 i37:=by kernel_rfl
 t39:=Tryz.underlying243
 a39:=Tryz.isAgg243
 z39:=Tryz.sizeOf243
 v39:=Tryz.zeroValue243
 i39:=by kernel_rfl
 t44:=Tryz.underlying268
 a44:=Tryz.isAgg268
 z44:=Tryz.sizeOf268
 v44:=Tryz.zeroValue268
 i44:=by kernel_rfl
 t47:=Tryz.underlying165
 a47:=Tryz.isAgg165
 z47:=Tryz.sizeOf165
 v47:=Tryz.zeroValue165
 i47:=by kernel_rfl
 t48:=Tryz.underlying286
 a48:=Tryz.isAgg286
 z48:=Tryz.sizeOf286
 v48:=Tryz.zeroValue286
 i48:=by kernel_rfl
 t50:=Tryz.underlying288
 a50:=Tryz.isAgg288
 z50:=Tryz.sizeOf288
 v50:=Tryz.zeroValue288
 i50:=by kernel_rfl
 t52:=Tryz.underlying225
 a52:=Tryz.isAgg225
 z52:=Tryz.sizeOf225
 v52:=Tryz.zeroValue225
 i52:=by kernel_rfl
 t55:=Tryz.underlying228
 a55:=Tryz.isAgg228
 z55:=Tryz.sizeOf228
 v55:=Tryz.zeroValue228
 i55:=by kernel_rfl
 t59:=Tryz.underlying262
 a59:=Tryz.isAgg262
 z59:=Tryz.sizeOf262
 v59:=Tryz.zeroValue262
 i59:=by kernel_rfl
 t60:=Tryz.underlying234
 a60:=Tryz.isAgg234
 z60:=Tryz.sizeOf234
 v60:=Tryz.zeroValue234
 i60:=by kernel_rfl
 t61:=Tryz.underlying263
 a61:=Tryz.isAgg263
 z61:=Tryz.sizeOf263
 t65:=Tryz.underlying296
 a65:=Tryz.isAgg296
 z65:=Tryz.sizeOf296
 v65:=Tryz.zeroValue296
 i65:=by kernel_rfl
 t66:=Tryz.underlying297
 a66:=Tryz.isAgg297
 z66:=Tryz.sizeOf297
 v66:=Tryz.zeroValue297
 i66:=by kernel_rfl
 t67:=Tryz.underlying114
 a67:=Tryz.isAgg114
 z67:=Tryz.sizeOf114
 v67:=Tryz.zeroValue114
 i67:=by kernel_rfl
 g0:=by kernel_rfl
 m0:=by kernel_rfl
 g1:=by kernel_rfl
 m1:=by kernel_rfl
 g2:=by kernel_rfl
 m2:=by kernel_rfl
 g3:=by kernel_rfl
 m3:=by kernel_rfl
 g4:=by kernel_rfl
 m4:=by kernel_rfl }
open Go.RowKit in
theorem Tryz.strconv_ParseUint_10_at64_ok (s:BA) (hmax:s.size≤9223372036854775806) (u:Nat) (h:Lib.parseUintB 64 s.data.toList = .ok u) (w:World) :
 Calls Tryz.prog 189 #[.string s,.int .i64 10,.int .i64 64] w fun e w'=>e = .returned (.tuple #[.int .u64 u,.nilIface])∧(w'=w∨w'=Lib.bytesWorld w 5 s):=Any.strconv_ParseUint_10_at64_ok Tryz.laysPu14 s hmax u h w
open Go.RowKit in
theorem Tryz.strconv_ParseUint_10_at64_syntax (s:BA) (hlim:s.size≤281474976710656) (h:Lib.parseUintB 64 s.data.toList=Lib.NumEnd.syntax) (ev:Value) (w:World) (hv:w.cell? ⟨2,0,none⟩=some ev) (hev:ev = .nilIface∨∃ te pe,ev = .iface te pe) :
 Calls Tryz.prog 189 #[.string s,.int .i64 10,.int .i64 64] w fun e w'=>∃ N,e = .returned (.tuple #[.int .u64 0,.iface 243 (.pointer (some ⟨N,0,none⟩))])∧w.heap.size≤N∧w'.heap[N]?=some (.cells #[.string ⟨#[80,97,114,115,101,85,105,110,116]⟩,.string s,ev] 268 (0,0))∧Below w.heap.size w w':=Any.strconv_ParseUint_10_at64_syntax Tryz.laysPu14 s hlim h ev w hv hev
open Go.RowKit in
theorem Tryz.strconv_ParseUint_10_at64_range (s:BA) (hlim:s.size≤281474976710656) (h:Lib.parseUintB 64 s.data.toList = .range) (ev:Value) (w:World) (hv:w.cell? ⟨3,0,none⟩=some ev) (hev:ev = .nilIface∨∃ te pe,ev = .iface te pe) :
 Calls Tryz.prog 189 #[.string s,.int .i64 10,.int .i64 64] w fun e w'=>∃ N,e = .returned (.tuple #[.int .u64 18446744073709551615,.iface 243 (.pointer (some ⟨N,0,none⟩))])∧w.heap.size≤N∧w'.heap[N]?=some (.cells #[.string ⟨#[80,97,114,115,101,85,105,110,116]⟩,.string s,ev] 268 (0,0))∧Below w.heap.size w w':=Any.strconv_ParseUint_10_at64_range Tryz.laysPu14 s hlim h ev w hv hev
def Tryz.lays145_ren:Go.Shelf.Ren:=⟨fun | 145=>104 | 220=>154 | 219=>183 | 217=>152 | 225=>211 | 224=>212 | 267=>213 | 266=>191 | 314=>224 | n=>n,fun | 9=>9 | 4=>4 | 59=>117 | 3=>3 | 5=>5 | 46=>152 | 146=>235 | 51=>234 | n=>n,fun | 1=>1 | n=>n⟩
theorem Tryz.lays145:Go.Proofs.Lays.n145 Tryz.prog Tryz.lays145_ren:={
 mixed:=by kernel_rfl
 f145:=Tryz.func104.trans (congrArg some (by kernel_rfl))
 f217:=Tryz.func152.trans (congrArg some (by kernel_rfl))
 f219:=Tryz.func183.trans (congrArg some (by kernel_rfl))
 f220:=Tryz.func154.trans (congrArg some (by kernel_rfl))
 f224:=Tryz.func212.trans (congrArg some (by kernel_rfl))
 f225:=Tryz.func211.trans (congrArg some (by kernel_rfl))
 f266:=Tryz.func191.trans (congrArg some (by kernel_rfl))
 f267:=Tryz.func213.trans (congrArg some (by kernel_rfl))
 f314:=Tryz.func224.trans (congrArg some (by kernel_rfl))
 t3:=Tryz.underlying3
 a3:=Tryz.isAgg3
 z3:=Tryz.sizeOf3
 v3:=Tryz.zeroValue3
 t4:=Tryz.underlying4
 a4:=Tryz.isAgg4
 z4:=Tryz.sizeOf4
 v4:=Tryz.zeroValue4
 t5:=Tryz.underlying5
 a5:=Tryz.isAgg5
 z5:=Tryz.sizeOf5
 v5:=Tryz.zeroValue5
 t9:=Tryz.underlying9
 a9:=Tryz.isAgg9
 z9:=Tryz.sizeOf9
 v9:=Tryz.zeroValue9
 t46:=Tryz.underlying152
 a46:=Tryz.isAgg152
 z46:=Tryz.sizeOf152
 v46:=Tryz.zeroValue152
 t51:=Tryz.underlying234
 a51:=Tryz.isAgg234
 z51:=Tryz.sizeOf234
 v51:=Tryz.zeroValue234
 t59:=Tryz.underlying117
 a59:=Tryz.isAgg117
 z59:=Tryz.sizeOf117
 v59:=Tryz.zeroValue117
 t146:=Tryz.underlying235
 a146:=Tryz.isAgg235
 z146:=Tryz.sizeOf235
 v146:=Tryz.zeroValue235
 g1:=by kernel_rfl }
open Go.RowKit Go.Lib in
theorem Tryz.strings_Cut (s sep:BA) (m:Int) (w:World) (hs:s.size < 4294967281) (hm:w.cell? ⟨1,0,none⟩=some (.int .i64 m)) :
 Calls Tryz.prog 104 #[.string s,.string sep] w fun e w'=>e = .returned (.tuple #[.string ⟨(Lib.cut s.data.toList sep.data.toList).1.toArray⟩,.string ⟨(Lib.cut s.data.toList sep.data.toList).2.1.toArray⟩,.bool (Lib.cut s.data.toList sep.data.toList).2.2])∧∃ n,w'=w.drewN n:=Any.strings_Cut Tryz.lays145 s sep m w hs hm
def Tryz.lays189_ren:Go.Shelf.Ren:=⟨fun | 189=>201 | 125=>220 | 257=>219 | 128=>236 | 129=>204 | 294=>227 | 295=>228 | 296=>229 | 297=>230 | 298=>231 | 299=>232 | 216=>233 | 300=>234 | 301=>235 | 328=>237 | 329=>238 | 330=>239 | 331=>240 | 332=>241 | 215=>242 | 343=>243 | n=>n,fun | 28=>22 | 3=>3 | 46=>152 | 0=>0 | 51=>234 | 53=>103 | 4=>4 | 183=>291 | 182=>290 | 131=>144 | 5=>5 | 9=>9 | 218=>298 | 222=>301 | 228=>303 | 229=>174 | n=>n,fun | n=>n⟩
theorem Tryz.lays189:Go.Proofs.Lays.n189 Tryz.prog Tryz.lays189_ren:= by constructor <;> first | kernel_rfl | (intro _; kernel_rfl)
open Go.Sort Go.RowKit in
theorem Tryz.slices_Sort_int (blk off cap:Nat) (zs:List Int) (w:World) (hH:Holds (Value.int .i64) w blk off zs.toArray) (hblk:blk < w.heap.size) (hsz:zs.length < 4611686018427387904) :
 Calls Tryz.prog 201 #[.slice (some ⟨blk,off,none⟩) zs.length cap] w fun e w'=>
  e = .returned (.tuple #[])∧∃ n os,w'=grow (putRow (Value.int .i64) (Sort.ahead w n) blk off (zs.mergeSort fun x y=>decide (x≤y)).toArray) os:=Any.slices_Sort_int Tryz.lays189 blk off cap zs w hH hblk hsz
def Tryz.lays146_ren:Go.Shelf.Ren:=⟨fun | 146=>46 | 221=>88 | 268=>138 | 138=>139 | 143=>140 | 195=>180 | 197=>181 | 218=>182 | 219=>183 | 260=>210 | 217=>152 | 225=>211 | 224=>212 | 267=>213 | 266=>191 | 314=>224 | n=>n,fun | 9=>9 | 31=>66 | 3=>3 | 4=>4 | 0=>0 | 105=>231 | 21=>21 | 5=>5 | 46=>152 | 119=>279 | 139=>282 | 138=>281 | 146=>235 | 51=>234 | n=>n,fun | 1=>1 | 3=>4 | 4=>5 | n=>n⟩
theorem Tryz.lays146:Go.Proofs.Lays.n146 Tryz.prog Tryz.lays146_ren:={
 mixed:=by kernel_rfl
 f138:=Tryz.func139.trans (congrArg some (by kernel_rfl))
 f143:=Tryz.func140.trans (congrArg some (by kernel_rfl))
 f146:=Tryz.func46.trans (congrArg some (by kernel_rfl))
 f195:=Tryz.func180.trans (congrArg some (by kernel_rfl))
 f197:=Tryz.func181.trans (congrArg some (by kernel_rfl))
 f217:=Tryz.func152.trans (congrArg some (by kernel_rfl))
 f218:=Tryz.func182.trans (congrArg some (by kernel_rfl))
 f219:=Tryz.func183.trans (congrArg some (by kernel_rfl))
 f221:=Tryz.func88.trans (congrArg some (by kernel_rfl))
 f224:=Tryz.func212.trans (congrArg some (by kernel_rfl))
 f225:=Tryz.func211.trans (congrArg some (by kernel_rfl))
 f260:=Tryz.func210.trans (congrArg some (by kernel_rfl))
 f266:=Tryz.func191.trans (congrArg some (by kernel_rfl))
 f267:=Tryz.func213.trans (congrArg some (by kernel_rfl))
 f268:=Tryz.func138.trans (congrArg some (by kernel_rfl))
 f314:=Tryz.func224.trans (congrArg some (by kernel_rfl))
 t0:=Tryz.underlying0
 a0:=Tryz.isAgg0
 z0:=Tryz.sizeOf0
 v0:=Tryz.zeroValue0
 t3:=Tryz.underlying3
 a3:=Tryz.isAgg3
 z3:=Tryz.sizeOf3
 v3:=Tryz.zeroValue3
 t4:=Tryz.underlying4
 a4:=Tryz.isAgg4
 z4:=Tryz.sizeOf4
 v4:=Tryz.zeroValue4
 t5:=Tryz.underlying5
 a5:=Tryz.isAgg5
 z5:=Tryz.sizeOf5
 v5:=Tryz.zeroValue5
 t9:=Tryz.underlying9
 a9:=Tryz.isAgg9
 z9:=Tryz.sizeOf9
 v9:=Tryz.zeroValue9
 t21:=Tryz.underlying21
 a21:=Tryz.isAgg21
 z21:=Tryz.sizeOf21
 v21:=Tryz.zeroValue21
 t31:=Tryz.underlying66
 a31:=Tryz.isAgg66
 z31:=Tryz.sizeOf66
 v31:=Tryz.zeroValue66
 t46:=Tryz.underlying152
 a46:=Tryz.isAgg152
 z46:=Tryz.sizeOf152
 v46:=Tryz.zeroValue152
 t51:=Tryz.underlying234
 a51:=Tryz.isAgg234
 z51:=Tryz.sizeOf234
 v51:=Tryz.zeroValue234
 t105:=Tryz.underlying231
 a105:=Tryz.isAgg231
 z105:=Tryz.sizeOf231
 v105:=Tryz.zeroValue231
 t119:=Tryz.underlying279
 a119:=Tryz.isAgg279
 z119:=Tryz.sizeOf279
 t138:=Tryz.underlying281
 a138:=Tryz.isAgg281
 z138:=Tryz.sizeOf281
 v138:=Tryz.zeroValue281
 t139:=Tryz.underlying282
 a139:=Tryz.isAgg282
 z139:=Tryz.sizeOf282
 v139:=Tryz.zeroValue282
 t146:=Tryz.underlying235
 a146:=Tryz.isAgg235
 z146:=Tryz.sizeOf235
 v146:=Tryz.zeroValue235
 g1:=by kernel_rfl
 g3:=by kernel_rfl
 g4:=by kernel_rfl }
open Go.RowKit Go.Lib in
theorem Tryz.strings_Split (s sep:BA) (m:Int) (w:World) (hs:s.size < 4294967281) (hm:w.cell? ⟨1,0,none⟩=some (.int .i64 m)) (h1:1≤sep.size) :
 Calls Tryz.prog 46 #[.string s,.string sep] w fun e w'=>
  e = .returned (.slice (some ⟨w.heap.size,0,none⟩) (Lib.countB s sep+1) (Lib.countB s sep+1))∧w'=w.alloc (.cells ((Lib.splitB sep 0 (Lib.countB s sep) s).map Value.string).toArray 9):=Any.strings_Split Tryz.lays146 (by kernel_rfl) s sep m w hs hm h1
def Tryz.lays105_ren:Go.Shelf.Ren:=⟨fun | 105=>86 | 212=>134 | 99=>135 | 165=>87 | 166=>60 | 170=>136 | 169=>56 | 263=>177 | 264=>178 | 206=>151 | 240=>103 | 241=>137 | 276=>153 | 277=>179 | n=>n,fun | 9=>9 | 3=>3 | 4=>4 | 20=>20 | 0=>0 | 46=>152 | 109=>199 | 5=>5 | 72=>108 | 76=>121 | 51=>234 | 146=>235 | 53=>103 | 148=>237 | 70=>106 | 37=>69 | 75=>120 | 127=>165 | 164=>211 | 80=>114 | n=>n,fun | n=>n⟩
theorem Tryz.lays105:Go.Proofs.Lays.n105 Tryz.prog Tryz.lays105_ren:= by constructor <;> first | kernel_rfl | (intro _; kernel_rfl)
theorem Tryz.Builder_Extra_105:Builder.Extra Tryz.prog Tryz.lays105_ren:={
 sizeBuilder:=by kernel_rfl
 liesBuilder:=by kernel_rfl
 t5:=Tryz.underlying5
 a5:=Tryz.isAgg5
 z5:=Tryz.sizeOf5
 v5:=Tryz.zeroValue5
 infoByte:=by kernel_rfl
 cellsByte:=by kernel_rfl
 sizeByte:=by kernel_rfl
 neB5:=by decide }
open Go.RowKit Go.Lib in
theorem Tryz.strings_Repeat (s:BA) (c:Nat) (w:World) (hc:c≤9223372036854775807) (hlen:s.size*c≤140737488355328) :
 Calls Tryz.prog 86 #[.string s,.int .i64 c] w fun e w'=>e = .returned (.string ⟨(Lib.repeatL s.data.toList c).toArray⟩)∧Below w.heap.size w w':=Any.strings_Repeat Tryz.lays105 Tryz.Builder_Extra_105 s c w hc hlen
def Tryz.laysNm220_ren:Go.Shelf.Ren:=⟨fun | 20=>202 | n=>n,fun | 22=>22 | 3=>3 | 4=>4 | 0=>0 | n=>n,fun | n=>n⟩
theorem Tryz.laysNm220:Go.Proofs.Lays2.n20 Tryz.prog Tryz.laysNm220_ren:={
 mixed:=by kernel_rfl
 f20:=Tryz.func202.trans (congrArg some (by kernel_rfl))
 t0:=Tryz.underlying0
 a0:=Tryz.isAgg0
 z0:=Tryz.sizeOf0
 v0:=Tryz.zeroValue0
 t3:=Tryz.underlying3
 a3:=Tryz.isAgg3
 z3:=Tryz.sizeOf3
 v3:=Tryz.zeroValue3
 t4:=Tryz.underlying4
 a4:=Tryz.isAgg4
 z4:=Tryz.sizeOf4
 v4:=Tryz.zeroValue4
 t22:=Tryz.underlying22
 a22:=Tryz.isAgg22
 z22:=Tryz.sizeOf22
 v22:=Tryz.zeroValue22
 i3:=by kernel_rfl }
open Go.RowKit Go.Lib Go.Sort in
theorem Tryz.slices_Compact_int (blk off cap:Nat) (zs:List Int) (w:World) (hH:Holds (Value.int .i64) w blk off zs.toArray) (hsz:zs.length≤9223372036854775807) (hcap:zs.length≤cap) :
 Calls Tryz.prog 202 #[.slice (some ⟨blk,off,none⟩) zs.length cap] w fun e w'=>e = .returned (.slice (some ⟨blk,off,none⟩) (Lib.compact zs).length cap)∧∃ q,w'=putRow (Value.int .i64) (Sort.ahead w q) blk off (Lib.compact zs++List.replicate (zs.length - (Lib.compact zs).length) 0).toArray:=Any.slices_Compact_int Tryz.laysNm220 blk off cap zs w hH hsz hcap
open Go.RowKit Go.Lib Go.Sort in
theorem Tryz.slices_Compact_int_empty (a:Option Addr) (cap:Nat) (w:World) :
 Calls Tryz.prog 202 #[.slice a 0 cap] w fun e w'=>e = .returned (.slice a 0 cap)∧w'=w:=Any.slices_Compact_int_empty Tryz.laysNm220 a cap w
open Go.RowKit Go.Sort in
theorem Tryz.slices_Sort_int_none (p:Option Addr) (cap:Nat) (w:World) :
 Calls Tryz.prog 201 #[.slice p 0 cap] w fun e w'=>e = .returned (.tuple #[])∧w'=w:=Any.slices_Sort_int_none Tryz.lays189 p cap w
def Tryz.laysSlH6_f200_ren:Go.Shelf.Ren:=⟨fun | 6=>200 | n=>n,fun | 22=>22 | 23=>3 | 25=>91 | 3=>3 | 0=>0 | 4=>4 | n=>n,fun | n=>n⟩
theorem Tryz.laysSlH6_f200:Go.Proofs.SlLaysH.n6 Tryz.prog Tryz.laysSlH6_f200_ren:={
 mixed:=by kernel_rfl
 f6:=⟨Tryz.f200.name,by decide,Tryz.func200.trans (congrArg some (by kernel_rfl))⟩
 t0:=Tryz.underlying0
 a0:=Tryz.isAgg0
 z0:=Tryz.sizeOf0
 v0:=Tryz.zeroValue0
 t3:=Tryz.underlying3
 a3:=Tryz.isAgg3
 z3:=Tryz.sizeOf3
 v3:=Tryz.zeroValue3
 t4:=Tryz.underlying4
 a4:=Tryz.isAgg4
 z4:=Tryz.sizeOf4
 v4:=Tryz.zeroValue4
 t22:=Tryz.underlying22
 a22:=Tryz.isAgg22
 z22:=Tryz.sizeOf22
 v22:=Tryz.zeroValue22
 a23:=Tryz.isAgg3
 z23:=Tryz.sizeOf3
 t25:=Tryz.underlying91
 a25:=Tryz.isAgg91
 z25:=Tryz.sizeOf91
 v25:=Tryz.zeroValue91 }
open Go.RowKit Go.Lib in
theorem Tryz.slices_IndexFunc_empty {α:Type} [Inhabited α] (a:Option Addr) (c:Nat) (fv:Value) (w:World) :
 Calls Tryz.prog 200 #[.slice a 0 c,fv] w fun e w'=>e = .returned (.int .i64 (-1))∧w'=w:=AnyE.slices_IndexFunc_empty Tryz.laysSlH6_f200 a c fv w
def Tryz.laysSlH10_f167_ren:Go.Shelf.Ren:=⟨fun | 10=>167 | 6=>200 | n=>n,fun | 22=>22 | 23=>3 | 25=>91 | 3=>3 | 4=>4 | 0=>0 | n=>n,fun | n=>n⟩
theorem Tryz.laysSlH10_f167:Go.Proofs.SlLaysH.n10 Tryz.prog Tryz.laysSlH10_f167_ren:={
 mixed:=by kernel_rfl
 f6:=⟨Tryz.f200.name,by decide,Tryz.func200.trans (congrArg some (by kernel_rfl))⟩
 f10:=⟨Tryz.f167.name,by decide,Tryz.func167.trans (congrArg some (by kernel_rfl))⟩
 t0:=Tryz.underlying0
 a0:=Tryz.isAgg0
 z0:=Tryz.sizeOf0
 v0:=Tryz.zeroValue0
 t3:=Tryz.underlying3
 a3:=Tryz.isAgg3
 z3:=Tryz.sizeOf3
 v3:=Tryz.zeroValue3
 t4:=Tryz.underlying4
 a4:=Tryz.isAgg4
 z4:=Tryz.sizeOf4
 v4:=Tryz.zeroValue4
 t22:=Tryz.underlying22
 a22:=Tryz.isAgg22
 z22:=Tryz.sizeOf22
 v22:=Tryz.zeroValue22
 a23:=Tryz.isAgg3
 z23:=Tryz.sizeOf3
 t25:=Tryz.underlying91
 a25:=Tryz.isAgg91
 z25:=Tryz.sizeOf91
 v25:=Tryz.zeroValue91 }
open Go.RowKit Go.Lib Go.Sort in
theorem Tryz.slices_DeleteFunc {α:Type} [Inhabited α] (enc:α→Value) (hO:OneCell enc) (p:α→Bool) (g:Nat) (lb:Array Value) (eg:∀ args w,(callFunc g args).run Tryz.prog w = .ok (.enter g args) w) (zr:α) (v23:∀ w,(zeroValue 3).run Tryz.prog w = .ok (enc zr) w) (blk off cap:Nat) (d:Array α) (w:World) (hp:PredAt Tryz.prog g lb enc p w) (hpo:PredOver Tryz.prog g lb enc p blk off d.size w) (hH:Holds enc w blk off d) (hsz:d.size≤9223372036854775807) (hcap:d.size≤cap) :
 Calls Tryz.prog 167 #[.slice (some ⟨blk,off,none⟩) d.size cap,.func (.func g) #[] lb] w fun e w'=>e = .returned (.slice (some ⟨blk,off,none⟩) (d.toList.filter fun x=>!p x).length cap)∧∃ q,w'=putRow enc (Sort.ahead w q) blk off ((d.toList.filter fun x=>!p x)++List.replicate (d.size - (d.toList.filter fun x=>!p x).length) zr).toArray:=AnyE.slices_DeleteFunc Tryz.laysSlH10_f167 enc hO p g lb eg zr v23 blk off cap d w hp hpo hH hsz hcap
end Go.Proofs
