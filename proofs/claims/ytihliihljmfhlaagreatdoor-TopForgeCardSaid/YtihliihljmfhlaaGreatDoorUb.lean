/-
  A small machine that reckons what a call comes to; the functions of the program, one by one. (THE SMALL MACHINE (22): what comes back from a call., THE SMALL MACHINE (23): what a function is said to do; a cal, THE SMALL MACHINE (24): a call., and so on.)
-/
import Derived.Test.YtihliihljmfhlaaGreatDoorUa
import Derived.Lib.ConvBytes
import Derived.DeepKeys
import Derived.Lib.AtoiAll
import Derived.Lib.ItoaLen
import Derived.Lib.SplitLaws
import Derived.Lib.TrimByte
import Derived.Lib.Repeat
import Derived.Lib.Join
import Derived.Test.YtihliihljmfhlaaGreatDoorProg
set_option linter.all false
set_option maxRecDepth 100000
open Array renaming length_toList→CQ,getElem?_eq_some_iff→C7,toList_append→vak,getElem?_toList→vaC,getElem?_modify→vaL,getD_eq_getD_getElem?→vbl,all_eq_true_iff_forall_mem→vbC
open Bool renaming and_eq_true→AI,not_true→A1,not_false→A6,not_eq_true'→B5,and_true→CJ,or_eq_true→vaz
open ByteArray renaming size→AG,empty→CG,size_extract→vbd
open Decidable renaming byContradiction→vbH
open Go.Addr.mk renaming injEq→C5
open Go.IntKind renaming i64→AB,u64→AJ,bits→AT,signed→vam
open Go.Lib renaming decDigits→CI,strCells→DC,bytesWorld→vaQ
open Go.Op renaming operands→CF,equalIn→vbm
open Go.Region renaming wanted→C8,binds→va1,ready→vbA
open Go.Result renaming andThen_ok→BP,andThen→vaH
open Go.Sem renaming run_bind→CA,run_pure→CB
open Go.TypeDesc renaming isRow→vbk
open Go.Value renaming ownBlock→CE
open Go.Value.pointer renaming injEq→CT
open Go.Value.slice renaming injEq→CM
open Go.World renaming cell?→vaF
open List renaming length_cons→AN,drop→AO,mem_cons_self→AR,mem_cons→AS,length_append→AU,mem_append→AV,mem_cons_of_mem→AY,map_cons→AZ,getElem?_eq_getElem→A5,length_take→A7,length_nil→BB,getElem?_eq_some_iff→BL,length_map→BQ,getElem?_eq_none→BU,not_mem_nil→BW,mem_singleton→BX,getElem?_cons_zero→B2,getElem?_map→B9,map_nil→CC,mem_map→CN,all_eq_true→CS,getElem?_cons_succ→CV,take_of_length_le→CX,length_drop→CY,length_singleton→CZ,drop_of_length_le→C2,cons_append→C3,size_toArray→C9,append_nil→DB,mem_of_getElem?→vab,mem_of_mem_take→vag,getElem?_drop→vau,mem_of_mem_drop→vay,range→vaE,mem_append_right→vaJ,all_cons→vaM,mem_append_left→vaN,countP_cons_of_pos→vaT,mem_map_of_mem→vaU,mem_range→va6,countP_cons_of_neg→vbi
open List.cons renaming injEq→vaB
open Nat renaming le_of_ble_eq_true→AM,le_refl→AW,zero_add→BJ,blt→BK,beq→BO,ble→B6,zero_le→B7,ble_eq_true_of_le→CP,le_trans→CW,lt_of_lt_of_le→C0,add_zero→C6,lt_or_ge→vaa,sub_zero→vaj,add_mul→vao,min_eq_left→vaD,beq_refl→vbj,one_mul→vbp,strongRecOn→vbz
open Option renaming map_eq_some_iff→DD,map_some→vaf,getD_some→van
open Option.some renaming injEq→AC,inj→B3
open Prod.mk renaming injEq→AQ
namespace Go.FM
open Go Go.RowKit
theorem YI:∀ l:List V,NR l=l.map fun _=>.any
 | []=>rfl
 | _ :: r=>by simp [NR,YI r]
section
variable {B:BT} {nt:Nat} {w0:World} {X:Zone} {γ:Nat→Value} {st st':St} {a:Act} {w:World} {P:Program} {E:Env}
theorem iH {B':BT} {own:Nat→Prop} {O1:Nat→Prop} {g:Nat→Value} (nm:Nat):∀ (r:List V) (j0:Nat) {γ:Nat→Value} {st:St} {F:Nat→Prop},nm+j0+r.length≤900000→Rel B nt w0 ⟨own,F⟩ γ st a w →
  (∀ b,DK ⟨own,F⟩ γ st.o b→O1 b) →
  (∀ j e ag ks l,r[j]?=some (.vec e ag ks l)→ObRel B' γ [] w O1 (g (j0+j)) (.row true e ag ks l)∧∀ b,(g (j0+j)).ownBlock=some b→F b∧(w0.heap.size≤b∨own b)) →
  (∀ i j e ag ks l e' ag' ks' l' b,i≠j→r[i]?=some (.vec e ag ks l)→r[j]?=some (.vec e' ag' ks' l')→(g (j0+i)).ownBlock=some b→(g (j0+j)).ownBlock=some b→False) →
  ∃ γd F',Rel B nt w0 ⟨own,F'⟩ γd (st.ups (JU (nm+j0) r)) a w∧(∀ b,F' b→F b)∧(∀ b,F b→(∀ j e ag ks l,r[j]?=some (.vec e ag ks l)→(g (j0+j)).ownBlock≠some b)→F' b) ∧
   (∀ b,DK ⟨own,F'⟩ γd (st.ups (JU (nm+j0) r)).o b→DK ⟨own,F⟩ γ st.o b) ∧
   (∀ j e ag ks l,r[j]?=some (.vec e ag ks l)→γd (nm+j0+j)=g (j0+j)∧DI (st.ups (JU (nm+j0) r)).o (nm+j0+j)=some (.row true e ag ks l)) ∧
   (∀ m,(m < nm+j0∨nm+j0+r.length≤m)→γd m=γ m∧(∀ cs:List V,DI st.o m=some (.box (NR cs))→DI (st.ups (JU (nm+j0) r)).o m=some (.box (NR cs))) ∧
    (∀ e ag ks l,DI st.o m=some (.row true e ag ks l)→DI (st.ups (JU (nm+j0) r)).o m=some (.row true e ag ks l)))
 | [],j0,γ,st,F,_,h,hO,hr,hd=>⟨γ,F,h,fun _ h=>h,fun _ h _=>h,fun _ h=>h,fun j e ag ks l hj=>by simp at hj,fun m _=>⟨rfl,fun _ h=>h,fun _ _ _ _ h=>h⟩⟩
 | v :: r,j0,γ,st,F,h9,h,hO,hr,hd=>by
  rw [AN] at h9;by_cases hv:∃ e ag ks l,v = .vec e ag ks l
  ·obtain ⟨e,ag,ks,l,rfl⟩:=hv;obtain ⟨hr0,hb0⟩:=hr 0 e ag ks l (by simp);rw [C6] at hr0 hb0;have h1:=h.add (nm+j0) (by omega) (.row true e ag ks l) (g j0) (fun b hb=>hb0 b hb) (fun O' hO'=>by
    simp only [ObRel] at hr0 ⊢;obtain ⟨k1,k2,xs,k3,k4⟩:=hr0;exact ⟨k1,k2,xs,k3,fun i y hy=>Kd.RelAll.mono (Keep.refl _ w) (fun b _ hb=>hO b (hO' b hb)) (fun _ _ hu=>hu) (k4 i y hy)⟩)
   have hO2:∀ b,DK ⟨own,fun b=>F b∧¬ EU (g j0) (.row true e ag ks l) b⟩ (fun m=>if nm+j0=m then g j0 else γ m) (st.up (.new (nm+j0) (.row true e ag ks l))).o b→DK ⟨own,F⟩ γ st.o b:=by
    rintro b (⟨m,ob1,hm,hb1⟩ | hb)
    ·rw [F7] at hm;split at hm
     ·rename_i e1;subst e1;simp only [AC] at hm;subst hm;simp only [CO] at hb1;exact .inr (hb0 b hb1).1
     ·rename_i e1;obtain ⟨ob0,h0,hs⟩:=O9 hm;simp only [A9 e1] at hb1;exact .inl ⟨m,ob0,h0,((UX hs).2 _ _).1 hb1⟩
    ·exact .inr hb.1
   obtain ⟨γd,F',r1,r2,r3,r4,r5,r6⟩:=iH (B':=B') nm r (j0+1) (by omega) h1 (fun b hb=>hO b (hO2 b hb)) (fun j e' ag' ks' l' hj=>by
     obtain ⟨q1,q2⟩:=hr (j+1) e' ag' ks' l' (by simpa using hj);rw [show j0+(j+1)=j0+1+j by omega] at q1 q2;refine ⟨zgV q1,fun b hb=>⟨⟨(q2 b hb).1,fun hb'=>?_⟩,(q2 b hb).2⟩⟩;exact hd 0 (j+1) e ag ks l e' ag' ks' l' b (by omega) (by simp) (by simpa using hj) hb' (by rw [show j0+(j+1)=j0+1+j by omega]; exact hb))
    (fun i j e1 ag1 ks1 l1 e2 ag2 ks2 l2 b hij h1 h2 hb1 hb2=>hd (i+1) (j+1) e1 ag1 ks1 l1 e2 ag2 ks2 l2 b (by omega) (by simpa using h1) (by simpa using h2) (by rw [show j0+(i+1)=j0+1+i by omega]; exact hb1) (by rw [show j0+(j+1)=j0+1+j by omega]; exact hb2))
   refine ⟨γd,F',r1,fun b hb=>(r2 b hb).1,fun b hb hn=>r3 b ⟨hb,fun hb'=>hn 0 e ag ks l (by simp) hb'⟩ (fun j e' ag' ks' l' hj=>by
     have:=hn (j+1) e' ag' ks' l' (by simpa using hj)
     rwa [show j0+(j+1)=j0+1+j by omega] at this),fun b hb=>hO2 b (r4 b hb),?_,?_⟩
   ·intro j e' ag' ks' l' hj;cases j with
    | zero=>
     simp only [B2,AC,V.vec.injEq] at hj;obtain ⟨rfl,rfl,rfl,rfl⟩:=hj;obtain ⟨p1,_,p3⟩:=r6 (nm+j0) (.inl (by omega));refine ⟨by rw [C6,C6,p1]; simp,?_⟩;rw [C6];exact p3 e ag ks l (by rw [F7,BR rfl])
    | succ j=>
     obtain ⟨p1,p2⟩:=r5 j e' ag' ks' l' (by simpa using hj);rw [show nm+(j0+1)+j=nm+j0+(j+1) by omega] at p1 p2;exact ⟨by rw [p1]; congr 1; omega,p2⟩
   ·intro m hm;have hne:nm+j0≠m:=by
     simp only [AN] at hm;omega
    obtain ⟨p1,p2,p3⟩:=r6 m (by simp only [AN] at hm; omega);refine ⟨by rw [p1,A9 hne],fun cs hc=>p2 cs ?_,fun e' ag' ks' l' hc=>p3 e' ag' ks' l' ?_⟩
    ·rw [F7,A9 hne,hc];simp only [GV,YI,List.map_map,AC,Ob.box.injEq];rfl
    ·rw [F7,A9 hne,hc];rfl
  ·have hu:JU (nm+j0) (v :: r)=JU (nm+(j0+1)) r:=by
    cases v <;> first | rfl | exact absurd ⟨_,_,_,_,rfl⟩ hv
   rw [hu];obtain ⟨γd,F',r1,r2,r3,r4,r5,r6⟩:=iH (B':=B') nm r (j0+1) (by omega) h hO (fun j e' ag' ks' l' hj=>by
     obtain ⟨q1,q2⟩:=hr (j+1) e' ag' ks' l' (by simpa using hj);rw [show j0+(j+1)=j0+1+j by omega] at q1 q2;exact ⟨q1,q2⟩)
    (fun i j e1 ag1 ks1 l1 e2 ag2 ks2 l2 b hij h1 h2 hb1 hb2=>hd (i+1) (j+1) e1 ag1 ks1 l1 e2 ag2 ks2 l2 b (by omega) (by simpa using h1) (by simpa using h2) (by rw [show j0+(i+1)=j0+1+i by omega]; exact hb1) (by rw [show j0+(j+1)=j0+1+j by omega]; exact hb2))
   refine ⟨γd,F',r1,r2,fun b hb hn=>r3 b hb (fun j e' ag' ks' l' hj=>by
     have:=hn (j+1) e' ag' ks' l' (by simpa using hj)
     rwa [show j0+(j+1)=j0+1+j by omega] at this),r4,?_,?_⟩
   ·intro j e' ag' ks' l' hj;cases j with
    | zero=>
     simp only [B2,AC] at hj;exact absurd ⟨_,_,_,_,hj⟩ hv
    | succ j=>
     obtain ⟨p1,p2⟩:=r5 j e' ag' ks' l' (by simpa using hj);rw [show nm+(j0+1)+j=nm+j0+(j+1) by omega] at p1 p2;exact ⟨by rw [p1]; congr 1; omega,p2⟩
   ·intro m hm;exact r6 m (by simp only [AN] at hm; omega)
end
open Go Go.RowKit
def LM:V→Bool
 | .agg l=>l.all HA
 | .tup l=>l.all fun v=>match v with | .agg l=>l.all HA | v=>HA v
 | v=>HA v
def ZE:V→Bool
 | .bor cs=>cs.all RE
 | .vec _ _ _ _=>true
 | v=>LM v
def sJ:List V→List V→Bool
 | [.bld _],[.bld _]=>true
 | [.bld _],_=>false
 | _,cs=>cs.all RE
def KC (vs:List V) (r:V) (out:List (List V)) (g g':Value):Prop:=
 match FI vs,out with
 | none,[]=>ZE r=true
 | some cs,[cs']=>LM r=true∧sJ cs cs'=true∧SA g'=SA g
 | _,_=>False
def Does (P:Program) (f:FuncId) (xs:List Value) (w:World) (R:Ending→World→Prop):Prop:=
 match (callFunc f xs.toArray).run P w with
 | .ok (.enter g args) w'=>Calls P g args w' R
 | .ok (.value x) w'=>R (.returned x) w'
 | .ok (.row row args) w'=>Rows P row args w' fun x w''=>R (.returned x) w''
 | _=>False
theorem Does.mono {P:Program} {f:FuncId} {xs:List Value} {w:World} {R R':Ending→World→Prop} (h:Does P f xs w R) (hr:∀ e w',R e w'→R' e w'):Does P f xs w R':=by
 unfold Does at h ⊢;split at h
 ·exact Calls.mono h hr
 ·exact hr _ _ h
 ·exact Rows.mono h (fun v w'=>hr _ _)
 ·exact h.elim
theorem Does.enter {P:Program} {f:FuncId} {fn:Func} (hf:P.funcs[f]?=some fn) (hn:(fn.name == "runtime.NumGoroutine")=false) (hb:fn.body.isNone=false) {xs:List Value} {w:World} {R:Ending→World→Prop} (h:Calls P f xs.toArray w R):Does P f xs w R:=by
 have:(callFunc f xs.toArray).run P w = .ok (.enter f xs.toArray) w:=by
  unfold callFunc;have hn':¬ fn.name = "runtime.NumGoroutine":=by simpa using hn
  have hb':¬ fn.body=none:=fun h=>by rw [h] at hb; cases hb
  simp [hf,hn',hb']
 unfold Does;rw [this];exact h
def Snd (P:Program) (B:BT) (f:FuncId) (sp:R9):Prop:=
 ∀ (w:World) (X:Zone) (γ:Nat→Value) (vs:List V) (xs:List Value) (r:V) (out:List (List V)),sp vs=some (r,out)→Glob B w→(∀ b,X.own b→B.ng≤b) →
  Rel B.base 0 w X γ ⟨[],H1 vs⟩ JA w→VRels γ (H1 vs) w (DK X γ (H1 vs)) (vs.map EC) xs →
  Does P f xs w fun e w'=>∃ x,e = .returned x∧∃ γ',Rel B.base 0 w X γ' ⟨[],GD r out⟩ JA w'∧VRel γ' (GD r out) w' (DK X γ' (GD r out)) (LV r) x∧KC vs r out (γ 900000) (γ' 900000)
theorem jR {γ γ':Nat→Value} {o o':Store} {w:World} {O O':Nat→Prop} {v:V} (hf:HA v=true) (hO:W2 v=true→∀ b,b < w.heap.size→O' b→O b) {x:Value} (h:VRel γ o w O v x):VRel γ' o' w O' v x:=by
 cases v <;> simp only [HA] at hf <;> first | (cases hf; done) | (exact UD rfl (VRel.mono (Keep.refl _ w) (hO rfl) h)) | (simp only [VRel] at h ⊢; try exact h)
theorem iK:∀ {l:List V} {v:V},v∈l→W2 v=true→HW l=true
 | u :: r,v,hm,hv=>by
  simp only [HW];cases hu:W2 u with
  | true=>rfl
  | false=>
   rcases AS.1 hm with h1 | h1
   ·subst h1;rw [hv] at hu;cases hu
   ·exact iK h1 hv
theorem oZ {γ γ':Nat→Value} {o o':Store} {w:World} {O O':Nat→Prop}:∀ {l:List V} {xs:List Value},l.all HA=true→(HW l=true→∀ b,b < w.heap.size→O' b→O b)→VRels γ o w O l xs→VRels γ' o' w O' l xs
 | [],[],_,_,_=>by simp only [VRels]
 | [],_ :: _,_,_,h=>by simp only [VRels] at h
 | _ :: _,[],_,_,h=>by simp only [VRels] at h
 | v :: l,x :: xs,hf,hO,h=>by
  simp only [VRels] at h ⊢;simp only [vaM,AI] at hf;exact ⟨jR hf.1 (fun hv=>hO (iK (AR ..) hv)) h.1,oZ hf.2 (fun hl=>hO (by simp only [HW]; split <;> first | rfl | exact hl)) h.2⟩
theorem o0 {γ γ':Nat→Value} {o o':Store} {w:World} {O O':Nat→Prop} {v:V} (hf:LM v=true) (hO:HZ v=true→∀ b,b < w.heap.size→O' b→O b) {x:Value} (h:VRel γ o w O v x):VRel γ' o' w O' v x:=by
 by_cases ha:∃ l,v = .agg l
 ·obtain ⟨l,rfl⟩:=ha;simp only [VRel] at h ⊢;obtain ⟨cs,hx,hr⟩:=h;exact ⟨cs,hx,oZ hf hO hr⟩
 by_cases ht:∃ l,v = .tup l
 ·obtain ⟨l,rfl⟩:=ht;simp only [VRel] at h ⊢;obtain ⟨cs,hx,hr⟩:=h;refine ⟨cs,hx,?_⟩;simp only [LM] at hf;have key:∀ (l:List V) (xs:List Value),(l.all fun v=>match v with | .agg l=>l.all HA | v=>HA v)=true→(HZ.go l=true→∀ b,b < w.heap.size→O' b→O b)→VRels γ o w O l xs→VRels γ' o' w O' l xs:=by
   intro l
   induction l with
   | nil=>
    intro xs _ _ h;cases xs with
    | nil=>simp only [VRels]
    | cons _ _=>simp only [VRels] at h
   | cons v l ih=>
    intro xs hf hO h;cases xs with
    | nil=>simp only [VRels] at h
    | cons x xs=>
     simp only [VRels] at h ⊢;simp only [vaM,AI] at hf;have h2:HZ.go l=true→HZ.go (v :: l)=true:=fun hl=>by cases v <;> simp only [HZ.go] <;> first | exact hl | (split <;> first | rfl | exact hl)
     refine ⟨?_,ih xs hf.2 (fun hl=>hO (h2 hl)) h.2⟩;by_cases hv:∃ l',v = .agg l'
     ·obtain ⟨l',rfl⟩:=hv;have h1:=h.1;simp only [VRel] at h1 ⊢;obtain ⟨cs,hx,hr⟩:=h1;exact ⟨cs,hx,oZ hf.1 (fun hl=>hO (by simp only [HZ.go,hl])) hr⟩
     ·have hf1:HA v=true:=by
       have:=hf.1
       split at this
       ·exact absurd ⟨_,rfl⟩ hv
       ·exact this
      exact jR hf1 (fun hl=>hO (by cases v <;> simp_all [HZ.go])) h.1
  exact key l _ hf hO hr
 have h1:HA v=true:=by cases v <;> first | exact hf | exact absurd ⟨_,rfl⟩ ha | exact absurd ⟨_,rfl⟩ ht
 exact jR h1 (fun hl=>hO (by cases v <;> first | exact hl | (simp only [W2] at hl; cases hl))) h
theorem UT {v:V} (h:LM v=true):LV v=v:=by
 cases v <;> first | rfl | (simp only [LM,HA] at h; cases h)
theorem vG {o:Store} {bs:List V} {tk:Option Kd} {v:V} (h:E3.lentC [v]=[]):∀ cs,EG o bs tk v≠.bor cs:=by
 intro cs hc;cases v
 case ptr n i c=>simp [E3.lentC] at h
 all_goals simp only [EG] at hc
 all_goals (repeat' split at hc)
 all_goals (cases hc)
theorem vH {o:Store} {bs:List V} {tk:Option Kd} {v:V} {cs:List V} (h:EG o bs tk v = .bor cs):cs=bs:=by
 cases v <;> simp only [EG] at h <;> try (cases h; done)
 all_goals (repeat' split at h)
 all_goals first | (cases h; done) | (cases h; rfl)
theorem vZ {o:Store} {bs:List V}:∀ {l:List V},(FI.borC (l.map (EG o bs none))=none∨FI.borC (l.map (EG o bs none))=some bs)∧(E3.lentC l=[]→FI.borC (l.map (EG o bs none))=none)
 | []=>by simp [FI.borC]
 | v :: r=>by
  have ih:=vZ (o:=o) (bs:=bs) (l:=r);have hl:E3.lentC (v :: r)=[]→E3.lentC [v]=[]∧E3.lentC r=[]:=by cases v <;> simp [E3.lentC]
  simp only [AZ];cases hv:EG o bs none v
  case bor cs=>
   simp only [FI.borC];refine ⟨.inr (by rw [vH hv]),fun h=>absurd hv (vG (hl h).1 cs)⟩
  all_goals (simp only [FI.borC]; exact ⟨ih.1,fun h=>ih.2 (hl h).2⟩)
theorem dQ {o:Store} {bs:List V}:∀ {l:List V} {tks:List (List Kd)},(FI (FZ o bs tks l)=none∨FI (FZ o bs tks l)=some bs)∧(E3 l=[]→FI (FZ o bs tks l)=none)
 | [],tks=>by cases tks <;> simp [FZ,FI]
 | v :: r,tks=>by
  obtain ⟨ks,tks',he⟩:∃ ks tks',FZ o bs tks (v :: r)=JB o bs ks v :: FZ o bs tks' r:=by
   cases tks with
   | nil=>exact ⟨[],[],rfl⟩
   | cons k ks=>exact ⟨k,ks,rfl⟩
  have ih:=dQ (o:=o) (bs:=bs) (l:=r) (tks:=tks');rw [he];have hl:E3 (v :: r)=[]→E3 [v]=[]∧E3 r=[]:=by cases v <;> simp [E3]
  by_cases hc:∃ f l,v = .clo f l
  ·obtain ⟨f,l,rfl⟩:=hc;have hb:=vZ (o:=o) (bs:=bs) (l:=l);simp only [JB,FI];cases hx:FI.borC (l.map (EG o bs none)) with
   | none=>exact ⟨ih.1,fun h=>ih.2 (hl h).2⟩
   | some cs=>
    simp only;refine ⟨.inr ?_,fun h=>?_⟩
    ·rcases hb.1 with h1 | h1 <;> rw [hx] at h1
     ·cases h1
     ·exact h1
    ·have:=hb.2 (by have:=(hl h).1; simpa [E3] using this)
     rw [hx] at this;cases this
  ·by_cases ha:∃ l,v = .agg l
   ·obtain ⟨l,rfl⟩:=ha;simp only [JB,FI];exact ⟨ih.1,fun h=>ih.2 (hl h).2⟩
   ·have h1:JB o bs ks v=EG o bs ks.head? v:=by
     cases v <;> first | rfl | exact absurd ⟨_,rfl⟩ ha | exact absurd ⟨_,_,rfl⟩ hc
    rw [h1];cases hv:EG o bs ks.head? v
    case bor cs=>
     simp only [FI];refine ⟨.inr (by rw [vH hv]),fun h=>absurd hv (vG (v:=v) ?_ cs)⟩
     have:=(hl h).1
     cases v <;> simp_all [E3,E3.lentC]
    case clo f l=>
     exfalso;cases v <;> simp only [EG] at hv <;> try (cases hv; done)
     all_goals (repeat' split at hv)
     all_goals (cases hv)
    all_goals (simp only [FI]; exact ⟨ih.1,fun h=>ih.2 (hl h).2⟩)
open Go Go.RowKit
section
variable {B:BT} {nt:Nat} {w0:World} {X:Zone} {γ:Nat→Value} {st st':St} {a:Act} {w:World} {P:Program} {E:Env}
theorem eD (h:Rel B nt w0 X γ st a w) (ns:List Nat) {b:Nat} (hb:DK X γ (st.ups (EJ st.o ns)).o b):DK X γ st.o b∧∀ m∈ns,¬ RowOf γ st.o m b:=by
 obtain ⟨h1,h2,h3,h4,h5⟩:=M5 st.o ns (FrzLe.refl _) h;refine ⟨h2.owned hb,?_⟩;rintro m hm ⟨e,ag,ks,l,ho,hob⟩;rcases hb with ⟨m',ob',hm',hb'⟩ | hb
 ·by_cases e1:m=m'
  ·subst e1;rcases h2 m with h6 | ⟨e',ag',ks',l',h6,h7⟩
   ·rw [h6,ho] at hm'
    have:=h4 m hm true e ag ks l (by rw [h6,ho])
    cases this
   ·rw [h7,AC] at hm';subst hm';exact hb'.elim
  ·rcases h2 m' with h6 | ⟨e',ag',ks',l',h6,h7⟩
   ·rw [h6] at hm';exact h.dis m m' _ ob' b e1 ho hm' hob hb'
   ·rw [h7,AC] at hm';subst hm';exact hb'.elim
 ·exact h.near ⟨m,_,ho,hob⟩ hb
theorem nM (h:Rel B nt w0 X γ st a w) (hg:GX B w0 X) {f:FuncId} {sp:R9} (hS:Snd P B f sp) {vs:List V} {xs:List Value} (hv:VRels γ st.o w (DK X γ st.o) vs xs) (hl:E3 vs=[]) {tks:List (List Kd)} {v:V} {out:List (List V)}
  (hsp:sp (FZ st.o [] tks vs)=some (v,out)) :
  Does P f xs w fun e w'=>∃ x,e = .returned x∧∃ γ',Rel B.base 0 w ⟨fun _=>False,fun b=>DK X γ st.o b∧∀ m∈EL vs,¬ RowOf γ st.o m b⟩ γ' ⟨[],GD v out⟩ JA w' ∧
   VRel γ' (GD v out) w' (DK ⟨fun _=>False,fun b=>DK X γ st.o b∧∀ m∈EL vs,¬ RowOf γ st.o m b⟩ γ' (GD v out)) (LV v) x∧ZE v=true∧out=[]:=by
 have hb:FI (FZ st.o [] tks vs)=none:=dQ.2 hl;have hm:H1 (FZ st.o [] tks vs)=[]:=by simp only [H1,hb]
 have hR:Rel B.base 0 w ⟨fun _=>False,fun b=>DK X γ st.o b∧∀ m∈EL vs,¬ RowOf γ st.o m b⟩ γ ⟨[],[]⟩ JA w:=by
  refine ⟨rfl,rfl,fun i=>by simp only [St.get,EQ,VRel],fun n ob hn=>?_,?_,?_,Keep.refl _ w,?_,?_,fun p hp=>by cases hp⟩
  ·simp only [DI,EQ] at hn; cases hn
  ·rintro b ⟨n,ob,hn,_⟩; simp only [DI,EQ] at hn; cases hn
  ·intro n m ob ob' b _ hn; simp only [DI,EQ] at hn; cases hn
  ·rintro b ⟨n,ob,hn,_⟩; simp only [DI,EQ] at hn; cases hn
  ·rintro b ⟨hb | hb,_⟩
   ·exact (h.lt b hb).1
   ·exact h.fl b hb
 have:=hS w ⟨fun _=>False,fun b=>DK X γ st.o b∧∀ m∈EL vs,¬ RowOf γ st.o m b⟩ γ (FZ st.o [] tks vs) xs v out hsp (h.glob hg) (fun _ hf=>hf.elim) (by rw [hm]; exact hR) (by
  rw [hm];refine iM h (fun b _ hb=>?_) [] hv (fun m hm b hr hb=>?_) (fun m hm=>by rw [hl] at hm; cases hm)
  ·rcases hb with ⟨n,ob,hn,_⟩ | hb
   ·simp only [DI,EQ] at hn; cases hn
   ·exact hb.1
  ·rcases hb with ⟨n,ob,hn,_⟩ | hb
   ·simp only [DI,EQ] at hn; cases hn
   ·exact hb.2 m hm hr)
 refine this.mono ?_;rintro e w' ⟨x,he,γ',h1,h2,h3⟩;refine ⟨x,he,γ',h1,h2,?_⟩;simp only [KC,hb] at h3;cases out with
 | nil=>exact ⟨h3,rfl⟩
 | cons _ _=>exact h3.elim
theorem lA (h:Rel B nt w0 X γ st a w) {w':World} {X':Zone} (hX:∀ b,¬ X'.own b) {γ':Nat→Value} {st':St} {a':Act} (hc:Rel B.base 0 w X' γ' st' a' w') (F:Nat→Prop) (hF:∀ b,F b→X.far b∨(w.heap.size≤b∧b < w'.heap.size)):Rel B nt w0 ⟨X.own,F⟩ γ st a w':=
 (h.fresh (hc.keep) (fun b _ hb=>(hX b hb).elim)).shrink hF
theorem Y0 {cs:List V} (h:cs.all RE=true):EM cs=(900000,some (.box (GB 900001 cs))) :: KL 900001 cs:=by
 refine oL (fun s he=>?_);subst he;simp [RE,HA] at h
theorem y9 {w':World} {X':Zone} {γ':Nat→Value} {cs:List V} (hok:cs.all RE=true) (_:Rel B.base 0 w X' γ' ⟨[],EM cs⟩ JA w') {c:Array Value}
  (hr:VRels γ' (EM cs) w' (DK X' γ' (EM cs)) (GB 900001 cs) c.toList) {γf:Nat→Value} {of:Store} {nm:Nat}
  (hrow:∀ j e ag ks l,cs[j]?=some (.vec e ag ks l)→γf (nm+j)=γ' (900001+j)∧DI of (nm+j)=some (.row true e ag ks l)) {O':Nat→Prop} (hO:HW cs=true→∀ b,b < w'.heap.size→O' b→DK X' γ' (EM cs) b) :
  VRels γf of w' O' (GB nm cs) c.toList:=by
 have hl:=hr.length;rw [YK] at hl;refine VRels.of_get (by rw [YK,hl]) (fun j v x hv hx=>?_);rw [dO] at hv;cases hcj:cs[j]? with
 | none=>rw [hcj] at hv; cases hv
 | some u=>
  rw [hcj] at hv;simp only [vaf,AC] at hv;have hb:(GB 900001 cs)[j]?=some (match (generalizing:=false) u with | .vec _ _ _ l=>.row (900001+j) 0 l.length | v=>v):=by rw [dO,hcj]; rfl
  have hux:=hr.get' hb hx;have huok:RE u=true:=CS.1 hok u (vab hcj);by_cases hvec:∃ e ag ks l,u = .vec e ag ks l
  ·obtain ⟨e,ag,ks,l,rfl⟩:=hvec;simp only at hv hux;subst hv;obtain ⟨h1,h2⟩:=hrow j e ag ks l hcj;have hat:=fZ (nr:=900001) hcj;have hat':DI (EM cs) (900001+j)=some (.row true e ag ks l):=by
    rw [Y0 hok,D9,A9 (by omega)];exact hat
   simp only [VRel,hat'] at hux;simp only [VRel,h2,h1];exact hux
  ·have hf:HA u=true:=by cases u <;> first | exact huok | exact absurd ⟨_,_,_,_,rfl⟩ hvec
   have hvu:v=u:=by cases u <;> first | exact hv.symm | exact absurd ⟨_,_,_,_,rfl⟩ hvec
   have hux':VRel γ' (EM cs) w' (DK X' γ' (EM cs)) u x:=by cases u <;> first | exact hux | exact absurd ⟨_,_,_,_,rfl⟩ hvec
   subst hvu;exact jR hf (fun hv=>hO (iK (vab hcj) hv)) hux'
theorem vO {w':World} {X':Zone} {γ':Nat→Value} {cs:List V} (hok:cs.all RE=true) (hc:Rel B.base 0 w X' γ' ⟨[],EM cs⟩ JA w') :
  (∀ (γ:Nat→Value) j e ag ks l,cs[j]?=some (.vec e ag ks l)→ObRel B.base γ [] w' (fun b=>HW cs=true→DK X' γ' (EM cs) b) (γ' (900001+j)) (.row true e ag ks l)∧∀ b,(γ' (900001+j)).ownBlock=some b→E4 γ' (EM cs) b) ∧
  (∀ i j e ag ks l e' ag' ks' l' b,i≠j→cs[i]?=some (.vec e ag ks l)→cs[j]?=some (.vec e' ag' ks' l')→(γ' (900001+i)).ownBlock=some b→(γ' (900001+j)).ownBlock=some b→False) ∧
  (∀ j e ag ks l b,cs[j]?=some (.vec e ag ks l)→(γ' (900001+j)).ownBlock=some b→ES γ' (EM cs) 900000 b→False):=by
 have hat:∀ {j e ag ks l},cs[j]?=some (V.vec e ag ks l)→DI (EM cs) (900001+j)=some (.row true e ag ks l):=by
  intro j e ag ks l hj;rw [Y0 hok,D9,A9 (by omega)];exact fZ hj
 refine ⟨fun γ j e ag ks l hj=>⟨?_,fun b hb=>⟨_,_,hat hj,hb⟩⟩,?_,?_⟩
 ·have hr:=hc.ob _ _ (hat hj);simp only [ObRel] at hr ⊢;obtain ⟨k1,k2,xs,k3,k4⟩:=hr;refine ⟨k1,k2,xs,k3,fun i y hy=>Kd.RelAll.mono (Keep.refl _ w') (fun b _ hb=>?_) (fun _ _ hu=>hu) (k4 i y hy)⟩;exact hb (iK (vab hj) rfl)
 ·intro i j e ag ks l e' ag' ks' l' b hij h1 h2 hb1 hb2;exact hc.dis _ _ _ _ b (by omega) (hat h1) (hat h2) hb1 hb2
 ·rintro j e ag ks l b hj hb ⟨ob,h1,h2⟩;exact hc.dis _ _ _ _ b (by omega) (hat hj) h1 hb h2
theorem Ut (h:Rel B nt w0 X γ st a w) (hg:GX B w0 X) {f:FuncId} {sp:R9} (hS:Snd P B f sp) {vs:List V} {xs:List Value} (hv:VRels γ st.o w (DK X γ st.o) vs xs) (hl:E3 vs=[]) {tks:List (List Kd)} {v:V} {out:List (List V)}
  (hsp:sp (FZ st.o [] tks vs)=some (v,out)) (hnb:∀ cs,v≠.bor cs) (hnv:∀ e ag ks l,v≠.vec e ag ks l) :
  Does P f xs w fun e w'=>∃ x,e = .returned x∧∃ γ',Rel B nt w0 X γ' (st.ups (EJ st.o (match HZ v with | true=>EL vs | false=>[]))) a w' ∧
   VRel γ' (st.ups (EJ st.o (match HZ v with | true=>EL vs | false=>[]))).o w' (DK X γ' (st.ups (EJ st.o (match HZ v with | true=>EL vs | false=>[]))).o) v x:=by
 refine (nM h hg hS hv hl hsp).mono ?_;rintro e w' ⟨x,he,γ',h1,h2,h3,rfl⟩;have hf:LM v=true:=by cases v <;> first | exact h3 | exact absurd rfl (hnb _) | exact absurd rfl (hnv _ _ _ _)
 have hmo:GD v []=[]:=by cases v <;> first | rfl | exact absurd rfl (hnb _) | exact absurd rfl (hnv _ _ _ _)
 rw [hmo] at h1 h2;rw [UT hf] at h2;have hz:=(M5 st.o (match HZ v with | true=>EL vs | false=>[]) (FrzLe.refl _) h).1;have hp:=lA hz (fun b hb=>hb) h1 X.far (fun b hb=>.inl hb);refine ⟨x,he,γ,hp,o0 hf (fun hhl b _ hb=>?_) h2⟩
 have:=eD h _ hb
 rw [hhl] at this;exact .inr this
theorem Us (h:Rel B nt w0 X γ st a w) (hg:GX B w0 X) {f:FuncId} {sp:R9} (hS:Snd P B f sp) {vs:List V} {xs:List Value} (hv:VRels γ st.o w (DK X γ st.o) vs xs) (hl:E3 vs=[]) {tks:List (List Kd)} {cs:List V} {out:List (List V)}
  (hsp:sp (FZ st.o [] tks vs)=some (.bor cs,out)) (d:Nat) (hd9:d≠900000) (hn9:1000*(d+1)+cs.length≤900000) :
  Does P f xs w fun e w'=>∃ x,e = .returned x∧∃ γ',Rel B nt w0 X γ' (st.ups (EJ st.o (match HW cs with | true=>EL vs | false=>[])++(JU (1000*(d+1)) cs++[.new d (.box (GB (1000*(d+1)) cs))]))) a w' ∧
   VRel γ' (st.ups (EJ st.o (match HW cs with | true=>EL vs | false=>[])++(JU (1000*(d+1)) cs++[.new d (.box (GB (1000*(d+1)) cs))]))).o w'
    (DK X γ' (st.ups (EJ st.o (match HW cs with | true=>EL vs | false=>[])++(JU (1000*(d+1)) cs++[.new d (.box (GB (1000*(d+1)) cs))]))).o) (.ptr d 0 0) x:=by
 refine (nM h hg hS hv hl hsp).mono ?_;rintro e w' ⟨x,he,γ',h1,h2,h3,rfl⟩;simp only [ZE] at h3;have hmo:GD (.bor cs) []=EM cs:=rfl;rw [hmo] at h1 h2;generalize hX':(⟨fun _=>False,fun b=>DK X γ st.o b∧∀ m∈EL vs,¬ RowOf γ st.o m b⟩:Zone)=X' at h1 h2;have hXo:∀ b,¬ X'.own b:=fun b hb=>by rw [← hX'] at hb; exact hb
 have hz:=(M5 st.o (match HW cs with | true=>EL vs | false=>[]) (FrzLe.refl _) h).1;have hPf:∀ b,E4 γ' (EM cs) b→w.heap.size≤b∧b < w'.heap.size:=fun b hb=>by
  obtain ⟨q1,q2⟩:=h1.lt b hb;exact ⟨q2.resolve_right (hXo b),q1⟩
 have hp:=lA hz hXo h1 (fun b=>X.far b∨E4 γ' (EM cs) b) (fun b hb=>hb.imp_right (hPf b));obtain ⟨br1,br2,br3⟩:=vO h3 h1;have hO1:∀ b,DK ⟨X.own,fun b=>X.far b∨E4 γ' (EM cs) b⟩ γ (st.ups (EJ st.o (match HW cs with | true=>EL vs | false=>[]))).o b→(HW cs=true→DK X' γ' (EM cs) b):=by
  intro b hb hal;rw [hal] at hb;have key:DK X γ (st.ups (EJ st.o (EL vs))).o b∨E4 γ' (EM cs) b:=by
   rcases hb with hb | hb | hb
   ·exact .inl (.inl hb)
   ·exact .inl (.inr hb)
   ·exact .inr hb
  rcases key with hb | hb
  ·have:=eD h _ hb
   exact .inr (by rw [← hX']; exact this)
  ·exact .inl hb
 obtain ⟨γd,F',r1,r2,r3,r4,r5,r6⟩:=iH (B':=B.base) (g:=fun j=>γ' (900001+j)) (1000*(d+1)) cs 0 (by omega) hp hO1 (fun j e ag ks l hj=>by
   rw [BJ];obtain ⟨q1,q2⟩:=br1 γ j e ag ks l hj;exact ⟨q1,fun b hb=>⟨.inr (q2 b hb),.inl (CW h.keep.size (hPf b (q2 b hb)).1)⟩⟩)
  (fun i j e ag ks l e' ag' ks' l' b hij q1 q2 q3 q4=>by
   rw [BJ] at q3 q4;exact br2 i j e ag ks l e' ag' ks' l' b hij q1 q2 q3 q4)
 simp only [C6,BJ] at r1 r3 r4 r5 r6;have hob0:DI (EM cs) 900000=some (.box (GB 900001 cs)):=by rw [Y0 h3,D9,BR rfl]
 have hor:=h1.ob _ _ hob0;simp only [ObRel] at hor;obtain ⟨b0,c,T,hg,hh,hr⟩:=hor;have hb0P:E4 γ' (EM cs) b0:=⟨900000,_,hob0,⟨_,hg,rfl⟩⟩;have hadd:=r1.add d hd9 (.box (GB (1000*(d+1)) cs)) (γ' 900000) (fun b hb=>by
   obtain ⟨ad,q1,q2⟩:=hb;rw [hg] at q1;simp only [CT,AC] at q1;subst q1;simp only at q2;subst q2;exact ⟨r3 b0 (.inr hb0P) (fun j e ag ks l hj hb=>br3 j e ag ks l b0 hj hb ⟨_,hob0,_,hg,rfl⟩),.inl (CW h.keep.size (hPf b0 hb0P).1)⟩)
  (fun O' hO'=>by
   simp only [ObRel];refine ⟨b0,c,T,hg,hh,y9 h3 h1 hr (fun j e ag ks l hj=>?_) (fun hal b _ hb=>hO1 b (r4 b (hO' b hb)) hal)⟩;obtain ⟨q1,q2⟩:=r5 j e ag ks l hj;refine ⟨by rw [A9 (by omega)]; exact q1,?_⟩;rw [F7,A9 (by omega),q2];rfl)
 have hfin:=hadd.shrink (F:=X.far) (fun b hb=>by
   have hlt:=h.fl b hb;refine ⟨r3 b (.inl hb) (fun j e ag ks l hj hbj=>?_),fun hbb=>?_⟩
   ·have:=hPf b ((br1 γ j e ag ks l hj).2 b hbj)
    omega
   ·obtain ⟨ad,q1,q2⟩:=hbb;rw [hg] at q1;simp only [CT,AC] at q1;subst q1;simp only at q2;subst q2
    have:=hPf b0 hb0P
    omega)
 refine ⟨x,he,_,by rw [K8,K8]; exact hfin,?_⟩;rw [K8,K8];simp only [St.ups,VRel,F7,CO];simp only [LV,EC,VRel,hob0] at h2;exact h2
theorem Uu (h:Rel B nt w0 X γ st a w) (hg:GX B w0 X) {f:FuncId} {sp:R9} (hS:Snd P B f sp) {vs:List V} {xs:List Value} (hv:VRels γ st.o w (DK X γ st.o) vs xs) (hl:E3 vs=[]) {tks:List (List Kd)} {e:Nat} {ag:Bool} {ks:List Kd} {l:LI} {out:List (List V)}
  (hsp:sp (FZ st.o [] tks vs)=some (.vec e ag ks l,out)) (d:Nat) (hd9:d≠900000) :
  Does P f xs w fun e' w'=>∃ x,e' = .returned x∧∃ γ',Rel B nt w0 X γ' (st.ups (EJ st.o (EL vs)++[.new d (.row true e ag ks l)])) a w' ∧
   VRel γ' (st.ups (EJ st.o (EL vs)++[.new d (.row true e ag ks l)])).o w' (DK X γ' (st.ups (EJ st.o (EL vs)++[.new d (.row true e ag ks l)])).o) (.row d 0 l.length) x:=by
 refine (nM h hg hS hv hl hsp).mono ?_;rintro e' w' ⟨x,he,γ',h1,h2,h3,rfl⟩;have hmo:GD (.vec e ag ks l) []=[(900000,some (.row true e ag ks l))]:=rfl;rw [hmo] at h1 h2;generalize hX':(⟨fun _=>False,fun b=>DK X γ st.o b∧∀ m∈EL vs,¬ RowOf γ st.o m b⟩:Zone)=X' at h1 h2;have hXo:∀ b,¬ X'.own b:=fun b hb=>by rw [← hX'] at hb; exact hb
 have hz:=(M5 st.o (EL vs) (FrzLe.refl _) h).1;have hPf:∀ b,E4 γ' [(900000,some (.row true e ag ks l))] b→w.heap.size≤b∧b < w'.heap.size:=fun b hb=>by
  obtain ⟨q1,q2⟩:=h1.lt b hb;exact ⟨q2.resolve_right (hXo b),q1⟩
 have hp:=lA hz hXo h1 (fun b=>X.far b∨E4 γ' [(900000,some (.row true e ag ks l))] b) (fun b hb=>hb.imp_right (hPf b));have hO1:∀ b,DK ⟨X.own,fun b=>X.far b∨E4 γ' [(900000,some (.row true e ag ks l))] b⟩ γ (st.ups (EJ st.o (EL vs))).o b→DK X' γ' [(900000,some (.row true e ag ks l))] b:=by
  intro b hb;have key:DK X γ (st.ups (EJ st.o (EL vs))).o b∨E4 γ' [(900000,some (.row true e ag ks l))] b:=by
   rcases hb with hb | hb | hb
   ·exact .inl (.inl hb)
   ·exact .inl (.inr hb)
   ·exact .inr hb
  rcases key with hb | hb
  ·have:=eD h _ hb
   exact .inr (by rw [← hX']; exact this)
  ·exact .inl hb
 have hob0:DI [(900000,some (.row true e ag ks l))] 900000=some (.row true e ag ks l):=by rw [D9,BR rfl]
 have hor:=h1.ob _ _ hob0;simp only [ObRel] at hor;obtain ⟨k1,k2,ys,k3,k4⟩:=hor;have hg0:∀ b,EU (γ' 900000) (.row true e ag ks l) b→E4 γ' [(900000,some (.row true e ag ks l))] b:=fun b hb=>⟨900000,_,hob0,hb⟩
 have hadd:=hp.add d hd9 (.row true e ag ks l) (γ' 900000) (fun b hb=>⟨.inr (hg0 b hb),.inl (CW h.keep.size (hPf b (hg0 b hb)).1)⟩)
  (fun O' hO'=>by
   simp only [ObRel];exact ⟨k1,k2,ys,k3,fun i y hy=>Kd.RelAll.mono (Keep.refl _ w') (fun b _ hb=>hO1 b (hO' b hb)) (fun _ _ hu=>hu) (k4 i y hy)⟩)
 have hfin:=hadd.shrink (F:=X.far) (fun b hb=>by
   have hlt:=h.fl b hb;refine ⟨.inl hb,fun hbb=>?_⟩
   have:=hPf b (hg0 b hbb)
   omega)
 refine ⟨x,he,_,by rw [K8]; exact hfin,?_⟩;rw [K8];simp only [St.ups,VRel,F7,CO];simp only [LV,VRel,hob0] at h2;exact h2
theorem zjy {γ:Nat→Value} {o:Store} {w:World} {O O':Nat→Prop} (hO:∀ b,b < w.heap.size→O' b→O b) {v:V} {y:Kd × IV} {x:Value} (he:uF v=some y) (hv:VRel γ o w O v x):Kd.Rel w O' y.1 y.2 x:=by
 cases v <;> simp only [uF] at he <;> first | (cases he; done) | skip
 all_goals
  simp only [AC] at he;subst he;simp only [VRel] at hv
 case list ag ks l=>exact Kd.Rel.mono (Keep.refl _ w) hO hv
 all_goals
  simp only [Kd.Rel,IV.toInt,IV.toBool,IV.toStr];exact hv
theorem Ow {γ:Nat→Value} {o:Store} {w:World} {O O':Nat→Prop} (hO:∀ b,b < w.heap.size→O' b→O b) :
  ∀ {cs:List V} {y:List Kd × LI} {xs:List Value} {j:Nat} {f:Nat→IV} {R:Nat→Value→Prop},gU cs=some y→VRels γ o w O cs xs→(∀ i,f (j+i)=IL y.2 i)→(∀ i u,xs[i]?=some u→R (j+i) u)→Kd.RelAll w O' y.1 f j R
 | [],y,xs,j,f,R,he,hv,hf,hR=>by
  simp only [gU,AC] at he;subst he;simp only [Kd.RelAll]
 | v :: cs,y,[],j,f,R,he,hv,hf,hR=>by simp only [VRels] at hv
 | v :: cs,y,x :: xs,j,f,R,he,hv,hf,hR=>by
  simp only [gU] at he;split at he
  ·rename_i a b ha hb;simp only [AC] at he;subst he;simp only [VRels] at hv;simp only [Kd.RelAll];refine ⟨⟨x,by have:=hR 0 x rfl; simpa using this,?_⟩,Ow hO hb hv.2 (fun i=>?_) (fun i u hu=>?_)⟩
   ·have h0:=hf 0;simp only [C6,IL] at h0;rw [h0];exact zjy hO ha hv.1
   ·rw [show j+1+i=j+(i+1) by omega,hf];rfl
   ·rw [show j+1+i=j+(i+1) by omega];exact hR (i+1) u (by simpa using hu)
  ·cases he
theorem Va (h:Rel B nt w0 X γ st a w) {v:V} {x:Value} (hv:VRel γ st.o w (DK X γ st.o) v x) {γb:Nat→Value} {bo:Store} {O':Nat→Prop} (hO:∀ b,b < w.heap.size→O' b→DK X γ st.o b)
  (hrow:∀ m∈ET [v],∀ b,RowOf γ st.o m b→¬ O' b) (hl:∀ m∈E3.lentC [v],∀ b,ES γ st.o m b→¬ O' b):VRel γb bo w O' (EC.go (LJ st.o v)) x:=by
 by_cases hp:∃ n i c,v = .ptr n i c
 ·obtain ⟨n,i,c,rfl⟩:=hp;simp only [LJ];split
  ·rename_i cs hic ho;split
   ·rename_i y hy;simp only [AI] at hic;obtain rfl:=FL.1 hic.1;obtain rfl:=FL.1 hic.2;simp only [VRel,ho] at hv;obtain ⟨_,b,hg,rfl⟩:=hv;obtain ⟨b',c,T,hg',hh,hc⟩:=h.ob n _ ho;rw [hg] at hg';simp only [CT,AC,C5,B4] at hg';subst hg';simp only [EC.go,VRel];refine ⟨b,0,rfl,hl n (by simp [E3.lentC]) b ⟨_,ho,⟨_,hg,rfl⟩⟩,?_,Ow hO hy hc (fun i=>by rw [BJ]) (fun i u hu=>?_)⟩
    ·rcases vaa b w.heap.size with h1 | h1
     ·exact h1
     ·rw [Array.getElem?_eq_none h1] at hh;cases hh
    ·simp only [vaF,hh,BJ];simpa using hu
   ·simp only [EC.go,VRel]
  ·simp only [EC.go,VRel]
 ·have h1:LJ st.o v=HR (EG st.o [] none v):=by cases v <;> first | rfl | exact absurd ⟨_,_,_,rfl⟩ hp
  have h2:EC.go (HR (EG st.o [] none v))=HR (EG st.o [] none v):=by cases EG st.o [] none v <;> rfl
  rw [h1,h2];exact m7 h hv hO hrow [] none
theorem y5 (h:Rel B nt w0 X γ st a w) {γb:Nat→Value} {bo:Store} {O':Nat→Prop} (hO:∀ b,b < w.heap.size→O' b→DK X γ st.o b) :
  ∀ {l:List V} {xs:List Value},VRels γ st.o w (DK X γ st.o) l xs→(∀ m∈ET l,∀ b,RowOf γ st.o m b→¬ O' b)→(∀ m∈E3.lentC l,∀ b,ES γ st.o m b→¬ O' b) →
   VRels γb bo w O' ((l.map (LJ st.o)).map EC.go) xs
 | [],[],_,_,_=>by simp only [CC,VRels]
 | [],x :: xs,hv,_,_=>by simp only [VRels] at hv
 | v :: l,[],hv,_,_=>by simp only [VRels] at hv
 | v :: l,x :: xs,hv,hr,hl=>by
  simp only [VRels,AZ] at hv ⊢;exact ⟨Va h hv.1 hO (fun m hm=>hr m (ZQ v l m (.inl hm))) (fun m hm=>hl m (kG v l m (.inl hm))),
   y5 h hO hv.2 (fun m hm=>hr m (ZQ v l m (.inr hm))) (fun m hm=>hl m (kG v l m (.inr hm)))⟩
theorem Tj (h:Rel B nt w0 X γ st a w) {v:V} {x:Value} (hv:VRel γ st.o w (DK X γ st.o) v x) {γb:Nat→Value} {bo:Store} {O':Nat→Prop} (hO:∀ b,b < w.heap.size→O' b→DK X γ st.o b)
  (hrow:∀ m∈KA v,∀ b,RowOf γ st.o m b→¬ O' b) (hl:∀ m∈E3 [v],∀ b,ES γ st.o m b→¬ O' b) (ks:List Kd):VRel γb bo w O' (EC (L9 st.o ks v)) x:=by
 by_cases hc:(∃ f l,v = .clo f l)∨(∃ n i c,v = .ptr n i c)
 ·rcases hc with ⟨f,l,rfl⟩ | ⟨n,i,c,rfl⟩
  ·simp only [L9,EC,VRel] at hv ⊢;obtain ⟨cs,hx,hr⟩:=hv;exact ⟨cs,hx,y5 h hO hr hrow (fun m hm=>hl m (by simpa [E3] using hm))⟩
  ·simp only [L9,EC,VRel]
 ·have h1:L9 st.o ks v=JB st.o [] ks v:=by cases v <;> first | rfl | exact absurd (.inl ⟨_,_,rfl⟩) hc | exact absurd (.inr ⟨_,_,_,rfl⟩) hc
  have h2:E3 [v]=[]:=by cases v <;> first | rfl | exact absurd (.inl ⟨_,_,rfl⟩) hc | exact absurd (.inr ⟨_,_,_,rfl⟩) hc
  rw [h1];exact vI h hv hO hrow (fun m hm=>by rw [h2] at hm; cases hm) [] ks
theorem vF (h:Rel B nt w0 X γ st a w) {γb:Nat→Value} {bo:Store} {O':Nat→Prop} (hO:∀ b,b < w.heap.size→O' b→DK X γ st.o b) :
  ∀ {l:List V} {tks:List (List Kd)} {xs:List Value},VRels γ st.o w (DK X γ st.o) l xs→(∀ m∈EL l,∀ b,RowOf γ st.o m b→¬ O' b)→(∀ m∈E3 l,∀ b,ES γ st.o m b→¬ O' b) →
   VRels γb bo w O' ((JT st.o tks l).map EC) xs
 | [],tks,[],_,_,_=>by cases tks <;> simp only [JT,CC,VRels]
 | [],tks,x :: xs,hv,_,_=>by simp only [VRels] at hv
 | v :: l,tks,[],hv,_,_=>by simp only [VRels] at hv
 | v :: l,tks,x :: xs,hv,hr,hl=>by
  simp only [VRels] at hv;have h1:∀ ks,VRel γb bo w O' (EC (L9 st.o ks v)) x:=fun ks=>Tj h hv.1 hO (fun m hm=>hr m (by simp only [EL,AV]; exact .inl hm)) (fun m hm=>hl m (by
   cases v <;> simp_all [E3])) ks
  have h2:∀ tks,VRels γb bo w O' ((JT st.o tks l).map EC) xs:=fun tks=>vF h hO hv.2 (fun m hm=>hr m (by simp only [EL,AV]; exact .inr hm)) (fun m hm=>hl m (by
   cases v <;> simp_all [E3]))
  cases tks with
  | nil=>simp only [JT,AZ,VRels]; exact ⟨h1 _,h2 _⟩
  | cons k ks=>simp only [JT,AZ,VRels]; exact ⟨h1 _,h2 _⟩
theorem Uz (o:Store) (v:V):∀ cs,LJ o v≠.bor cs:=by
 intro cs he;by_cases hp:∃ n i c,v = .ptr n i c
 ·obtain ⟨n,i,c,rfl⟩:=hp;simp only [LJ] at he;split at he
  ·split at he <;> cases he
  ·cases he
 ·have h1:LJ o v=HR (EG o [] none v):=by cases v <;> first | rfl | exact absurd ⟨_,_,_,rfl⟩ hp
  rw [h1] at he;cases hx:EG o [] none v <;> rw [hx] at he <;> simp only [HR] at he <;> cases he
theorem v6 (o:Store):∀ l:List V,FI.borC (l.map (LJ o))=none
 | []=>rfl
 | v :: r=>by
  have:=Uz o v
  simp only [AZ];cases hx:LJ o v <;> simp only [FI.borC,v6 o r]
  exact absurd hx (this _)
theorem v7 (o:Store):∀ (l:List V) (tks:List (List Kd)),FI (JT o tks l)=none
 | [],tks=>by cases tks <;> rfl
 | v :: r,tks=>by
  obtain ⟨ks,tks',he⟩:∃ ks tks',JT o tks (v :: r)=L9 o ks v :: JT o tks' r:=by
   cases tks with
   | nil=>exact ⟨[],[],rfl⟩
   | cons k ks=>exact ⟨k,ks,rfl⟩
  have ih:=v7 o r tks';rw [he];by_cases hc:(∃ f l,v = .clo f l)∨(∃ n i c,v = .ptr n i c)
  ·rcases hc with ⟨f,l,rfl⟩ | ⟨n,i,c,rfl⟩
   ·simp only [L9,FI,v6,ih]
   ·simp only [L9,FI,ih]
  ·have h1:L9 o ks v=JB o [] ks v:=by cases v <;> first | rfl | exact absurd (.inl ⟨_,_,rfl⟩) hc | exact absurd (.inr ⟨_,_,_,rfl⟩) hc
   have h2:E3 [v]=[]:=by cases v <;> first | rfl | exact absurd (.inl ⟨_,_,rfl⟩) hc | exact absurd (.inr ⟨_,_,_,rfl⟩) hc
   have h3:=(dQ (o:=o) (bs:=[]) (l:=[v]) (tks:=[ks])).2 h2;simp only [FZ] at h3;rw [h1];cases hx:JB o [] ks v <;> rw [hx] at h3 <;> simp only [FI] at h3 ⊢ <;> first | exact ih | (cases h3; done) | skip
   cases hy:FI.borC _ with
   | none=>simpa only using ih
   | some cs=>rw [hy] at h3; cases h3
theorem Uv (h:Rel B nt w0 X γ st a w) (hg:GX B w0 X) {f:FuncId} {sp:R9} (hS:Snd P B f sp) {vs:List V} {xs:List Value} (hv:VRels γ st.o w (DK X γ st.o) vs xs) {tks:List (List Kd)} {b:Bool}
  (hsp:sp (JT st.o tks vs)=some (.bool b,[])) :
  Does P f xs w fun e w'=>∃ x,e = .returned x∧∃ γ',Rel B nt w0 X γ' st a w'∧VRel γ' st.o w' (DK X γ' st.o) (.bool b) x:=by
 have hb:FI (JT st.o tks vs)=none:=v7 _ _ _;have hm:H1 (JT st.o tks vs)=[]:=by simp only [H1,hb]
 generalize hX':(⟨fun _=>False,fun b=>DK X γ st.o b∧(∀ m∈EL vs,¬ RowOf γ st.o m b)∧∀ m∈E3 vs,¬ ES γ st.o m b⟩:Zone)=X';have hXo:∀ b,¬ X'.own b:=fun b hb=>by rw [← hX'] at hb; exact hb
 have hXf:∀ b,X'.far b→DK X γ st.o b∧(∀ m∈EL vs,¬ RowOf γ st.o m b)∧∀ m∈E3 vs,¬ ES γ st.o m b:=fun b hb=>by rw [← hX'] at hb; exact hb
 have hO:∀ b,DK X' γ [] b→X'.far b:=fun b hb=>by
  rcases hb with ⟨n,ob,hn,_⟩ | hb
  ·simp only [DI,EQ] at hn; cases hn
  ·exact hb
 have hR:Rel B.base 0 w X' γ ⟨[],[]⟩ JA w:=by
  refine ⟨rfl,rfl,fun i=>by simp only [St.get,EQ,VRel],fun n ob hn=>?_,?_,?_,Keep.refl _ w,?_,?_,fun p hp=>by cases hp⟩
  ·simp only [DI,EQ] at hn; cases hn
  ·rintro b ⟨n,ob,hn,_⟩; simp only [DI,EQ] at hn; cases hn
  ·intro n m ob ob' b _ hn; simp only [DI,EQ] at hn; cases hn
  ·rintro b ⟨n,ob,hn,_⟩; simp only [DI,EQ] at hn; cases hn
  ·intro b hb;rcases (hXf b hb).1 with hb | hb
   ·exact (h.lt b hb).1
   ·exact h.fl b hb
 have:=hS w X' γ (JT st.o tks vs) xs (.bool b) [] hsp (h.glob hg) (fun b hb=>(hXo b hb).elim) (by rw [hm]; exact hR) (by
  rw [hm];exact vF h (fun b _ hb=>(hXf b (hO b hb)).1) hv (fun m hm b hr hb=>(hXf b (hO b hb)).2.1 m hm hr) (fun m hm b hr hb=>(hXf b (hO b hb)).2.2 m hm hr))
 refine this.mono ?_;rintro e w' ⟨x,he,γ',h1,h2,_⟩;have hp:=lA h hXo h1 X.far (fun b hb=>.inl hb);exact ⟨x,he,γ,hp,by simpa only [LV,EC,VRel] using h2⟩
end
open Go Go.RowKit
mutual
theorem VRel.leaves {γ γ':Nat→Value} {o o':Store} {w:World} {O:Nat→Prop} (h1:∀ n lo hi x,VRel γ o w O (.row n lo hi) x→VRel γ' o' w O (.row n lo hi) x) (h2:∀ n i c x,VRel γ o w O (.ptr n i c) x→VRel γ' o' w O (.ptr n i c) x)
  (h3:∀ n c cap sz len x,VRel γ o w O (.bview n c cap sz len) x→VRel γ' o' w O (.bview n c cap sz len) x):∀ {v:V} {x:Value},VRel γ o w O v x→VRel γ' o' w O v x
 | .any,_,_=>by simp only [VRel]
 | .int _ _,_,h=>by simpa only [VRel] using h
 | .bool _,_,h=>by simpa only [VRel] using h
 | .str _,_,h=>by simpa only [VRel] using h
 | .list _ _ _,_,h=>by simpa only [VRel] using h
 | .zs,_,h=>by simpa only [VRel] using h
 | .row _ _ _,_,h=>h1 _ _ _ _ h
 | .ptr _ _ _,_,h=>h2 _ _ _ _ h
 | .iptr _ _ _,_,h=>by simpa only [VRel] using h
 | .bview _ _ _ _ _,_,h=>h3 _ _ _ _ _ _ h
 | .agg l,x,h=>by
  simp only [VRel] at h ⊢;obtain ⟨cs,hx,hr⟩:=h;exact ⟨cs,hx,VRels.leaves h1 h2 h3 hr⟩
 | .tup l,x,h=>by
  simp only [VRel] at h ⊢;obtain ⟨cs,hx,hr⟩:=h;exact ⟨cs,hx,VRels.leaves h1 h2 h3 hr⟩
 | .err _,_,h=>by simpa only [VRel] using h
 | .nilp,_,h=>by simpa only [VRel] using h
 | .clo _ l,x,h=>by
  simp only [VRel] at h ⊢;obtain ⟨cs,hx,hr⟩:=h;exact ⟨cs,hx,VRels.leaves h1 h2 h3 hr⟩
 | .bor _,_,h=>by simp only [VRel] at h
 | .vec _ _ _ _,_,h=>by simp only [VRel] at h
 | .bld _,_,h=>by simp only [VRel] at h
theorem VRels.leaves {γ γ':Nat→Value} {o o':Store} {w:World} {O:Nat→Prop} (h1:∀ n lo hi x,VRel γ o w O (.row n lo hi) x→VRel γ' o' w O (.row n lo hi) x) (h2:∀ n i c x,VRel γ o w O (.ptr n i c) x→VRel γ' o' w O (.ptr n i c) x)
  (h3:∀ n c cap sz len x,VRel γ o w O (.bview n c cap sz len) x→VRel γ' o' w O (.bview n c cap sz len) x):∀ {l:List V} {xs:List Value},VRels γ o w O l xs→VRels γ' o' w O l xs
 | [],[],_=>by simp only [VRels]
 | [],_ :: _,h=>by simp only [VRels] at h
 | _ :: _,[],h=>by simp only [VRels] at h
 | v :: vs,x :: xs,h=>by
  simp only [VRels] at h ⊢;exact ⟨VRel.leaves h1 h2 h3 h.1,VRels.leaves h1 h2 h3 h.2⟩
end
section
variable {B:BT} {nt:Nat} {w0:World} {X:Zone} {γ:Nat→Value} {st st':St} {a:Act} {w:World} {P:Program} {E:Env}
theorem Db:∀ (hs:List Nat) {st:St} {X:Zone},Rel B nt w0 X γ st a w →
  Rel B nt w0 ⟨X.own,fun b=>X.far b∨∃ m∈hs,ES γ st.o m b⟩ γ (st.ups (LO hs)) a w∧(st.ups (LO hs)).t=st.t∧∀ m,DI (st.ups (LO hs)).o m=if m∈hs then none else DI st.o m
 | [],st,X,h=>⟨h.shrink (fun b hb=>by simpa using hb),rfl,fun m=>by simp [LO,St.ups]⟩
 | n :: r,st,X,h=>by
  obtain ⟨h1,h2,h3⟩:=Db r (h.kill n);have hob:∀ m,DI (st.up (.kill n)).o m=if n=m then none else DI st.o m:=fun m=>by simp only [St.up,D9]
  refine ⟨?_,h2,fun m=>?_⟩
  ·simp only [LO,St.ups];refine h1.shrink (fun b hb=>?_);rcases hb with hb | ⟨m,hm,hb⟩
   ·exact .inl (.inl hb)
   ·by_cases e:n=m
    ·subst e;exact .inl (.inr hb)
    ·rcases AS.1 hm with h4 | h4
     ·exact absurd h4.symm e
     ·obtain ⟨ob,p1,p2⟩:=hb;exact .inr ⟨m,h4,ob,by rw [hob,A9 e]; exact p1,p2⟩
  ·simp only [LO,St.ups];rw [h3,hob];by_cases h4:m∈r
   ·simp [h4]
   ·by_cases h5:n=m
    ·subst h5;simp
    ·have:¬ m=n:=fun e=>h5 e.symm
     simp [h4,h5,this]
theorem Bz (h:Rel B nt w0 X γ st a w) (ns:List Nat) {n:Nat} {ob:Ob} (ho:DI st.o n=some ob) (hb:∀ e ag ks l,ob≠.row true e ag ks l):DI (st.ups (EJ st.o ns)).o n=some ob:=by
 obtain ⟨_,h2,_⟩:=M5 st.o ns (FrzLe.refl _) h;rcases h2 n with h3 | ⟨e,ag,ks,l,h3,_⟩
 ·rw [h3,ho]
 ·rw [ho,AC] at h3;exact absurd h3 (hb _ _ _ _)
theorem Rel.boundB (h:Rel B nt w0 X γ st a w) {n:Nat} {s:BA} (ho:DI st.o n=some (.bld s)) {w1:World} {own1 F:Nat→Prop} (hk:Keep own1 w1 w)
  (hF:∀ b,F b→DK X γ st.o b∧¬ ES γ st.o n b) (hown:∀ b,ES γ st.o n b→w1.heap.size≤b∨own1 b) :
  Rel B.base 0 w1 ⟨own1,F⟩ (fun _=>γ n) ⟨[],EM [.bld s]⟩ JA w∧∀ b,E4 (fun _=>γ n) (EM [.bld s]) b→ES γ st.o n b:=by
 have hP:∀ b,E4 (fun _=>γ n) (EM [.bld s]) b→ES γ st.o n b:=by
  rintro b ⟨m,ob,hm,hb⟩;simp only [EM] at hm;rw [D9] at hm;split at hm
  ·simp only [AC] at hm;subst hm;exact ⟨_,ho,hb⟩
  ·simp only [DI,EQ] at hm; cases hm
 refine ⟨⟨rfl,rfl,fun i=>by simp only [St.get,EQ,VRel],fun m ob hm=>?_,fun b hb=>?_,?_,hk,?_,?_,fun p hp=>by cases hp⟩,hP⟩
 ·simp only [EM] at hm;rw [D9] at hm;split at hm
  ·simp only [AC] at hm;subst hm
   have:=h.ob n _ ho
   simpa only [ObRel,BT.base] using this
  ·simp only [DI,EQ] at hm; cases hm
 ·obtain ⟨ob,h1,h2⟩:=hP b hb;exact ⟨(h.lt b ⟨n,ob,h1,h2⟩).1,hown b (hP b hb)⟩
 ·intro m1 m2 ob1 ob2 b hne h1 h2 _ _;simp only [EM] at h1 h2;rw [D9] at h1 h2;split at h1
  ·split at h2
   ·omega
   ·simp only [DI,EQ] at h2; cases h2
  ·simp only [DI,EQ] at h1; cases h1
 ·intro b hb hf;exact (hF b hf).2 (hP b hb)
 ·intro b hb;rcases (hF b hb).1 with h1 | h1
  ·exact (h.lt b h1).1
  ·exact h.fl b h1
theorem Uq (h:Rel B nt w0 X γ st a w) (hg:GX B w0 X) {f:FuncId} {sp:R9} (hS:Snd P B f sp) {vs:List V} {xs:List Value} (hv:VRels γ st.o w (DK X γ st.o) vs xs) {n:Nat} (hl:E3 vs=[n]) {s s':BA} (ho:DI st.o n=some (.bld s))
  {tks:List (List Kd)} {v:V} (hsp:sp (FZ st.o [.bld s] tks vs)=some (v,[[.bld s']])) (hib:jZ (FI (FZ st.o [.bld s] tks vs))=true) :
  Does P f xs w fun e w'=>∃ x,e = .returned x∧∃ γ',Rel B nt w0 X γ' (st.ups (EJ st.o (match HZ v with | true=>EL vs | false=>[])++[.set n (.bld s')])) a w' ∧
   VRel γ' (st.ups (EJ st.o (match HZ v with | true=>EL vs | false=>[])++[.set n (.bld s')])).o w' (DK X γ' (st.ups (EJ st.o (match HZ v with | true=>EL vs | false=>[])++[.set n (.bld s')])).o) v x:=by
 have hL:∀ b,ES γ st.o n b→w.heap.size≤b∨ES γ st.o n b:=fun b hb=>.inr hb
 obtain ⟨hR,hP⟩:=h.boundB ho (w1:=w) (own1:=ES γ st.o n) (F:=fun b=>DK X γ st.o b∧¬ ES γ st.o n b∧∀ m∈EL vs,¬ RowOf γ st.o m b) (Keep.refl _ w) (fun b hb=>⟨hb.1,hb.2.1⟩) hL;generalize hX':(⟨ES γ st.o n,fun b=>DK X γ st.o b∧¬ ES γ st.o n b∧∀ m∈EL vs,¬ RowOf γ st.o m b⟩:Zone)=X' at hR;have hXf:∀ b,X'.far b↔(DK X γ st.o b∧¬ ES γ st.o n b∧∀ m∈EL vs,¬ RowOf γ st.o m b):=fun b=>by rw [← hX']
 have hXo:∀ b,X'.own b↔ES γ st.o n b:=fun b=>by rw [← hX']
 have hnP:∀ b,ES γ st.o n b→E4 γ st.o b:=fun b ⟨ob,h1,h2⟩=>⟨n,ob,h1,h2⟩
 rcases (dQ (o:=st.o) (bs:=[.bld s]) (l:=vs) (tks:=tks)).1 with hb | hb
 ·rw [hb] at hib;cases hib
 ·have hm:H1 (FZ st.o [.bld s] tks vs)=EM [.bld s]:=by simp only [H1,hb]
  have hcall:=hS w X' (fun _=>γ n) (FZ st.o [.bld s] tks vs) xs v [[.bld s']] hsp (h.glob hg) (fun b hb=>h.high hg (hnP b ((hXo b).1 hb))) (by rw [hm]; exact hR) (by
   rw [hm];refine iM h (fun b _ hb=>?_) [.bld s] hv (fun m hm b hr hb=>?_) (fun m hm=>?_)
   ·rcases hb with hb | hb
    ·exact .inl (hnP b (hP b hb))
    ·exact ((hXf b).1 hb).1
   ·rcases hb with hb | hb
    ·obtain ⟨e,ag,ks,l,h5,h6⟩:=hr;obtain ⟨ob,h7,h8⟩:=hP b hb;have hne:n≠m:=by
      rintro rfl;rw [ho] at h5;cases h5
     exact h.dis n m ob _ b hne h7 h5 h8 h6
    ·exact ((hXf b).1 hb).2.2 m hm hr
   ·rw [hl] at hm;simp only [BX] at hm;subst hm;exact ⟨rfl,.inr ⟨s,s,ho,by simp [EM,D9]⟩⟩)
  refine hcall.mono ?_;rintro e w' ⟨x,he,γ',h1,h2,h3⟩;simp only [KC,hb] at h3;obtain ⟨hf,_,had⟩:=h3;have hmo:GD v [[.bld s']]=EM [.bld s']:=by cases v <;> rfl
  rw [hmo] at h1 h2;rw [UT hf] at h2;refine ⟨x,he,?_⟩;generalize hF0:(match HZ v with | true=>EL vs | false=>[])=F0;have hz:=(M5 st.o F0 (FrzLe.refl _) h).1;have hon:=Bz h F0 ho (fun _ _ _ _=>by simp);have hob0:DI (EM [.bld s']) 900000=some (.bld s'):=by simp [EM,D9]
  have hor:=h1.ob _ _ hob0;have hor0:=h.ob _ _ ho;simp only [ObRel] at hor hor0;obtain ⟨b1,v1,p1,hg1,_⟩:=hor;obtain ⟨b0,v0,p0,hg0,_⟩:=hor0;have hbb:b1=b0:=by
   rw [hg1,hg0] at had;simpa [SA] using had
  subst hbb;have hbl:∀ b,ES γ (st.ups (EJ st.o F0)).o n b↔ES γ st.o n b:=fun b=>by simp only [ES,hon,ho]
  have hOP:∀ b,EU (γ' 900000) (.bld s') b→E4 γ' (EM [.bld s']) b:=fun b hb=>⟨_,_,hob0,hb⟩
  have hsz:=h1.keep.size;have hlend:=hz.lend (n:=n) (ob':=.bld s') (g':=γ' 900000) hon had h1.keep (K:=X'.own) (fun b _ hb=>.inl ((hbl b).2 ((hXo b).1 hb)))
   (fun b hb=>by
    obtain ⟨q1,q2⟩:=h1.lt b (hOP b hb);exact ⟨q1,q2.elim .inr (fun hb=>.inl ((hbl b).2 ((hXo b).1 hb)))⟩)
   (fun O v x hvx=>VRel.leaves (fun m lo hi x hx=>by
     simp only [VRel] at hx ⊢;rw [D9];by_cases e:n=m
     ·subst e; simp only [CO]
     ·simp only [A9 e]; exact hx) (fun m i c x hx=>by
     simp only [VRel] at hx ⊢;rw [D9];by_cases e:n=m
     ·subst e;simp only [CO];rw [hon] at hx;obtain ⟨rfl,b,v',hg,hxx⟩:=hx;rw [hg0] at hg;simp only [Value.tuple.injEq,Array.mk.injEq,vaB,CT,AC,C5,B4] at hg;refine ⟨rfl,b1,v1,hg1,?_⟩;rw [hxx,hg.1]
     ·simp only [A9 e]; exact hx) (fun m c cap sz len x hx=>by
     simp only [VRel] at hx ⊢;rw [D9];by_cases e:n=m
     ·subst e; simp only [CO]
     ·simp only [A9 e]; exact hx) hvx)
   (by
    have hor:=h1.ob _ _ hob0;simpa only [ObRel,BT.base] using hor)
  have hfin:=hlend.shrink (F:=X.far) (fun b hb=>⟨.inl hb,fun hbb=>by
   obtain ⟨q1,q2⟩:=h1.lt b (hOP b hbb)
   have:=h.fl b hb
   rcases q2 with q2 | q2
   ·omega
   ·exact h.nr b (hnP b ((hXo b).1 q2)) hb⟩)
  refine ⟨_,by rw [K8]; exact hfin,?_⟩;rw [K8];refine o0 hf (fun hhl b hlt hb=>?_) h2;rw [hhl] at hF0;simp only at hF0;rcases hb with ⟨m,ob,hm,hbm⟩ | hb
  ·simp only [St.ups,St.up] at hm;rw [D9] at hm;by_cases e:n=m
   ·subst e;simp only [CO,AC] at hm hbm;subst hm;exact .inl (hOP b hbm)
   ·simp only [A9 e] at hm hbm;obtain ⟨q1,q2⟩:=eD h F0 (b:=b) (.inl ⟨m,ob,hm,hbm⟩);refine .inr ((hXf b).2 ⟨q1,fun hbn=>?_,by rw [hF0]; exact q2⟩);obtain ⟨ob2,q3,q4⟩:=(hbl b).2 hbn;exact hz.dis n m ob2 ob b e q3 hm q4 hbm
  ·refine .inr ((hXf b).2 ⟨.inr hb,fun hbn=>h.nr b (hnP b hbn) hb,fun m _ ⟨e,ag,ks,l,q1,q2⟩=>h.nr b ⟨m,_,q1,q2⟩ hb⟩)
theorem lN {o:Store} {all:List Nat} {n:Nat}:∀ {cs:List V},n∈HM o all cs→∃ lo hi own e ag ks l,.row n lo hi∈cs∧DI o n=some (.row own e ag ks l)∧(own&&(BO lo 0&&BO (HK n all) 1))=false
 | [],h=>by simp [HM] at h
 | v :: r,h=>by
  have up:n∈HM o all r→∃ lo hi own e ag ks l,.row n lo hi∈v :: r∧DI o n=some (.row own e ag ks l)∧(own&&(BO lo 0&&BO (HK n all) 1))=false:=fun h'=>by
   obtain ⟨lo,hi,own,e,ag,ks,l,h1,h2,h3⟩:=lN h';exact ⟨lo,hi,own,e,ag,ks,l,AY _ h1,h2,h3⟩
  cases v
  case row m lo hi=>
   simp only [HM] at h;split at h
   ·rename_i own e ag ks l hob;split at h
    ·exact up h
    ·rename_i hb;rcases AS.1 h with h1 | h1
     ·subst h1;exact ⟨lo,hi,own,e,ag,ks,l,AR ..,hob,hb⟩
     ·exact up h1
   ·exact up h
  all_goals exact up h
theorem Ur (h:Rel B nt w0 X γ st a w) (hg:GX B w0 X) {f:FuncId} {sp:R9} (hS:Snd P B f sp) {vs:List V} {xs:List Value} (hv:VRels γ st.o w (DK X γ st.o) vs xs) {n:Nat} (hl:E3 vs=[n]) {cs:List V} (ho:DI st.o n=some (.box cs)) {all:List Nat} (hall:ET cs++EL vs=all)
  {tks:List (List Kd)} {v:V} {out:List V} (hsp:sp (FZ st.o (cs.map (E8 st.o all)) tks vs)=some (v,[out])) (hib:jZ (FI (FZ st.o (cs.map (E8 st.o all)) tks vs))=true) {nm:Nat} (hlen:out.length=cs.length) (hnm:n < nm∨nm+out.length≤n) (hn9:nm+out.length≤900000) :
  Does P f xs w fun e w'=>∃ x,e = .returned x∧∃ γ',Rel B nt w0 X γ' (st.ups (EJ st.o (HM st.o all cs++(match HZ v||HW out with | true=>EL vs | false=>[])) ++
     (LO (GS st.o all cs)++(.set n (.box (NR cs)) :: (JU nm out++[.set n (.box (GB nm out))]))))) a w' ∧
   VRel γ' (st.ups (EJ st.o (HM st.o all cs++(match HZ v||HW out with | true=>EL vs | false=>[])) ++
     (LO (GS st.o all cs)++(.set n (.box (NR cs)) :: (JU nm out++[.set n (.box (GB nm out))]))))).o w' (DK X γ' (st.ups (EJ st.o (HM st.o all cs++(match HZ v||HW out with | true=>EL vs | false=>[])) ++
     (LO (GS st.o all cs)++(.set n (.box (NR cs)) :: (JU nm out++[.set n (.box (GB nm out))]))))).o) v x:=by
 let L:Nat→Prop:=fun b=>ES γ st.o n b∨∃ m∈GS st.o all cs,ES γ st.o m b
 have hLP:∀ b,L b→E4 γ st.o b:=by
  rintro b (⟨ob,h1,h2⟩ | ⟨m,_,ob,h1,h2⟩)
  ·exact ⟨n,ob,h1,h2⟩
  ·exact ⟨m,ob,h1,h2⟩
 have hbound:=h.bound ho (EL vs) (w1:=w) (own1:=L) (F:=fun b=>DK X γ st.o b∧¬ L b∧(∀ m∈HM st.o all cs,¬ ES γ st.o m b)∧∀ m∈EL vs,¬ RowOf γ st.o m b) (Keep.refl _ w)
  (fun b hb=>⟨hb.1,fun h1=>hb.2.1 (.inl h1),fun m hm h1=>hb.2.1 (.inr ⟨m,by rw [← hall]; exact hm,h1⟩),by rw [hall]; exact hb.2.2.1⟩) (fun b hb=>.inr (by rw [hall] at hb; exact hb))
 rw [hall] at hbound;obtain ⟨γb,hR,hg0,hP⟩:=hbound;generalize hX':(⟨L,fun b=>DK X γ st.o b∧¬ L b∧(∀ m∈HM st.o all cs,¬ ES γ st.o m b)∧∀ m∈EL vs,¬ RowOf γ st.o m b⟩:Zone)=X' at hR;have hXf:∀ b,X'.far b↔(DK X γ st.o b∧¬ L b∧(∀ m∈HM st.o all cs,¬ ES γ st.o m b)∧∀ m∈EL vs,¬ RowOf γ st.o m b):=fun b=>by rw [← hX']
 have hXo:∀ b,X'.own b↔L b:=fun b=>by rw [← hX']
 have hb:FI (FZ st.o (cs.map (E8 st.o all)) tks vs)=some (cs.map (E8 st.o all)):=by
  rcases (dQ (o:=st.o) (bs:=cs.map (E8 st.o all)) (l:=vs) (tks:=tks)).1 with hb | hb
  ·rw [hb] at hib; cases hib
  ·exact hb
 have hm:H1 (FZ st.o (cs.map (E8 st.o all)) tks vs)=EM (cs.map (E8 st.o all)):=by simp only [H1,hb]
 have hargs:∀ m∈EL vs,∀ b,RowOf γ st.o m b→¬ L b:=by
  intro m hm b hr hLb;obtain ⟨e,ag,ks,l,h5,h6⟩:=hr;rcases hLb with ⟨ob,h7,h8⟩ | ⟨m2,h9,ob,h7,h8⟩
  ·have hne:n≠m:=by
    rintro rfl;rw [ho] at h5;cases h5
   exact h.dis n m ob _ b hne h7 h5 h8 h6
  ·by_cases hne:m2=m
   ·subst hne;obtain ⟨hi2,e2,ag2,ks2,l2,k1,k2,k3⟩:=SN.1 h9;rw [← hall,UL] at k3;have q1:=UM (XC k1);have q2:=UM hm;omega
   ·exact h.dis m2 m ob _ b hne h7 h5 h8 h6
 have hok0:∀ v,RE (E8 st.o all v)=true:=by
  intro v;rcases dT st.o all v with ⟨_,_,_,_,_,_,_,_,_,h1⟩ | ⟨h1,_⟩
  ·rw [h1]; rfl
  ·cases hcc:E8 st.o all v <;> first | rfl | (rw [hcc] at h1; cases h1)
 have hcall:=hS w X' γb (FZ st.o (cs.map (E8 st.o all)) tks vs) xs v [out] hsp (h.glob hg) (fun b hb=>h.high hg (hLP b ((hXo b).1 hb))) (by rw [hm]; exact hR) (by
  rw [hm];refine iM h (fun b _ hb=>?_) _ hv (fun m hm b hr hb=>?_) (fun m hm=>?_)
  ·rcases hb with hb | hb
   ·exact .inl (hLP b (hP b hb))
   ·exact ((hXf b).1 hb).1
  ·rcases hb with hb | hb
   ·exact hargs m hm b hr (hP b hb)
   ·exact ((hXf b).1 hb).2.2.2 m hm hr
  ·rw [hl] at hm;simp only [BX] at hm;subst hm;exact ⟨hg0,.inl ⟨cs,_,ho,by rw [Y0 (CS.2 (fun v hv=>by obtain ⟨u,_,rfl⟩:=CN.1 hv; exact hok0 u)),D9,BR rfl]⟩⟩)
 refine hcall.mono ?_;rintro e w' ⟨x,he,γ',h1,h2,h3⟩;simp only [KC,hb] at h3;obtain ⟨hf,hsk,had⟩:=h3;have hok:out.all RE=true:=by
  unfold sJ at hsk;split at hsk
  ·rename_i s s' hcs;cases cs with
   | nil=>simp at hcs
   | cons u r=>
    simp only [AZ,vaB] at hcs
    have:=hok0 u
    rw [hcs.1] at this;cases this
  ·cases hsk
  ·exact hsk
 have hmo:GD v [out]=EM out:=by cases v <;> rfl
 rw [hmo] at h1 h2;rw [UT hf] at h2;refine ⟨x,he,?_⟩;generalize hF0:HM st.o all cs++(match HZ v||HW out with | true=>EL vs | false=>[])=F0;have hz:=(M5 st.o F0 (FrzLe.refl _) h).1;have hzf:=(M5 st.o F0 (FrzLe.refl _) h).2.1;have hon:=Bz h F0 ho (fun _ _ _ _=>by simp);obtain ⟨hk,hkt,hko⟩:=Db (GS st.o all cs) hz;have hnh:n ∉ GS st.o all cs:=by
  intro hn;obtain ⟨_,_,_,_,_,_,q,_⟩:=SN.1 hn;rw [ho] at q;cases q
 have hon2:DI ((st.ups (EJ st.o F0)).ups (LO (GS st.o all cs))).o n=some (.box cs):=by rw [hko,A9 hnh]; exact hon
 have hor0:=h.ob _ _ ho;simp only [ObRel] at hor0;obtain ⟨b0,c0,T0,hgn,hh0,hr0⟩:=hor0;have hob0:DI (EM out) 900000=some (.box (GB 900001 out)):=by rw [Y0 hok,D9,BR rfl]
 have hor:=h1.ob _ _ hob0;simp only [ObRel] at hor;obtain ⟨b1,c,T,hg,hh,hr⟩:=hor;have hbb:b1=b0:=by
  rw [hg,hg0,hgn] at had;simpa [SA] using had
 subst hbb;have hg':γ' 900000=γ n:=by rw [hg,hgn]
 have hsz:=h1.keep.size;have hbn:∀ b,ES γ st.o n b↔b=b1:=by
  intro b;constructor
  ·rintro ⟨ob,h5,h6⟩;rw [ho] at h5;cases h5;obtain ⟨ad,h7,h8⟩:=h6;rw [hgn] at h7;cases h7;exact h8.symm
  ·rintro rfl;exact ⟨_,ho,_,hgn,rfl⟩
 have hbn2:∀ b,ES γ ((st.ups (EJ st.o F0)).ups (LO (GS st.o all cs))).o n b↔b=b1:=by
  intro b;rw [← hbn b];simp only [ES,hon2,ho]
 have hbx:∀ l b,EU (γ n) (.box l) b↔b=b1:=by
  intro l b;rw [← hbn b];simp only [ES,ho,AC,exists_eq_left',EU]
 have hhb:∀ m∈GS st.o all cs,∀ b,ES γ st.o m b→ES γ (st.ups (EJ st.o F0)).o m b:=by
  rintro m hm b ⟨ob,h5,h6⟩;obtain ⟨hi2,e2,ag2,ks2,l2,k1,k2,k3⟩:=SN.1 hm;refine ⟨ob,?_,h6⟩;rw [(M5 st.o F0 (FrzLe.refl _) h).2.2.2.2 m ?_]
  ·exact h5
  ·intro hmF;rw [← hF0] at hmF;rcases AV.1 hmF with h7 | h7
   ·obtain ⟨lo3,hi3,own3,e3,ag3,ks3,l3,q1,q2,q3⟩:=lN h7;obtain ⟨i1,hi1⟩:=List.mem_iff_getElem?.1 k1;obtain ⟨i2,hi2⟩:=List.mem_iff_getElem?.1 q1;rw [← hall,UL] at k3;rcases Nat.lt_trichotomy i1 i2 with hlt | hlt | hlt
    ·have:=XG hlt hi1 hi2
     omega
    ·subst hlt;rw [hi1] at hi2;simp only [AC,V.row.injEq,vaO] at hi2;obtain ⟨rfl,rfl⟩:=hi2;rw [k2] at q2;simp only [AC,Ob.row.injEq] at q2;obtain ⟨rfl,_⟩:=q2;rw [← hall,UL,k3] at q3;simp at q3
    ·have:=XG hlt hi2 hi1
     omega
   ·have q1:m∈EL vs:=by
     split at h7
     ·exact h7
     ·cases h7
    rw [← hall,UL] at k3
    have:=UM (XC k1)
    have:=UM q1
    omega
 have hlend:=hk.lend (n:=n) (ob':=.box (NR cs)) (g':=γ n) hon2 rfl h1.keep (K:=X'.own)
  (fun b hlt hb=>by
   have hLb:=(hXo b).1 hb;rcases hLb with h5 | ⟨m,h6,h7⟩
   ·exact .inl ((hbn2 b).2 ((hbn b).1 h5))
   ·refine .inr ⟨.inr ⟨m,h6,hhb m h6 b h7⟩,?_⟩;exact (h.lt b (hLP b (.inr ⟨m,h6,h7⟩))).2)
  (fun b hb=>by
   have:=(hbx _ b).1 hb
   subst this;exact ⟨C0 (h.lt _ ⟨n,_,ho,(hbx _ _).2 rfl⟩).1 hsz,.inl ((hbn2 _).2 rfl)⟩)
  (fun O v x hvx=>by
   refine VRel.cmp ?_ hvx;intro m ob1 hm;refine ⟨by by_cases e:n=m <;> simp [e],?_⟩;rw [D9] at hm;by_cases e:n=m
   ·subst e;simp only [CO,AC] at hm;subst hm;exact ⟨_,hon2,by simp [Ob.fits,YI]⟩
   ·rw [A9 e] at hm;exact ⟨ob1,hm,ob1.fits_refl⟩)
  (by
   simp only [ObRel];refine ⟨b1,c,T,hgn,hh,?_⟩;have hcl:=hr.length;rw [YK,hlen] at hcl;refine VRels.of_get (by rw [YI,BQ,hcl]) (fun j v x hv hx=>?_);rw [YI,B9] at hv;cases hcj:cs[j]? with
   | none=>rw [hcj] at hv; cases hv
   | some u=>
    rw [hcj] at hv;simp only [vaf,AC] at hv;subst hv;simp only [VRel])
 obtain ⟨br1,br2,br3⟩:=vO hok h1;have hPf:∀ b,E4 γ' (EM out) b→(w.heap.size≤b∧b < w'.heap.size)∨L b:=fun b hb=>by
  obtain ⟨q1,q2⟩:=h1.lt b hb;rcases q2 with q2 | q2
  ·exact .inl ⟨q2,q1⟩
  ·exact .inr ((hXo b).1 q2)
 have hb1P:E4 γ' (EM out) b1:=⟨900000,_,hob0,⟨_,hg,rfl⟩⟩;have hLb1:L b1:=.inl ((hbn b1).2 rfl);have hsh:=hlend.shrink (F:=fun b=>(X.far b∨E4 γ' (EM out) b)∧b≠b1) (fun b hb=>by
  refine ⟨?_,fun hbb=>hb.2 ((hbx _ b).1 hbb)⟩;rcases hb.1 with h5 | h5
  ·exact .inl (.inl h5)
  ·rcases hPf b h5 with h6 | h6 | ⟨m,h6,h7⟩
   ·exact .inr h6
   ·exact absurd ((hbn b).1 h6) hb.2
   ·exact .inl (.inr ⟨m,h6,hhb m h6 b h7⟩))
 have hfarX:∀ b,X.far b→X'.far b:=fun b hb=>(hXf b).2 ⟨.inr hb,fun hL=>h.nr b (hLP b hL) hb,fun m _ ⟨ob,q1,q2⟩=>h.nr b ⟨m,ob,q1,q2⟩ hb,fun m _ ⟨e,ag,ks,l,q1,q2⟩=>h.nr b ⟨m,_,q1,q2⟩ hb⟩
 have hO1:∀ b,DK ⟨X.own,fun b=>(X.far b∨E4 γ' (EM out) b)∧b≠b1⟩ (fun m=>if n=m then γ n else γ m) (((st.ups (EJ st.o F0)).ups (LO (GS st.o all cs))).up (.set n (.box (NR cs)))).o b →
   ((HZ v||HW out)=true→DK X' γ' (EM out) b):=by
  intro b hb hflag;rcases hb with ⟨m,ob,hm,hbm⟩ | ⟨hb | hb,_⟩
  ·simp only [St.up] at hm;rw [D9] at hm;by_cases e:n=m
   ·subst e;simp only [CO,AC] at hm hbm;subst hm
    have:=(hbx _ b).1 hbm
    subst this;exact .inl hb1P
   ·simp only [A9 e] at hm hbm;rw [hko] at hm;split at hm
    ·cases hm
    rename_i hmh;obtain ⟨q1,q2⟩:=eD h F0 (b:=b) (.inl ⟨m,ob,hm,hbm⟩);refine .inr ((hXf b).2 ⟨q1,fun hL=>?_,fun m' hm' hbl=>?_,fun m' hm'=>?_⟩)
    ·rcases hL with h5 | ⟨m2,h5,h6⟩
     ·obtain ⟨ob2,q3,q4⟩:ES γ (st.ups (EJ st.o F0)).o n b:=⟨_,hon,(hbx _ b).2 ((hbn b).1 h5)⟩;exact hz.dis n m ob2 ob b e q3 hm q4 hbm
     ·obtain ⟨ob2,q3,q4⟩:=hhb m2 h5 b h6;exact hz.dis m2 m ob2 ob b (fun e=>hmh (e ▸ h5)) q3 hm q4 hbm
    ·obtain ⟨lo3,hi3,own3,e3,ag3,ks3,l3,p1,p2,p3⟩:=lN hm';obtain ⟨ob2,q3,q4⟩:=hbl;rw [p2,AC] at q3;subst q3;cases own3 with
     | false=>exact q4.elim
     | true=>exact q2 m' (by rw [← hF0]; exact vaN _ hm') ⟨e3,ag3,ks3,l3,p2,q4⟩
    ·refine q2 m' ?_;rw [← hF0,hflag];exact vaJ _ hm'
  ·exact .inr (hfarX b hb)
  ·exact .inl hb
 have hrows:=iH (B':=B.base) (O1:=fun b=>HW out=true→DK X' γ' (EM out) b) (g:=fun j=>γ' (900001+j)) nm out 0 (by omega) hsh (fun b hb hal=>hO1 b hb (by simp [hal])) (fun j e ag ks l hj=>by
   rw [BJ];obtain ⟨q1,q2⟩:=br1 (fun m=>if n=m then γ n else γ m) j e ag ks l hj;refine ⟨q1,fun b hb=>⟨⟨.inr (q2 b hb),?_⟩,?_⟩⟩
   ·rintro rfl;exact br3 j e ag ks l _ hj hb ⟨_,hob0,_,hg,rfl⟩
   ·rcases hPf b (q2 b hb) with h5 | h5
    ·exact .inl (CW h.keep.size h5.1)
    ·exact (h.lt b (hLP b h5)).2)
  (fun i j e ag ks l e' ag' ks' l' b hij q1 q2 q3 q4=>by
   rw [BJ] at q3 q4;exact br2 i j e ag ks l e' ag' ks' l' b hij q1 q2 q3 q4)
 obtain ⟨γ4,F4,r1,r2,r3,r4,r5,r6⟩:=hrows;simp only [C6,BJ] at r1 r3 r4 r5 r6;obtain ⟨hγn,hobn,_⟩:=r6 n hnm;have hon4:=hobn cs (by simp only [St.up,D9,CO]);simp only [CO] at hγn;have hset:=r1.set (n:=n) (ob':=.box (GB nm out)) hon4 (by simp only [Ob.fits,YI,BQ,YK,hlen]) (Keep.refl _ w') (fun b hb=>hb) (fun hown hcmp=>by
  simp only [ObRel];refine ⟨b1,c,T,by rw [hγn,hgn],hh,y9 hok h1 hr (fun j e ag ks l hj=>?_) (fun hal b _ hb=>hO1 b (r4 b (hown b hb)) (by simp [hal]))⟩;obtain ⟨q1,q2⟩:=r5 j e ag ks l hj;refine ⟨q1,?_⟩;have hjl:j < out.length:=by
   rcases vaa j out.length with h' | h'
   ·exact h'
   ·rw [BU h'] at hj; cases hj
  rw [D9,A9 (by omega)];exact q2)
 have hfin:=hset.shrink (F:=X.far) (fun b hb=>by
  refine r3 b ⟨.inl hb,fun e=>h.nr b (hLP b (e ▸ hLb1)) hb⟩ (fun j e ag ks l hj hbj=>?_);rcases hPf b ((br1 γ j e ag ks l hj).2 b hbj) with h5 | h5
  ·have:=h.fl b hb
   omega
  ·exact h.nr b (hLP b h5) hb)
 have hst:(st.ups (EJ st.o F0++(LO (GS st.o all cs)++(.set n (.box (NR cs)) :: (JU nm out++[.set n (.box (GB nm out))]))))) =
   (((((st.ups (EJ st.o F0)).ups (LO (GS st.o all cs))).up (.set n (.box (NR cs)))).ups (JU nm out)).up (.set n (.box (GB nm out)))):=by
  rw [K8,K8];simp only [St.ups];rw [K8];rfl
 rw [hst];refine ⟨_,hfin,o0 hf (fun hhl b _ hb=>?_) h2⟩;rcases hb with ⟨m,ob,hm,hbm⟩ | hb
 ·simp only [St.up] at hm;rw [D9] at hm;refine hO1 b (r4 b (.inl ?_)) (by simp [hhl]);by_cases e:n=m
  ·subst e;simp only [CO,AC] at hm;subst hm;exact ⟨n,_,hon4,hbm⟩
  ·rw [A9 e] at hm;exact ⟨m,ob,hm,hbm⟩
 ·exact .inr (hfarX b hb)
end
open Go Go.RowKit
theorem pZ (k:Int):∀ es:List (Int × IV),GC es k≤es.length
 | []=>AW _
 | (j,x) :: r=>by
  rw [GC,AN]
  have:=pZ k r
  cases j==k <;> simp only [B1,BG] <;> omega
theorem kJ (x:IV):∀ (es:List (Int × IV)) (i:Nat),(N5 es i x).length=es.length
 | [],_=>rfl
 | (j,y) :: r,0=>rfl
 | (j,y) :: r,i+1=>by rw [N5,AN,kJ x r i,AN]
theorem Ef (x:IV):∀ (es:List (Int × IV)) (i j:Nat),(N5 es i x)[j]?=(es[j]?).map fun e=>if j=i then (e.1,x) else e
 | [],i,j=>by simp [N5]
 | (k,y) :: r,0,0=>by simp [N5]
 | (k,y) :: r,0,j+1=>by
  rw [N5,CV,CV];cases r[j]? <;> simp
 | e :: r,i+1,0=>by simp [N5]
 | e :: r,i+1,j+1=>by
  rw [N5,CV,CV,Ef x r i j];congr 1
  funext e
  by_cases h:j=i
  ·rw [BR h,BR (by omega)]
  ·rw [A9 h,A9 (by omega)]
theorem Bk (k:Int):∀ (es:List (Int × IV)) (l:List MapEntry) (i:Nat),l.length=es.length→(∀ (j:Nat) (e:Int × IV),es[j]?=some e→∃ m,l[j]?=some m∧m.key = .int .i64 e.1) →
  (GC es k < es.length→∃ m,l[GC es k]?=some m∧m.key = .int .i64 k∧Instr.findNow (.int .i64) (.int .i64 k) l i=some (some (i+GC es k,m.val))) ∧
  (¬ GC es k < es.length→Instr.findNow (.int .i64) (.int .i64 k) l i=some none)
 | [],[],i,_,_=>⟨fun h=>by simp at h,fun _=>rfl⟩
 | [],_ :: _,i,h,_=>by simp at h
 | _ :: _,[],i,h,_=>by simp at h
 | (j,x) :: r,m :: l,i,hl,h=>by
  obtain ⟨m',hm,hkey⟩:=h 0 (j,x) rfl;obtain rfl:m=m':=by simpa using hm
  have hs:Instr.sameNow (.int .i64) (.int .i64 k) m.key=some (k==j):=by rw [hkey]; simp [Instr.sameNow]
  rw [GC];by_cases e:j=k
  ·subst e;rw [va2,B1];refine ⟨fun _=>⟨m,rfl,hkey,?_⟩,fun h=>absurd (Nat.zero_lt_succ _) h⟩;rw [Instr.findNow,hs,va2];simp
  ·have e1:(j==k)=false:=by simpa using e
   have e2:(k==j)=false:=by simpa using fun h:k=j=>e h.symm
   rw [e1,BG,AN];obtain ⟨h1,h2⟩:=Bk k r l (i+1) (by simpa using hl) (fun j' e' he'=>h (j'+1) e' (by simpa using he'));refine ⟨fun hlt=>?_,fun hlt=>?_⟩
   ·obtain ⟨m',g1,g2,g3⟩:=h1 (by omega);refine ⟨m',by simpa using g1,g2,?_⟩;rw [Instr.findNow,hs,e2];simp only [g3];congr 3;omega
   ·rw [Instr.findNow,hs,e2];exact h2 (by omega)
theorem Dm {γ:Nat→Value} {o:Store} {w:World} {O:Nat→Prop} {k:Kd} (hk:W7 k=true) {v:V} {y:IV} (hy:MH o k v=some y) {x:Value} (hv:VRel γ o w O v x) (w':World) (O':Nat→Prop):Kd.Rel w' O' k y x:=by
 cases k <;> simp only [W7] at hk <;> try (cases hk; done)
 all_goals
  cases v <;> simp only [MH] at hy <;> try (cases hy; done)
 ·rename_i k k' n;cases hkk:k==k' with
  | false=>rw [hkk] at hy; cases hy
  | true=>
   rw [hkk] at hy;obtain rfl:=B3 hy;obtain rfl:k=k':=by simpa using hkk
   simp only [VRel] at hv;simp only [Kd.Rel,IV.toInt];exact hv
 ·obtain rfl:=B3 hy;simp only [VRel] at hv;simp only [Kd.Rel,IV.toBool];exact hv
 ·obtain rfl:=B3 hy;simp only [VRel] at hv;simp only [Kd.Rel,IV.toStr];exact hv
section
variable {w w':World} {O O':Nat→Prop} {vk:Kd} {es:List (Int × IV)} {ents:Array MapEntry}
theorem EntRel.find (h:EntRel w O vk es ents) (k:Int) :
  (GC es k < es.length→∃ m,ents[GC es k]?=some m∧m.key = .int .i64 k∧m.born=GC es k∧Kd.Rel w O vk (SQ vk es k) m.val∧Instr.findNow (.int .i64) (.int .i64 k) ents.toList 0=some (some (GC es k,m.val))) ∧
  (¬ GC es k < es.length→SQ vk es k=MU vk∧Instr.findNow (.int .i64) (.int .i64 k) ents.toList 0=some none):=by
 obtain ⟨h1,h2⟩:=Bk k es ents.toList 0 (by simpa using h.1) (fun j e he=>by
  obtain ⟨v,g1,_⟩:=h.2 j e he;exact ⟨_,by simpa using g1,rfl⟩)
 refine ⟨fun hlt=>?_,fun hlt=>⟨?_,h2 hlt⟩⟩
 ·obtain ⟨m,g1,g2,g3⟩:=h1 hlt;obtain ⟨v,q1,q2⟩:=h.2 (GC es k) es[GC es k] (A5 hlt);have g1':ents[GC es k]?=some m:=by simpa using g1
  rw [g1'] at q1;obtain rfl:=B3 q1;refine ⟨_,g1',g2,rfl,?_,by simpa using g3⟩;unfold SQ pY;rw [A5 hlt];exact q2.1
 ·unfold SQ pY;rw [BU (by omega)];rfl
theorem EntRel.set (h:EntRel w O vk es ents) (hk:Keep O w w') (hO:∀ b,b < w.heap.size→O' b→O b) {i:Nat} {x:IV} {u:Value} (hu:Kd.Rel w' O' vk x u) (f:MapEntry→MapEntry) (hf:∀ m,ents[i]?=some m→(f m).key=m.key∧(f m).val=u∧(f m).born=m.born) :
  EntRel w' O' vk (N5 es i x) (ents.modify i f):=by
 refine ⟨by rw [kJ,Array.size_modify]; exact h.1,fun j e he=>?_⟩;rw [Ef] at he;cases hj:es[j]? with
 | none=>rw [hj] at he; cases he
 | some e0=>
  rw [hj] at he;obtain ⟨v,g1,g2⟩:=h.2 j e0 hj;simp only [vaf,AC] at he;rw [vaL,g1];by_cases e:j=i
  ·subst e;rw [BR rfl] at he;subst he;obtain ⟨f1,f2,f3⟩:=hf _ g1;refine ⟨u,?_,hu,g2.2⟩;rw [BR rfl,vaf];congr 1;generalize f { key:=Value.int AB e0.fst,val:=v,born:=j }=m at f1 f2 f3;obtain ⟨a,b,c⟩:=m;simp only at f1 f2 f3;rw [f1,f2,f3]
  ·rw [A9 e] at he;subst he;exact ⟨v,by rw [A9 (fun h=>e h.symm)],KRel.mono hk hO g2⟩
theorem EntRel.same (h:EntRel w O vk es ents) (hk:Keep O w w') (hO:∀ b,b < w.heap.size→O' b→O b) {i:Nat} (f:MapEntry→MapEntry) (hf:∀ m,ents[i]?=some m→f m=m):EntRel w' O' vk es (ents.modify i f):=by
 refine ⟨by rw [Array.size_modify]; exact h.1,fun j e he=>?_⟩;obtain ⟨v,g1,g2⟩:=h.2 j e he;refine ⟨v,?_,KRel.mono hk hO g2⟩;rw [vaL,g1];by_cases e:i=j
 ·subst e;rw [BR rfl,vaf,hf _ g1]
 ·rw [A9 e]
theorem EntRel.push (h:EntRel w O vk es ents) (hk:Keep O w w') (hO:∀ b,b < w.heap.size→O' b→O b) {k:Int} {x:IV} {u:Value} (hu:Kd.Rel w' O' vk x u) (hkb:AB.min≤k∧k≤AB.max):EntRel w' O' vk (es++[(k,x)]) (ents.push ⟨.int .i64 k,u,es.length⟩):=by
 refine ⟨by rw [Array.size_push,AU,h.1]; rfl,fun j e he=>?_⟩;by_cases hj:j < es.length
 ·rw [List.getElem?_append_left hj] at he;obtain ⟨v,g1,g2⟩:=h.2 j e he;refine ⟨v,?_,KRel.mono hk hO g2⟩;rw [Array.getElem?_push,A9 (by rw [h.1]; omega)];exact g1
 ·rw [List.getElem?_append_right (by omega)] at he;have hj0:j - es.length=0:=by
   rcases Nat.eq_zero_or_pos (j - es.length) with e | e
   ·exact e
   ·rw [BU (by simp only [CZ]; omega)] at he;cases he
  rw [hj0] at he;obtain rfl:(k,x)=e:=by simpa using he
  have e1:j=es.length:=by omega
  subst e1;refine ⟨u,?_,hu,hkb⟩;rw [Array.getElem?_push,BR h.1.symm]
end
section
variable {B:BT} {nt:Nat} {w0:World} {X:Zone} {γ:Nat→Value} {st st':St} {a:Act} {w:World} {P:Program} {E:Env}
theorem kM (hT:TiOK P B E) {t e:Nat} {k:Kd} (hd:(E.tyd t).d = .map e k):∃ kt i z,P.underlying t=some (.map kt e)∧P.underlying kt=some (.int .i64)∧P.info? e=some i∧i.zero=some z∧VD k z:=by
 obtain ⟨d,h1,_,h2⟩:=(hT.desc (t:=t) (by rw [hd]; simp)).und;rw [hd] at h2;obtain ⟨kt,i,z,rfl,h3⟩:=h2;exact ⟨kt,i,z,h1,h3⟩
theorem pL {b:Nat} (o:Obj):Keep (fun x=>x=b) w { w with heap:=w.heap.setIfInBounds b o }:=
 ⟨rfl,rfl,rfl,by simp,fun j _ hj=>Array.getElem?_setIfInBounds_ne (fun h:b=j=>hj h.symm)⟩
theorem zfH (h:Rel B nt w0 X γ st a w) (o:Oper) (hd9:∀ d,o.dst=some d→d≠900000) {t:Nat} {r:Option Operand} (ho:o.op = .makeMap t r) {v:V} {us:List Upd}
  (he:(D4 E st.o (opd st) o.dst o.op).get=some (v,us)):OpWp P B nt w0 X a w o st v us:=by
 rw [ho] at he;simp only [D4] at he;split at he
 ·rename_i d e k hdst hd;split at he
  ·rename_i hk;simp only [T.get,AC,AQ] at he;obtain ⟨rfl,rfl⟩:=he;have hn:=Rel.new h [] d (hd9 d hdst) (.map k []) (.map (some w.heap.size)) (w':=w.alloc (.map #[] 0)) (Keep.alloc _ w _)
    (by
     intro b hb;simp only [EU,Value.map.injEq,AC] at hb;subst hb;exact ⟨by simp,.inl (AW _)⟩)
    (by
     intro O' hO hcmp;simp only [ObRel];exact ⟨hk,w.heap.size,#[],rfl,vas w _,rfl,fun i e he=>by simp at he⟩)
   refine OpWp.value (x:=.map (some w.heap.size)) (w':=w.alloc (.map #[] 0)) ?_ hn ?_
   ·unfold execOp;simp only [ho];rfl
   ·simp only [St.ups,VRel,F7,CO]
  ·simp [T.get] at he
 ·simp [T.get] at he
theorem jU (h:Rel B nt w0 X γ st a w) {x:Operand} {z:Int} (hx:opd st x = .int .i64 z):a.eval x = .int .i64 z:=by
 have:=FJ h x
 rw [hx] at this;simp only [VRel] at this;exact this.1
theorem Ct (h:Rel B nt w0 X γ st a w) {x:Operand} {z:Int} (hx:opd st x = .int .i64 z):AB.min≤z∧z≤AB.max:=by
 have:=FJ h x
 rw [hx] at this;simp only [VRel] at this;exact this.2
theorem fF (h:Rel B nt w0 X γ st a w) {x:Operand} {n i c:Nat} (hx:opd st x = .ptr n i c) {vk:Kd} {es:List (Int × IV)} (ho:DI st.o n=some (.map vk es)) :
  W7 vk=true∧∃ b ents,a.eval x = .map (some b)∧γ n = .map (some b)∧w.heap[b]?=some (.map ents es.length)∧EntRel w (DK X γ st.o) vk es ents:=by
 have hv:=FJ h x;rw [hx] at hv;simp only [VRel,ho] at hv;obtain ⟨h0,b,ents,hg,h1,h2⟩:=h.ob n _ ho;exact ⟨h0,b,ents,by rw [hv,hg],hg,h1,h2⟩
theorem Ge (hT:TiOK P B E) (h:Rel B nt w0 X γ st a w) (o:Oper) {t:Nat} {m k x:Operand} (ho:o.op = .insert t m k x∨o.op = .mapUpdate t m k x) {v:V} {us:List Upd}
  (he:(D4 E st.o (opd st) o.dst o.op).get=some (v,us)):OpWp P B nt w0 X a w o st v us:=by
 have hev:(match opd st m,opd st k,(E.tyd t).d with
  | .ptr n _ _,.int .i64 z,.map _ _=>match DI st.o n with
   | some (.map vk es)=>match MH st.o vk (opd st x) with
    | some x=>T.ok .any [.set n (.map vk (Q8 es z x))]
    | none=>.no
   | _=>.no
  | _,_,_=>.no).get=some (v,us):=by
  rcases ho with ho | ho <;> (rw [ho] at he; exact he)
 clear he;split at hev
 ·rename_i n i c z e k' hm hz hd;split at hev
  ·rename_i vk es hob;split at hev
   ·rename_i y hy;simp only [T.get,AC,AQ] at hev;obtain ⟨rfl,rfl⟩:=hev;obtain ⟨kt,_,_,hu,hku,_⟩:=kM hT hd;obtain ⟨hk,b,ents,hmv,hg,hb,hE⟩:=fF h hm hob;have hzv:=jU h hz;have hkey:MapKept.IsKey (.int .i64) (.int .i64 z):=rfl;have hxr:∀ w' O',Kd.Rel w' O' vk y (a.eval x):=fun w' O'=>Dm hk hy (FJ h x) w' O'
    obtain ⟨f1,f2⟩:=hE.find z;have hex:∃ ents',(Instr.mapUpdate t (.map (some b)) (.int .i64 z) (a.eval x)).run P w = .ok () { w with heap:=w.heap.setIfInBounds b (.map ents' (Q8 es z y).length) } ∧
      ∀ O':Nat→Prop,(∀ b,b < w.heap.size→O' b→DK X γ st.o b)→Keep (DK X γ st.o) w { w with heap:=w.heap.setIfInBounds b (.map ents' (Q8 es z y).length) }→EntRel { w with heap:=w.heap.setIfInBounds b (.map ents' (Q8 es z y).length) } O' vk (Q8 es z y) ents':=by
     unfold Q8;cases hlt:BK (GC es z) es.length with
     | true=>
      obtain ⟨m0,g1,g2,g3,g4,g5⟩:=f1 (AM hlt);refine ⟨ents.modify (GC es z) fun e=>{ e with key:=.int .i64 z,val:=a.eval x },?_,fun O' hO hkp=>?_⟩
      ·simp [Instr.mapUpdate,BD hu,MapKept.run_getObj_map hb,MapKept.run_checkKey hku hkey,MapKept.run_findKey hku g5,g1,g2,MapKept.run_keyThatStays hkey,MapKept.run_setObj_map _ hb,vaH,kJ]
      ·exact hE.set hkp hO (hxr _ _) _ fun m1 hm1=>by
        rw [g1] at hm1;obtain rfl:=B3 hm1;exact ⟨g2.symm,rfl,rfl⟩
     | false=>
      obtain ⟨g1,g2⟩:=f2 (fun hh=>by
       have:BK (GC es z) es.length=true:=CP hh
       rw [hlt] at this;cases this)
      refine ⟨ents.push ⟨.int .i64 z,a.eval x,es.length⟩,?_,fun O' hO hkp=>?_⟩
      ·simp [Instr.mapUpdate,BD hu,MapKept.run_getObj_map hb,MapKept.run_checkKey hku hkey,MapKept.run_findKey hku g2,MapKept.run_setObj_map _ hb,vaH]
      ·exact hE.push hkp hO (hxr _ _) (Ct h hz)
    obtain ⟨ents',hrun,hent⟩:=hex;have hkp:Keep (EU (γ n) (.map vk es)) w { w with heap:=w.heap.setIfInBounds b (.map ents' (Q8 es z y).length) }:=(pL _).mono fun j _ hj=>by rw [hj]; exact hg
    refine OpWp.skip (w':={ w with heap:=w.heap.setIfInBounds b (.map ents' (Q8 es z y).length) }) ?_ (Rel.set h (ob':=.map vk (Q8 es z y)) hob rfl hkp (fun b hb=>hb) (fun hO hcmp=>?_))
    ·rcases ho with ho | ho <;> (unfold execOp; simp only [ho,hmv,hzv,CA,hrun,BP,CB])
    ·simp only [ObRel];refine ⟨hk,b,ents',hg,(MapKept.heap_set hb).1,hent _ (fun b _ hb=>hO b hb) (hkp.mono fun j _ hj=>.inl ⟨n,_,hob,hj⟩)⟩
   ·simp [T.get] at hev
  ·simp [T.get] at hev
 ·simp [T.get] at hev
theorem uU {w:World} {O:Nat→Prop}:∀ {k:Kd} {z:Value},VD k z→Kd.Rel w O k (MU k) z
 | .int k,z,h=>by
  simp only [VD] at h;subst h;simp only [Kd.Rel,MU,IV.toInt];cases k <;> decide
 | .bool,z,h=>by
  simp only [VD] at h;subst h;simp only [Kd.Rel,MU,IV.toBool]
 | .str,z,h=>by
  simp only [VD] at h;subst h;simp only [Kd.Rel,MU,IV.toStr];exact ⟨trivial,B7 _⟩
 | .list _ _,z,h=>by simp only [VD] at h
theorem zfF (hT:TiOK P B E) (h:Rel B nt w0 X γ st a w) (o:Oper) {t:Nat} {m k:Operand} {ok:Bool} (ho:o.op = .lookup t m k ok) {v:V} {us:List Upd}
  (he:(D4 E st.o (opd st) o.dst o.op).get=some (v,us)):OpWp P B nt w0 X a w o st v us:=by
 rw [ho] at he;simp only [D4] at he;split at he
 ·rename_i n i c z e vk' hm hz hd;split at he
  ·rename_i vk es hob;obtain ⟨kt,zi,zv,hu,hku,hi,hzi,hzk⟩:=kM hT hd;obtain ⟨hk,b,ents,hmv,hg,hb,hE⟩:=fF h hm hob;have hzv:=jU h hz;have hkey:MapKept.IsKey (.int .i64) (.int .i64 z):=rfl;obtain ⟨f1,f2⟩:=hE.find z;have key:H7 vk vk'=true→∃ u,(∀ ok,(Instr.lookup t (.map (some b)) (.int .i64 z) ok).run P w = .ok (if ok then .tuple #[u,.bool (BK (GC es z) es.length)] else u) w)∧Kd.Rel w (DK X γ st.o) vk (SQ vk es z) u:=by
    intro hkk;obtain rfl:=W6 hkk;cases hlt:BK (GC es z) es.length with
    | true=>
     obtain ⟨m0,g1,g2,g3,g4,g5⟩:=f1 (AM hlt);refine ⟨m0.val,fun ok=>?_,g4⟩;cases ok <;> simp [Instr.lookup,BD hu,MapKept.run_getObj_map hb,MapKept.run_checkKey hku hkey,MapKept.run_findKey hku g5,vaH]
    | false=>
     obtain ⟨g1,g2⟩:=f2 (fun hh=>by
      have:BK (GC es z) es.length=true:=CP hh
      rw [hlt] at this;cases this)
     refine ⟨zv,fun ok=>?_,by rw [g1]; exact uU hzk⟩;cases ok <;> simp [Instr.lookup,BD hu,MapKept.run_getObj_map hb,MapKept.run_checkKey hku hkey,MapKept.run_findKey hku g2,zeroValue,typeInfo,hi,hzi,vaH]
   split at he
   ·rename_i hkk;simp only [T.get,AC,AQ] at he;obtain ⟨rfl,rfl⟩:=he;obtain ⟨u,hrun,hur⟩:=key hkk;refine OpWp.pure (x:=.tuple #[u,.bool (BK (GC es z) es.length)]) h ?_ ?_
    ·unfold execOp;simp only [ho,hmv,hzv,CA,hrun,BP,CB,CO]
    ·simp only [VRel];exact ⟨_,rfl,by simp only [VRels,VRel]; exact ⟨ZD hur,trivial,trivial⟩⟩
   ·rename_i hkk;simp only [T.get,AC,AQ] at he;obtain ⟨rfl,rfl⟩:=he;obtain ⟨u,hrun,hur⟩:=key hkk;refine OpWp.pure (x:=u) h ?_ (ZD hur);unfold execOp;simp only [ho,hmv,hzv,CA,hrun,BP,CB,Bool.false_eq_true,if_false]
   ·simp [T.get] at he
  ·simp [T.get] at he
 ·simp [T.get] at he
theorem zfJ (hT:TiOK P B E) (h:Rel B nt w0 X γ st a w) (o:Oper) {t:Nat} {m k:Operand} (ho:o.op = .mapEntry t m k) {v:V} {us:List Upd}
  (he:(D4 E st.o (opd st) o.dst o.op).get=some (v,us)):OpWp P B nt w0 X a w o st v us:=by
 rw [ho] at he;simp only [D4] at he;split at he
 ·rename_i n i c z e vk' hm hz hd;split at he
  ·rename_i vk es hob;split at he
   ·rename_i hkk;obtain ⟨hsz,he⟩:=T.get_when he;simp only [T.get,AC,AQ] at he;obtain ⟨rfl,rfl⟩:=he;have hlen:es.length≤strMax:=A0 hsz;obtain rfl:=W6 hkk;obtain ⟨kt,zi,zv,hu,hku,hi,hzi,hzk⟩:=kM hT hd;obtain ⟨hk,b,ents,hmv,hg,hb,hE⟩:=fF h hm hob;have hzv:=jU h hz;have hkey:MapKept.IsKey (.int .i64) (.int .i64 z):=rfl;obtain ⟨f1,f2⟩:=hE.find z;have hex:∃ ents' u,(Instr.mapEntry t (.map (some b)) (.int .i64 z)).run P w = .ok (.tuple #[u,.int .i64 ((GC es z:Nat):Int)]) { w with heap:=w.heap.setIfInBounds b (.map ents' (Q7 es z (MU vk)).length) }∧Kd.Rel w (DK X γ st.o) vk (SQ vk es z) u ∧
      (∀ O':Nat→Prop,(∀ b,b < w.heap.size→O' b→DK X γ st.o b)→Keep (DK X γ st.o) w { w with heap:=w.heap.setIfInBounds b (.map ents' (Q7 es z (MU vk)).length) }→EntRel { w with heap:=w.heap.setIfInBounds b (.map ents' (Q7 es z (MU vk)).length) } O' vk (Q7 es z (MU vk)) ents'):=by
     unfold Q7;cases hlt:BK (GC es z) es.length with
     | true=>
      obtain ⟨m0,g1,g2,g3,g4,g5⟩:=f1 (AM hlt);refine ⟨ents.modify (GC es z) fun e=>{ e with key:=.int .i64 z },m0.val,?_,g4,fun O' hO hkp=>?_⟩
      ·simp [Instr.mapEntry,BD hu,MapKept.run_getObj_map hb,MapKept.run_checkKey hku hkey,MapKept.run_findKey hku g5,g1,g2,g3,MapKept.run_keyThatStays hkey,MapKept.run_setObj_map _ hb,vaH,goInt]
      ·exact hE.same hkp hO _ fun m1 hm1=>by
        rw [g1] at hm1;obtain rfl:=B3 hm1;rw [← g2]
     | false=>
      obtain ⟨g1,g2⟩:=f2 (fun hh=>by
       have:BK (GC es z) es.length=true:=CP hh
       rw [hlt] at this;cases this)
      have hix:GC es z=es.length:=by
       have h1:=pZ z es;have h2:¬ GC es z < es.length:=fun hh=>by
        have:BK (GC es z) es.length=true:=CP hh
        rw [hlt] at this;cases this
       omega
      refine ⟨ents.push ⟨.int .i64 z,zv,es.length⟩,zv,?_,by rw [g1]; exact uU hzk,fun O' hO hkp=>?_⟩
      ·simp [Instr.mapEntry,BD hu,MapKept.run_getObj_map hb,MapKept.run_checkKey hku hkey,MapKept.run_findKey hku g2,MapKept.run_setObj_map _ hb,zeroValue,typeInfo,hi,hzi,vaH,goInt,hix]
      ·exact hE.push hkp hO (uU hzk) (Ct h hz)
    obtain ⟨ents',u,hrun,hur,hent⟩:=hex;have hkp:Keep (EU (γ n) (.map vk es)) w { w with heap:=w.heap.setIfInBounds b (.map ents' (Q7 es z (MU vk)).length) }:=(pL _).mono fun j _ hj=>by rw [hj]; exact hg
    have hkO:Keep (DK X γ st.o) w { w with heap:=w.heap.setIfInBounds b (.map ents' (Q7 es z (MU vk)).length) }:=hkp.mono fun j _ hj=>.inl ⟨n,_,hob,hj⟩
    have hR:=Rel.set h (ob':=.map vk (Q7 es z (MU vk))) hob rfl hkp (fun b hb=>hb) (fun hO hcmp=>by
     simp only [ObRel];exact ⟨hk,b,ents',hg,(MapKept.heap_set hb).1,hent _ (fun b _ hb=>hO b hb) hkO⟩)
    refine OpWp.value (x:=.tuple #[u,.int .i64 ((GC es z:Nat):Int)]) (w':={ w with heap:=w.heap.setIfInBounds b (.map ents' (Q7 es z (MU vk)).length) }) ?_ hR ?_
    ·unfold execOp;simp only [ho,hmv,hzv,CA,hrun,BP,CB]
    ·simp only [St.ups,VRel];refine ⟨_,rfl,?_⟩;simp only [VRels,VRel];have h1:=pZ z es;have h2:strMax≤9223372036854775807:=by decide
     refine ⟨ZD (Kd.Rel.mono hkO (fun b' hb' hO'=>?_) hur),⟨trivial,?_,?_⟩,trivial⟩
     ·rcases hO' with ⟨n',ob1,q1,q2⟩ | hO'
      ·simp only [St.up,D9] at q1;split at q1
       ·rename_i e1;subst e1;obtain rfl:=B3 q1;exact .inl ⟨n,_,hob,q2⟩
       ·exact .inl ⟨n',ob1,q1,q2⟩
      ·exact .inr hO'
     ·show (-9223372036854775808:Int)≤_;omega
     ·show _≤(9223372036854775807:Int);omega
   ·simp [T.get] at he
  ·simp [T.get] at he
 ·simp [T.get] at he
theorem Bj:∀ (l:List MapEntry) (z:Nat) (j:Nat),(∀ (i:Nat) (m:MapEntry),l[i]?=some m→m.born=j+i)→z < l.length→l.findIdx? (fun e=>(e.born:Int)==((j+z:Nat):Int))=some z
 | m :: l,z,j,h,hz=>by
  have h0:=h 0 m rfl;rw [List.findIdx?_cons];cases z with
  | zero=>simp [h0]
  | succ z=>
   have hne:((m.born:Int)==((j+(z+1):Nat):Int))=false:=by
    simp only [A8,ne_eq];omega
   rw [hne];have ih:=Bj l z (j+1) (fun i m' hm'=>by rw [h (i+1) m' (by simpa using hm')]; omega) (by simpa using hz);rw [show j+(z+1)=j+1+z by omega,ih];rfl
theorem zfy (h:Rel B nt w0 X γ st a w) (o:Oper) {t:Nat} {m s x:Operand} (ho:o.op = .entryStore t m s x) {v:V} {us:List Upd}
  (he:(D4 E st.o (opd st) o.dst o.op).get=some (v,us)):OpWp P B nt w0 X a w o st v us:=by
 rw [ho] at he;simp only [D4] at he;split at he
 ·rename_i n i c z hm hz;split at he
  ·rename_i vk es hob;split at he
   ·rename_i y hy;obtain ⟨hc,he⟩:=T.get_when he;simp only [T.get,AC,AQ] at he;obtain ⟨rfl,rfl⟩:=he;simp only [AI,AP] at hc;obtain ⟨hk,b,ents,hmv,hg,hb,hE⟩:=fF h hm hob;have hzv:=jU h hz;have hzn:z=((0+z.toNat:Nat):Int):=by omega
    have hlt:z.toNat < es.length:=by omega
    have hfi:ents.findIdx? (fun e=>(e.born:Int)==z)=some z.toNat:=by
     rw [show ∀ (es:Array MapEntry) p,es.findIdx? p=es.toList.findIdx? p from fun es p=>by cases es; simp]
     have:=Bj ents.toList z.toNat 0 (fun i m hm=>by
      have hi:i < es.length:=by
       have:=(BL.1 hm).1
       simpa [hE.1] using this
      obtain ⟨v,q1,_⟩:=hE.2 i es[i] (A5 hi);have hm':ents[i]?=some m:=by simpa using hm
      rw [hm'] at q1;obtain rfl:=B3 q1;simp) (by simpa [hE.1] using hlt)
     rw [← hzn] at this;exact this
    have hrun:(Instr.entryStore t (.map (some b)) (.int .i64 z) (a.eval x)).run P w = .ok () { w with heap:=w.heap.setIfInBounds b (.map (ents.modify z.toNat fun e=>{ e with val:=a.eval x }) es.length) }:=by
     simp [Instr.entryStore,MapKept.run_getObj_map hb,asInt,asIntOf,hfi,MapKept.run_setObj_map _ hb,vaH]
    have hkp:Keep (EU (γ n) (.map vk es)) w { w with heap:=w.heap.setIfInBounds b (.map (ents.modify z.toNat fun e=>{ e with val:=a.eval x }) es.length) }:=(pL _).mono fun j _ hj=>by rw [hj]; exact hg
    refine OpWp.skip (w':={ w with heap:=w.heap.setIfInBounds b (.map (ents.modify z.toNat fun e=>{ e with val:=a.eval x }) es.length) }) ?_ (Rel.set h (ob':=.map vk (N5 es z.toNat y)) hob rfl hkp (fun b hb=>hb) (fun hO hcmp=>?_))
    ·unfold execOp;simp only [ho,hmv,hzv,CA,hrun,BP,CB]
    ·simp only [ObRel];refine ⟨hk,b,ents.modify z.toNat fun e=>{ e with val:=a.eval x },hg,by rw [kJ]; exact (MapKept.heap_set hb).1,hE.set (hkp.mono fun j _ hj=>.inl ⟨n,_,hob,hj⟩) (fun b _ hb=>hO b hb) (Dm hk hy (FJ h x) _ _) _ fun m1 hm1=>⟨rfl,rfl,rfl⟩⟩
   ·simp [T.get] at he
  ·simp [T.get] at he
 ·simp [T.get] at he
theorem zfN (hT:TiOK P B E) (h:Rel B nt w0 X γ st a w) (o:Oper) (hd9:∀ d,o.dst=some d→d≠900000) {t:Nat} {x:Operand} (ho:o.op = .range t x) {v:V} {us:List Upd}
  (he:(D4 E st.o (opd st) o.dst o.op).get=some (v,us)):OpWp P B nt w0 X a w o st v us:=by
 rw [ho] at he;simp only [D4] at he;split at he
 ·rename_i n i c d e k' hm hdst hd;split at he
  ·rename_i vk es hob;simp only [T.get,AC,AQ] at he;obtain ⟨rfl,rfl⟩:=he;obtain ⟨kt,_,_,hu,hku,_⟩:=kM hT hd;obtain ⟨hk,b,ents,hmv,hg,hb,hE⟩:=fF h hm hob;have hbl:b < w.heap.size:=(C7.1 hb).1;have hent:∀ (j:Nat) (m:MapEntry),ents.toList[j]?=some m→j < es.length∧m.born=j:=fun j m hj=>by
    have hi:j < es.length:=by
     have:=(BL.1 hj).1
     simpa [hE.1] using this
    obtain ⟨v,q1,_⟩:=hE.2 j es[j] (A5 hi);have hj':ents[j]?=some m:=by simpa using hj
    rw [hj'] at q1;obtain rfl:=B3 q1;exact ⟨hi,rfl⟩
   have hleft:leftOf ents #[]=ents:=by
    unfold leftOf;simp
   have hn:=Rel.new h [n] d (hd9 d hdst) (.iter vk none es) (.tuple #[.pointer (some ⟨w.heap.size,0,none⟩),.map (some b)]) (w':=w.alloc (.mapIter (some b) es.length #[] es.length)) (Keep.alloc _ w _)
    (by
     rintro b' ⟨r,m',hb',hb''⟩;have h2:=congrArg Array.toList (Value.tuple.inj hb');simp only [vaB,CT,AC,C5,B4,Value.map.injEq] at h2;obtain ⟨rfl,rfl⟩:=h2;rcases hb'' with rfl | rfl
     ·exact ⟨by simp,.inl (AW _)⟩
     ·exact ⟨by simp; omega,.inr ⟨n,List.mem_singleton_self n,_,hob,hg⟩⟩)
    (by
     intro O' hO hcmp;simp only [ObRel];refine ⟨hk,w.heap.size,b,es.length,#[],ents,es.length,rfl,vas w _,by rw [@heap_alloc_old w _ b hbl]; exact hb,AW _,fun x hx=>?_,?_,⟨by rw [hleft]; simpa using hE.1,fun j e he=>?_⟩,fun e he=>by cases he⟩
     ·obtain ⟨j,hj⟩:=List.getElem?_of_mem hx;obtain ⟨h1,h2⟩:=hent j x hj;omega
     ·rw [List.nodup_iff_pairwise_ne,List.pairwise_iff_getElem];intro j j' hj hj' hlt;rw [List.getElem_map,List.getElem_map,(hent j _ (A5 (by simpa using hj))).2,(hent j' _ (A5 (by simpa using hj'))).2];omega
     ·obtain ⟨v,q1,q2⟩:=hE.2 j e he;rw [hleft];exact ⟨_,by simpa using q1,rfl,KRel.mono (Keep.alloc _ w _) hO q2⟩)
   refine OpWp.value (x:=.pointer (some ⟨w.heap.size,0,none⟩)) (w':=w.alloc (.mapIter (some b) es.length #[] es.length)) ?_ hn ?_
   ·unfold execOp;simp only [ho,hmv,CA,run_range_map w t kt e b ents es.length hu hb,BP,CB]
   ·simp only [St.ups,VRel,F7,CO];exact ⟨w.heap.size,_,rfl,rfl⟩
  ·simp [T.get] at he
 ·simp [T.get] at he
theorem Cw (h:Rel B nt w0 X γ st a w) {x:Operand} {n i c:Nat} (hx:opd st x = .ptr n i c) {vk:Kd} {last:Option (Int × IV)} {rest:List (Int × IV)} (ho:DI st.o n=some (.iter vk last rest)) :
  W7 vk=true∧∃ r b since seen ents clock,a.eval x = .pointer (some ⟨r,0,none⟩)∧γ n = .tuple #[.pointer (some ⟨r,0,none⟩),.map (some b)]∧w.heap[r]?=some (.mapIter (some b) since seen clock)∧w.heap[b]?=some (.map ents clock)∧IterRel w (DK X γ st.o) vk last rest since seen ents clock:=by
 have hv:=FJ h x;rw [hx] at hv;simp only [VRel,ho] at hv;obtain ⟨h0,r,b,since,seen,ents,clock,hg,h1,h2,h3⟩:=h.ob n _ ho;obtain ⟨r',y,hy,hv⟩:=hv;rw [hg] at hy;have h4:=congrArg Array.toList (Value.tuple.inj hy);simp only [vaB,CT,AC,C5,B4] at h4;obtain ⟨rfl,_⟩:=h4;exact ⟨h0,r,b,since,seen,ents,clock,hv,hg,h1,h2,h3⟩
theorem zfx (h:Rel B nt w0 X γ st a w) (o:Oper) {x:Operand} (ho:o.op = .entry x) {v:V} {us:List Upd}
  (he:(D4 E st.o (opd st) o.dst o.op).get=some (v,us)):OpWp P B nt w0 X a w o st v us:=by
 rw [ho] at he;simp only [D4] at he;split at he
 ·rename_i n i c hm;split at he
  ·rename_i vk e rest hob;simp only [T.get,AC,AQ] at he;obtain ⟨rfl,rfl⟩:=he;obtain ⟨hk,r,b,since,seen,ents,clock,hx,hg,hr,hb,h1,h2,h3,h4,h5⟩:=Cw h hm hob;obtain ⟨m,s0,q1,rfl,q3,q4⟩:=h5 e rfl;refine OpWp.pure (x:=.tuple #[m.key,m.val]) h ?_ ?_
   ·unfold execOp;simp only [ho,hx,CA,run_entry_at w r b since s0 ents clock m hr hb q1 h3,BP,CB]
   ·simp only [VRel];refine ⟨_,rfl,?_⟩;simp only [VRels,VRel,q3];exact ⟨⟨trivial,q4.2⟩,ZD q4.1,trivial⟩
  ·simp [T.get] at he
 ·simp [T.get] at he
end
open Go Go.RowKit
theorem zfk {j:Nat}:∀ {l:List (Int × IV)},j < l.length→l[j]?=some (O4 l j):=by
 induction j with
 | zero=>intro l h; cases l with
  | nil=>simp at h
  | cons x l=>rfl
 | succ j ih=>intro l h; cases l with
  | nil=>simp at h
  | cons x l=>rw [CV,O4]; exact ih (by simpa using h)
theorem oH:∀ (l:List (Int × IV)) (j:Nat),SJ l j=l.eraseIdx j
 | [],j=>by simp [SJ]
 | x :: l,0=>by simp [SJ]
 | x :: l,j+1=>by rw [SJ,oH l j,List.eraseIdx_cons_succ]
theorem Bi:∀ (l:List MapEntry) (j:Nat) (e:MapEntry),(l.map (·.born)).Nodup→l[j]?=some e→l.filter (fun x=>!(x.born==e.born))=l.eraseIdx j
 | [],j,e,_,h=>by simp at h
 | x :: l,0,e,hn,h=>by
  obtain rfl:x=e:=by simpa using h
  have hn':x.born ∉ l.map (·.born)∧(l.map (·.born)).Nodup:=List.nodup_cons.1 hn;rw [List.filter_cons,va2];simp only [A1,Bool.false_eq_true,if_false,List.eraseIdx_cons_zero];rw [List.filter_eq_self];intro y hy
  have:y.born≠x.born:=fun e=>hn'.1 (CN.2 ⟨y,hy,e⟩)
  simpa using this
 | x :: l,j+1,e,hn,h=>by
  have hn':x.born ∉ l.map (·.born)∧(l.map (·.born)).Nodup:=List.nodup_cons.1 hn;have he:l[j]?=some e:=by simpa using h
  have hne:(x.born==e.born)=false:=by
   have:x.born≠e.born:=fun e'=>hn'.1 (CN.2 ⟨e,vab he,e'.symm⟩)
   simpa using this
  rw [List.filter_cons,hne];simp only [A6,CO,List.eraseIdx_cons_succ];rw [Bi l j e hn'.2 he]
theorem Dr {ents:Array MapEntry} {seen:Array Nat} {j:Nat} {e:MapEntry} (hn:(ents.toList.map (·.born)).Nodup) (he:(leftOf ents seen).toList[j]?=some e) :
  (leftOf ents (seen.push e.born)).toList=(leftOf ents seen).toList.eraseIdx j:=by
 have hsub:((leftOf ents seen).toList.map (·.born)).Nodup:=by
  unfold leftOf;rw [Array.toList_filter];exact hn.sublist ((List.filter_sublist).map _)
 rw [← Bi _ j e hsub he];unfold leftOf;rw [Array.toList_filter,Array.toList_filter,List.filter_filter];congr 1
 funext x
 rw [contains_push];cases seen.contains x.born <;> cases x.born==e.born <;> rfl
section
variable {B:BT} {nt:Nat} {w0:World} {X:Zone} {γ:Nat→Value} {st st':St} {a:Act} {w:World} {P:Program} {E:Env}
theorem zfT {n:Nat} {ob ob':Ob} (ho:DI st.o n=some ob) (hb:∀ b,EU (γ n) ob' b→EU (γ n) ob b) (b:Nat) (h:DK X γ ((n,some ob') :: st.o) b):DK X γ st.o b:=by
 rcases h with ⟨m,ob1,q1,q2⟩ | h
 ·rw [D9] at q1;split at q1
  ·rename_i e;subst e;obtain rfl:=B3 q1;exact .inl ⟨n,ob,ho,hb b q2⟩
  ·exact .inl ⟨m,ob1,q1,q2⟩
 ·exact .inr h
theorem zfK (h:Rel B nt w0 X γ st a w) (o:Oper) {x:Operand} (ho:o.op = .next x false) {n i c:Nat} (hm:opd st x = .ptr n i c) {vk:Kd} {last:Option (Int × IV)} {rest:List (Int × IV)} (hob:DI st.o n=some (.iter vk last rest)) :
  (rest.length=0→OpWp P B nt w0 X a w o st (.tup [.bool false]) []) ∧
  (rest.length≠0→∃ j,j < rest.length∧OpWp P B nt w0 X a w o st (.tup [.bool true,.int .i64 (O4 rest j).1,M9 vk (O4 rest j).2]) [.set n (.iter vk (some (O4 rest j)) (SJ rest j))]):=by
 obtain ⟨hk,r,b,since,seen,ents,clock,hx,hg,hr,hb,h1,h2,h3,h4,h5⟩:=Cw h hm hob;have hls:(leftOf ents seen).toList.length=(leftOf ents seen).size:=by simp
 rcases run_next_at (P:=P) w o.type r b since clock seen ents clock hr hb h2 h1 with ⟨q1,q2⟩ | ⟨e,q1,w1,q2,q3⟩
 ·have h0:rest.length=0:=by rw [← h4.1,hls,q1]
  refine ⟨fun _=>?_,fun hne=>absurd h0 hne⟩;refine OpWp.pure (x:=.tuple #[.bool false]) h ?_ ?_
  ·unfold execOp;simp only [ho,hx,CA,q2,BP,CB]
  ·simp only [VRel];exact ⟨_,rfl,by simp only [VRels,VRel]; exact ⟨trivial,trivial⟩⟩
 ·obtain ⟨j,hj⟩:=List.getElem?_of_mem q1;have hjl:j < rest.length:=by
   rw [← h4.1];exact (BL.1 hj).1
  refine ⟨fun h0=>by omega,fun _=>⟨j,hjl,?_⟩⟩;obtain ⟨m,p1,p2,p3⟩:=h4.2 j (O4 rest j) (zfk hjl);rw [hj] at p1;obtain rfl:=B3 p1;have hw1:w1.heap=w.heap:=by rcases q2 with rfl | rfl <;> rfl
  have hk1:Keep (fun k=>k=r) w (ChangeMaps.setBlock w1 r (.mapIter (some b) since (seen.push e.born) clock)):=by
   have h6:Keep (fun k=>k=r) w w1:=by
    rcases q2 with rfl | rfl
    ·exact Keep.refl _ _
    ·exact Keep.drew _ _
   refine ⟨h6.os,h6.tape,h6.output,?_,fun k _ hne=>?_⟩
   ·simp [ChangeMaps.setBlock,hw1]
   ·simp only [ChangeMaps.setBlock,hw1];exact Array.getElem?_setIfInBounds_ne (fun h:r=k=>hne h.symm)
  have hkp:Keep (EU (γ n) (.iter vk last rest)) w (ChangeMaps.setBlock w1 r (.mapIter (some b) since (seen.push e.born) clock)):=hk1.mono fun k _ hk=>⟨r,b,hg,.inl hk⟩
  have hkO:Keep (DK X γ st.o) w (ChangeMaps.setBlock w1 r (.mapIter (some b) since (seen.push e.born) clock)):=hkp.mono fun k _ hk=>.inl ⟨n,_,hob,hk⟩
  have hrb:b≠r:=fun e'=>by
   rw [e',hr] at hb;cases hb
  have hOw:=zfT (X:=X) (γ:=γ) (st:=st) (n:=n) (ob':=.iter vk (some (O4 rest j)) (SJ rest j)) hob (fun b h=>h);have hR:=Rel.set h (ob':=.iter vk (some (O4 rest j)) (SJ rest j)) hob rfl hkp (fun b hb=>hb) (fun hO hcmp=>by
   simp only [ObRel];refine ⟨hk,r,b,since,seen.push e.born,ents,clock,hg,?_,?_,h1,h2,h3,⟨?_,fun i e' he'=>?_⟩,fun e' he'=>?_⟩
   ·simp only [ChangeMaps.setBlock,hw1];exact (MapKept.heap_set hr).1
   ·simp only [ChangeMaps.setBlock,hw1];rw [(MapKept.heap_set hr).2 b hrb];exact hb
   ·rw [Dr h3 hj,oH,List.length_eraseIdx,List.length_eraseIdx,h4.1]
   ·rw [Dr h3 hj,List.getElem?_eraseIdx];rw [oH,List.getElem?_eraseIdx] at he';split at he'
    ·rename_i hlt;obtain ⟨m,s1,s2,s3⟩:=h4.2 i e' he';exact ⟨m,by rw [BR hlt]; exact s1,s2,KRel.mono hkO (fun b _ hb=>hOw b hb) s3⟩
    ·rename_i hlt;obtain ⟨m,s1,s2,s3⟩:=h4.2 (i+1) e' he';exact ⟨m,by rw [A9 hlt]; exact s1,s2,KRel.mono hkO (fun b _ hb=>hOw b hb) s3⟩
   ·obtain rfl:=B3 he';exact ⟨e,seen,(mem_left q1).1,rfl,p2,KRel.mono hkO (fun b _ hb=>hOw b hb) p3⟩)
  refine OpWp.value (x:=.tuple #[.bool true,e.key,e.val]) ?_ hR ?_
  ·unfold execOp;simp only [ho,hx,CA,q3,BP,CB]
  ·simp only [St.ups,VRel];refine ⟨_,rfl,?_⟩;simp only [VRels,VRel,p2];exact ⟨trivial,⟨trivial,p3.2⟩,ZD (KRel.mono hkO (fun b _ hb=>hOw b hb) p3).1,trivial⟩
end
open Go Go.RowKit
section
variable {B:BT} {nt:Nat} {w0:World} {X:Zone} {γ:Nat→Value} {st st':St} {a:Act} {w:World} {P:Program} {E:Env}
theorem y4 (h:Rel B nt w0 X γ st a w) (hg:GX B w0 X) {f:FuncId} {sp:DR} (hS:Snd P B f (fun vs=>(sp vs).get)) {vs:List V} {xs:List Value} (hv:VRels γ st.o w (DK X γ st.o) vs xs) {d:Nat} (hd9:d≠900000) {tks:List (List Kd)} {v:V} {us:List Upd} (he:(UA st.o d tks sp vs).get=some (v,us)) :
  Does P f xs w fun e w'=>∃ x,e = .returned x∧∃ γ',Rel B nt w0 X γ' (st.ups us) a w'∧VRel γ' (st.ups us).o w' (DK X γ' (st.ups us).o) v x:=by
 unfold UA at he;split at he
 ·rename_i hl;obtain ⟨r,out,hsp,he⟩:=R.toT_get he;unfold dL at he;split at he
  ·split at he
   ·rename_i cs;split at he
    ·rename_i hc;simp only [T.get,AC,AQ] at he;obtain ⟨rfl,rfl⟩:=he;exact Us h hg hS hv hl hsp d hd9 (AM hc)
    ·simp [T.get] at he
   ·simp only [T.get,AC,AQ] at he;obtain ⟨rfl,rfl⟩:=he;exact Uu h hg hS hv hl hsp d hd9
   ·rename_i hnb hnv;simp only [T.get,AC,AQ] at he;obtain ⟨rfl,rfl⟩:=he;exact Ut h hg hS hv hl hsp hnb hnv
  ·simp [T.get] at he
 ·rename_i n hl;split at he
  ·rename_i cs ho;split at he
   ·rename_i hib;obtain ⟨r,outs,hsp,he⟩:=R.toT_get he;unfold dK at he;split at he
    ·split at he
     ·rename_i hc;simp only [T.get,AC,AQ] at he;obtain ⟨rfl,rfl⟩:=he;simp only [AI,vaz] at hc;refine Ur h hg hS hv hl ho rfl hsp hib (FL.1 hc.1) (hc.2.1.imp (fun h=>AM h) (fun h=>AM h)) (AM hc.2.2)
     ·simp [T.get] at he
    ·simp [T.get] at he
   ·simp [T.get] at he
  ·rename_i s ho;split at he
   ·rename_i hib;obtain ⟨r,outs,hsp,he⟩:=R.toT_get he;unfold dJ at he;split at he
    ·simp only [T.get,AC,AQ] at he;obtain ⟨rfl,rfl⟩:=he;exact Uq h hg hS hv hl ho hsp hib
    ·simp [T.get] at he
   ·simp [T.get] at he
  ·simp [T.get] at he
 ·obtain ⟨r,outs,hsp,he⟩:=R.toT_get he;unfold u5 at he;split at he
  ·simp only [T.get,AC,AQ] at he;obtain ⟨rfl,rfl⟩:=he;simp only [St.ups];exact Uv h hg hS hv hsp
  ·simp [T.get] at he
def MC (l:LI):List Value:=l.map fun x=>Value.int .i64 x.toInt
def y8:V→Value
 | .int k n=>.int k n
 | _=>undef
def US (w:World) (v:Value):List V→List Value→Prop
 | [],[]=>True
 | [.clo f [.bor cs]],[y]=>∃ b c T,y = .func (.func f) #[] #[.pointer (some ⟨b,0,none⟩)]∧w.heap[b]?=some (.cells c T (0,0))∧c.toList=cs.map y8∧v.ownBlock≠some b
 | _,_=>False
def RV (P:Program) (f:FuncId) (p:Ip):Prop:=
 ∀ (w:World) (v:Value) (l l':LI) (rs:List V) (ys:List Value),w.ownsRow 0 p.e 1 v l.length (MC l)→(∀ x∈l,AB.min≤x.toInt∧x.toInt≤AB.max)→l.length≤strMax →
  US w v rs ys→p.g rs l=some l' →
  Does P f (v :: ys) w fun e w'=>∃ x,e = .returned x∧w.grownBy w' v.ownBlock∧(∀ x∈l',AB.min≤x.toInt∧x.toInt≤AB.max) ∧
   (p.ret=true→w'.ownsRow 0 p.e 1 x l'.length (MC l')∧∀ b,x.ownBlock=some b→v.ownBlock=some b∨w.heap.size≤b) ∧
   (p.ret=false→w'.ownsRow 0 p.e 1 v l'.length (MC l'))
theorem Vh {w:World} {O:Nat→Prop} {l:LI} {xs:List Value} (hl:xs.length=l.length*1)
  (h:∀ i y,l[i]?=some y→Kd.RelAll w O [.z] (FS false y) 0 (fun j u=>xs[i*1+j]?=some u)):xs=MC l∧∀ x∈l,AB.min≤x.toInt∧x.toInt≤AB.max:=by
 have one:∀ (i:Nat) (y:IV),l[i]?=some y→xs[i]?=some (.int .i64 y.toInt)∧AB.min≤y.toInt∧y.toInt≤AB.max:=fun i y hy=>by
  have:=h i y hy
  simp only [Kd.RelAll,FS,B4,Nat.mul_one,C6] at this;obtain ⟨u,hu,hk⟩:=this;simp only [Kd.Rel] at hk;rw [hu,hk.1];exact ⟨rfl,hk.2⟩
 constructor
 ·apply List.ext_getElem?;intro i;unfold MC;rw [B9];cases hy:l[i]? with
  | none=>
   rw [List.getElem?_eq_none_iff] at hy;rw [BU (by omega)];rfl
  | some y=>rw [(one i y hy).1]; rfl
 ·intro x hx;obtain ⟨i,hi⟩:=List.getElem?_of_mem hx;exact (one i x hi).2
theorem pF {w:World} {O:Nat→Prop} {l:LI} (h:∀ x∈l,AB.min≤x.toInt∧x.toInt≤AB.max) (i:Nat) (y:IV) (hy:l[i]?=some y) :
  Kd.RelAll w O [.z] (FS false y) 0 (fun j u=>(MC l)[i*1+j]?=some u):=by
 simp only [Kd.RelAll,FS,B4,Nat.mul_one,C6];refine ⟨.int .i64 y.toInt,?_,?_⟩
 ·unfold MC;rw [B9,hy];rfl
 ·simp only [Kd.Rel];exact ⟨trivial,h y (vab hy)⟩
theorem Cu {γ:Nat→Value} {o:Store} {w:World} {O:Nat→Prop}:∀ {cs:List V} {xs:List Value},jV cs=true→VRels γ o w O cs xs→xs=cs.map y8
 | [],[],_,_=>rfl
 | [],_ :: _,_,h=>by simp only [VRels] at h
 | v :: cs,[],h,h'=>by simp only [VRels] at h'
 | v :: cs,x :: xs,h,h'=>by
  simp only [VRels] at h';unfold jV at h;split at h
  ·rename_i h0; cases h0
  ·rename_i n r h0;injection h0 with h1 h2
   subst h1 h2;have h3:=h'.1;simp only [VRel] at h3;rw [AZ,← Cu h h'.2,h3.1];rfl
  ·cases h
theorem Iq (h:Rel B nt w0 X γ st a w) {v:Value} (hv:∀ m cs b,DI st.o m=some (.box cs)→EU (γ m) (.box cs) b→v.ownBlock≠some b) {rest rs:List V} {ys:List Value} (hr:VRels γ st.o w (DK X γ st.o) rest ys) (he:W1 st.o rest=some rs):US w v rs ys:=by
 unfold W1 at he;split at he
 ·simp only [AC] at he;subst he;cases ys with
  | nil=>trivial
  | cons y ys=>simp only [VRels] at hr
 ·rename_i f m i c;split at he
  ·rename_i cs hic ho;split at he
   ·rename_i hi;simp only [AC] at he;subst he;simp only [AI] at hic;obtain rfl:=FL.1 hic.1;obtain rfl:=FL.1 hic.2
    match ys,hr with
    | [y],hr=>
     simp only [VRels,B4] at hr;simp only [VRel] at hr;obtain ⟨cs',rfl,hc⟩:=hr;obtain ⟨b,c,T,hg,hh,hcs⟩:=h.ob m _ ho;have hc1:∃ x0,cs' = #[x0]∧x0 = .pointer (some ⟨b,0,none⟩):=by
      obtain ⟨l⟩:=cs'
      match l,hc with
      | [x0],hc=>
       simp only [VRels,B4,VRel,ho] at hc;obtain ⟨_,b',hb',rfl⟩:=hc;rw [hg] at hb';simp only [CT,AC,C5,B4] at hb';subst hb';exact ⟨_,rfl,rfl⟩
      | [],hc=>simp only [VRels] at hc
      | _ :: _ :: _,hc=>simp only [VRels,and_false] at hc
     obtain ⟨x0,rfl,rfl⟩:=hc1;exact ⟨b,c,T,rfl,hh,Cu hi hcs,hv m cs b ho ⟨_,hg,rfl⟩⟩
    | [],hr=>simp only [VRels] at hr
    | _ :: _ :: _,hr=>simp only [VRels,and_false] at hr
   ·cases he
  ·cases he
 ·cases he
theorem zco (h:Rel B nt w0 X γ st a w) {f:FuncId} {p:Ip} (hI:RV P f p) {vs:List V} {xs:List Value} (hv:VRels γ st.o w (DK X γ st.o) vs xs) {d:Option Nat} (hd9:∀ d',d=some d'→d'≠900000) {v:V} {us:List Upd} (he:(Y5 st.o d p vs).get=some (v,us)) :
  Does P f xs w fun e w'=>∃ x,e = .returned x∧∃ γ',Rel B nt w0 X γ' (st.ups us) a w'∧VRel γ' (st.ups us).o w' (DK X γ' (st.ups us).o) v x:=by
 unfold Y5 at he;split at he
 ·rename_i n lo hi rest;cases xs with
  | nil=>simp only [VRels] at hv
  | cons sv ys=>
  simp only [VRels] at hv;obtain ⟨hs,hrest⟩:=hv;split at he
  ·rename_i e l rs hob hra;split at he
   ·rename_i hc;simp only [AI] at hc;obtain ⟨hc1,hc3,hc4⟩:=hc;have he2:=T.get_when he;clear he;obtain ⟨hc2,he⟩:=he2;obtain rfl:=FL.1 hc1;obtain rfl:=FL.1 hc2;obtain rfl:=FL.1 hc3;have he6:p.e < 1000000:=AM hc4;simp only [VRel,hob] at hs;obtain ⟨hlen,q,len,cap,q',hg,hvv,_,h2,h3,hm,_,h5⟩:=hs;rw [h5 rfl,vaj,vaj] at hvv;have hor:=h.ob n _ hob;simp only [ObRel] at hor;obtain ⟨hkp,hstr,xs,hx,hrx⟩:=hor;have hx':=hx.plain he6;have hlen':len=l.length:=by
     rcases hx'.2 with ⟨h6,h7⟩ | ⟨g,cap',cur,h6,_⟩
     ·rw [hg] at h6; simp only [CM] at h6; omega
     ·rw [hg] at h6; simp only [CM] at h6; exact h6.2.1
    subst hlen';have hsv:sv=γ n:=by rw [hvv,hg]
    subst hsv;obtain ⟨rfl,hrng⟩:=Vh hx.1 hrx;split at he
    ·rename_i l' hgl;have hrok:=Iq h (v:=γ n) (fun m cs b hm hb hne=>by
      have hnm:n≠m:=fun e=>by subst e; rw [hob] at hm; cases hm
      exact h.dis n m _ _ b hnm hob hm (by simp only [EU]; exact hne) hb) hrest hra
     have hdoes:=hI w (γ n) l l' rs ys hx' hrng hstr hrok hgl;split at he
     ·rename_i d' hret;obtain ⟨hk,he⟩:=T.get_when he;simp only [T.get,AC,AQ] at he;obtain ⟨rfl,rfl⟩:=he;have hk:=AM hk;refine hdoes.mono ?_;rintro e w' ⟨x,rfl,hgrow,hrng',hr1,_⟩;obtain ⟨hown,hblk⟩:=hr1 hret;refine ⟨x,rfl,fun m=>if d'=m then x else γ m,?_,?_⟩
      ·refine Rel.new h [n] d' (hd9 d' rfl) (.row true p.e false [.z] l') x (Keep.grown hgrow (fun g hg'=>⟨n,by simp,_,hob,hg'⟩)) (fun b hb=>⟨(hown.lt b hb).2,?_⟩) (fun O' hO hcmp=>?_)
       ·rcases hblk b hb with h1 | h1
        ·exact .inr ⟨n,by simp,_,hob,h1⟩
        ·exact .inl h1
       ·simp only [ObRel];exact ⟨by simp,by omega,MC l',OwnRow.of hown he6,fun i y hy=>pF hrng' i y hy⟩
      ·simp only [St.ups,St.up,VRel,D9,CO];refine ⟨AW _,?_⟩;rcases hown.2 with ⟨h6,h7⟩ | ⟨g,cap',cur,h6,_,_,h8,h9,_⟩
       ·refine ⟨none,0,0,none,h6,?_,B7 _,by omega,AW _,by simp [maxLen],.inr rfl,fun _=>rfl⟩;rw [h6,h7]
       ·refine ⟨some ⟨g,0,none⟩,l'.length,cap',some ⟨g,0,none⟩,h6,by rw [h6]; simp,B7 _,AW _,h8,h9,.inl ?_,fun _=>rfl⟩;simp [Addr.add]
     ·rename_i hret;obtain ⟨hk,he⟩:=T.get_when he;simp only [T.get,AC,AQ] at he;obtain ⟨rfl,rfl⟩:=he;have hk:=FL.1 hk;refine hdoes.mono ?_;rintro e w' ⟨x,rfl,hgrow,hrng',_,hr2⟩;have hown:=hr2 hret;refine ⟨x,rfl,γ,?_,by simp only [VRel]⟩;refine Rel.set h (ob':=.row true p.e false [.z] l') hob ⟨rfl,hk.symm⟩ (Keep.grown hgrow (fun g hg'=>hg')) (fun b hb=>hb) (fun hO hcmp=>?_);simp only [ObRel];exact ⟨by simp,by omega,MC l',OwnRow.of hown he6,fun i y hy=>pF hrng' i y hy⟩
     ·simp [T.get] at he
    ·simp [T.get] at he
   ·simp [T.get] at he
  ·simp [T.get] at he
 ·rename_i rest;cases xs with
  | nil=>simp only [VRels] at hv
  | cons sv ys=>
  simp only [VRels] at hv;obtain ⟨hs,hrest⟩:=hv;simp only [VRel] at hs;subst hs;split at he
  ·rename_i rs hra;split at he
   ·rename_i hgl;have hrok:=Iq h (v:=.slice none 0 0) (fun m cs b _ _ hne=>by simp [CE] at hne) hrest hra;have hdoes:=hI w (.slice none 0 0) [] [] rs ys (World.ownsRow_nil w 0 p.e _) (fun x hx=>by cases hx) (by simp) hrok hgl;split at he
    ·rename_i d' hret;obtain ⟨hk,he⟩:=T.get_when he;simp only [T.get,AC,AQ] at he;obtain ⟨rfl,rfl⟩:=he;have he6:p.e < 1000000:=AM hk;refine hdoes.mono ?_;rintro e w' ⟨x,rfl,hgrow,hrng',hr1,_⟩;obtain ⟨hown,hblk⟩:=hr1 hret;refine ⟨x,rfl,fun m=>if d'=m then x else γ m,?_,?_⟩
     ·refine Rel.new h [] d' (hd9 d' rfl) (.row true p.e false [.z] []) x (Keep.grown hgrow (fun g hg'=>by simp [CE] at hg')) (fun b hb=>⟨(hown.lt b hb).2,?_⟩) (fun O' hO hcmp=>?_)
      ·rcases hblk b hb with h1 | h1
       ·simp [CE] at h1
       ·exact .inl h1
      ·simp only [ObRel];exact ⟨by simp,by simp,MC [],OwnRow.of hown he6,fun i y hy=>pF hrng' i y hy⟩
     ·simp only [St.ups,St.up,VRel,D9,CO];refine ⟨AW _,?_⟩;rcases hown.2 with ⟨h6,h7⟩ | ⟨g,cap',cur,h6,_,_,h8,h9,_⟩
      ·refine ⟨none,0,0,none,h6,?_,B7 _,by omega,AW _,by simp [maxLen],.inr rfl,fun _=>rfl⟩;rw [h6]
      ·refine ⟨some ⟨g,0,none⟩,0,cap',some ⟨g,0,none⟩,h6,by rw [h6]; simp,B7 _,AW _,B7 _,h9,.inl ?_,fun _=>rfl⟩;simp [Addr.add]
    ·rename_i hret;simp only [T.get,AC,AQ] at he;obtain ⟨rfl,rfl⟩:=he;refine hdoes.mono ?_;rintro e w' ⟨x,rfl,hgrow,_,_,_⟩;refine ⟨x,rfl,γ,Rel.world h (Keep.grown hgrow (fun g hg'=>by simp [CE] at hg')),by simp only [VRel]⟩
    ·simp [T.get] at he
   ·simp [T.get] at he
  ·simp [T.get] at he
 ·simp [T.get] at he
def SpOK (P:Program) (B:BT) (E:Env) (w0:World) (X:Zone):Prop:=GX B w0 X∧(∀ f sp,lk E.sp f=some sp→Snd P B f (fun vs=>(sp vs).get))∧∀ f p,lk E.ip f=some p→RV P f p
theorem SpOK.get (h:SpOK P B E w0 X) (f:FuncId):Snd P B f (fun vs=>(EQ (fun _=>R.no) E.sp f vs).get):=by
 rw [ZA];cases hf:lk E.sp f with
 | none=>
  intro w X γ vs xs r out hsp;simp [R.get] at hsp
 | some sp=>exact h.2.1 f sp hf
theorem kX (h:Rel B nt w0 X γ st a w):∀ l:List Operand,VRels γ st.o w (DK X γ st.o) (JQ (opd st) l) (l.map a.eval)
 | []=>by simp only [JQ,CC,VRels]
 | x :: r=>by
  simp only [JQ,AZ,VRels];exact ⟨FJ h x,kX h r⟩
theorem rC (o:Oper) {f:FuncId} {xs:List Value} {v:V} {us:List Upd} (hr:(execOp a.eval o).run P w=(callFunc f xs.toArray).run P w)
  (hd:Does P f xs w fun e w'=>∃ x,e = .returned x∧∃ γ',Rel B nt w0 X γ' (st.ups us) a w'∧VRel γ' (st.ups us).o w' (DK X γ' (st.ups us).o) v x):OpWp P B nt w0 X a w o st v us:=by
 intro K Q hK;unfold Oper.wp;rw [hr];unfold Does at hd;split at hd
 ·rename_i g args w' hc;rw [hc,Oper.upon_enter];refine hd.mono ?_;rintro e w'' ⟨x,rfl,γ',h1,h2⟩;exact hK γ' x w'' h1 h2
 ·rename_i x w' hc;rw [hc,Oper.upon_value];obtain ⟨x',he,γ',h1,h2⟩:=hd;cases he;exact hK γ' x w' h1 h2
 ·rename_i row args w' hc;rw [hc,Oper.upon_row];refine Rows.mono hd ?_;rintro x w'' ⟨x',he,γ',h1,h2⟩;cases he;exact hK γ' x w'' h1 h2
 ·exact hd.elim
theorem zfu (hT:TiOK P B E) (hSp:SpOK P B E w0 X) (h:Rel B nt w0 X γ st a w) (o:Oper) (hd9:∀ d,o.dst=some d→d≠900000) {c:Call} (ho:o.op = .call c) {v:V} {us:List Upd}
  (he:(D4 E st.o (opd st) o.dst o.op).get=some (v,us)):OpWp P B nt w0 X a w o st v us:=by
 obtain ⟨callee,args,ats⟩:=c;cases callee with
 | builtin b=>exact zft hT h o hd9 ho he
 | invoke recv name=>
  rw [ho] at he;simp only [D4,SG] at he;simp [T.get] at he
 | value x=>
  rw [ho] at he;obtain ⟨args⟩:=args;have clo:∀ (x:Operand),o.op = .call ⟨.value x,⟨args⟩,ats⟩→∀ d,o.dst=some d→(match opd st x with
    | .clo f caps=>match WP caps with
     | true=>UA st.o d (mE E ats.toList) (EQ (fun _=>R.no) E.sp f) (JQ (opd st) args++caps)
     | false=>.no
    | _=>.no).get=some (v,us)→OpWp P B nt w0 X a w o st v us:=by
   intro x ho d hd he;split at he
   ·rename_i f caps hclo;split at he
    case h_2=>simp [T.get] at he
    have hx:=FJ h x;rw [hclo] at hx;simp only [VRel] at hx;obtain ⟨cs,hx1,hx2⟩:=hx;have hrel:=y4 h hSp.1 (hSp.get f) ((kX h args).append hx2) (hd9 d hd) he;refine rC o (xs:=args.map a.eval++cs.toList) ?_ hrel;obtain ⟨dst,op,type,pos,after,guard⟩:=o;simp only at ho;subst ho
    have:execOp a.eval { dst,op:=.call { callee:=.value x,args:=⟨args⟩,argTypes:=ats },type,pos,after,guard }=(do let d ← Deferred.ofValue (a.eval x) ((⟨args⟩:Array Operand).map a.eval); invoke d.target d.args):=rfl
    rw [this,hx1];have hla:(args.map a.eval).toArray++cs=(args.map a.eval++cs.toList).toArray:=by
     apply Array.ext';simp
    simp [Deferred.ofValue,invoke,hla]
   ·simp [T.get] at he
  cases x with
  | func f=>
   simp only [D4,SG,nL] at he;have hrun:∀ {f:Nat},o.op = .call ⟨.value (.func f),⟨args⟩,ats⟩→(execOp a.eval o).run P w=(callFunc f (args.map a.eval).toArray).run P w:=fun {f} ho=>by
    obtain ⟨dst,op,type,pos,after,guard⟩:=o;simp only at ho;subst ho
    have:execOp a.eval { dst,op:=.call { callee:=.value (.func f),args:=⟨args⟩,argTypes:=ats },type,pos,after,guard }=callFunc f (#[]++(⟨args⟩:Array Operand).map a.eval++#[]):=rfl
    rw [this];simp
   split at he
   ·rename_i p hp;exact rC o (xs:=args.map a.eval) (hrun ho) (zco h (hSp.2.2 f p hp) (kX h args) hd9 he)
   ·split at he
    ·rename_i d hd;exact rC o (xs:=args.map a.eval) (hrun ho) (y4 h hSp.1 (hSp.get f) (kX h args) (hd9 d hd) he)
    ·simp [T.get] at he
  | tmp t=>
   simp only [D4,SG] at he;cases hd:o.dst with
   | none=>rw [hd] at he; simp [T.get] at he
   | some d=>rw [hd] at he; exact clo _ ho d hd he
  | const t=>
   simp only [D4,SG] at he;cases hd:o.dst with
   | none=>rw [hd] at he; simp [T.get] at he
   | some d=>rw [hd] at he; exact clo _ ho d hd he
  | global t=>
   simp only [D4,SG] at he;cases hd:o.dst with
   | none=>rw [hd] at he; simp [T.get] at he
   | some d=>rw [hd] at he; exact clo _ ho d hd he
theorem zfw (hT:TiOK P B E) (h:Rel B nt w0 X γ st a w) (o:Oper) (hd9:∀ d,o.dst=some d→d≠900000) {s t:Nat} {x:Operand} (ho:o.op = .convert s t x) {v:V} {u:Upd} {us:List Upd}
  (he:(D4 E st.o (opd st) o.dst o.op).get=some (v,u :: us)):OpWp P B nt w0 X a w o st v (u :: us):=by
 have hx:=FJ h x;rw [ho] at he;simp only [D4] at he;split at he
 ·split at he
  ·simp [T.get] at he
  ·simp [T.get] at he
 ·rename_i b hop;rw [hop] at hx;simp only [VRel] at hx;split at he
  ·simp [T.get] at he
  ·rename_i e k1 kss hd hks hkss;split at he
   ·rename_i d hdst hde hkse;simp only [T.get,AC,AQ,vaB] at he;obtain ⟨rfl,rfl,rfl⟩:=he;have hu1:=UY hT hd;obtain ⟨d',hd1',_,_⟩:=(hT.kinds (t:=s) (by rw [hkss]; simp)).und;obtain ⟨d'',hd1'',_,hd2''⟩:=(hT.kinds (t:=e) (by rw [hkse]; simp)).und;rw [hde] at hd2'';obtain rfl:=hd2''.1 _ hkse;have hrun:(execOp a.eval o).run P w = .ok (.value (.slice (some ⟨w.heap.size,0,none⟩) b.size (grownCap w b.size 0 e))) (vaQ w e b):=by
     unfold execOp;simp only [ho,hx.1,CA,Lib.run_convert_string_bytes w s t e b hd1' hu1 hd1'',BP,CB]
    have hsm:=l8;have hcg:=grownCap_ge w b.size 0 e;have hcm:grownCap w b.size 0 e≤maxLen:=grownCap_le_maxLen w b.size 0 e (CW hx.2 hsm);have hcs:(Lib.bytesCells w e b).size=grownCap w b.size 0 e:=by
     have:b.data.size=b.size:=rfl
     simp only [Lib.bytesCells,Array.size_append,Array.size_map,Array.size_replicate,this];omega
    have hkp:Keep (fun _=>False) w (vaQ w e b):=by
     refine ⟨?_,?_,?_,by rw [Lib.bytesWorld_size]; omega,fun j hj _=>Lib.bytesWorld_at_old w e b j hj⟩
     ·simp [vaQ,World.freeze]; rfl
     ·simp [vaQ,World.freeze]
     ·simp [vaQ,World.freeze]; rfl
    have hn:=Rel.new h [] d (hd9 d hdst) (.row true (e+1000000) false [.int .u8] (b.data.toList.map fun b=>.int (b.toNat:Int))) (.slice (some ⟨w.heap.size,0,none⟩) b.size (grownCap w b.size 0 e)) (w':=vaQ w e b) (hkp.mono (fun _ _ h=>h.elim))
     (by
      intro b1 hb;simp only [EU,CE,AC] at hb;subst hb;rw [Lib.bytesWorld_size];exact ⟨by omega,.inl (AW _)⟩)
     (by
      intro O' hO hcmp;simp only [ObRel];have hln:(b.data.toList.map fun b=>IV.int (b.toNat:Int)).length=b.size:=by simp
      refine ⟨by simp,by rw [hln]; exact hx.2,b.data.toList.map fun b=>.int .u8 b.toNat,?_,fun i y hy=>?_⟩
      ·rw [hln];refine ⟨by simp,.inr ⟨w.heap.size,grownCap w b.size 0 e,_,_,_,rfl,Lib.bytesWorld_at_new w e b,hcg,hcm,by rw [hcs]; simp,?_,.inr ⟨by omega,AW _⟩⟩⟩;simp only [Lib.bytesCells,vak,AN,BB];rw [List.take_append_of_le_length (by simp)];rw [CX (by simp)];simp
      ·rw [B9] at hy;cases hbi:b.data.toList[i]? with
       | none=>rw [hbi] at hy; cases hy
       | some c=>
        rw [hbi] at hy;simp only [vaf,AC] at hy;subst hy;simp only [Kd.RelAll,FS,Kd.Rel,IV.toInt,AN,BB];refine ⟨⟨.int .u8 c.toNat,by simp [hbi],rfl,?_,?_⟩,trivial⟩
        ·simp [IntKind.min,vam]
        ·have:=c.toNat_lt
         simp [IntKind.max,vam,AT];omega)
    refine OpWp.value hrun hn ?_;simp only [St.ups,VRel,F7,CO];refine ⟨by simp,some ⟨w.heap.size,0,none⟩,b.size,grownCap w b.size 0 e,some ⟨w.heap.size,0,none⟩,rfl,by simp,B7 _,AW _,hcg,hcm,.inl ?_,fun _=>rfl⟩;simp [Addr.add]
   ·simp [T.get] at he
  ·simp [T.get] at he
 ·split at he
  ·split at he
   ·simp [T.get] at he
   ·simp [T.get] at he
  ·simp [T.get] at he
def BldOK (P:Program) (B:BT) (E:Env):Prop:=(E.tyd B.T).d = .bld→∃ i,P.info? B.T=some i∧i.zero=some (.agg #[.pointer none,.slice none 0 0])
theorem Gg (hT:TiOK P B E) (hE:∀ t,t∈E.eqs→EqSnd P t (E.tyd t).ks) (hSp:SpOK P B E w0 X) (hB:BldOK P B E) (h:Rel B nt w0 X γ st a w) (o:Oper) (hd9:∀ d,o.dst=some d→d≠900000) {v:V} {us:List Upd}
  (he:(D4 E st.o (opd st) o.dst o.op).get=some (v,us)):OpWp P B nt w0 X a w o st v us:=by
 cases ho:o.op with
 | move x=>exact Gf h o (.inl ho) he
 | assign x=>exact Gf h o (.inr ho) he
 | pick c x y=>exact zfM h o ho he
 | alloc t=>exact zfo hT h o hd9 ho hB he
 | box t x=>exact zfq h o hd9 ho he
 | build t parts=>exact zfr hT h o ho he
 | buildSlice t len parts=>exact zfs hT h o hd9 ho he
 | load t x=>exact zfE hT h o ho he
 | store t p x=>exact zfP hT h o ho he
 | nilCheck x=>exact zfL h o ho he
 | binOp op t x y t'=>exact zfp hT hE h o ho he
 | unOp op t x=>exact zfQ h o ho he
 | convert s t x=>
  cases us with
  | nil=>exact zfv hT h o ho he
  | cons u us=>exact zfw hT h o hd9 ho he
 | makeFunc f first caps=>exact zfG h o ho he
 | makeSlice t n m=>exact zfI hT h o hd9 ho he
 | slice t x lo hi mx=>exact zfO hT h o ho he
 | fieldAddr s x f=>exact zfB hT h o ho he
 | field t x f=>exact zfA hT h o ho he
 | indexAddr t x ix=>exact zfD hT h o ho he
 | index t x ix=>exact zfC hT h o ho he
 | extract x i=>exact zfz h o ho he
 | call c=>exact zfu hT hSp h o hd9 ho he
 | makeMap t r=>exact zfH h o hd9 ho he
 | insert t m k x=>exact Ge hT h o (.inl ho) he
 | mapUpdate t m k x=>exact Ge hT h o (.inr ho) he
 | lookup t m k ok=>exact zfF hT h o ho he
 | mapEntry t m k=>exact zfJ hT h o ho he
 | entryStore t m s x=>exact zfy h o ho he
 | range t x=>exact zfN hT h o hd9 ho he
 | entry x=>exact zfx h o ho he
 | _=>rw [ho] at he; simp [D4,T.get] at he
theorem zg1 (hT:TiOK P B E) (hE:∀ t,t∈E.eqs→EqSnd P t (E.tyd t).ks) (hSp:SpOK P B E w0 X) (hB:BldOK P B E) (h:Rel B nt w0 X γ st a w) (o:Oper) (hd9:∀ d,o.dst=some d→d≠900000) {k:V→List Upd→DJ} {r:V × List (List V)}
  (he:ZR E st.o (opd st) o.dst o.op k=some r):∃ v us,k v us=some r∧OpWp P B nt w0 X a w o st v us:=by
 unfold ZR at he;split at he
 ·rename_i x hop;split at he
  ·rename_i n i c hm;split at he
   ·rename_i vk last rest hob;obtain ⟨h0,h1⟩:=zfK (P:=P) h o hop hm hob;split at he
    ·rename_i hl;exact ⟨_,_,he,h0 (FL.1 hl)⟩
    ·rename_i hl;obtain ⟨j,hj,hw⟩:=h1 (H5.1 hl);exact ⟨_,_,Sy he j hj,hw⟩
   ·cases he
  ·cases he
 ·obtain ⟨v,us,h1,h2⟩:=T.run_some he;exact ⟨v,us,h2,Gg hT hE hSp hB h o hd9 h1⟩
end
open Go Go.RowKit
theorem ZN:∀ {l:List V} {n:Nat},n∈E7 l→n∈ER.go l
 | v :: r,n,h=>by
  simp only [E7,AV] at h;rcases h with h | h
  ·cases v <;> simp only [EE] at h <;> first | (cases h; done) | (simp only [ER.go,AV]; exact .inl h)
  ·cases v <;> simp only [ER.go,AV] <;> exact .inr (ZN h)
def Agree (o o':Store) (l:List Nat):Prop:=∀ n∈l,DI o' n=DI o n
theorem Agree.left {o o':Store} {l l':List Nat} (h:Agree o o' (l++l')):Agree o o' l:=fun n hn=>h n (vaN _ hn)
theorem Agree.right {o o':Store} {l l':List Nat} (h:Agree o o' (l++l')):Agree o o' l':=fun n hn=>h n (vaJ _ hn)
theorem Fz {o o':Store} {v:V} (h:Agree o o' (EE v)):K1 o' v=K1 o v:=by
 cases v <;> simp only [K1]
 all_goals rw [h _ (by simp [EE])]
theorem qX {o o':Store} {v:V} (h:Agree o o' (EE v)):RF o' v=RF o v:=by
 cases v <;> simp only [RF] <;> exact Fz h
theorem qV {o o':Store}:∀ {l:List V},Agree o o' (E7 l)→SW o' l=SW o l
 | [],_=>rfl
 | v :: r,h=>by simp only [SW,Fz h.left,qV (l:=r) h.right]
theorem An {o o':Store} {v:V} (h:Agree o o' (EE v)):SL o' v=SL o v:=by
 cases v <;> simp only [SL]
 rw [h _ (by simp [EE])]
theorem Jn {o o':Store} {v:V} (h:Agree o o' (EE v)):P6 o' v=P6 o v:=by
 cases v <;> simp only [P6]
 rw [h _ (by simp [EE])]
theorem kB {o o':Store} {k:Kd} {v:V} (h:Agree o o' (EE v)):MH o' k v=MH o k v:=by
 cases k <;> cases v <;> simp only [MH]
 rw [h _ (by simp [EE])]
theorem eV {o o':Store}:∀ {ks:List Kd} {l:List V},Agree o o' (E7 l)→J0 o' ks l=J0 o ks l
 | [],[],_=>rfl
 | [],_ :: _,_=>rfl
 | _ :: _,[],_=>rfl
 | k :: ks,v :: r,h=>by simp only [J0,kB h.left,eV (l:=r) h.right]
theorem N9 {v:V} {n:Nat} (h:n∈EE v):n∈ER v:=by
 cases v <;> simp only [EE] at h <;> first | exact h | cases h
theorem Wq {o o':Store} {ag:Bool} {ks:List Kd} {v:V} (h:Agree o o' (ER v)):PS o' ag ks v=PS o ag ks v:=by
 cases ag with
 | false=>
  simp only [PS];rw [eV (o:=o) (o':=o') (fun n hn=>h n (N9 (by simpa [E7] using hn)))]
 | true=>
  cases v <;> simp only [PS]
  rw [eV h]
theorem Ic:∀ (a b:List V),E7 (a++b)=E7 a++E7 b
 | [],b=>rfl
 | v :: r,b=>by simp [E7,Ic r b]
theorem Id {l:List V} {v:V} {n:Nat} (hv:v∈l) (hn:n∈EE v):n∈E7 l:=by
 induction l with
 | nil=>cases hv
 | cons u r ih=>
  simp only [E7,AV];rcases AS.1 hv with h | h
  ·subst h; exact .inl hn
  ·exact .inr (ih h)
theorem r9 {l l':List V} (h:∀ v∈l,v∈l') {n:Nat} (hn:n∈E7 l):n∈E7 l':=by
 induction l with
 | nil=>simp [E7] at hn
 | cons u r ih=>
  simp only [E7,AV] at hn;rcases hn with hn | hn
  ·exact Id (h u (AR ..)) hn
  ·exact ih (fun v hv=>h v (AY _ hv)) hn
theorem iV {o o':Store} {ag:Bool} {ks:List Kd} {sz:Nat}:∀ {n:Nat} {cs:List V},Agree o o' (E7 cs)→M1 ag ks o' cs sz n=M1 ag ks o cs sz n
 | 0,cs,_=>rfl
 | n+1,cs,h=>by
  simp only [M1];rw [iV (n:=n) (cs:=MD cs sz) (fun m hm=>h m (by rw [QY] at hm; exact r9 (fun v hv=>vay hv) hm))];cases ag with
  | true=>
   rw [Wq];intro m hm;simp only [ER,XW] at hm;exact h m (r9 (fun v hv=>vag hv) hm)
  | false=>
   simp only [PS];rw [eV (o:=o) (o':=o')];intro m hm;rw [fI] at hm;cases hc:cs[0]? with
   | none=>rw [hc] at hm; simp [E7,EE] at hm
   | some u=>
    rw [hc] at hm;simp only [van,E7,DB] at hm;exact h m (Id (vab hc) hm)
theorem XP {l:List V} {n:Nat} (h:n∈ET l):n∈E7 l:=by
 induction l with
 | nil=>simp [ET] at h
 | cons v r ih=>
  simp only [E7,AV];cases v <;> simp only [ET,AS] at h <;> first | exact .inr (ih h) | skip
  rcases h with h | h
  ·exact .inl (by simp [EE,h])
  ·exact .inr (ih h)
theorem eC {o o':Store}:∀ {l:List Nat},Agree o o' l→EJ o' l=EJ o l
 | [],_=>rfl
 | n :: r,h=>by
  simp only [EJ];rw [h n (AR ..),eC (l:=r) (fun m hm=>h m (AY _ hm))]
theorem oU {o o':Store} {place:Nat→Option (Nat × Nat)}:∀ {cs:List V} {l:List (Nat × V)},(∀ i v,(i,v)∈l→Agree o o' (ER v))→LL o' place cs l=LL o place cs l
 | cs,[],_=>rfl
 | cs,(i,v) :: r,h=>by
  simp only [LL];have h1:RF o' v=RF o v:=qX (fun n hn=>h i v (AR ..) n (N9 hn));rw [h1];split
  ·split
   ·exact oU (fun i v hv=>h i v (AY _ hv))
   ·rfl
  ·rfl
theorem iL {o o':Store} {d e:Nat} {ag:Bool} {ks:List Kd} {bytes:Nat} {s:V} {l:LI} (h:Agree o o' (EE s)):OO o' d e ag ks bytes s l=OO o d e ag ks bytes s l:=by
 cases s <;> simp only [OO]
 rw [h _ (by simp [EE])]
theorem WU {o:Store} {n m:Nat} {cs:List V}:∀ {l:List Nat},n∈l→DI o n=some (.box cs)→m∈E7 cs→m∈KG o l
 | x :: r,hn,ho,hm=>by
  simp only [KG];rcases AS.1 hn with h | h
  ·subst h;rw [ho];exact vaN _ hm
  ·have:=WU h ho hm
   split
   ·exact vaJ _ this
   ·exact this
theorem Tc {o o':Store} {d et:Nat} {e:TI} {tk:List Kd} {s x:V} (h:Agree o o' (EE s)):YJ o' d et e tk s x=YJ o d et e tk s x:=by
 unfold YJ;simp only [iL h]
theorem Ta {o o':Store} {d et:Nat} {e:TI} {s x:V} (h:Agree o o' (EE s)) (h':Agree o o' (EE x++KG o (EE x))):WI o' d et e s x=WI o d et e s x:=by
 have gen:(match SL o' x,P6 o' x with
   | some l,some (ag,ks)=>match H7 (.list e.agg e.ks) (.list ag ks) with
    | true=>OO o' d et e.agg e.ks e.bytes s l
    | false=>.no
   | _,_=>.no)=(match SL o x,P6 o x with
   | some l,some (ag,ks)=>match H7 (.list e.agg e.ks) (.list ag ks) with
    | true=>OO o d et e.agg e.ks e.bytes s l
    | false=>.no
   | _,_=>.no):=by
  simp only [An h'.left,Jn h'.left,iL h]
 cases x
 case bview n c cap sz len=>
  simp only [WI];rw [h' n (by simp [EE])];split
  ·rename_i cs ho;simp only [iL h];split
   ·congr 1
    funext m
    rw [iV (o:=o) (o':=o')];intro k hk;rw [QY] at hk;exact h' k (vaJ _ (WU (by simp [EE]) ho (r9 (fun v hv=>vay hv) hk)))
   ·rfl
  ·rfl
 case zs=>simp only [WI,iL h]
 all_goals exact gen
theorem dN {o o':Store} {bs:List V} {tk:Option Kd} {v:V} (h:Agree o o' (EE v)):EG o' bs tk v=EG o bs tk v:=by
 cases v <;> simp only [EG]
 all_goals rw [h _ (by simp [EE])]
theorem p7 {o o':Store} {bs:List V}:∀ {l:List V} {ks:List Kd},Agree o o' (E7 l)→LR (fun k v=>HR (EG o' bs k v)) ks l=LR (fun k v=>HR (EG o bs k v)) ks l
 | [],ks,_=>by cases ks <;> rfl
 | v :: l,[],h=>by simp only [LR,dN h.left,p7 (l:=l) h.right]
 | v :: l,k :: ks,h=>by simp only [LR,dN h.left,p7 (l:=l) h.right]
theorem Eg {o o':Store} {bs:List V} {tk:Option Kd}:∀ {l:List V},Agree o o' (E7 l)→l.map (EG o' bs tk)=l.map (EG o bs tk)
 | [],_=>rfl
 | v :: l,h=>by simp only [AZ,dN h.left,Eg (l:=l) h.right]
theorem m8 {o o':Store} {bs:List V} {ks:List Kd} {v:V} (h:Agree o o' (ER v)):JB o' bs ks v=JB o bs ks v:=by
 by_cases ha:∃ l,v = .agg l
 ·obtain ⟨l,rfl⟩:=ha;simp only [JB,p7 (o:=o) (o':=o') h]
 by_cases hc:∃ f l,v = .clo f l
 ·obtain ⟨f,l,rfl⟩:=hc;simp only [JB,Eg (o:=o) (o':=o') (l:=l) (fun n hn=>h n (ZN hn))]
 have h1:∀ o,JB o bs ks v=EG o bs ks.head? v:=by
  intro o;cases v <;> first | rfl | exact absurd ⟨_,rfl⟩ ha | exact absurd ⟨_,_,rfl⟩ hc
 rw [h1,h1];exact dN (fun n hn=>h n (N9 hn))
theorem m9 {o o':Store} {bs:List V}:∀ {l:List V} {tks:List (List Kd)},Agree o o' (GU l)→FZ o' bs tks l=FZ o bs tks l
 | [],tks,_=>by cases tks <;> rfl
 | v :: l,[],h=>by simp only [FZ,m8 h.left,m9 (l:=l) h.right]
 | v :: l,t :: ts,h=>by simp only [FZ,m8 h.left,m9 (l:=l) h.right]
theorem Vb {o o':Store} {all:List Nat} {v:V} (h:Agree o o' (EE v)):E8 o' all v=E8 o all v:=by
 cases v <;> simp only [E8]
 rw [h _ (by simp [EE])]
theorem Ei {o o':Store} {all:List Nat}:∀ {l:List V},Agree o o' (E7 l)→l.map (E8 o' all)=l.map (E8 o all)
 | [],_=>rfl
 | v :: l,h=>by simp only [AZ,Vb h.left,Ei (l:=l) h.right]
theorem Cg {o o':Store} {all:List Nat}:∀ {l:List V},Agree o o' (E7 l)→GS o' all l=GS o all l
 | [],_=>rfl
 | v :: l,h=>by
  have ih:=Cg (all:=all) (l:=l) h.right;cases v <;> simp only [GS,ih]
  rw [h.left _ (by simp [EE])]
theorem Jo {o o':Store} {all:List Nat}:∀ {l:List V},Agree o o' (E7 l)→HM o' all l=HM o all l
 | [],_=>rfl
 | v :: l,h=>by
  have ih:=Jo (all:=all) (l:=l) h.right;cases v <;> simp only [HM,ih]
  rw [h.left _ (by simp [EE])]
theorem zjt {v:V} {n:Nat} (h:n∈KA v):n∈ER v:=by
 cases v <;> simp only [KA] at h <;> try (cases h; done)
 case row=>simpa [ER,EE] using h
 case agg=>exact XP h
 case clo=>exact ZN (XP h)
 case tup l=>
  simp only [ER]
  induction l with
  | nil=>simp [KA.go] at h
  | cons v r ih=>
   cases v <;> simp only [KA.go,ER.go,AS,AV] at h ⊢ <;> first | exact .inr (ih h) | skip
   ·rcases h with h | h
    ·exact .inl (by simp [EE,h])
    ·exact .inr (ih h)
   ·rcases h with h | h
    ·exact .inl (XP h)
    ·exact .inr (ih h)
theorem uG:∀ {l:List V} {n:Nat},n∈EL l→n∈GU l
 | v :: l,n,h=>by
  simp only [EL,GU,AV] at h ⊢;exact h.imp zjt uG
theorem eY:∀ {l:List V} {n:Nat},n∈E3 l→n∈GU l
 | v :: l,n,h=>by
  simp only [GU,AV];cases v <;> simp only [E3,AS,AV] at h <;> first | exact .inr (eY h) | skip
  ·rcases h with h | h
   ·exact .inl (by simp [ER,EE,h])
   ·exact .inr (eY h)
  ·rename_i f caps;rcases h with h | h
   ·refine .inl ?_;simp only [ER];refine ZN ?_;clear eY
    induction caps with
    | nil=>simp [E3.lentC] at h
    | cons v r ih=>
     simp only [E7,AV];cases v <;> simp only [E3.lentC,AS] at h <;> first | exact .inr (ih h) | skip
     rcases h with h | h
     ·exact .inl (by simp [EE,h])
     ·exact .inr (ih h)
   ·exact .inr (eY h)
theorem Uy {o o':Store} {v:V} (h:Agree o o' (EE v)):LJ o' v=LJ o v:=by
 by_cases hp:∃ n i c,v = .ptr n i c
 ·obtain ⟨n,i,c,rfl⟩:=hp;simp only [LJ];rw [h _ (by simp [EE])]
 ·have h1:∀ o,LJ o v=HR (EG o [] none v):=by
   intro o;cases v <;> first | rfl | exact absurd ⟨_,_,_,rfl⟩ hp
  rw [h1,h1,dN h]
theorem Eh {o o':Store}:∀ {l:List V},Agree o o' (E7 l)→l.map (LJ o')=l.map (LJ o)
 | [],_=>rfl
 | v :: l,h=>by simp only [AZ,Uy h.left,Eh (l:=l) h.right]
theorem vE {o o':Store} {ks:List Kd} {v:V} (h:Agree o o' (ER v)):L9 o' ks v=L9 o ks v:=by
 by_cases hc:(∃ f l,v = .clo f l)∨(∃ n i c,v = .ptr n i c)
 ·rcases hc with ⟨f,l,rfl⟩ | ⟨n,i,c,rfl⟩
  ·simp only [L9,Eh (o:=o) (o':=o') (l:=l) (fun n hn=>h n (ZN hn))]
  ·rfl
 ·have h1:∀ o,L9 o ks v=JB o [] ks v:=by
   intro o;cases v <;> first | rfl | exact absurd (.inl ⟨_,_,rfl⟩) hc | exact absurd (.inr ⟨_,_,_,rfl⟩) hc
  rw [h1,h1,m8 h]
theorem m5 {o o':Store}:∀ {l:List V} {tks:List (List Kd)},Agree o o' (GU l)→JT o' tks l=JT o tks l
 | [],tks,_=>by cases tks <;> rfl
 | v :: l,[],h=>by simp only [JT,vE h.left,m5 (l:=l) h.right]
 | v :: l,t :: ts,h=>by simp only [JT,vE h.left,m5 (l:=l) h.right]
theorem y3 {o o':Store} {d:Nat} {tks:List (List Kd)} {sp:DR} {vs:List V} (h:Agree o o' (GU vs++KG o (GU vs))):UA o' d tks sp vs=UA o d tks sp vs:=by
 have hA:∀ bs,FZ o' bs tks vs=FZ o bs tks vs:=fun bs=>m9 h.left
 have hF:∀ l,(∀ n∈l,n∈GU vs++KG o (GU vs))→EJ o' l=EJ o l:=fun l hl=>eC (fun n hn=>h n (hl n hn))
 have hFv:EJ o' (EL vs)=EJ o (EL vs):=hF _ (fun n hn=>vaN _ (uG hn));have hF0:EJ o' []=EJ o []:=rfl;have hPl:dL o' d vs=dL o d vs:=by
  funext v out
  unfold dL;split
  ·split
   ·rename_i cs;cases HW cs <;> simp only [hFv,hF0]
   ·simp only [hFv]
   ·cases HZ v <;> simp only [hFv,hF0]
  ·rfl
 unfold UA;simp only [hA,hPl];split
 ·rfl
 ·rename_i n hl;have hn:n∈GU vs:=eY (by rw [hl]; exact AR ..);rw [h n (vaN _ hn)];split
  ·rename_i cs ho;have hcs:Agree o o' (E7 cs):=fun m hm=>h m (vaJ _ (WU hn ho hm))
   have hsh:∀ m∈HM o (ET cs++EL vs) cs,m∈GU vs++KG o (GU vs):=by
    intro m hm;obtain ⟨lo,hi,_,_,_,_,_,h1,_⟩:=lN hm;exact vaJ _ (WU hn ho (XP (XC h1)))
   have hBx:dK o' d n cs vs=dK o d n cs vs:=by
    funext v outs
    unfold dK;rw [Cg hcs,Jo hcs];split
    ·rename_i out;have h1:EJ o' (HM o (ET cs++EL vs) cs++EL vs)=EJ o (HM o (ET cs++EL vs) cs++EL vs):=hF _ (fun m hm=>(AV.1 hm).elim (hsh m) (fun hm=>vaN _ (uG hm)));have h2:EJ o' (HM o (ET cs++EL vs) cs++[])=EJ o (HM o (ET cs++EL vs) cs++[]):=hF _ (fun m hm=>hsh m (by simpa using hm));cases (HZ v||HW out) <;> simp only [h1,h2]
    ·rfl
   rw [Ei hcs,hBx]
  ·have hBd:dJ o' n vs=dJ o n vs:=by
    funext v outs
    unfold dJ;split
    ·cases HZ v <;> simp only [hFv,hF0]
    ·rfl
   rw [hBd]
  ·rfl
 ·rw [m5 h.left]
theorem Cv {o o':Store} {l:List V} (h:Agree o o' (GU l)):W1 o' l=W1 o l:=by
 unfold W1;split
 ·rfl
 ·rename_i f m i c;rw [h m (by simp [GU,ER,ER.go,EE])]
 ·rfl
theorem zcn {o o':Store} {d:Option Nat} {p:Ip} {vs:List V} (h:Agree o o' (GU vs)):Y5 o' d p vs=Y5 o d p vs:=by
 unfold Y5;split
 ·rename_i n lo hi rest;rw [h n (by simp [GU,ER,EE]),Cv (fun k hk=>h k (by simp only [GU,AV]; exact .inr hk))]
 ·rename_i rest;rw [Cv (fun k hk=>h k (by simp only [GU,AV]; exact .inr hk))]
 ·rfl
theorem rX:∀ (cs:List V) (n:Nat) (vs:List V) {m:Nat},m∈E7 (GO cs n vs)→m∈E7 cs∨m∈E7 vs
 | cs,n,[],m,h=>by cases cs <;> cases n <;> exact .inl h
 | [],n,v :: vs,m,h=>by cases n <;> simp [GO,E7] at h
 | c :: r,0,v :: vs,m,h=>by
  simp only [GO,E7,AV] at h ⊢;rcases h with h | h
  ·exact .inr (.inl h)
  ·rcases rX r 0 vs h with h | h
   ·exact .inl (.inr h)
   ·exact .inr (.inr h)
 | c :: r,n+1,v :: vs,m,h=>by
  simp only [GO,E7,AV] at h ⊢;rcases h with h | h
  ·exact .inl (.inl h)
  ·rcases rX r n (v :: vs) h with h | h
   ·exact .inl (.inr h)
   ·exact .inr (by simpa [E7] using h)
theorem zH {v:V} {m:Nat} (h:m∈E7 (cells v)):m∈ER v:=by
 by_cases ha:∃ l,v = .agg l
 ·obtain ⟨l,rfl⟩:=ha;exact h
 ·have:cells v=[v]:=by cases v <;> first | rfl | exact absurd ⟨_,rfl⟩ ha
  rw [this] at h;exact N9 (by simpa [E7] using h)
theorem ZO {l:List V} {v:V} {n:Nat} (hv:v∈l) (hn:n∈ER v):n∈GU l:=by
 induction l with
 | nil=>cases hv
 | cons u r ih=>
  simp only [GU,AV];rcases AS.1 hv with h | h
  ·subst h; exact .inl hn
  ·exact .inr (ih h)
theorem Bh {o:Store} {place:Nat→Option (Nat × Nat)}:∀ {l:List (Nat × V)} {cs cs':List V},LL o place cs l=some cs'→∀ m∈E7 cs',m∈E7 cs∨∃ i v,(i,v)∈l∧m∈ER v
 | [],cs,cs',h,m,hm=>by
  simp only [LL,AC] at h;subst h;exact .inl hm
 | (i,v) :: r,cs,cs',h,m,hm=>by
  simp only [LL] at h;split at h
  ·split at h
   ·rcases Bh h m hm with h1 | ⟨j,u,h1,h2⟩
    ·rcases rX _ _ _ h1 with h2 | h2
     ·exact .inl h2
     ·exact .inr ⟨i,v,AR ..,zH h2⟩
    ·exact .inr ⟨j,u,AY _ h1,h2⟩
   ·cases h
  ·cases h
theorem Im {z:List V}:∀ {n m:Nat},m∈E7 (P1 z n)→m∈E7 z
 | 0,m,h=>by simp [P1,E7] at h
 | n+1,m,h=>by
  simp only [P1,Ic,AV] at h;exact h.elim id (Im (n:=n))
theorem rB (ρ:Operand→V):∀ {l:List (Nat × Operand)} {i:Nat} {v:V},(i,v)∈K3 ρ l→v∈(l.map (·.2)).map ρ
 | (j,x) :: r,i,v,h=>by
  simp only [K3,AS,AQ] at h;simp only [AZ,AS];rcases h with ⟨_,rfl⟩ | h
  ·exact .inl rfl
  ·exact .inr (rB ρ h)
theorem Ie:∀ {l:List V} {n:Nat},n∈GU l→∃ v∈l,n∈ER v
 | v :: r,n,h=>by
  simp only [GU,AV] at h;rcases h with h | h
  ·exact ⟨v,AR ..,h⟩
  ·obtain ⟨u,h1,h2⟩:=Ie h;exact ⟨u,AY _ h1,h2⟩
theorem oD {o:Store} {m:Nat}:∀ {l:List Nat},m∈KG o l→∃ n∈l,∃ cs,DI o n=some (.box cs)∧m∈E7 cs
 | n :: r,h=>by
  simp only [KG] at h;split at h
  ·rename_i cs ho;rcases AV.1 h with h | h
   ·exact ⟨n,AR ..,cs,ho,h⟩
   ·obtain ⟨k,h1,h2⟩:=oD h;exact ⟨k,AY _ h1,h2⟩
  ·obtain ⟨k,h1,h2⟩:=oD h;exact ⟨k,AY _ h1,h2⟩
theorem Ai {o:Store} {l l':List Nat} (hs:∀ k∈l,k∈l') {n:Nat} (h:n∈KG o l):n∈KG o l':=by
 obtain ⟨k,h1,cs,h2,h3⟩:=oD h;exact WU (hs k h1) h2 h3
theorem y6 {v:V} {n:Nat}:∀ {l:List V},WP l=true→v∈l→n∈ER v→n∈ER.go l
 | u :: r,hok,hv,hn=>by
  rcases AS.1 hv with h | h
  ·subst h;cases v <;> simp only [WP] at hok <;> first | (cases hok; done) | (simp only [ER,EE] at hn; simp only [ER.go,EE,AV]; first | exact .inl hn | (cases hn; done))
  ·have hr:WP r=true:=by cases u <;> simp only [WP] at hok <;> first | exact hok | (cases hok; done)
   have:=y6 hr h hn
   cases u <;> simp only [ER.go,AV] <;> exact .inr this
theorem Az {E:Env} {o o':Store} {ρ:Operand→V} {d:Option Nat} {op:Op} (h:Agree o o' (NE E o ρ op)):D4 E o' ρ d op=D4 E o ρ d op:=by
 cases hq:Hx op with
 | true=>cases op <;> first | rfl | cases hq
 | false=>
 unfold NE at h;rw [hq] at h;replace h:Agree o o' (lD E o ρ op):=h;unfold lD at h;have hz:=h.left.right;have hd:=h.right;have hv:=h.left.left;clear h;have one:∀ {x:Operand} {n:Nat},x∈op.operands.toList→n∈ER (ρ x)→DI o' n=DI o n:=fun hx hn=>hv _ (ZO (vaU hx) hn)
 have two:∀ {x:Operand} {n:Nat} {cs:List V},x∈op.operands.toList→n∈ER (ρ x)→DI o n=some (.box cs)→Agree o o' (E7 cs):=fun hx hn ho m hm=>hd _ (WU (ZO (vaU hx) hn) ho hm)
 cases op
 case box t x=>
  simp only [D4];rw [qX (fun n hn=>one (x:=x) (by simp [CF]) (N9 hn))]
 case build t parts=>
  have hp:∀ i v,(i,v)∈K3 ρ parts.toList→Agree o o' (ER v):=fun i v hm n hn=>hv _ (ZO (by have:=rB ρ hm; simpa [CF] using this) hn)
  simp only [D4,oU hp]
 case buildSlice t len parts=>
  have hp:∀ i v,(i,v)∈K3 ρ parts.toList→Agree o o' (ER v):=fun i v hm n hn=>hv _ (ZO (by have:=rB ρ hm; simpa [CF] using this) hn)
  simp only [D4];split
  ·rename_i d e hd1;simp only [uV,hd1] at hz;rw [oU hp];split
   ·rename_i cs hf;have hcs:Agree o o' (E7 cs):=by
     intro m hm;rcases Bh hf m hm with h1 | ⟨i,v,h1,h2⟩
     ·exact hz m (Im h1)
     ·exact hp i v h1 m h2
    rw [iV hcs,eC (fun m hm=>hcs m (XP hm))]
   ·rfl
  ·rfl
 case load t x=>
  simp only [D4];split
  ·rename_i n i c hx;rw [one (x:=x) (by simp [CF]) (by rw [hx]; simp [ER,EE])]
  ·rfl
  ·rfl
 case nilCheck x=>
  simp only [D4];split
  ·rename_i n i c hx;rw [one (x:=x) (by simp [CF]) (by rw [hx]; simp [ER,EE])]
  ·rfl
 case fieldAddr s x f=>
  simp only [D4];split
  ·split
   ·split
    ·rename_i n i c hx;rw [one (x:=x) (by simp [CF]) (by rw [hx]; simp [ER,EE])]
    ·rfl
    ·rfl
   ·rfl
  ·rfl
 case binOp op t x y t'=>
  simp only [D4];unfold iP;split <;> try rfl
  rename_i n i c hx hy;rw [one (x:=x) (by simp [CF]) (by rw [hx]; simp [ER,EE])]
 case convert s t x=>
  simp only [D4];split <;> try rfl
  rw [An (fun n hn=>one (x:=x) (by simp [CF]) (N9 hn)),Jn (fun n hn=>one (x:=x) (by simp [CF]) (N9 hn))]
 case slice t x lo hi mx=>
  simp only [D4];split <;> try rfl
  ·rename_i n a b hx;rw [one (x:=x) (by simp [CF]) (by rw [hx]; simp [ER,EE])]
  ·rename_i n a c hx;rw [one (x:=x) (by simp [CF]) (by rw [hx]; simp [ER,EE])]
 case indexAddr t x ix=>
  simp only [D4];split
  ·split
   ·rfl
   ·rename_i n lo hi hx;rw [one (x:=x) (by simp [CF]) (by rw [hx]; simp [ER,EE])]
   ·rename_i n c cap sz len hx;rw [one (x:=x) (by simp [CF]) (by rw [hx]; simp [ER,EE])]
   ·rfl
  ·split
   ·rename_i n i0 c hx;rw [one (x:=x) (by simp [CF]) (by rw [hx]; simp [ER,EE])]
   ·rfl
   ·rfl
  ·rfl
 case store t p x=>
  simp only [D4];have hx:Agree o o' (ER (ρ x)):=fun n hn=>one (x:=x) (by simp [CF]) hn
  have hc:Agree o o' (E7 (cells (ρ x))):=fun n hn=>hx n (zH hn)
  unfold QA;split
  ·rename_i n i c hp;rw [one (x:=p) (by simp [CF]) (by rw [hp]; simp [ER,EE]),qX (fun n hn=>hx n (N9 hn)),qV hc,eC (fun m hm=>hc m (XP hm))];simp only [eV hc]
  ·rfl
 case makeSlice t n m=>
  simp only [D4];split
  ·rename_i d e k1 n1 k2 m1 hd1 _ _;simp only [uV,hd1] at hz;rw [iV hz];split
   ·rw [eC (fun m hm=>hz m (XP hm))]
   ·rfl
  ·rfl
 case makeMap t r=>rfl
 case insert t m k x=>
  simp only [D4];split <;> try rfl
  rename_i n i c z e k' hm _ _;rw [one (x:=m) (by simp [CF]) (by rw [hm]; simp [ER,EE])];simp only [kB (fun n hn=>one (x:=x) (by simp [CF]) (N9 hn))]
 case mapUpdate t m k x=>
  simp only [D4];split <;> try rfl
  rename_i n i c z e k' hm _ _;rw [one (x:=m) (by simp [CF]) (by rw [hm]; simp [ER,EE])];simp only [kB (fun n hn=>one (x:=x) (by simp [CF]) (N9 hn))]
 case lookup t m k ok=>
  simp only [D4];split <;> try rfl
  rename_i n i c z e k' hm _ _;rw [one (x:=m) (by simp [CF]) (by rw [hm]; simp [ER,EE])]
 case mapEntry t m k=>
  simp only [D4];split <;> try rfl
  rename_i n i c z e k' hm _ _;rw [one (x:=m) (by simp [CF]) (by rw [hm]; simp [ER,EE])]
 case entryStore t m k x=>
  simp only [D4];split <;> try rfl
  rename_i n i c z hm _;rw [one (x:=m) (by simp [CF]) (by rw [hm]; simp [ER,EE])];simp only [kB (fun n hn=>one (x:=x) (by simp [CF]) (N9 hn))]
 case range t x=>
  simp only [D4];split <;> try rfl
  rename_i n i c d e k' hm _;rw [one (x:=x) (by simp [CF]) (by rw [hm]; simp [ER,EE])]
 case entry x=>
  simp only [D4];split <;> try rfl
  rename_i n i c hm;rw [one (x:=x) (by simp [CF]) (by rw [hm]; simp [ER,EE])]
 case call c=>
  obtain ⟨callee,args,ats⟩:=c;simp only [D4,SG];have hmem:∀ {x:Operand},x∈args.toList→x∈(Op.call ⟨callee,args,ats⟩).operands.toList:=fun {x} hx=>by
   simp only [CF,Call.operands,vak,AV];exact .inr hx
  have harg:∀ {x:Operand},x∈args.toList→Agree o o' (ER (ρ x)):=fun {x} hx n hn=>one (x:=x) (hmem hx) hn
  have hdp:∀ {x:Operand},x∈args.toList→Agree o o' (EE (ρ x)++KG o (EE (ρ x))):=fun {x} hx n hn=>by
   rcases AV.1 hn with hn | hn
   ·exact harg hx n (N9 hn)
   ·refine hd n (Ai (fun k hk=>ZO (vaU (hmem hx)) (N9 hk)) hn)
  have hsub:∀ (l:List V),(∀ v∈l,∃ y∈(Op.call ⟨callee,args,ats⟩).operands.toList,∀ n∈ER v,n∈ER (ρ y))→Agree o o' (GU l++KG o (GU l)):=by
   intro l hl n hn;have h1:∀ k∈GU l,k∈GU ((Op.call ⟨callee,args,ats⟩).operands.toList.map ρ):=by
    intro k hk;obtain ⟨v,hv1,hv2⟩:=Ie hk;obtain ⟨y,hy1,hy2⟩:=hl v hv1;exact ZO (vaU hy1) (hy2 k hv2)
   rcases AV.1 hn with hn | hn
   ·exact hv n (h1 n hn)
   ·exact hd n (Ai h1 hn)
  split
  ·split
   ·rename_i x t hx _;have hxm:x∈args.toList:=by rw [hx]; simp
    have:=hdp hxm
    unfold kF;split <;> try rfl
    ·rename_i n lo hi hr;rw [this.left n (by rw [hr]; simp [EE])]
    ·rename_i n c cap sz len hr;rw [this.left n (by rw [hr]; simp [EE])]
   ·rfl
  ·split
   ·rename_i s x t t' hx _;have hsm:s∈args.toList:=by rw [hx]; simp
    have hxm:x∈args.toList:=by rw [hx]; simp
    simp only [Ta (hdp hsm).left (hdp hxm),Tc (hdp hsm).left]
   ·rfl
  ·split
   ·rename_i x y t t' hx _;have hxm:x∈args.toList:=by rw [hx]; simp
    have hym:y∈args.toList:=by rw [hx]; simp
    unfold i6;split
    ·rename_i n c cap sz len n' c' cap' sz' len' h1 h2;rw [(hdp hxm).left n (by rw [h1]; simp [EE]),(hdp hym).left n' (by rw [h2]; simp [EE])];split
     ·rename_i cs cs' e ho ho' hde;rw [qV (o:=o) (o':=o') (l:=cs') (fun m hm=>(hdp hym).right m (WU (by rw [h2]; simp [EE]) ho' hm))]
     ·rfl
    ·rfl
   ·rfl
  ·rfl
  ·rfl
  ·rename_i f d hcal;have hs:=hsub (args.toList.map ρ) (fun v hv=>by
    obtain ⟨y,hy,rfl⟩:=CN.1 hv;exact ⟨y,hmem hy,fun n hn=>hn⟩)
   unfold nL;rw [fE];split
   ·rw [zcn hs.left]
   ·split
    ·rw [y3 hs]
    ·rfl
  ·split
   ·rename_i f caps hx;split
    ·rename_i hok;rw [fE,y3 (hsub _ (fun v hv=>by
      rcases AV.1 hv with hv | hv
      ·obtain ⟨y,hy,rfl⟩:=CN.1 hv;exact ⟨y,hmem hy,fun n hn=>hn⟩
      ·refine ⟨_,by simp only [CF,Call.operands,vak,AV]; exact .inl (AR ..),fun n hn=>?_⟩;rw [hx];simp only [ER];exact y6 hok hv hn))]
    ·rfl
   ·rfl
  ·rfl
 case makeFunc f a b=>cases f <;> rfl
 all_goals rfl
open Go Go.RowKit
theorem q9 {ρ ρ':Operand→V}:∀ {l:List (Nat × Operand)},(∀ x∈l.map (·.2),ρ x=ρ' x)→K3 ρ l=K3 ρ' l
 | [],_=>rfl
 | (i,x) :: r,h=>by
  simp only [K3,h x (by simp),q9 (l:=r) (fun y hy=>h y (AY _ hy))]
theorem qA {ρ ρ':Operand→V}:∀ {l:List Operand},(∀ x∈l,ρ x=ρ' x)→JQ ρ l=JQ ρ' l
 | [],_=>rfl
 | x :: r,h=>by simp only [JQ,h x (AR ..),qA (l:=r) (fun y hy=>h y (AY _ hy))]
theorem Gi {ρ ρ':Operand→V} {x:Option Operand} (h:∀ y∈x.toArray.toList,ρ y=ρ' y):x.map ρ=x.map ρ':=by
 cases x with
 | none=>rfl
 | some x=>simp only [vaf,h x (by simp)]
theorem Xb {E:Env} {o:Store} {ρ ρ':Operand→V} {d:Option Nat} {op:Op} (h:∀ x∈op.operands.toList,ρ x=ρ' x):D4 E o ρ d op=D4 E o ρ' d op:=by
 cases op
 case build t ps=>simp only [D4,q9 (l:=ps.toList) (fun x hx=>h x (by simpa [CF] using hx))]
 case buildSlice t n ps=>simp only [D4,q9 (l:=ps.toList) (fun x hx=>h x (by simpa [CF] using hx))]
 case makeFunc f first caps=>
  cases f <;> simp only [D4]
  rw [qA (l:=caps.toList) (fun x hx=>h x (by simp only [CF,vak,AV]; exact .inr hx))]
 case slice t x lo hi mx=>
  have h1:ρ x=ρ' x:=h x (by simp [CF]);have h2:lo.map ρ=lo.map ρ':=Gi (fun y hy=>h y (by simp only [CF,vak,AV]; exact .inl (.inl (.inr hy))));have h3:hi.map ρ=hi.map ρ':=Gi (fun y hy=>h y (by simp only [CF,vak,AV]; exact .inl (.inr hy)));simp only [D4,h1,h2,h3]
 case call c=>
  obtain ⟨callee,args,ats⟩:=c;have ha:∀ x∈args.toList,ρ x=ρ' x:=fun x hx=>h x (by simp only [CF,Call.operands,vak,AV]; exact .inr hx)
  have hm:JQ ρ args.toList=JQ ρ' args.toList:=qA ha;simp only [D4,SG];split
  ·split
   ·rename_i x t hx _;rw [ha x (by rw [hx]; simp)]
   ·rfl
  ·split
   ·rename_i s x t t' hx _;rw [ha s (by rw [hx]; simp),ha x (by rw [hx]; simp)]
   ·rfl
  ·split
   ·rename_i x y t t' hx _;rw [ha x (by rw [hx]; simp),ha y (by rw [hx]; simp)]
   ·rfl
  ·simp only [hm]
  ·simp only [hm]
  ·simp only [hm]
  ·rename_i x _ _;have hxx:ρ x=ρ' x:=h x (by simp [CF,Call.operands]);simp only [hm,hxx]
  ·rfl
 all_goals first
  | rfl
  | (simp only [CF] at h; simp only [D4]; simp (config:={decide:=false}) only [AS,BW,CU,forall_eq_or_imp,forall_eq] at h; simp only [h])
structure SEq (s s':St):Prop where
 t:∀ i,s.get i=s'.get i
 o:∀ n,DI s.o n=DI s'.o n
theorem SEq.refl (s:St):SEq s s:=⟨fun _=>rfl,fun _=>rfl⟩
theorem SEq.symm {s s':St} (h:SEq s s'):SEq s' s:=⟨fun i=>(h.t i).symm,fun n=>(h.o n).symm⟩
theorem SEq.trans {a b c:St} (h:SEq a b) (k:SEq b c):SEq a c:=⟨fun i=>(h.t i).trans (k.t i),fun n=>(h.o n).trans (k.o n)⟩
theorem SEq.opd {s s':St} (h:SEq s s'):opd s=opd s':=by
 funext x
 cases x <;> simp only [FM.opd,h.t]
theorem SEq.put {s s':St} (h:SEq s s') (d:Option Nat) (v:V):SEq (s.put d v) (s'.put d v):=by
 cases d with
 | none=>exact h
 | some d=>exact ⟨fun i=>by simp only [St.put,St.get,Q5]; split <;> first | rfl | exact h.t i,h.o⟩
theorem zad (s:St) (d:Nat) (v:V) (i:Nat):(s.put (some d) v).get i=if d=i then v else s.get i:=by simp only [St.put,St.get,Q5]
theorem SEq.up {s s':St} (h:SEq s s') (u:Upd):SEq (s.up u) (s'.up u):=by
 cases u with
 | new n ob=>exact ⟨fun i=>by rw [eG,eG,h.t],fun m=>by rw [F7,F7,h.o]⟩
 | set n ob=>exact ⟨h.t,fun m=>by simp only [St.up,D9,h.o]⟩
 | kill n=>exact ⟨h.t,fun m=>by simp only [St.up,D9,h.o]⟩
theorem SEq.ups:∀ {us:List Upd} {s s':St},SEq s s'→SEq (s.ups us) (s'.ups us)
 | [],_,_,h=>h
 | u :: r,_,_,h=>SEq.ups (us:=r) (h.up u)
theorem SEq.lit {s:St} {j:Nat} {b:Bool} (h:s.get j = .bool b):SEq s (M7 s j b):=
 ⟨fun i=>by
  simp only [M7,St.get,Q5];split
  ·rename_i e; subst e; exact h
  ·rfl,fun _=>rfl⟩
theorem mG:∀ {us:List Upd} {o o':Store},(∀ n,DI o n=DI o' n)→∀ n,DI (JK us o) n=DI (JK us o') n
 | [],_,_,h=>h
 | .set m ob :: r,o,o',h=>mG (us:=r) (fun n=>by rw [D9,D9,h])
 | .new m ob :: r,o,o',h=>mG (us:=r) (fun n=>by rw [D9,D9,h])
 | .kill m :: r,o,o',h=>mG (us:=r) (fun n=>by rw [D9,D9,h])
theorem U1:∀ {us:List Upd} {o:Store} {n:Nat},n ∉ IK us→DI (JK us o) n=DI o n
 | [],_,_,_=>rfl
 | .set m ob :: r,o,n,h=>by
  simp only [IK,AS,not_or] at h;rw [JK,U1 h.2,D9,A9 (fun e=>h.1 e.symm)]
 | .new m ob :: r,o,n,h=>by
  simp only [IK,AS,not_or] at h;rw [JK,U1 h.2,D9,A9 (fun e=>h.1 e.symm)]
 | .kill m :: r,o,n,h=>by
  simp only [IK,AS,not_or] at h;rw [JK,U1 h.2,D9,A9 (fun e=>h.1 e.symm)]
theorem uD:∀ {us:List Upd} {o o':Store} {n:Nat},n∈IK us→DI (JK us o) n=DI (JK us o') n
 | [],_,_,_,h=>by simp [IK] at h
 | u :: r,o,o',n,h=>by
  by_cases hr:n∈IK r
  ·cases u <;> simp only [JK] <;> exact uD hr
  ·cases u <;> simp only [IK,AS,hr,CU] at h <;> subst h <;> simp only [JK] <;> rw [U1 hr,U1 hr,D9,D9,BR rfl,BR rfl]
theorem SEq.apD {s s':St} (h:SEq s s') (x:Dn):SEq (apD s x) (apD s' x):=⟨(h.put x.dst x.v).t,mG h.o⟩
theorem SEq.apDs:∀ {l:List Dn} {s s':St},SEq s s'→SEq (apDs s l) (apDs s' l)
 | [],_,_,h=>h
 | x :: r,_,_,h=>SEq.apDs (l:=r) (h.apD x)
theorem mY:∀ (l l':List Dn) (s:St),apDs s (l++l')=apDs (apDs s l) l'
 | [],_,_=>rfl
 | x :: r,l',s=>mY r l' (apD s x)
theorem Dp {n:Nat} {v:V} (hc:YS v=true) (hn:n ∉ EE v):FR.leaf n v=v:=by
 cases v <;> simp only [YS] at hc <;> first | (cases hc; done) | rfl | skip
 ·simp only [EE,BX] at hn;simp only [FR.leaf,H5.2 (fun e=>hn e.symm)]
 ·simp only [EE,BX] at hn;simp only [FR.leaf,H5.2 (fun e=>hn e.symm)]
theorem kD {n:Nat}:∀ {l:List V},YT l=true→n ∉ E7 l→l.map (FR.leaf n)=l
 | [],_,_=>rfl
 | v :: r,hc,hn=>by
  simp only [YT] at hc;split at hc
  ·rename_i h1;simp only [E7,AV,not_or] at hn;simp only [AZ,Dp h1 hn.1,kD hc hn.2]
  ·cases hc
theorem pS {n:Nat}:∀ {l:List V},PO.go l=true→n ∉ ER.go l→l.map (FR.leaf2 n)=l
 | [],_,_=>rfl
 | v :: r,hc,hn=>by
  by_cases ha:∃ l,v = .agg l
  ·obtain ⟨l,rfl⟩:=ha;simp only [PO.go] at hc;split at hc
   ·rename_i h1;simp only [ER.go,AV,not_or] at hn;simp only [AZ,FR.leaf2,kD h1 hn.1,pS hc hn.2]
   ·cases hc
  ·have h0:FR.leaf2 n v=FR.leaf n v:=by cases v <;> first | rfl | exact absurd ⟨_,rfl⟩ ha
   have h1:YS v=true∧PO.go r=true:=by
    cases v <;> simp only [PO.go,YS] at hc ⊢ <;> first | (simp at hc; done) | (simpa using hc) | (cases hc; done) | exact absurd ⟨_,rfl⟩ ha
   have h2:n ∉ EE v∧n ∉ ER.go r:=by
    cases v <;> simp only [ER.go,AV,not_or] at hn <;> first | exact hn | exact absurd ⟨_,rfl⟩ ha
   simp only [AZ,h0,Dp h1.1 h2.1,pS h1.2 h2.2]
theorem Je {n:Nat} {v:V} (hc:PO v=true) (hn:n ∉ ER v):FR n v=v:=by
 cases v <;> simp only [PO] at hc <;> first | rfl | skip
 case row a b c=>simp only [ER,EE,BX] at hn; simp only [FR,H5.2 (fun e=>hn e.symm)]
 case ptr a b c=>simp only [ER,EE,BX] at hn; simp only [FR,H5.2 (fun e=>hn e.symm)]
 case bview a b c d e=>simp only [ER,EE,BX] at hn; simp only [FR,H5.2 (fun e=>hn e.symm)]
 case agg l=>simp only [FR,kD hc hn]
 case tup l=>simp only [FR,pS hc hn]
 case clo f l=>
  have:n ∉ E7 l:=fun h=>hn (ZN h)
  simp only [FR,kD hc this]
theorem Jf {n:Nat}:∀ {l:List V},iW l=true→n ∉ GU l→l.map (FR n)=l
 | [],_,_=>rfl
 | v :: r,hc,hn=>by
  simp only [iW] at hc;split at hc
  ·rename_i h1;simp only [GU,AV,not_or] at hn;simp only [AZ,Je h1 hn.1,Jf hc hn.2]
  ·cases hc
theorem lL {n:Nat} {ob:Ob} (hc:nR ob=true) (hn:n ∉ fW ob):GV n (some ob)=some ob:=by
 cases ob with
 | box cs=>simp only [GV,Jf hc hn]
 | row _ _ _ _ _=>rfl
 | bld _=>rfl
 | map _ _=>rfl
 | iter _ _ _=>rfl
theorem Gm {p:Nat→Bool} {n:Nat} (hp:p n=true) (v:V):FR.leaf n (GI.leaf p v)=GI.leaf p v:=by
 cases v <;> simp only [GI.leaf] <;> first | rfl | skip
 all_goals
  rename_i m _ _;cases hm:p m with
  | true=>rfl
  | false=>
   simp only [FR.leaf];rw [H5.2 (fun e=>by subst e; rw [hp] at hm; cases hm)]
theorem kZ {p:Nat→Bool} {n:Nat} (hp:p n=true):∀ (l:List V),(GI.go p l).map (FR.leaf n)=GI.go p l
 | []=>rfl
 | v :: r=>by simp only [GI.go,AZ,Gm hp,kZ hp r]
theorem zfV {p:Nat→Bool} {n:Nat} (hp:p n=true) (v:V):FR.leaf2 n (GI.leaf2 p v)=GI.leaf2 p v:=by
 by_cases ha:∃ l,v = .agg l
 ·obtain ⟨l,rfl⟩:=ha;simp only [GI.leaf2,FR.leaf2,kZ hp]
 ·have h0:GI.leaf2 p v=GI.leaf p v:=by cases v <;> first | rfl | exact absurd ⟨_,rfl⟩ ha
  rw [h0]
  have:=Gm hp v
  cases hx:GI.leaf p v <;> rw [hx] at this <;> first | exact this | skip
  exfalso;cases v <;> simp only [GI.leaf] at hx <;> try (cases hx; done)
  all_goals (split at hx <;> cases hx)
theorem Gp {p:Nat→Bool} {n:Nat} (hp:p n=true):∀ (l:List V),(GI.go2 p l).map (FR.leaf2 n)=GI.go2 p l
 | []=>rfl
 | v :: r=>by simp only [GI.go2,AZ,zfV hp,Gp hp r]
theorem Gr {p:Nat→Bool} {n:Nat} (hp:p n=true) (v:V):FR n (GI p v)=GI p v:=by
 have key:∀ m,p m=false→BO m n=false:=fun m hm=>H5.2 (fun e=>by subst e; rw [hp] at hm; cases hm)
 cases v <;> simp only [GI] <;> try rfl
 case row m _ _=>cases hm:p m <;> simp only [FR,key m,hm]
 case ptr m _ _=>cases hm:p m <;> simp only [FR,key m,hm]
 case bview m _ _ _ _=>cases hm:p m <;> simp only [FR,key m,hm]
 case agg l=>simp only [FR,kZ hp]
 case tup l=>simp only [FR,Gp hp]
 case clo f l=>simp only [FR,kZ hp]
theorem kK (f:V→V):∀ l,KM.mapV f l=l.map f
 | []=>rfl
 | v :: r=>by simp only [KM.mapV,AZ,kK f r]
theorem zfX {p:Nat→Bool} {n:Nat} (hp:p n=true) (x:Option Ob):GV n (KM p x)=KM p x:=by
 match x with
 | none=>rfl
 | some (.row _ _ _ _ _)=>rfl
 | some (.bld _)=>rfl
 | some (.map _ _)=>rfl
 | some (.iter _ _ _)=>rfl
 | some (.box cs)=>
  simp only [KM,GV,kK,List.map_map];congr 2;exact List.map_congr_left (fun v _=>Gr hp v)
structure Fr (n:Nat) (s:St):Prop where
 t:∀ i,FR n (s.get i)=s.get i
 o:∀ m,GV n (DI s.o m)=DI s.o m
theorem Fr.congr {n:Nat} {s s':St} (h:Fr n s) (e:SEq s s'):Fr n s':=⟨fun i=>by rw [← e.t]; exact h.t i,fun m=>by rw [← e.o]; exact h.o m⟩
theorem fH {n:Nat} {l:List Nat}:J2 n l=false↔n ∉ l:=by
 rw [← fG]; simp
theorem YY:∀ {l l':List Nat},SH l l'=true↔∀ n∈l,n ∉ l'
 | [],l'=>by simp [SH]
 | m :: r,l'=>by
  simp only [SH];cases hb:J2 m l' with
  | true=>simp [fG.1 hb]
  | false=>simp [fH.1 hb,YY (l:=r)]
theorem mH:∀ {us:List Upd} {s:St},(∀ n∈O2 us,Fr n s)→PE us=true→SEq (s.ups us) ⟨s.t,JK us s.o⟩
 | [],s,_,_=>SEq.refl s
 | .kill m :: r,s,hf,ho=>by
  simp only [St.ups,JK];exact mH (us:=r) (s:=s.up (.kill m)) (fun n hn=>⟨(hf n hn).t,fun k=>by
   simp only [St.up,D9];split
   ·rfl
   ·exact (hf n hn).o k⟩) ho
 | .set m ob :: r,s,hf,ho=>by
  simp only [PE,AI] at ho;simp only [St.ups,JK];exact mH (us:=r) (s:=s.up (.set m ob)) (fun n hn=>⟨(hf n hn).t,fun k=>by
   simp only [St.up,D9];split
   ·exact lL ho.1 (YY.1 ho.2.1 n hn)
   ·exact (hf n hn).o k⟩) ho.2.2
 | .new m ob :: r,s,hf,ho=>by
  simp only [PE,AI] at ho;simp only [St.ups,JK];have hm:Fr m s:=hf m (by simp [O2]);have e:SEq (s.up (.new m ob)) (s.up (.set m ob)):=⟨fun i=>by rw [eG,hm.t]; rfl,fun k=>by rw [F7,hm.o]; simp only [St.up,D9]⟩;refine (e.ups (us:=r)).trans ?_;exact mH (us:=r) (s:=s.up (.set m ob)) (fun n hn=>⟨(hf n (by simp [O2,hn])).t,fun k=>by
   simp only [St.up,D9];split
   ·exact lL ho.1 (YY.1 ho.2.1 n hn)
   ·exact (hf n (by simp [O2,hn])).o k⟩) ho.2.2
open Go Go.RowKit
def CmpP (p:Nat→Bool) (γ:Nat→Value) (o:Store) (γ':Nat→Value) (o':Store):Prop:=
 ∀ n ob',p n=false→DI o' n=some ob'→γ' n=γ n∧∃ ob,DI o n=some ob∧ob.fits ob'
section
variable {γ γ':Nat→Value} {o o':Store} {w:World} {O:Nat→Prop} {p:Nat→Bool}
theorem CmpP.but (hc:CmpP p γ o γ' o') {n:Nat} (hn:p n=false) {v:V} (hv:v = .any∨(∃ lo hi,v = .row n lo hi)∨(∃ i c,v = .ptr n i c)∨∃ c cap sz len,v = .bview n c cap sz len) {x:Value} (h:VRel γ o w O v x):VRel γ' o' w O v x:=by
 let f:Nat→Value:=fun m=>if m=n then γ' n else γ m
 rcases hv with rfl | ⟨lo,hi,rfl⟩ | ⟨i,c,rfl⟩ | ⟨c,cap,sz,len,rfl⟩
 ·simp only [VRel]
 ·simp only [VRel] at h ⊢;cases h':DI o' n with
  | none=>trivial
  | some ob'=>
   obtain ⟨hg,ob,ho,hf⟩:=hc n ob' hn h';rw [ho] at h;rw [hg];cases ob <;> cases ob' <;> simp only [Ob.fits] at hf <;> try trivial
   obtain ⟨rfl,hl⟩:=hf;exact ⟨by rw [← hl]; exact h.1,h.2⟩
 ·simp only [VRel] at h ⊢;cases h':DI o' n with
  | none=>trivial
  | some ob'=>
   obtain ⟨hg,ob,ho,hf⟩:=hc n ob' hn h';rw [ho] at h;rw [hg];cases ob <;> cases ob' <;> simp only [Ob.fits] at hf
   ·exact h
   ·obtain ⟨rfl,hl⟩:=hf;exact ⟨by rw [← hl]; exact h.1,h.2⟩
   ·exact h
   ·exact h
   ·exact h
 ·simp only [VRel] at h ⊢;cases h':DI o' n with
  | none=>trivial
  | some ob'=>
   obtain ⟨hg,ob,ho,hf⟩:=hc n ob' hn h';rw [ho] at h;rw [hg];cases ob <;> cases ob' <;> simp only [Ob.fits] at hf <;> try trivial
   exact ⟨h.1,h.2.1,by rw [← hf]; exact h.2.2.1,h.2.2.2⟩
theorem Gn (hc:CmpP p γ o γ' o') {v:V} {x:Value} (h:VRel γ o w O v x):VRel γ' o' w O (GI.leaf p v) x:=by
 cases v <;> simp only [GI.leaf]
 case row n lo hi=>
  cases hb:p n with
  | true=>simp only [VRel]
  | false=>exact hc.but hb (.inr (.inl ⟨_,_,rfl⟩)) h
 case ptr n i c=>
  cases hb:p n with
  | true=>simp only [VRel]
  | false=>exact hc.but hb (.inr (.inr (.inl ⟨_,_,rfl⟩))) h
 all_goals first
  | (simp only [VRel] at h ⊢; exact h)
  | simp only [VRel]
theorem k7 (hc:CmpP p γ o γ' o'):∀ {l:List V} {xs:List Value},VRels γ o w O l xs→VRels γ' o' w O (GI.go p l) xs
 | [],[],_=>by simp only [GI.go,VRels]
 | [],_ :: _,h=>by simp only [VRels] at h
 | _ :: _,[],h=>by simp only [VRels] at h
 | v :: vs,x :: xs,h=>by
  simp only [VRels,GI.go] at h ⊢;exact ⟨Gn hc h.1,k7 hc h.2⟩
theorem zfW (hc:CmpP p γ o γ' o') {v:V} {x:Value} (h:VRel γ o w O v x):VRel γ' o' w O (GI.leaf2 p v) x:=by
 cases v <;> simp only [GI.leaf2] <;> try exact Gn hc h
 simp only [VRel] at h ⊢;obtain ⟨cs,hx,hr⟩:=h;exact ⟨cs,hx,k7 hc hr⟩
theorem Gq (hc:CmpP p γ o γ' o'):∀ {l:List V} {xs:List Value},VRels γ o w O l xs→VRels γ' o' w O (GI.go2 p l) xs
 | [],[],_=>by simp only [GI.go2,VRels]
 | [],_ :: _,h=>by simp only [VRels] at h
 | _ :: _,[],h=>by simp only [VRels] at h
 | v :: vs,x :: xs,h=>by
  simp only [VRels,GI.go2] at h ⊢;exact ⟨zfW hc h.1,Gq hc h.2⟩
theorem Gs (hc:CmpP p γ o γ' o') {v:V} {x:Value} (h:VRel γ o w O v x):VRel γ' o' w O (GI p v) x:=by
 cases v <;> simp only [GI]
 case row n lo hi=>
  cases hb:p n with
  | true=>simp only [VRel]
  | false=>exact hc.but hb (.inr (.inl ⟨_,_,rfl⟩)) h
 case ptr n i c=>
  cases hb:p n with
  | true=>simp only [VRel]
  | false=>exact hc.but hb (.inr (.inr (.inl ⟨_,_,rfl⟩))) h
 case bview n c cap sz len=>
  cases hb:p n with
  | true=>simp only [VRel]
  | false=>exact hc.but hb (.inr (.inr (.inr ⟨_,_,_,_,rfl⟩))) h
 case agg l=>
  simp only [VRel] at h ⊢;obtain ⟨cs,hx,hr⟩:=h;exact ⟨cs,hx,k7 hc hr⟩
 case tup l=>
  simp only [VRel] at h ⊢;obtain ⟨cs,hx,hr⟩:=h;exact ⟨cs,hx,Gq hc hr⟩
 case clo f l=>
  simp only [VRel] at h ⊢;obtain ⟨cs,hx,hr⟩:=h;exact ⟨cs,hx,k7 hc hr⟩
 all_goals (simp only [VRel] at h ⊢; try exact h)
theorem Gt (hc:CmpP p γ o γ' o'):∀ {l:List V} {xs:List Value},VRels γ o w O l xs→VRels γ' o' w O (l.map (GI p)) xs
 | [],[],_=>by simp only [CC,VRels]
 | [],_ :: _,h=>by simp only [VRels] at h
 | _ :: _,[],h=>by simp only [VRels] at h
 | v :: vs,x :: xs,h=>by
  simp only [VRels,AZ] at h ⊢;exact ⟨Gs hc h.1,Gt hc h.2⟩
end
theorem nS (p:Nat→Bool):∀ (o:Store) (n:Nat),DI (YU p o) n=match p n with | true=>none | false=>KM p (DI o n)
 | [],n=>by simp only [YU,DI,EQ]; cases p n <;> rfl
 | (m,x) :: r,n=>by
  simp only [YU];by_cases e:m=n
  ·subst e;cases hp:p m <;> simp only [D9,CO]
  ·cases hp:p m <;> simp only [D9,A9 e,nS p r n]
theorem zg9 {p:Nat→Bool} {x:Option Ob} {ob:Ob} (h:KM p x=some ob):∃ ob0,x=some ob0∧KM p (some ob0)=some ob:=by
 cases x with
 | none=>simp [KM] at h
 | some ob0=>exact ⟨ob0,rfl,h⟩
theorem gB {p:Nat→Bool} {ob0 ob:Ob} (h:KM p (some ob0)=some ob):ob0.fits ob∧∀ g b,EU g ob b↔EU g ob0 b:=by
 cases ob0 <;> simp only [KM,AC] at h <;> subst h
 ·exact ⟨by simp [Ob.fits,kK],fun _ _=>Iff.rfl⟩
 ·exact ⟨⟨rfl,rfl⟩,fun _ _=>Iff.rfl⟩
 ·exact ⟨trivial,fun _ _=>Iff.rfl⟩
 ·exact ⟨rfl,fun _ _=>Iff.rfl⟩
 ·exact ⟨rfl,fun _ _=>Iff.rfl⟩
section
variable {B:BT} {nt:Nat} {w0:World} {X:Zone} {γ:Nat→Value} {st st':St} {a:Act} {w:World} {P:Program} {E:Env}
theorem Rel.less (h:Rel B nt w0 X γ st a w) {st':St} (ht:∀ i,st'.get i=st.get i∨st'.get i = .any) (ho:∀ n ob,DI st'.o n=some ob→DI st.o n=some ob):Rel B nt w0 X γ st' a w:=by
 have hP:∀ b,E4 γ st'.o b→E4 γ st.o b:=fun b ⟨n,ob,h1,h2⟩=>⟨n,ob,ho n ob h1,h2⟩
 have hO:∀ b,b < w.heap.size→DK X γ st'.o b→DK X γ st.o b:=fun b _ hb=>hb.imp_left (hP b)
 have hc:Cmp γ st.o γ st'.o:=fun n ob hn=>⟨rfl,ob,ho n ob hn,ob.fits_refl⟩
 refine ⟨h.sz,h.df,fun i=>?_,fun n ob hn=>(h.ob n ob (ho n ob hn)).later (fun _ _=>rfl) (Keep.refl _ w) hO hc,fun b hb=>h.lt b (hP b hb),fun n m ob ob' b hne h1 h2=>h.dis n m ob ob' b hne (ho n ob h1) (ho m ob' h2),h.keep,fun b hb=>h.nr b (hP b hb),h.fl,fun p hp ob h1=>h.pn p hp ob (ho _ ob h1)⟩;rcases ht i with h1 | h1
 ·rw [h1];exact VRel.mono (Keep.refl _ w) hO (VRel.cmp hc (h.tm i))
 ·rw [h1];simp only [VRel]
theorem Rel.lit (h:Rel B nt w0 X γ st a w) {i:Nat} {v:V} (hv:st.get i=v):Rel B nt w0 X γ ⟨(i,v) :: st.t,st.o⟩ a w:=by
 refine h.less (fun j=>?_) (fun _ _ h=>h);simp only [St.get,Q5];by_cases e:i=j
 ·subst e;simp only [CO];exact .inl hv.symm
 ·simp only [A9 e];exact .inl trivial
theorem d7:∀ (ops:List Oper) (j d:Nat),OR ops j=some d→(ops[j]?).bind (·.dst)=some d
 | [],j,d,h=>by simp [OR] at h
 | o :: r,0,d,h=>by simpa [OR] using h
 | o :: r,j+1,d,h=>by simpa [OR] using d7 r j d (by simpa [OR] using h)
theorem vY (h:Rel B nt w0 X γ st a w) {i:Nat} {c:Bool} (hv:st.get i = .bool c):a.tmps[i]?=some (.bool c):=by
 have:=h.tm i
 rw [hv] at this;simp only [VRel,vbl] at this;cases ht:a.tmps[i]? with
 | none=>rw [ht] at this; simp [undef] at this
 | some u=>rw [ht] at this; simp only [van] at this; rw [this]
theorem Oo (h:Rel B nt w0 X γ st a w) {i:Nat} (hv:st.get i = .tup []):a.tmps[i]?=none∨a.tmps[i]?=some (.tuple #[]):=by
 have:=h.tm i
 rw [hv] at this;simp only [VRel,vbl] at this;obtain ⟨cs,h1,h2⟩:=this;cases hl:cs.toList with
 | nil=>
  have e:cs = #[]:=by simpa using hl
  rw [e] at h1;cases ht:a.tmps[i]? with
  | none=>exact .inl rfl
  | some u=>rw [ht] at h1; simp only [van] at h1; rw [h1]; exact .inr rfl
 | cons x l=>rw [hl] at h2; simp only [VRels] at h2
theorem Rel.clear (h:Rel B nt w0 X γ st a w) (ds:List Nat):Rel B nt w0 X γ (M2 ds st) a w:=by
 have hget:∀ n ob,DI (M2 ds st).o n=some ob→OU ds n=false∧∃ ob0,DI st.o n=some ob0∧KM (OU ds) (some ob0)=some ob:=by
  intro n ob hn;simp only [M2,nS] at hn;split at hn
  ·cases hn
  ·rename_i hp;exact ⟨hp,zg9 hn⟩
 have hP:∀ b,E4 γ (M2 ds st).o b→E4 γ st.o b:=by
  rintro b ⟨n,ob,h1,h2⟩;obtain ⟨_,ob0,h3,h4⟩:=hget n ob h1;exact ⟨n,ob0,h3,((gB h4).2 _ _).1 h2⟩
 have hO:∀ b,b < w.heap.size→DK X γ (M2 ds st).o b→DK X γ st.o b:=fun b _ hb=>hb.imp_left (hP b)
 have hc:CmpP (OU ds) γ st.o γ (M2 ds st).o:=by
  intro n ob' _ hn;obtain ⟨_,ob0,h3,h4⟩:=hget n ob' hn;exact ⟨rfl,ob0,h3,(gB h4).1⟩
 refine ⟨h.sz,h.df,fun i=>?_,fun n ob hn=>?_,fun b hb=>h.lt b (hP b hb),fun n m ob ob' b hne h1 h2 hb1 hb2=>?_,h.keep,fun b hb=>h.nr b (hP b hb),h.fl,fun p hp ob h1=>?_⟩
 ·have:(M2 ds st).get i=GI (OU ds) (st.get i):=by
   simp only [M2,St.get];exact fA _ _ rfl _ _
  rw [this];exact VRel.mono (Keep.refl _ w) hO (Gs hc (h.tm i))
 ·obtain ⟨_,ob0,h3,h4⟩:=hget n ob hn;have hor:=h.ob n ob0 h3;cases ob0 with
  | box l=>
   simp only [KM,AC] at h4;subst h4;simp only [ObRel] at hor ⊢;obtain ⟨b,c,T,hg,hh,hr⟩:=hor;rw [kK];exact ⟨b,c,T,hg,hh,VRels.mono (Keep.refl _ w) hO (Gt hc hr)⟩
  | row own e ag ks l=>
   simp only [KM,AC] at h4;subst h4;exact hor.later (fun _ _=>rfl) (Keep.refl _ w) hO (fun m ob1 hm=>by
    obtain ⟨_,ob0,h5,h6⟩:=hget m ob1 hm;exact ⟨rfl,ob0,h5,(gB h6).1⟩)
  | bld s=>
   simp only [KM,AC] at h4;subst h4;simpa only [ObRel] using hor
  | map vk es=>
   simp only [KM,AC] at h4;subst h4;simp only [ObRel] at hor ⊢;obtain ⟨h0,b,ents,hg,q1,q2⟩:=hor;exact ⟨h0,b,ents,hg,q1,EntRel.mono (Keep.refl _ w) hO q2⟩
  | iter vk last rest=>
   simp only [KM,AC] at h4;subst h4;simp only [ObRel] at hor ⊢;obtain ⟨h0,r,b,since,seen,ents,clock,hg,q1,q2,q3⟩:=hor;exact ⟨h0,r,b,since,seen,ents,clock,hg,q1,q2,IterRel.mono (Keep.refl _ w) hO q3⟩
 ·obtain ⟨_,ob0,h3,h4⟩:=hget n ob h1;obtain ⟨_,ob1,h5,h6⟩:=hget m ob' h2;exact h.dis n m ob0 ob1 b hne h3 h5 (((gB h4).2 _ _).1 hb1) (((gB h6).2 _ _).1 hb2)
 ·obtain ⟨_,ob0,h3,_⟩:=hget _ ob h1;exact h.pn p hp ob0 h3
theorem Rel.seq (h:Rel B nt w0 X γ st a w) (e:SEq st st'):Rel B nt w0 X γ st' a w:=
 h.less (fun i=>.inl (e.t i).symm) (fun n ob hn=>by rw [e.o]; exact hn)
end
theorem Vi {ds:List Nat} {n:Nat} (hn:OU ds n=true) (s:St):Fr n (M2 ds s):=by
 refine ⟨fun i=>?_,fun m=>?_⟩
 ·have:(M2 ds s).get i=GI (OU ds) (s.get i):=by
   simp only [M2,St.get];exact fA _ _ rfl _ _
  rw [this];exact Gr hn _
 ·simp only [M2,nS];split
  ·rfl
  ·exact zfX hn _
def StepOK (E:Env) (all:List Oper) (o:Oper) (s:St) (D:Dn):Prop:=
 PX E o.dst=true∧D.dst=o.dst∧D.tm=LZ all o ∧
 match o.guard with
 | none=>(D4 E s.o (opd s) o.dst o.op).get=some (D.v,D.us)∧D.rd=NE E s.o (opd s) o.op
 | some (j,b)=>(∃ dj c,OR all j=some dj∧s.get dj = .bool c ∧
  ((c=b∧(D4 E s.o (opd s) o.dst o.op).get=some (D.v,D.us)∧D.rd=NE E s.o (opd s) o.op)∨(c≠b∧D.v = .tup []∧D.us=[]))) ∨
  (∃ dj,OR all j=some dj∧s.get dj = .tup []∧D.v = .tup []∧D.us=[])
def Steps (E:Env) (all:List Oper):List Oper→St→List Dn→Prop
 | [],_,[]=>True
 | o :: r,s,D :: Ds=>StepOK E all o s D∧Steps E all r (apD s D) Ds
 | _,_,_=>False
theorem StepOK.congr {E:Env} {all:List Oper} {o:Oper} {s s':St} {D:Dn} (h:StepOK E all o s D) (e:SEq s s'):StepOK E all o s' D:=by
 have hag:∀ (ρ:Operand→V) d op,D4 E s'.o ρ d op=D4 E s.o ρ d op:=fun ρ d op=>Az (fun n _=>(e.o n).symm)
 have hdp:∀ l,KG s'.o l=KG s.o l:=by
  intro l
  induction l with
  | nil=>rfl
  | cons n r ih=>simp only [KG,ih,e.o]
 have hrd:∀ (ρ:Operand→V) op,NE E s'.o ρ op=NE E s.o ρ op:=fun ρ op=>by unfold NE lD; rw [hdp]
 unfold StepOK at h ⊢;refine ⟨h.1,h.2.1,h.2.2.1,?_⟩;have h3:=h.2.2.2;rw [← e.opd];simp only [hag,hrd];split at h3
 ·exact h3
 ·rcases h3 with ⟨dj,c,h4,h5,h6⟩ | ⟨dj,h4,h5,h6⟩
  ·exact .inl ⟨dj,c,h4,by rw [← e.t]; exact h5,h6⟩
  ·exact .inr ⟨dj,h4,by rw [← e.t]; exact h5,h6⟩
theorem Steps.congr {E:Env} {all:List Oper}:∀ {l:List Oper} {s s':St} {Ds:List Dn},Steps E all l s Ds→SEq s s'→Steps E all l s' Ds
 | [],_,_,[],_,_=>trivial
 | [],_,_,_ :: _,h,_=>by simp [Steps] at h
 | _ :: _,_,_,[],h,_=>by simp [Steps] at h
 | o :: r,s,s',D :: Ds,h,e=>by
  simp only [Steps] at h ⊢;exact ⟨h.1.congr e,Steps.congr h.2 (e.apD D)⟩
theorem Ay {E:Env} {all:List Oper} {res:V × List (List V)}:∀ (l:List Oper) {s:St} {acc:List Dn} {k:List Dn→St→DJ},PV E all l s acc k=some res →
  ∃ Ds s',Steps E all l s Ds∧SEq s' (apDs s Ds)∧k (Ds.reverse++acc) s'=some res
 | [],s,acc,k,h=>⟨[],s,trivial,SEq.refl s,by simpa [PV] using h⟩
 | o :: r,s,acc,k,h=>by
  simp only [PV] at h;have hd:PX E o.dst=true:=by
   cases hd:PX E o.dst with
   | true=>rfl
   | false=>rw [hd] at h; cases h
  rw [hd] at h;simp only at h;have fin:∀ (s1:St) (D:Dn),SEq s s1→StepOK E all o s1 D→PV E all r (apD s1 D) (D :: acc) k=some res →
    ∃ Ds s',Steps E all (o :: r) s Ds∧SEq s' (apDs s Ds)∧k (Ds.reverse++acc) s'=some res:=by
   intro s1 D e hs he;obtain ⟨Ds,s',h1,h2,h3⟩:=Ay r he;refine ⟨D :: Ds,s',⟨hs.congr e.symm,h1.congr (e.symm.apD D)⟩,h2.trans ((e.symm.apD D).apDs),?_⟩;simpa using h3
  split at h
  ·rename_i hg;obtain ⟨v,us,h1,h2⟩:=T.run_some h;exact fin s _ (SEq.refl s) ⟨hd,rfl,rfl,by rw [hg]; exact ⟨h1,rfl⟩⟩ h2
  ·rename_i j b hg;split at h
   ·rename_i dj hdj;split at h
    ·rename_i c hc;have hl:∀ c',(M7 s dj c').get dj = .bool c':=fun c'=>by simp [M7,St.get,Q5]
     cases c with
     | true=>
      have e:=SEq.lit hc;cases b with
      | true=>
       simp only at h;obtain ⟨v,us,h1,h2⟩:=T.run_some h;exact fin _ _ e ⟨hd,rfl,rfl,by rw [hg]; exact .inl ⟨dj,true,hdj,hl _,.inl ⟨rfl,h1,rfl⟩⟩⟩ h2
      | false=>exact fin _ _ e ⟨hd,rfl,rfl,by rw [hg]; exact .inl ⟨dj,true,hdj,hl _,.inr ⟨by simp,rfl,rfl⟩⟩⟩ h
     | false=>
      have e:=SEq.lit hc;cases b with
      | false=>
       simp only at h;obtain ⟨v,us,h1,h2⟩:=T.run_some h;exact fin _ _ e ⟨hd,rfl,rfl,by rw [hg]; exact .inl ⟨dj,false,hdj,hl _,.inl ⟨rfl,h1,rfl⟩⟩⟩ h2
      | true=>exact fin _ _ e ⟨hd,rfl,rfl,by rw [hg]; exact .inl ⟨dj,false,hdj,hl _,.inr ⟨by simp,rfl,rfl⟩⟩⟩ h
    ·rename_i hc;exact fin _ _ (SEq.refl s) ⟨hd,rfl,rfl,by rw [hg]; exact .inr ⟨dj,hdj,hc,rfl,rfl⟩⟩ h
    ·cases h
   ·cases h
theorem Steps.length {E:Env} {all:List Oper}:∀ {l:List Oper} {s:St} {Ds:List Dn},Steps E all l s Ds→Ds.length=l.length
 | [],_,[],_=>rfl
 | [],_,_ :: _,h=>by simp [Steps] at h
 | _ :: _,_,[],h=>by simp [Steps] at h
 | _ :: _,_,_ :: _,h=>by simp only [AN,Steps.length h.2]
theorem Steps.get {E:Env} {all:List Oper}:∀ {l:List Oper} {s:St} {Ds:List Dn} {i:Nat} {o:Oper} {D:Dn},Steps E all l s Ds→l[i]?=some o→Ds[i]?=some D→StepOK E all o (apDs s (Ds.take i)) D
 | [],_,_,_,_,_,_,h,_=>by simp at h
 | _ :: _,_,[],_,_,_,_,_,h=>by simp at h
 | o :: r,s,D :: Ds,0,_,_,h,h1,h2=>by
  simp only [B2,AC] at h1 h2;subst h1; subst h2;exact h.1
 | o :: r,s,D :: Ds,i+1,_,_,h,h1,h2=>by
  simp only [CV] at h1 h2;simp only [List.take_succ_cons,apDs];exact Steps.get h.2 h1 h2
def EO (L:Nat→Bool):Nat→List Dn→List Dn
 | _,[]=>[]
 | i,D :: r=>match L i with | true=>D :: EO L (i+1) r | false=>EO L (i+1) r
theorem ZT {L L':Nat→Bool}:∀ (l:List Dn) (i:Nat),(∀ j,i≤j→j < i+l.length→L j=L' j)→EO L i l=EO L' i l
 | [],_,_=>rfl
 | D :: r,i,h=>by
  simp only [EO];rw [h i (AW i) (by simp),ZT r (i+1) (fun j h1 h2=>h j (by omega) (by simp only [AN]; omega))]
theorem gD:∀ (l:List Dn) (i:Nat),EO (fun _=>false) i l=[]
 | [],_=>rfl
 | D :: r,i=>by simp only [EO,gD r]
theorem Jl:∀ (l:List Dn) (i:Nat),EO (fun _=>true) i l=l
 | [],_=>rfl
 | D :: r,i=>by simp only [EO,Jl r]
theorem Jm (k:Nat):∀ (l:List Dn) (i:Nat),EO (fun j=>decide (j < i+k)) i l=l.take k
 | [],i=>by simp [EO]
 | D :: r,i=>by
  cases k with
  | zero=>
   rw [ZT (L':=fun _=>false) _ _ (fun j h1 h2=>by simp; omega),gD];rfl
  | succ k=>
   simp only [EO];rw [show decide (i < i+(k+1))=true by simp];simp only [List.take_succ_cons,vaB,vaO]
   have:=Jm k r (i+1)
   rw [show i+(k+1)=i+1+k by omega];exact this
theorem S0 {L L':Nat→Bool} {n:Nat}:∀ (l:List Dn) (i:Nat) {s s':St},DI s.o n=DI s'.o n→(∀ j D,l[j]?=some D→n∈IK D.us→L (i+j)=L' (i+j))→DI (apDs s (EO L i l)).o n=DI (apDs s' (EO L' i l)).o n
 | [],_,_,_,h,_=>h
 | D :: r,i,s,s',h,hl=>by
  have hr:∀ j E,r[j]?=some E→n∈IK E.us→L (i+1+j)=L' (i+1+j):=fun j E hj hn=>by
   have:=hl (j+1) E (by simpa using hj) hn
   rwa [show i+(j+1)=i+1+j by omega] at this
  have one:∀ {s:St},n ∉ IK D.us→DI (apD s D).o n=DI s.o n:=fun h=>U1 h
  by_cases hn:n∈IK D.us
  ·have h0:=hl 0 D rfl hn;simp only [C6] at h0;simp only [EO,h0];cases L' i with
   | true=>exact S0 r (i+1) (uD hn) hr
   | false=>exact S0 r (i+1) h hr
  ·simp only [EO];cases L i <;> cases L' i <;> simp only [apDs]
   ·exact S0 r (i+1) h hr
   ·exact S0 r (i+1) (h.trans (one hn).symm) hr
   ·exact S0 r (i+1) ((one hn).trans h) hr
   ·exact S0 r (i+1) ((one hn).trans (h.trans (one hn).symm)) hr
theorem PL (s:St) (D:Dn) (t:Nat):(apD s D).get t=if D.dst=some t then D.v else s.get t:=by
 unfold apD;cases hd:D.dst with
 | none=>simp [St.put,St.get]
 | some d=>
  have:=zad s d D.v t
  simp only [AC];exact this
theorem SZ {L L':Nat→Bool} {t:Nat}:∀ (l:List Dn) (i:Nat) {s s':St},s.get t=s'.get t→(∀ j D,l[j]?=some D→D.dst=some t→L (i+j)=L' (i+j))→(apDs s (EO L i l)).get t=(apDs s' (EO L' i l)).get t
 | [],_,_,_,h,_=>h
 | D :: r,i,s,s',h,hl=>by
  have hr:∀ j E,r[j]?=some E→E.dst=some t→L (i+1+j)=L' (i+1+j):=fun j E hj hn=>by
   have:=hl (j+1) E (by simpa using hj) hn
   rwa [show i+(j+1)=i+1+j by omega] at this
  by_cases hn:D.dst=some t
  ·have h0:=hl 0 D rfl hn;simp only [C6] at h0;simp only [EO,h0];cases L' i with
   | true=>exact SZ r (i+1) (by rw [PL,PL,BR hn,BR hn]) hr
   | false=>exact SZ r (i+1) h hr
  ·simp only [EO];cases L i <;> cases L' i <;> simp only [apDs]
   ·exact SZ r (i+1) h hr
   ·exact SZ r (i+1) (by rw [PL,A9 hn]; exact h) hr
   ·exact SZ r (i+1) (by rw [PL,A9 hn]; exact h) hr
   ·exact SZ r (i+1) (by rw [PL,PL,A9 hn,A9 hn]; exact h) hr
theorem sL {L:Nat→Bool} {n:Nat}:∀ (l:List Dn) (i:Nat) {s:St},Fr n s→(∀ j D,l[j]?=some D→L (i+j)=true→PO D.v=true∧n ∉ ER D.v∧∀ u∈D.us,∀ m ob,(u = .new m ob∨u = .set m ob)→GV n (some ob)=some ob)→Fr n (apDs s (EO L i l))
 | [],_,_,h,_=>h
 | D :: r,i,s,h,hl=>by
  have hr:∀ j E,r[j]?=some E→L (i+1+j)=true→PO E.v=true∧n ∉ ER E.v∧∀ u∈E.us,∀ m ob,(u = .new m ob∨u = .set m ob)→GV n (some ob)=some ob:=fun j E hj hn=>by
   refine hl (j+1) E (by simpa using hj) ?_
   rwa [show i+(j+1)=i+1+j by omega]
  simp only [EO];cases hL:L i with
  | false=>exact sL r (i+1) h hr
  | true=>
   refine sL r (i+1) ?_ hr;obtain ⟨h1,h2,h3⟩:=hl 0 D rfl hL;refine ⟨fun t=>?_,?_⟩
   ·rw [PL];split
    ·exact Je h1 h2
    ·exact h.t t
   ·have key:∀ (us:List Upd) (o:Store),(∀ u∈us,∀ m ob,(u = .new m ob∨u = .set m ob)→GV n (some ob)=some ob)→(∀ m,GV n (DI o m)=DI o m)→∀ m,GV n (DI (JK us o) m)=DI (JK us o) m:=by
     intro us
     induction us with
     | nil=>intro o _ h; exact h
     | cons u us ih=>
      intro o hu ho;have hu':=fun u' hu'=>hu u' (AY _ hu')
      cases u with
      | kill k=>exact ih _ hu' (fun m=>by rw [D9]; split <;> first | rfl | exact ho m)
      | set k ob=>exact ih _ hu' (fun m=>by rw [D9]; split <;> first | exact hu _ (AR ..) k ob (.inr rfl) | exact ho m)
      | new k ob=>exact ih _ hu' (fun m=>by rw [D9]; split <;> first | exact hu _ (AR ..) k ob (.inl rfl) | exact ho m)
    exact key D.us s.o h3 h.o
theorem sM {L:Nat→Bool}:∀ (l l':List Dn) (i:Nat),EO L i (l++l')=EO L i l++EO L (i+l.length) l'
 | [],l',i=>by simp [EO]
 | D :: r,l',i=>by
  simp only [C3,EO,AN];rw [show i+(r.length+1)=i+1+r.length by omega];cases L i <;> simp [sM r l' (i+1)]
open Go Go.RowKit
theorem ZC:∀ (l:List (List Nat)) (i:Nat),HJ l i=(l[i]?).getD []
 | [],i=>by simp [HJ]
 | x :: r,0=>rfl
 | x :: r,i+1=>by simp only [HJ,ZC r i,CV]
theorem kO {acc:List (List Nat)} {j:Nat}:∀ {es:List Edge},j∈UO acc es→∃ e∈es,va1 .any e=true∧(j=e.on∨j∈HJ acc e.on)
 | [],h=>by simp [UO] at h
 | e :: r,h=>by
  simp only [UO] at h;split at h
  ·rename_i hb;simp only [AS,AV] at h;rcases h with h | h | h
   ·exact ⟨e,AR ..,hb,.inl h⟩
   ·exact ⟨e,AR ..,hb,.inr h⟩
   ·obtain ⟨e',h1,h2⟩:=kO h;exact ⟨e',AY _ h1,h2⟩
  ·obtain ⟨e',h1,h2⟩:=kO h;exact ⟨e',AY _ h1,h2⟩
def SV (acc:List Nat):List Nat→List Nat
 | []=>acc
 | n :: r=>match J2 n acc with
  | true=>SV acc r
  | false=>SV (n :: acc) r
theorem XE (k:List Nat→List (List Nat)):∀ (l acc:List Nat),fJ acc l k=k (SV acc l)
 | [],_=>rfl
 | n :: r,acc=>by
  simp only [fJ,SV];cases J2 n acc with
  | true=>exact XE k r acc
  | false=>exact XE k r (n :: acc)
theorem qI {j:Nat}:∀ {l acc:List Nat},j∈SV acc l→j∈acc∨j∈l
 | [],_,h=>.inl h
 | n :: r,acc,h=>by
  simp only [SV] at h;cases hb:J2 n acc with
  | true=>
   rw [hb] at h;exact (qI h).imp_right (AY _)
  | false=>
   rw [hb] at h;rcases qI h with h1 | h1
   ·rcases AS.1 h1 with rfl | h1
    ·exact .inr (AR ..)
    ·exact .inl h1
   ·exact .inr (AY _ h1)
theorem Em {j:Nat} {l:List Nat} (h:j∈SV [] l):j∈l:=(qI h).resolve_left (by simp)
theorem rQ:∀ (l:List Oper) (acc:List (List Nat)) (i:Nat),i < acc.length→HJ (IU acc l) i=HJ acc i
 | [],_,_,_=>rfl
 | o :: r,acc,i,h=>by
  simp only [IU,XE];rw [rQ r _ i (by simp; omega),ZC,ZC,List.getElem?_append_left h]
theorem rP:∀ (l:List Oper) (acc:List (List Nat)) (i:Nat) (o:Oper),l[i]?=some o →
  ∃ acc',acc'.length=acc.length+i∧HJ (IU acc l) (acc.length+i)=SV [] (UO acc' o.after.toList)∧∀ k,k < acc'.length→HJ acc' k=HJ (IU acc l) k
 | [],_,_,_,h=>by simp at h
 | o :: r,acc,0,o',h=>by
  simp only [B2,AC] at h;subst h;refine ⟨acc,rfl,?_,fun k hk=>?_⟩
  ·simp only [IU,XE,C6];rw [rQ r _ acc.length (by simp),ZC];simp
  ·simp only [IU,XE];rw [rQ r _ k (by simp; omega),ZC,ZC,List.getElem?_append_left hk]
 | o :: r,acc,i+1,o',h=>by
  simp only [CV] at h;obtain ⟨acc',h1,h2,h3⟩:=rP r (acc++[SV [] (UO acc o.after.toList)]) i o' h;simp only [AU,AN,BB] at h1 h2;refine ⟨acc',by omega,?_,fun k hk=>by rw [IU,XE]; exact h3 k hk⟩;rw [show acc.length+(i+1)=acc.length+(0+1)+i by omega,IU,XE];exact h2
theorem jF:∀ {l:List Oper} {k i:Nat} {o:Oper} {e:Edge},SK k l=true→l[i]?=some o→e∈o.after.toList→va1 .any e=true→e.on < k+i
 | [],_,_,_,_,_,h,_,_=>by simp at h
 | o :: r,k,0,o',e,hu,h,he,hb=>by
  simp only [B2,AC] at h;subst h;simp only [SK,AI] at hu;have key:∀ (es:List Edge),SK.go k es=true→e∈es→e.on < k:=by
   intro es
   induction es with
   | nil=>intro _ h; cases h
   | cons x es ih=>
    intro hg hm;simp only [SK.go] at hg;rcases AS.1 hm with h1 | h1
    ·subst h1;rw [hb] at hg;simp only [AI] at hg;exact AM hg.1
    ·split at hg
     ·simp only [AI] at hg;exact ih hg.2 h1
     ·exact ih hg h1
  exact key _ hu.1 he
 | o :: r,k,i+1,o',e,hu,h,he,hb=>by
  simp only [CV] at h;simp only [SK,AI] at hu
  have:=jF hu.2 h he hb
  omega
section
variable {ops:List Oper}
def uW (ops:List Oper) (L:Nat→Bool):Prop:=∀ i o,ops[i]?=some o→L i=true→∀ e∈o.after.toList,va1 .any e=true→L e.on=true
theorem Hb (hu:SK 0 ops=true):∀ (i:Nat) {o:Oper},ops[i]?=some o→∀ j∈HJ (IU [] ops) i,j < i:=by
 intro i
 induction i using vbz with
 | _ i ih=>
  intro o ho j hj;obtain ⟨acc',h1,h2,h3⟩:=rP ops [] i o ho;simp only [BB,BJ] at h1 h2;rw [h2] at hj;obtain ⟨e,he,hb,h4⟩:=kO (Em hj);have hlt:=jF hu ho he hb;rw [BJ] at hlt;rcases h4 with h4 | h4
  ·omega
  ·have hk:e.on < acc'.length:=by omega
   rw [h3 _ hk] at h4;have hlen:i < ops.length:=(BL.1 ho).1
   have:=ih e.on hlt (o:=ops[e.on]'(by omega)) (by simp [Nat.lt_trans hlt hlen]) j h4
   omega
theorem Hc {L:Nat→Bool} (hu:SK 0 ops=true) (hL:uW ops L):∀ (i:Nat) {o:Oper},ops[i]?=some o→(∀ e∈o.after.toList,va1 .any e=true→L e.on=true)→∀ j∈HJ (IU [] ops) i,L j=true:=by
 intro i
 induction i using vbz with
 | _ i ih=>
  intro o ho hr j hj;obtain ⟨acc',h1,h2,h3⟩:=rP ops [] i o ho;simp only [BB,BJ] at h1 h2;rw [h2] at hj;obtain ⟨e,he,hb,h4⟩:=kO (Em hj);have hlt:=jF hu ho he hb;rw [BJ] at hlt;rcases h4 with h4 | h4
  ·subst h4;exact hr e he hb
  ·have hk:e.on < acc'.length:=by omega
   rw [h3 _ hk] at h4;have hlen:i < ops.length:=(BL.1 ho).1;have hg:ops[e.on]?=some (ops[e.on]'(by omega)):=by simp [Nat.lt_trans hlt hlen]
   exact ih e.on hlt hg (hL e.on _ hg (hr e he hb)) j h4
end
theorem zfS {d:Option Nat} {l:List Nat} (h:Gh d l=false):∀ t,d=some t→t ∉ l:=by
 rintro t rfl;exact fH.1 h
theorem zfR {d e:Option Nat} (h:rD d e=false):∀ t,d=some t→e≠some t:=by
 rintro t rfl h';subst h';simp only [rD] at h;exact H5.1 h rfl
theorem Gv {ps:List (List Nat)} {pi:List Nat} {i:Nat} {x:Dn}:∀ {l:List Dn} {k j:Nat} {y:Dn},ZH ps pi i x k l=true→l[j]?=some y→i≠k+j→fN pi (HJ ps (k+j)) i (k+j) x y=true
 | [],_,_,_,_,h,_=>by simp at h
 | z :: r,k,0,y,h,hy,hne=>by
  simp only [B2,AC] at hy;subst hy;simp only [ZH,AI,vaz] at h;rcases h.1 with h1 | h1
  ·exact absurd (FL.1 h1) hne
  ·exact h1
 | z :: r,k,j+1,y,h,hy,hne=>by
  simp only [CV] at hy;simp only [ZH,AI] at h
  have:=Gv (k:=k+1) h.2 hy (by omega)
  rw [show k+(j+1)=k+1+j by omega];exact this
theorem Gu {ps:List (List Nat)} {all:List Dn}:∀ {l:List Dn} {k i:Nat} {x:Dn},fO ps all k l=true→l[i]?=some x→ZH ps (HJ ps (k+i)) (k+i) x 0 all=true
 | [],_,_,_,_,h=>by simp at h
 | z :: r,k,0,x,h,hx=>by
  simp only [B2,AC] at hx;subst hx;simp only [fO,AI] at h;exact h.1
 | z :: r,k,i+1,x,h,hx=>by
  simp only [CV] at hx;simp only [fO,AI] at h
  have:=Gu (k:=k+1) h.2 hx
  rw [show k+(i+1)=k+1+i by omega];exact this
theorem u7 {ds:List Nat}:∀ {l:List Nat},iI ds l=true→∀ n∈l,OU ds n=true
 | [],_,n,h=>by cases h
 | m :: r,h,n,hn=>by
  simp only [iI,AI] at h;rcases AS.1 hn with e | e
  ·subst e; exact h.1
  ·exact u7 h.2 n e
theorem qZ {ds:List Nat}:∀ {l:List Dn} {i:Nat} {x:Dn},fK ds l=true→l[i]?=some x→PO x.v=true∧PE x.us=true∧∀ n∈O2 x.us,OU ds n=true
 | [],_,_,_,h=>by simp at h
 | z :: r,0,x,h,hx=>by
  simp only [B2,AC] at hx;subst hx;simp only [fK,AI] at h;exact ⟨h.1,h.2.1,u7 h.2.2.1⟩
 | z :: r,i+1,x,h,hx=>by
  simp only [CV] at hx;simp only [fK,AI] at h;exact qZ h.2.2.2 hx
theorem Oq {n:Nat}:∀ {us:List Upd},PE us=true→n ∉ UK us→∀ u∈us,∀ m ob,(u = .new m ob∨u = .set m ob)→GV n (some ob)=some ob
 | [],_,_,u,hu,_,_,_=>by cases hu
 | u :: r,ho,hn,u',hu',m,ob,he=>by
  have h1:PE r=true∧n ∉ UK r∧(∀ m ob,(u = .new m ob∨u = .set m ob)→GV n (some ob)=some ob):=by
   cases u with
   | kill k=>exact ⟨ho,hn,fun m ob h=>by rcases h with h | h <;> cases h⟩
   | set k ob'=>
    simp only [PE,AI] at ho;simp only [UK,AV,not_or] at hn;refine ⟨ho.2.2,hn.2,fun m ob h=>?_⟩;rcases h with h | h <;> cases h
    exact lL ho.1 hn.1
   | new k ob'=>
    simp only [PE,AI] at ho;simp only [UK,AV,not_or] at hn;refine ⟨ho.2.2,hn.2,fun m ob h=>?_⟩;rcases h with h | h <;> cases h
    exact lL ho.1 hn.1
  rcases AS.1 hu' with h | h
  ·subst h;exact h1.2.2 m ob he
  ·exact Oq h1.1 h1.2.1 u' h m ob he
theorem tY {t:Nat}:∀ {l:List Operand},Operand.tmp t∈l→t∈XX l
 | x :: r,h=>by
  rcases AS.1 h with h1 | h1
  ·subst h1; exact AR ..
  ·cases x <;> simp only [XX,AS] <;> first | exact .inr (tY h1) | exact tY h1
theorem zU {α:Type} {p q:α→Bool}:∀ {l:List α},(∀ x∈l,q x=true→p x=true)→(∃ x∈l,p x=true∧q x=false)→l.countP q < l.countP p
 | [],_,⟨_,h,_⟩=>by cases h
 | y :: r,h,⟨x,hx,h1,h2⟩=>by
  have hr:r.countP q≤r.countP p:=by
   clear hx;have h':∀ x∈r,q x=true→p x=true:=fun x hx=>h x (AY _ hx)
   exact List.countP_mono_left h'
  rcases AS.1 hx with e | e
  ·subst e;rw [vaT h1,vbi (by simp [h2])];omega
  ·have:=zU (l:=r) (fun x hx=>h x (AY _ hx)) ⟨x,e,h1,h2⟩
   by_cases hq:q y=true
   ·rw [vaT (h y (AR ..) hq),vaT hq];omega
   ·rw [vbi hq];by_cases hp:p y=true
    ·rw [vaT hp]; omega
    ·rw [vbi hp]; omega
section
variable {B:BT} {nt:Nat} {w0:World} {X:Zone} {γ:Nat→Value} {st st':St} {a:Act} {w:World} {P:Program} {E:Env}
variable (hT:TiOK P B E) (hE:∀ t,t∈E.eqs→EqSnd P t (E.tyd t).ks) (hSp:SpOK P B E w0 X) (hB:BldOK P B E) (hnt:E.nt=nt) (hn9:nt≤900000)
include hT hE hSp hB hnt hn9
theorem Wp {Q:Exit→Act→World→Prop} {ops:Array Oper} {s0:St} {Ds:List Dn} (hs:Steps E ops.toList ops.toList s0 Ds) (hfree:oY ops.toList Ds=true)
  (hfr:∀ n,OU (WV ops.toList) n=true→Fr n s0) (hQ:∀ γ' a' w',Rel B nt w0 X γ' (apDs s0 Ds) a' w'→Q .normal a' w') :
  ∀ (fuel:Nat) (listed:Array Bool) {γ:Nat→Value} {a:Act} {w:World},listed.size=ops.size→uW ops.toList (fun i=>listed.getD i false) →
   (vaE ops.size).countP (fun i=>!listed.getD i false)≤fuel→Rel B nt w0 X γ (apDs s0 (EO (fun i=>listed.getD i false) 0 Ds)) a w→wpAny P .any ops Q fuel listed a w:=by
 have hlen:Ds.length=ops.size:=by simpa using hs.length
 simp only [oY,AI] at hfree;obtain ⟨hup,hone,hpairs⟩:=hfree;have hgd:∀ (listed:Array Bool) (i:Nat),listed.size=ops.size→i < ops.size→listed.getD i true=listed.getD i false:=fun listed i h1 h2=>by
  simp [Array.getD,h1,h2]
 have hready:∀ (listed:Array Bool) (i:Nat),listed.size=ops.size→(i∈vbA .any ops listed↔∃ o,ops.toList[i]?=some o∧listed.getD i false=false∧∀ e∈o.after.toList,va1 .any e=true→listed.getD e.on false=true):=by
  intro listed i hsz;simp only [vbA,List.mem_filter,va6,AI,B5];constructor
  ·rintro ⟨h1,h2,h3⟩;refine ⟨ops[i],by simp [h1],by rw [← hgd listed i hsz h1]; exact h2,fun e he hb=>?_⟩;simp only [Array.getElem?_eq_getElem h1,vaf,van,vbC,vaz,B5] at h3;rcases h3 e (by simpa using he) with h4 | h4
   ·rw [hb] at h4; cases h4
   ·exact h4
  ·rintro ⟨o,ho,h2,h3⟩;obtain ⟨h1,rfl⟩:=BL.1 ho;simp only [CQ] at h1;refine ⟨h1,by rw [hgd listed i hsz h1]; exact h2,?_⟩;simp only [Array.getElem?_eq_getElem h1,vaf,van,vbC,vaz,B5];intro e he;cases hb:va1 .any e with
   | false=>exact .inl rfl
   | true=>exact .inr (h3 e (by simpa using he) hb)
 have hend:∀ (listed:Array Bool) {γ:Nat→Value} {a:Act} {w:World},(∀ i,i < ops.size→listed.getD i false=true)→Rel B nt w0 X γ (apDs s0 (EO (fun i=>listed.getD i false) 0 Ds)) a w→Q .normal a w:=by
  intro listed γ a w hall h;rw [ZT (L':=fun _=>true) _ _ (fun j _ h2=>hall j (by omega)),Jl] at h;exact hQ γ a w h
 have hnil:∀ (listed:Array Bool),listed.size=ops.size→vbA .any ops listed=[]→∀ i,i < ops.size→listed.getD i false=true:=by
  intro listed hsz hr i
  induction i using vbz with
  | _ i ih=>
   intro hi;cases hL:listed.getD i false with
   | true=>rfl
   | false=>
    exfalso;have hm:i∈vbA .any ops listed:=by
     refine (hready listed i hsz).2 ⟨ops[i],by simp [hi],hL,fun e he hb=>?_⟩
     have:=jF (i:=i) hup (by simp [hi]:ops.toList[i]?=some ops[i]) he hb
     exact ih e.on (by omega) (by omega)
    rw [hr] at hm;cases hm
 intro fuel
 induction fuel with
 | zero=>
  intro listed γ a w hsz hcl hcount h;have hall:∀ i,i < ops.size→listed.getD i false=true:=by
   intro i hi;have h0:(vaE ops.size).countP (fun i=>!listed.getD i false)=0:=by omega
   have:=(List.countP_eq_zero.1 h0) i (va6.2 hi)
   simpa using this
  refine ⟨?_,hend listed hall h⟩;refine List.eq_nil_iff_forall_not_mem.2 (fun i hi=>?_);obtain ⟨o,ho,h2,_⟩:=(hready listed i hsz).1 hi;have h1:i < ops.size:=by simpa using (BL.1 ho).1
  rw [hall i h1] at h2;cases h2
 | succ fuel ih=>
  intro listed γ a w hsz hcl hcount h;refine ⟨fun hr=>hend listed (hnil listed hsz hr) h,fun i hi=>?_⟩;obtain ⟨o,ho,hLi,hedges⟩:=(hready listed i hsz).1 hi;have hi':i < ops.size:=by simpa using (BL.1 ho).1
  have hoi:ops[i]?=some o:=by simpa using ho
  obtain ⟨D,hD⟩:∃ D,Ds[i]?=some D:=⟨Ds[i]'(by omega),by simp [hlen,hi']⟩;generalize hLdef:(fun i=>listed.getD i false)=L at *;have hL:∀ j,listed.getD j false=L j:=fun j=>congrFun hLdef j
  simp only [hL] at hLi hedges;have hin:∀ j∈HJ (IU [] ops.toList) i,L j=true:=Hc hup hcl i ho hedges;have hout:∀ j D',Ds[j]?=some D'→L j=true→i ∉ HJ (IU [] ops.toList) j:=by
   intro j D' hj hLj hm;have hj':j < ops.size:=by have:=(BL.1 hj).1; omega
   have hoj:ops.toList[j]?=some ops[j]:=by simp [hj']
   have:=Hc hup hcl j hoj (hcl j _ hoj hLj) i hm
   rw [hLi] at this;cases this
  have hlt:∀ j,j∈HJ (IU [] ops.toList) i→j < i:=Hb hup i ho;have hltj:∀ j D',Ds[j]?=some D'→i∈HJ (IU [] ops.toList) j→i < j:=by
   intro j D' hj hm;have hj':j < ops.size:=by have:=(BL.1 hj).1; omega
   exact Hb hup j (by simp [hj']:ops.toList[j]?=some ops[j]) i hm
  have hpair:∀ j D',Ds[j]?=some D'→i≠j→fN (HJ (IU [] ops.toList) i) (HJ (IU [] ops.toList) j) i j D D'=true:=by
   intro j D' hj hne;have h1:=Gu (k:=0) hpairs hD;rw [BJ] at h1;have h2:=Gv (k:=0) h1 hj (by omega)
   rwa [BJ] at h2
  have hunord:∀ j D',Ds[j]?=some D'→i≠j→i ∉ HJ (IU [] ops.toList) j→j ∉ HJ (IU [] ops.toList) i →
    (∀ t,D'.dst=some t→t ∉ D.tm)∧(∀ t,D.dst=some t→D'.dst≠some t)∧(∀ n∈IK D'.us,n ∉ D.rd)∧(∀ n∈IK D.us,n ∉ IK D'.us):=by
   intro j D' hj hne h1 h2;have hp:=hpair j D' hj hne;simp only [fN,fH.2 h1,fH.2 h2,AI,B5] at hp;exact ⟨zfS hp.2.1,zfR hp.2.2.1,YY.1 hp.2.2.2.1,YY.1 hp.2.2.2.2⟩
  have hdiff:∀ j D',Ds[j]?=some D'→L j≠decide (j < i)→i≠j∧i ∉ HJ (IU [] ops.toList) j∧j ∉ HJ (IU [] ops.toList) i:=by
   intro j D' hj hne;cases hLj:L j with
   | true=>
    rw [hLj] at hne;have hji:¬ j < i:=fun h=>hne (by simp [h])
    have hij:i≠j:=fun e=>by subst e; rw [hLi] at hLj; cases hLj
    exact ⟨hij,hout j D' hj hLj,fun hm=>hji (hlt j hm)⟩
   | false=>
    rw [hLj] at hne;have hji:j < i:=by
     rcases vaa j i with h | h
     ·exact h
     ·exact absurd (by simp; omega) hne
    refine ⟨by omega,fun hm=>?_,fun hm=>?_⟩
    ·have:=hltj j D' hj hm; omega
    ·have:=hin j hm; rw [hLj] at this; cases this
  have hstep:=Steps.get hs ho hD;have htake:apDs s0 (Ds.take i)=apDs s0 (EO (fun j=>decide (j < i)) 0 Ds):=by
   have:=Jm i Ds 0
   rw [BJ] at this;rw [this]
  rw [htake] at hstep;have hobj:∀ n∈D.rd,DI (apDs s0 (EO L 0 Ds)).o n=DI (apDs s0 (EO (fun j=>decide (j < i)) 0 Ds)).o n:=by
   intro n hn;refine S0 Ds 0 rfl (fun j D' hj hnm=>?_);rw [BJ];refine vbH (fun hne=>?_);obtain ⟨h1,h2,h3⟩:=hdiff j D' hj hne;exact (hunord j D' hj h1 h2 h3).2.2.1 n hnm hn
  have htm:∀ t∈D.tm,(apDs s0 (EO L 0 Ds)).get t=(apDs s0 (EO (fun j=>decide (j < i)) 0 Ds)).get t:=by
   intro t ht;refine SZ Ds 0 rfl (fun j D' hj hnm=>?_);rw [BJ];refine vbH (fun hne=>?_);obtain ⟨h1,h2,h3⟩:=hdiff j D' hj hne;exact (hunord j D' hj h1 h2 h3).1 t hnm ht
  have hafter:SEq (apD (apDs s0 (EO L 0 Ds)) D) (apDs s0 (EO (fun j=>(listed.setIfInBounds i true).getD j false) 0 Ds)):=by
   have hset:∀ j,(listed.setIfInBounds i true).getD j false=(L j||BO j i):=by
    intro j;rw [← hL j];simp only [vbl,Array.getElem?_setIfInBounds,hsz];by_cases e:i=j
    ·subst e;simp [hi',vbj]
    ·rw [A9 e,H5.2 (fun h=>e h.symm),Bool.or_false]
   rw [show (fun j=>(listed.setIfInBounds i true).getD j false)=(fun j=>L j||BO j i) from funext hset];have hsplit:Ds=Ds.take i++D :: Ds.drop (i+1):=by
    have hi2:i < Ds.length:=by omega
    have h1:Ds[i]=D:=by have:=BL.1 hD; exact this.2
    rw [← h1];simp
   have hlate:∀ j D',(Ds.drop (i+1))[j]?=some D'→L (i+1+j)=true→(∀ t,D.dst=some t→D'.dst≠some t)∧∀ n∈IK D.us,n ∉ IK D'.us:=by
    intro j D' hj hLj;have hj':Ds[i+1+j]?=some D':=by rw [← hj,vau]
    have h2:=hout _ D' hj' hLj;have h3:i+1+j ∉ HJ (IU [] ops.toList) i:=fun hm=>by have:=hlt _ hm; omega
    exact ⟨(hunord _ D' hj' (by omega) h2 h3).2.1,(hunord _ D' hj' (by omega) h2 h3).2.2.2⟩
   have hli:(Ds.take i).length=i:=by simp; omega
   have hR:∀ s,apDs s (EO (fun j=>L j||BO j i) 0 Ds)=apDs (apD (apDs s (EO L 0 (Ds.take i))) D) (EO L (i+1) (Ds.drop (i+1))):=by
    intro s;rw [show EO (fun j=>L j||BO j i) 0 Ds=EO (fun j=>L j||BO j i) 0 (Ds.take i++D :: Ds.drop (i+1)) by rw [← hsplit]];rw [sM,mY,hli,BJ];simp only [EO,vbj,Bool.or_true,apDs];rw [ZT (L':=L) (Ds.take i) 0 (fun j _ h2=>by rw [H5.2 (by omega),Bool.or_false]),ZT (L':=L) (Ds.drop (i+1)) (i+1) (fun j h1 _=>by rw [H5.2 (by omega),Bool.or_false])]
   have hLs:∀ s,apDs s (EO L 0 Ds)=apDs (apDs s (EO L 0 (Ds.take i))) (EO L (i+1) (Ds.drop (i+1))):=by
    intro s;rw [show EO L 0 Ds=EO L 0 (Ds.take i++D :: Ds.drop (i+1)) by rw [← hsplit]];rw [sM,mY,hli,BJ];simp only [EO,hLi]
   rw [hR,hLs];generalize apDs s0 (EO L 0 (Ds.take i))=s1;refine ⟨fun t=>?_,fun n=>?_⟩
   ·by_cases e:D.dst=some t
    ·rw [PL,BR e]
     have:(apDs (apD s1 D) (EO L (i+1) (Ds.drop (i+1)))).get t=(apDs (apD s1 D) (EO (fun _=>false) (i+1) (Ds.drop (i+1)))).get t:=by
      refine SZ _ _ rfl (fun j D' hj hd=>?_);cases hLj:L (i+1+j) with
      | false=>rfl
      | true=>exact absurd hd ((hlate j D' hj hLj).1 t e)
     rw [this,gD];simp only [apDs];rw [PL,BR e]
    ·rw [PL,A9 e];exact SZ _ _ (by rw [PL,A9 e]) (fun _ _ _ _=>rfl)
   ·by_cases e:n∈IK D.us
    ·have:DI (apDs (apD s1 D) (EO L (i+1) (Ds.drop (i+1)))).o n=DI (apDs (apD s1 D) (EO (fun _=>false) (i+1) (Ds.drop (i+1)))).o n:=by
      refine S0 _ _ rfl (fun j D' hj hd=>?_);cases hLj:L (i+1+j) with
      | false=>rfl
      | true=>exact absurd hd ((hlate j D' hj hLj).2 n e)
     rw [this,gD];exact uD e
    ·have h1:DI (apD (apDs s1 (EO L (i+1) (Ds.drop (i+1)))) D).o n=DI (apDs s1 (EO L (i+1) (Ds.drop (i+1)))).o n:=U1 e;rw [h1];exact S0 _ _ (U1 e).symm (fun _ _ _ _=>rfl)
  have hnext:∀ γ' a' w',Rel B nt w0 X γ' (apD (apDs s0 (EO L 0 Ds)) D) a' w'→wpAny P .any ops Q fuel (listed.setIfInBounds i true) a' w':=by
   intro γ' a' w' h';have hset:∀ j,(listed.setIfInBounds i true).getD j false=(L j||BO j i):=by
    intro j;rw [← hL j];simp only [vbl,Array.getElem?_setIfInBounds,hsz];by_cases e:i=j
    ·subst e;simp [hi',vbj]
    ·rw [A9 e,H5.2 (fun h=>e h.symm),Bool.or_false]
   refine ih (listed.setIfInBounds i true) (by simpa using hsz) ?_ ?_ (h'.seq hafter)
   ·intro j o' ho' hLj e he hb;simp only [hset] at hLj ⊢;by_cases e':j=i
    ·subst e';rw [ho] at ho';simp only [AC] at ho';subst ho';rw [hedges e he hb];rfl
    ·rw [H5.2 e',Bool.or_false] at hLj;rw [hcl j o' ho' hLj e he hb];rfl
   ·have:(vaE ops.size).countP (fun j=>!(listed.setIfInBounds i true).getD j false) < (vaE ops.size).countP (fun j=>!listed.getD j false):=by
     refine zU (fun j _ hj=>?_) ⟨i,va6.2 hi',by rw [hL,hLi]; rfl,by rw [hset,vbj,Bool.or_true]; rfl⟩;rw [hset] at hj;rw [hL];cases hLj:L j <;> simp_all
    simp only [hL] at this hcount;omega
  obtain ⟨hok,hdst,htms,hguard⟩:=hstep;have hclean:=qZ hone hD;have run:(D4 E (apDs s0 (EO (fun j=>decide (j < i)) 0 Ds)).o (opd (apDs s0 (EO (fun j=>decide (j < i)) 0 Ds))) o.dst o.op).get=some (D.v,D.us)→D.rd=NE E (apDs s0 (EO (fun j=>decide (j < i)) 0 Ds)).o (opd (apDs s0 (EO (fun j=>decide (j < i)) 0 Ds))) o.op →
    (∀ x∈o.op.operands.toList,∀ t,x = .tmp t→t∈D.tm)→o.wp P a w (wpAny P .any ops Q fuel (listed.setIfInBounds i true)) Q:=by
   intro he hrd htmo;have h1:D4 E (apDs s0 (EO L 0 Ds)).o (opd (apDs s0 (EO L 0 Ds))) o.dst o.op=D4 E (apDs s0 (EO (fun j=>decide (j < i)) 0 Ds)).o (opd (apDs s0 (EO (fun j=>decide (j < i)) 0 Ds))) o.dst o.op:=by
    rw [Xb (ρ:=opd (apDs s0 (EO L 0 Ds))) (ρ':=opd (apDs s0 (EO (fun j=>decide (j < i)) 0 Ds))) (fun x hx=>?_)]
    ·exact Az (fun n hn=>hobj n (by rw [hrd]; exact hn))
    ·cases x with
     | tmp t=>exact htm t (htmo _ hx t rfl)
     | _=>rfl
   rw [← h1] at he;have hn9':∀ d,o.dst=some d→d≠900000:=fun d hdd e=>by
    subst e;rw [hdd] at hok;simp only [PX] at hok;have h8:900000+1≤E.nt:=AM hok;omega
   refine Gg hT hE hSp hB h o hn9' he _ _ (fun γ' x w' h3 h4=>hnext γ' _ w' ?_);refine (h3.put hnt hok h4).seq ?_;have hfr':∀ n∈O2 D.us,Fr n (apDs s0 (EO L 0 Ds)):=by
    intro n hn;refine sL Ds 0 (hfr n (hclean.2.2 n hn)) (fun j D' hj hLj=>?_);rw [BJ] at hLj;have hne:i≠j:=fun e=>by subst e; rw [hLi] at hLj; cases hLj
    have hp:=hpair j D' hj hne;simp only [fN,fH.2 (hout j D' hj hLj),AI] at hp;have hdj:=YY.1 hp.1 n hn;simp only [AV,not_or] at hdj;have hc':=qZ hone hj;exact ⟨hc'.1,hdj.1,Oq hc'.2.1 hdj.2⟩
   have:=(mH hfr' hclean.2.1).put o.dst D.v
   refine this.trans ?_;rw [← hdst];cases hdd:D.dst <;> exact ⟨fun t=>by simp only [apD,hdd,St.put]; try rfl,fun n=>by simp only [apD,St.put]⟩
  unfold wpOp;rw [hoi];simp only;have htmo:∀ x∈o.op.operands.toList,∀ t,x = .tmp t→t∈D.tm:=by
   rintro x hx t rfl
   have:=tY hx
   rw [htms];unfold LZ;split
   ·split
    ·exact AY _ this
    ·exact this
   ·exact this
  split at hguard
  ·rename_i hg;rw [BR (by simp [C8,hg])];exact .inl (run hguard.1 hguard.2 htmo)
  ·rename_i j b hg;have skip:D.v = .tup []→D.us=[]→C8 o (yielded ops a.tmps)=false→(if C8 o (yielded ops a.tmps)=true then o.wp P a w (wpAny P .any ops Q fuel (listed.setIfInBounds i true)) Q∨(o.asks P a w∧LetsOut Q) else wpAny P .any ops Q fuel (listed.setIfInBounds i true) (a.put o.dst undef) w):=by
    intro h1 h2 h3;rw [A9 (by rw [h3]; simp)];refine hnext γ _ w ?_;refine (h.put hnt hok (v:=.tup []) (x:=undef) (by simp only [VRel]; exact ⟨#[],rfl,by simp only [VRels]⟩)).seq ?_;rw [← hdst,← h1];cases hdd:D.dst <;> exact ⟨fun t=>by simp only [apD,hdd,St.put]; try rfl,fun n=>by simp only [apD,St.put,h2,JK]⟩
   have hdjm0:∀ dj,OR ops.toList j=some dj→dj∈D.tm:=by
    intro dj hdj;rw [htms];unfold LZ;rw [hg];simp only [hdj];exact AR ..
   rcases hguard with ⟨dj,c,hdj,hc,hcase⟩ | ⟨dj,hdj,hc,h1,h2⟩
   case inr=>
    rw [← htm dj (hdjm0 dj hdj)] at hc;have hy:yielded ops a.tmps j=none:=by
     unfold yielded;rw [show ops[j]?=ops.toList[j]? by simp,d7 _ _ _ hdj];rcases Oo h hc with h0 | h0 <;> simp [h0]
    exact skip h1 h2 (by simp [C8,hg,hy])
   have hdjm:dj∈D.tm:=by
    rw [htms];unfold LZ;rw [hg];simp only [hdj];exact AR ..
   rw [← htm dj hdjm] at hc;have hy:yielded ops a.tmps j=some c:=by
    unfold yielded;rw [show ops[j]?=ops.toList[j]? by simp,d7 _ _ _ hdj];simp [vY h hc]
   rcases hcase with ⟨rfl,h1,h2⟩ | ⟨hne,h1,h2⟩
   ·rw [BR (by simp [C8,hg,hy])];exact .inl (run h1 h2 htmo)
   ·exact skip h1 h2 (by simp [C8,hg,hy,hne])
theorem Wz {Q:Exit→Act→World→Prop} (hm:P.follows .mixedOrders=true) {r:V × List (List V)} {id:Nat} {ops:Array Oper} {k:St→DJ} {γ:Nat→Value} {st:St} {a:Act} {w:World}
  (he:oO E ops.toList st k=some r) (h:Rel B nt w0 X γ st a w) (hk:∀ γ' st' a' w',Rel B nt w0 X γ' st' a' w'→k st'=some r→Q .normal a' w'):(Code.region id ops true).wp P Q a w:=by
 refine wp_region_any hm ?_;unfold oO at he;obtain ⟨Ds,s',h1,h2,h3⟩:=Ay ops.toList he;split at h3
 ·rename_i hf;simp only [DB,List.reverse_reverse] at hf;have h0:Rel B nt w0 X γ (M2 (WV ops.toList) st) a { w with drawn:=w.drawn+1 }:=(h.clear (WV ops.toList)).world (Keep.drew _ w);refine Wp hT hE hSp hB hnt hn9 h1 hf (fun n hn=>Vi hn st) (fun γ' a' w' h'=>hk γ' s' a' w' (h'.seq h2.symm) h3) ops.size (Array.replicate ops.size false) (by simp) ?_ ?_ (γ:=γ) ?_
  ·intro i o ho hL;have hi:i < ops.size:=by simpa using (BL.1 ho).1
   simp [Array.getD,hi] at hL
  ·refine CW (List.countP_le_length) ?_;simp
  ·rw [ZT (L':=fun _=>false) _ _ (fun j _ _=>by simp [Array.getD]),gD];exact h0
 ·cases h3
end
open Go Go.RowKit
section
variable {B:BT} {nt:Nat} {w0:World} {X:Zone} {γ:Nat→Value} {st st':St} {a:Act} {w:World} {P:Program} {E:Env}
theorem j9 (s:St):∀ (l:List Nat) (i:Nat),EQ .any (UG s l) i=s.get i∨EQ .any (UG s l) i = .any
 | [],i=>.inr rfl
 | j :: r,i=>by
  simp only [UG,Q5];by_cases e:j=i
  ·subst e; simp
  ·simp only [A9 e];exact j9 s r i
theorem Da (s:St):∀ (l:List Nat) (n:Nat) (ob:Ob),DI (eO s l) n=some ob→DI s.o n=some ob
 | [],n,ob,h=>by simp [eO,DI,EQ] at h
 | j :: r,n,ob,h=>by
  simp only [eO,D9] at h;split at h
  ·rename_i e;subst e;exact h
  ·exact Da s r n ob h
theorem Rel.prune (h:Rel B nt w0 X γ st a w) (kp:Option (List Nat)):Rel B nt w0 X γ (prune kp st) a w:=by
 cases kp with
 | none=>exact h
 | some l=>exact h.less (fun i=>j9 st l i) (fun _ _ h=>h)
theorem VRels.putOne {γ:Nat→Value} {o:Store} {w:World} {O:Nat→Prop} {v:V} {x:Value} (hv:VRel γ o w O v x):∀ {cs:List V} {xs:List Value} {c:Nat},VRels γ o w O cs xs→xs[c]?=some x→VRels γ o w O (GO cs c [v]) xs
 | [],[],_,_,h=>by simp at h
 | [],_ :: _,_,h,_=>by simp only [VRels] at h
 | _ :: _,[],_,h,_=>by simp only [VRels] at h
 | u :: cs,y :: xs,0,h,hx=>by
  simp only [VRels] at h;simp only [B2,AC] at hx;subst hx
  have:GO cs 0 []=cs:=by cases cs <;> rfl
  simp only [GO,this,VRels];exact ⟨hv,h.2⟩
 | u :: cs,y :: xs,c+1,h,hx=>by
  simp only [VRels] at h;simp only [CV] at hx;simp only [GO,VRels];exact ⟨h.1,VRels.putOne hv h.2 hx⟩
def Sq (γ:Nat→Value) (o:Store) (w:World) (a:Act) (x:Value):Loc→Prop
 | .tmp t=>x=a.tmps.getD t undef
 | .cell b c=>∃ cs bb T cc,DI o b=some (.box cs)∧γ b = .pointer (some ⟨bb,0,none⟩)∧w.heap[bb]?=some (.cells cc T (0,0))∧cc.toList[c]?=some x
def mT (γ:Nat→Value) (o:Store) (w:World) (a:Act) (x:Value):Loc→Prop
 | .tmp t=>x=a.tmps.getD t undef
 | .cell b c=>∀ cs,DI o b=some (.box cs)→∃ bb T cc,γ b = .pointer (some ⟨bb,0,none⟩)∧w.heap[bb]?=some (.cells cc T (0,0))∧cc.toList[c]?=some x
theorem Rel.at (h:Rel B nt w0 X γ st a w) (l:Loc) {v:V} (hv:pW st l=v) (hne:v≠.any):∃ x,VRel γ st.o w (DK X γ st.o) v x ∧
  Sq γ st.o w a x l:=by
 subst hv;cases l with
 | tmp t=>exact ⟨_,h.tm t,rfl⟩
 | cell b c=>
  simp only [pW] at hne ⊢;split at hne
  ·rename_i cs hob;have hor:=h.ob b _ hob;simp only [ObRel] at hor;obtain ⟨bb,cc,T,hg,hh,hr⟩:=hor;rw [fI] at hne ⊢;cases hc:cs[c]? with
   | none=>rw [hc] at hne; exact absurd rfl hne
   | some u=>
    obtain ⟨x,hx,hrx⟩:=hr.get hc;exact ⟨x,hrx,cs,bb,T,cc,hob,hg,hh,hx⟩
  ·exact absurd rfl hne
theorem Rel.putLoc {γ2:Nat→Value} {st2:St} (h2:Rel B nt w0 X γ2 st2 a w) (l:Loc) {v:V} {x:Value} (hv:VRel γ2 st2.o w (DK X γ2 st2.o) v x)
  (hx:mT γ2 st2.o w a x l):Rel B nt w0 X γ2 (putLoc st2 v l) a w:=by
 cases l with
 | tmp t=>
  simp only [mT] at hx;subst hx;refine ⟨h2.sz,h2.df,fun i=>?_,h2.ob,h2.lt,h2.dis,h2.keep,h2.nr,h2.fl,h2.pn⟩;simp only [FM.putLoc,St.get,Q5];split
  ·rename_i e;subst e;exact hv
  ·exact h2.tm i
 | cell b c=>
  simp only [FM.putLoc];split
  ·rename_i cs hob;simp only [mT] at hx;obtain ⟨bb,T,cc,hg,hh,hcx⟩:=hx cs hob;have hob':∀ m,DI ((b,some (.box (GO cs c [v]))) :: st2.o) m=if b=m then some (.box (GO cs c [v])) else DI st2.o m:=fun m=>D9 ..
   have hlen:(GO cs c [v]).length=cs.length:=by
    have key:∀ (cs:List V) (c:Nat),(GO cs c [v]).length=cs.length:=by
     intro cs
     induction cs with
     | nil=>intro c; cases c <;> rfl
     | cons u r ih=>
      intro c;cases c with
      | zero=>
       have:GO r 0 []=r:=by cases r <;> rfl
       simp [GO,this]
      | succ c=>simp [GO,ih]
    exact key cs c
   have hP:∀ b',E4 γ2 ((b,some (.box (GO cs c [v]))) :: st2.o) b'→E4 γ2 st2.o b':=by
    rintro b' ⟨m,ob,hm,hb⟩;rw [hob'] at hm;split at hm
    ·rename_i e;subst e;simp only [AC] at hm;subst hm;exact ⟨_,_,hob,hb⟩
    ·exact ⟨m,ob,hm,hb⟩
   have hO:∀ b',b' < w.heap.size→DK X γ2 ((b,some (.box (GO cs c [v]))) :: st2.o) b'→DK X γ2 st2.o b':=fun b' _ hb=>hb.imp_left (hP b')
   have hc:Cmp γ2 st2.o γ2 ((b,some (.box (GO cs c [v]))) :: st2.o):=by
    intro m ob' hm;rw [hob'] at hm;split at hm
    ·rename_i e;subst e;simp only [AC] at hm;subst hm;exact ⟨rfl,_,hob,hlen.symm⟩
    ·exact ⟨rfl,ob',hm,ob'.fits_refl⟩
   refine ⟨h2.sz,h2.df,fun i=>VRel.mono (Keep.refl _ w) hO (VRel.cmp hc (h2.tm i)),fun m ob hm=>?_,fun b' hb=>h2.lt b' (hP b' hb),fun m1 m2 ob1 ob2 b' hne h3 h4 hb1 hb2=>?_,h2.keep,fun b' hb=>h2.nr b' (hP b' hb),h2.fl,fun p hp ob hm=>?_⟩
   ·simp only at hm ⊢;rw [hob'] at hm;split at hm
    ·rename_i e;subst e;simp only [AC] at hm;subst hm;have hor:=h2.ob _ _ hob;simp only [ObRel] at hor ⊢;obtain ⟨bb',cc',T',hg',hh',hr'⟩:=hor;rw [hg] at hg';simp only [CT,AC,C5,B4] at hg';subst hg';rw [hh] at hh';simp only [AC,Obj.cells.injEq] at hh';obtain ⟨rfl,rfl,_⟩:=hh';exact ⟨bb,cc,T,hg,hh,VRels.mono (Keep.refl _ w) hO (VRels.cmp hc (VRels.putOne hv hr' hcx))⟩
    ·exact (h2.ob m ob hm).later (fun _ _=>rfl) (Keep.refl _ w) hO hc
   ·have key:∀ m ob,DI ((b,some (.box (GO cs c [v]))) :: st2.o) m=some ob→EU (γ2 m) ob b'→∃ ob0,DI st2.o m=some ob0∧EU (γ2 m) ob0 b':=by
     intro m ob hm hb;rw [hob'] at hm;split at hm
     ·rename_i e;subst e;simp only [AC] at hm;subst hm;exact ⟨_,hob,hb⟩
     ·exact ⟨ob,hm,hb⟩
    obtain ⟨o1,q1,q2⟩:=key m1 ob1 h3 hb1;obtain ⟨o2,q3,q4⟩:=key m2 ob2 h4 hb2;exact h2.dis m1 m2 o1 o2 b' hne q1 q3 q2 q4
   ·simp only at hm;rw [hob'] at hm;split at hm
    ·rename_i e;exact h2.pn p hp _ (e ▸ hob)
    ·exact h2.pn p hp ob hm
  ·exact h2
theorem Rel.canon1 (h:Rel B nt w0 X γ st a w) (c:Can):∃ γ',Rel B nt w0 X γ' (canon1 c st) a w:=by
 unfold FM.canon1;split
 ·exact ⟨γ,h⟩
 rename_i h9;have h9:=H5.1 h9;split
 ·rename_i hv;split
  ·rename_i hks;have hks':0 < c.ks.length:=AM hks;obtain ⟨x,hx,hat⟩:=h.at c.loc hv (by simp);simp only [VRel] at hx;have hadd:=h.add c.nm h9 (.row true c.e c.ag c.ks []) (.slice none 0 0) (fun b hb=>by simp [EU,CE] at hb) (fun O' hO'=>by
    simp only [ObRel];exact ⟨hks',by simp [strMax],[],⟨by simp,.inl ⟨rfl,rfl⟩⟩,fun i y hy=>by simp at hy⟩)
   have hadd:=hadd.shrink (F:=X.far) (fun b hb=>⟨hb,fun hb'=>by simp [EU,CE] at hb'⟩);refine ⟨_,hadd.putLoc c.loc (x:=x) ?_ ?_⟩
   ·simp only [VRel,F7,CO];subst hx;exact ⟨AW _,none,0,0,none,rfl,rfl,AW _,AW _,AW _,by simp [maxLen],.inl rfl,fun _=>rfl⟩
   ·revert hat;cases c.loc with
    | tmp t=>exact fun hat=>hat
    | cell b k=>
     intro hat;obtain ⟨cs,bb,T,cc,q1,q2,q3,q4⟩:=hat;intro cs2 hcs2;rw [F7] at hcs2;split at hcs2
     ·cases hcs2
     ·rename_i hne;exact ⟨bb,T,cc,by simp only [A9 hne]; exact q2,q3,q4⟩
  ·exact ⟨γ,h⟩
 ·rename_i n lo hi hv;split
  ·rename_i e ag ks l hn hlo hob;have hn':=H5.1 hn;obtain rfl:=FL.1 hlo;obtain ⟨x,hx,hat⟩:=h.at c.loc hv (by simp);simp only [VRel,hob] at hx;have hk:=h.kill n;have hor:=h.ob n _ hob;have hkb:∀ b,EU (γ n) (.row true e ag ks l) b→ES γ st.o n b:=fun b hb=>⟨_,hob,hb⟩
   have hadd:=hk.add c.nm h9 (.row true e ag ks l) (γ n) (fun b hb=>⟨.inr (hkb b hb),(h.lt b ⟨n,_,hob,hb⟩).2⟩) (fun O' hO'=>by
    simp only [ObRel] at hor ⊢;obtain ⟨k1,k2,xs,k3,k4⟩:=hor;refine ⟨k1,k2,xs,k3,fun i y hy=>Kd.RelAll.mono (Keep.refl _ w) (fun b _ hb=>?_) (fun _ _ hu=>hu) (k4 i y hy)⟩;rcases hO' b hb with h1 | h1 | h1
    ·obtain ⟨m,ob1,q1,q2⟩:=h1;simp only [St.up] at q1;rw [D9] at q1;split at q1
     ·cases q1
     ·exact .inl ⟨m,ob1,q1,q2⟩
    ·exact .inr h1
    ·obtain ⟨ob1,q1,q2⟩:=h1;exact .inl ⟨n,ob1,q1,q2⟩)
   have hadd:=hadd.shrink (F:=X.far) (fun b hb=>⟨.inl hb,fun hb'=>h.nr b ⟨n,_,hob,hb'⟩ hb⟩);refine ⟨_,hadd.putLoc c.loc (x:=x) ?_ ?_⟩
   ·simp only [VRel,F7,CO];exact hx
   ·revert hat;cases c.loc with
    | tmp t=>exact fun hat=>hat
    | cell b k=>
     intro hat;obtain ⟨cs,bb,T,cc,q1,q2,q3,q4⟩:=hat;intro cs2 hcs2;rw [F7] at hcs2;split at hcs2
     ·cases hcs2
     ·rename_i hne;exact ⟨bb,T,cc,by simp only [A9 hne]; exact q2,q3,q4⟩
  ·exact ⟨γ,h⟩
 ·exact ⟨γ,h⟩
theorem Rel.canons:∀ (l:List Can) {γ:Nat→Value} {st:St},Rel B nt w0 X γ st a w→∃ γ',Rel B nt w0 X γ' (canons l st) a w
 | [],γ,st,h=>⟨γ,h⟩
 | c :: r,γ,st,h=>by
  obtain ⟨γ1,h1⟩:=h.canon1 c;exact Rel.canons r h1
theorem Rel.restrict (h:Rel B nt w0 X γ st a w) (kp:KP):∃ γ',Rel B nt w0 X γ' (restrict kp st) a w:=by
 have h1:Rel B nt w0 X γ ⟨UG st kp.t,st.o⟩ a w:=h.less (fun i=>j9 st kp.t i) (fun _ _ h=>h);obtain ⟨γ',h2⟩:=h1.canons kp.c;exact ⟨γ',h2.less (fun i=>j9 _ kp.t i) (fun n ob=>Da _ kp.o n ob)⟩
variable (hT:TiOK P B E) (hE:∀ t,t∈E.eqs→EqSnd P t (E.tyd t).ks) (hSp:SpOK P B E w0 X) (hB:BldOK P B E) (hnt:E.nt=nt) (hn9:nt≤900000)
include hT hE hSp hB hnt hn9
theorem oP {Q:Exit→Act→World→Prop} {r:V × List (List V)} {ops:Array Oper} {k:St→DJ} :
  ∀ (l:List Oper) (i:Nat) {γ:Nat→Value} {st:St} {a:Act} {w:World},ops.toList.drop i=l→OS E ops.toList l st k=some r→Rel B nt w0 X γ st a w →
   (∀ γ' st' a' w',Rel B nt w0 X γ' st' a' w'→k st'=some r→Q .normal a' w')→wpOps P ops Q (List.range' i l.length) a w
 | [],i,γ,st,a,w,hl,he,h,hk=>by
  simp only [OS] at he;exact hk _ _ _ _ h he
 | o :: l,i,γ,st,a,w,hl,he,h,hk=>by
  have hoi:ops[i]?=some o:=by
   rw [← vaC]
   have:=congrArg (·[0]?) hl
   simpa using this
  have hl':ops.toList.drop (i+1)=l:=by
   have:=congrArg (AO 1) hl
   simpa using this
  simp only [AN,List.range'_succ,wpOps,hoi];simp only [OS] at he;have hd:PX E o.dst=true:=by
   cases hd:PX E o.dst with
   | true=>rfl
   | false=>rw [hd] at he; cases he
  rw [hd] at he;simp only at he;have go:∀ {st:St},Rel B nt w0 X γ st a w→C8 o (yielded ops a.tmps)=true→(ZR E st.o (opd st) o.dst o.op fun v us=>OS E ops.toList l ((st.ups us).put o.dst v) k)=some r →
    (if C8 o (yielded ops a.tmps)=true then o.wp P a w (wpOps P ops Q (List.range' (i+1) l.length)) Q∨(o.asks P a w∧LetsOut Q) else wpOps P ops Q (List.range' (i+1) l.length) (a.put o.dst undef) w):=by
   intro st h hw he;rw [BR hw];obtain ⟨v,us,h2,h1⟩:=zg1 hT hE hSp hB h o (fun d hdd e=>by subst e; rw [hdd] at hd; simp only [PX] at hd; have h8:900000+1≤E.nt:=AM hd; omega) he;refine .inl (h1 _ _ (fun γ' x w' h3 h4=>?_));exact oP l (i+1) hl' h2 (h3.put hnt hd h4) hk
  have no:∀ {st:St},Rel B nt w0 X γ st a w→C8 o (yielded ops a.tmps)=false→OS E ops.toList l (st.put o.dst (.tup [])) k=some r →
    (if C8 o (yielded ops a.tmps)=true then o.wp P a w (wpOps P ops Q (List.range' (i+1) l.length)) Q∨(o.asks P a w∧LetsOut Q) else wpOps P ops Q (List.range' (i+1) l.length) (a.put o.dst undef) w):=by
   intro st h hw he;rw [A9 (by rw [hw]; simp)];exact oP l (i+1) hl' he (h.put hnt hd (by simp only [VRel]; exact ⟨#[],rfl,by simp only [VRels]⟩)) hk
  split at he
  ·rename_i hg;exact go h (by simp [C8,hg]) he
  ·rename_i j b hg;split at he
   ·rename_i dj hdj;split at he
    ·rename_i c hc;have hy:yielded ops a.tmps j=some c:=by
      unfold yielded;rw [show ops[j]?=ops.toList[j]? by simp,d7 _ _ _ hdj];simp [vY h hc]
     have hlit:=h.lit hc;cases c with
     | true=>
      simp only at he;cases b with
      | true=>exact go (st:=st.put (some dj) (.bool true)) hlit (by simp [C8,hg,hy]) he
      | false=>exact no (st:=st.put (some dj) (.bool true)) hlit (by simp [C8,hg,hy]) he
     | false=>
      simp only at he;cases b with
      | false=>exact go (st:=st.put (some dj) (.bool false)) hlit (by simp [C8,hg,hy]) he
      | true=>exact no (st:=st.put (some dj) (.bool false)) hlit (by simp [C8,hg,hy]) he
    ·rename_i hc;have hy:yielded ops a.tmps j=none:=by
      unfold yielded;rw [show ops[j]?=ops.toList[j]? by simp,d7 _ _ _ hdj];rcases Oo h hc with h0 | h0 <;> simp [h0]
     exact no h (by simp [C8,hg,hy]) he
    ·cases he
   ·cases he
def oR:Out→Exit
 | .normal=>.normal
 | .exit i=>.exit i
 | .ret=>.ret
omit hT hE hSp hB hnt hn9 in
theorem Dq (J:Nat→Prop) (h:∃ n,J n):∃ n,J n∧∀ m,J m→n≤m:=by
 obtain ⟨n,hn⟩:=h
 induction n using Nat.strongRecOn with
 | _ n ih=>
  by_cases hm:∃ m,m < n∧J m
  ·obtain ⟨m,h1,h2⟩:=hm;exact ih m h1 h2
  ·exact ⟨n,hn,fun m hJ=>Nat.le_of_not_lt (fun hlt=>hm ⟨m,hlt,hJ⟩)⟩
theorem WW (hm:P.follows .mixedOrders=true) {r:V × List (List V)}:∀ (c:Code) {k:Out→St→DJ} {Q:Exit→Act→World→Prop} {γ:Nat→Value} {st:St} {a:Act} {w:World},PU E c st k=some r→Rel B nt w0 X γ st a w →
  (∀ o γ' st' a' w',Rel B nt w0 X γ' st' a' w'→k o st'=some r→Q (oR o) a' w')→c.wp P Q a w
 | .skip,k,Q,γ,st,a,w,he,h,hk=>wp_skip (hk .normal γ st a w h he)
 | .exit id,k,Q,γ,st,a,w,he,h,hk=>wp_exit (hk (.exit id) γ st a w h he)
 | .ret,k,Q,γ,st,a,w,he,h,hk=>wp_ret (hk .ret γ st a w h he)
 | .label _,k,Q,γ,st,a,w,he,h,hk=>by simp [PU,JO] at he
 | .goto _,k,Q,γ,st,a,w,he,h,hk=>by simp [PU,JO] at he
 | .scope _,k,Q,γ,st,a,w,he,h,hk=>by simp [PU,JO] at he
 | .rangeFunc _ _ _ _,k,Q,γ,st,a,w,he,h,hk=>by simp [PU,JO] at he
 | .region id ops draw,k,Q,γ,st,a,w,he,h,hk=>by
  simp only [PU,JO] at he;cases draw with
  | true=>
   simp only at he;exact Wz hT hE hSp hB hnt hn9 hm he h (fun γ' st' a' w' h' hk'=>hk .normal γ' _ a' w' (h'.prune _) hk')
  | false=>
   simp only at he;refine wp_region ?_;rw [show ops.size=ops.toList.length by simp,List.range_eq_range'];exact oP hT hE hSp hB hnt hn9 ops.toList 0 rfl he h (fun γ' st' a' w' h' hk'=>hk .normal γ' _ a' w' (h'.prune _) hk')
 | .seq x y,k,Q,γ,st,a,w,he,h,hk=>by
  simp only [PU,JO] at he;refine wp_seq (WW hm x he h (fun o γ' st' a' w' h' hk'=>?_));cases o with
  | normal=>exact WW hm y hk' h' hk
  | exit i=>exact hk (.exit i) γ' st' a' w' h' hk'
  | ret=>exact hk .ret γ' st' a' w' h' hk'
 | .cond c x y,k,Q,γ,st,a,w,he,h,hk=>by
  simp only [PU,JO] at he;split at he
  ·rename_i b hc;have hcr:=FJ h c;rw [hc] at hcr;simp only [VRel] at hcr;have hlit:Rel B nt w0 X γ (kI st c b) a w:=by
    unfold kI;split
    ·exact h.lit hc
    ·exact h
   cases b with
   | true=>exact wp_cond_true hcr (WW hm x he hlit hk)
   | false=>exact wp_cond_false hcr (WW hm y he hlit hk)
  ·cases he
 | .block id c,k,Q,γ,st,a,w,he,h,hk=>by
  simp only [PU,JO] at he;refine wp_block (WW hm c he h (fun o γ' st' a' w' h' hk'=>?_));cases o with
  | normal=>exact hk .normal γ' st' a' w' h' hk'
  | ret=>exact hk .ret γ' st' a' w' h' hk'
  | exit i=>
   simp only [oR,Exit.inBlock];simp only [DM] at hk';cases hb:BO i id with
   | true=>
    rw [hb] at hk';rw [BR (FL.1 hb)];exact hk .normal γ' st' a' w' h' hk'
   | false=>
    rw [hb] at hk';rw [A9 (H5.1 hb)];exact hk (.exit i) γ' st' a' w' h' hk'
 | .loop c,k,Q,γ,st,a,w,he,h,hk=>by
  simp only [PU,JO] at he;generalize EQ ⟨[],[],[]⟩ E.lp (Y1 c)=kp at he
  let J:Act→World→Nat→Prop:=fun a w n=>∃ γ st,Rel B nt w0 X γ st a w∧Q6 c (JO Q6 E c) kp n st k=some r
  obtain ⟨γr,hr⟩:=h.restrict kp;refine wp_loop (fun a w=>∃ n,J a w n) (fun a w=>(Classical.epsilon fun n=>J a w n∧∀ m,J a w m→n≤m)) ⟨_,γr,_,hr,he⟩ ?_;intro a w hI;have hleast:=Classical.epsilon_spec (Dq (J a w) hI);generalize (Classical.epsilon fun n=>J a w n∧∀ m,J a w m→n≤m)=n at hleast;obtain ⟨⟨γ1,st1,h1,he1⟩,_⟩:=hleast;cases n with
  | zero=>simp [Q6] at he1
  | succ n=>
   simp only [Q6] at he1;refine WW hm c he1 h1 (fun o γ' st' a' w' h' hk'=>?_);obtain ⟨γr,hr⟩:=h'.restrict kp;cases o with
   | normal=>
    simp only [oR,Exit.then];have hJ:J a' w' n:=⟨γr,_,hr,hk'⟩;refine ⟨⟨n,hJ⟩,?_⟩
    have:=Classical.epsilon_spec (Dq (J a' w') ⟨n,hJ⟩)
    exact Nat.lt_succ_of_le (this.2 n hJ)
   | exit i=>exact hk (.exit i) γr _ a' w' hr hk'
   | ret=>exact hk .ret γr _ a' w' hr hk'
end
open Go Go.RowKit
theorem qM (o:Store) (bs:List V) (tk:Option Kd) (v:V):HA (HR (EG o bs tk v))=true:=by
 cases v <;> simp only [EG] <;> repeat' split
 all_goals rfl
theorem p8 (o:Store) (bs:List V):∀ (l:List V) (ks:List Kd),(LR (fun k v=>HR (EG o bs k v)) ks l).all HA=true
 | [],ks=>by cases ks <;> rfl
 | v :: l,[]=>by simp [LR,qM,p8 o bs l []]
 | v :: l,k :: ks=>by simp [LR,qM,p8 o bs l ks]
theorem sC (o:Store) (ks:List Kd) (v:V):(match MM o ks v with | .agg l=>l.all HA | v=>HA v)=true∧∀ l,MM o ks v≠.tup l:=by
 by_cases hc:∃ l,v = .agg l
 ·obtain ⟨l,rfl⟩:=hc;simp only [MM];exact ⟨p8 o [] l ks,fun l' h=>by cases h⟩
 ·have h1:MM o ks v=HR (EG o [] ks.head? v):=by cases v <;> first | rfl | exact absurd ⟨_,rfl⟩ hc
  have h2:=qM o [] ks.head? v;rw [h1];cases hx:HR (EG o [] ks.head? v) <;> rw [hx] at h2 <;> simp only [HA] at h2 ⊢ <;> first | (cases h2; done) | (refine ⟨trivial,fun l h=>?_⟩; cases h)
theorem sE (o:Store) (ks:List (List Kd)) (v:V):LM (G7 o ks v)=true:=by
 by_cases hc:∃ l,v = .tup l
 ·obtain ⟨l,rfl⟩:=hc;simp only [G7,LM];have key:∀ (l:List V) (ks:List (List Kd)),((G7.go o ks l).all fun v=>match v with | .agg l=>l.all HA | v=>HA v)=true:=by
   intro l
   induction l with
   | nil=>intro ks; cases ks <;> rfl
   | cons v l ih=>
    intro ks;cases ks with
    | nil=>simp only [G7.go,vaM,AI]; exact ⟨(sC o [] v).1,ih []⟩
    | cons k ks=>simp only [G7.go,vaM,AI]; exact ⟨(sC o k v).1,ih ks⟩
  exact key l ks
 ·have h1:G7 o ks v=MM o (ks.headD []) v:=by cases v <;> first | rfl | exact absurd ⟨_,rfl⟩ hc
  rw [h1];obtain ⟨h2,h3⟩:=sC o (ks.headD []) v;cases hx:MM o (ks.headD []) v <;> rw [hx] at h2 <;> simp only [LM] at h2 ⊢ <;> first | exact h2 | exact absurd hx (h3 _)
theorem nN (o:Store) (all:List Nat) (cs:List V):(cs.map (E8 o all)).all RE=true:=by
 refine CS.2 (fun v hv=>?_);obtain ⟨u,_,rfl⟩:=CN.1 hv;rcases dT o all u with ⟨_,_,_,_,_,_,_,_,_,h1⟩ | ⟨h1,_⟩
 ·rw [h1]; rfl
 ·cases hcc:E8 o all u <;> first | rfl | (rw [hcc] at h1; cases h1)
section
variable {B:BT} {nt:Nat} {w0:World} {X:Zone} {γ:Nat→Value} {st st':St} {a:Act} {w:World} {P:Program} {E:Env}
theorem zfg (h:Rel B nt w0 X γ st a w) {n:Nat} {cs:List V} (ho:DI st.o n=some (.box cs)) {extra:List Nat} {m:Nat} (hm:m∈extra) {b:Nat} (hr:RowOf γ st.o m b) :
  ¬ (ES γ st.o n b∨∃ m∈GS st.o (ET cs++extra) cs,ES γ st.o m b):=by
 intro hLb;obtain ⟨e,ag,ks,l,h5,h6⟩:=hr;rcases hLb with ⟨ob,h7,h8⟩ | ⟨m2,h9,ob,h7,h8⟩
 ·have hne:n≠m:=by
   rintro rfl;rw [ho] at h5;cases h5
  exact h.dis n m ob _ b hne h7 h5 h8 h6
 ·by_cases hne:m2=m
  ·subst hne;obtain ⟨hi2,e2,ag2,ks2,l2,k1,k2,k3⟩:=SN.1 h9;rw [UL] at k3;have q1:=UM (XC k1);have q2:=UM hm;omega
  ·exact h.dis m2 m ob _ b hne h7 h5 h8 h6
theorem Zq {p:Value} (h:Rel ⟨B.T,B.e,some p,B.ng,B.F⟩ nt w0 X γ st a w) {v:V} {x:Value} (hv:VRel γ st.o w (DK X γ st.o) v x) {ks:List (List Kd)} {vs:List V} {r:V} {out:List (List V)} (he:jN st.o ks (FI vs) v=some (r,out)) {g0:Value} (hp:p=SA g0) :
  ∃ γ',Rel B.base 0 w0 X γ' ⟨[],GD r out⟩ JA w∧VRel γ' (GD r out) w (DK X γ' (GD r out)) (LV r) x∧KC vs r out g0 (γ' 900000):=by
 have hfar:∀ b,X.far b→DK X γ st.o b∧∀ b',b'=b→¬ E4 γ st.o b':=fun b hb=>⟨.inr hb,fun b' e hP=>h.nr b' hP (e ▸ hb)⟩
 have hbd:∀ {n:Nat} {cs:List V} (ho:DI st.o n=some (.box cs)) (extra:List Nat),∃ γb,Rel B.base 0 w0 X γb ⟨[],EM (cs.map (E8 st.o (ET cs++extra)))⟩ JA w∧γb 900000=γ n ∧
   ∀ b,E4 γb (EM (cs.map (E8 st.o (ET cs++extra)))) b→ES γ st.o n b∨∃ m∈GS st.o (ET cs++extra) cs,ES γ st.o m b:=by
  intro n cs ho extra;exact h.bound ho extra (w1:=w0) (own1:=X.own) (F:=X.far) h.keep (fun b hb=>⟨.inr hb,fun ⟨ob,h1,h2⟩=>h.nr b ⟨n,ob,h1,h2⟩ hb,fun m _ ⟨ob,h1,h2⟩=>h.nr b ⟨m,ob,h1,h2⟩ hb,fun m _ ⟨ob,h1,h2⟩=>h.nr b ⟨m,ob,h1,h2⟩ hb⟩)
   (fun b hb=>by
    rcases hb with ⟨ob,h1,h2⟩ | ⟨m,_,ob,h1,h2⟩
    ·exact (h.lt b ⟨n,ob,h1,h2⟩).2
    ·exact (h.lt b ⟨m,ob,h1,h2⟩).2)
 have hbP:∀ {n b:Nat} {hs:List Nat},(ES γ st.o n b∨∃ m∈hs,ES γ st.o m b)→E4 γ st.o b:=by
  rintro n b hs (⟨ob,h1,h2⟩ | ⟨m,_,ob,h1,h2⟩)
  ·exact ⟨n,ob,h1,h2⟩
  ·exact ⟨m,ob,h1,h2⟩
 unfold jN at he;split at he
 ·rename_i s0 hb;split at he
  ·rename_i s hob;simp only [AC,AQ] at he;obtain ⟨rfl,rfl⟩:=he;obtain ⟨hR,hP⟩:=h.boundB hob (w1:=w0) (own1:=X.own) (F:=X.far) h.keep (fun b hb=>⟨.inr hb,fun ⟨ob,h1,h2⟩=>h.nr b ⟨_,ob,h1,h2⟩ hb⟩) (fun b ⟨ob,h1,h2⟩=>(h.lt b ⟨_,ob,h1,h2⟩).2);have hmo:GD (G7 st.o ks v) [[.bld s]]=EM [.bld s]:=by cases G7 st.o ks v <;> rfl
   have hf:=sE st.o ks v;refine ⟨_,by rw [hmo]; exact hR,?_,?_⟩
   ·rw [hmo,UT hf];refine sF h hv (fun b _ hb=>?_) (fun m hm b hr hb=>?_) ks
    ·exact hb.imp_left (fun hb=>by obtain ⟨ob,h1,h2⟩:=hP b hb; exact ⟨_,ob,h1,h2⟩)
    ·obtain ⟨e,ag,ks',l,q1,q2⟩:=hr;rcases hb with hb | hb
     ·obtain ⟨ob,h1,h2⟩:=hP b hb;refine h.dis 900000 m ob _ b ?_ h1 q1 h2 q2;rintro rfl;rw [hob] at q1;cases q1
     ·exact h.nr b ⟨m,_,q1,q2⟩ hb
   ·simp only [KC,hb];exact ⟨hf,rfl,(h.pn p rfl _ hob).trans hp⟩
  ·cases he
 ·rename_i cs0 hnb hb;split at he
  ·rename_i cs hob;simp only [AC,AQ] at he;obtain ⟨rfl,rfl⟩:=he;obtain ⟨γb,hR,hg,hP⟩:=hbd hob (KA v);have hmo:GD (G7 st.o ks v) [cs.map (E8 st.o (ET cs++KA v))]=EM (cs.map (E8 st.o (ET cs++KA v))):=by cases G7 st.o ks v <;> rfl
   have hf:=sE st.o ks v;refine ⟨γb,by rw [hmo]; exact hR,?_,?_⟩
   ·rw [hmo,UT hf];refine sF h hv (fun b _ hb=>hb.imp_left (fun hb=>hbP (hP b hb))) (fun m hm b hr hb=>?_) ks;rcases hb with hb | hb
    ·exact zfg h hob hm hr (hP b hb)
    ·obtain ⟨e,ag,ks',l,q1,q2⟩:=hr;exact h.nr b ⟨m,_,q1,q2⟩ hb
   ·simp only [KC,hb];refine ⟨hf,?_,?_⟩
    ·unfold sJ;split
     ·exact absurd rfl (hnb _)
     ·exact absurd rfl (hnb _)
     ·exact nN _ _ _
    ·rw [hg];exact (h.pn p rfl _ hob).trans hp
  ·cases he
 ·rename_i hb;have fin9:∀ v,VRel γ st.o w (DK X γ st.o) v x→∃ γ',Rel B.base 0 w0 X γ' ⟨[],GD (G7 st.o ks v) []⟩ JA w∧VRel γ' (GD (G7 st.o ks v) []) w (DK X γ' (GD (G7 st.o ks v) [])) (LV (G7 st.o ks v)) x∧KC vs (G7 st.o ks v) [] g0 (γ' 900000):=by
   intro v hv;have hf:=sE st.o ks v;have hmo:GD (G7 st.o ks v) []=[]:=by
    cases hx:G7 st.o ks v <;> first | rfl | (rw [hx] at hf; simp only [LM,HA] at hf; cases hf)
   refine ⟨γ,?_,?_,?_⟩
   ·rw [hmo];refine ⟨rfl,rfl,fun i=>by simp only [St.get,EQ,VRel],fun n ob hn=>?_,?_,?_,h.keep,?_,h.fl,fun p hp=>by cases hp⟩
    ·simp only [DI,EQ] at hn; cases hn
    ·rintro b ⟨n,ob,hn,_⟩; simp only [DI,EQ] at hn; cases hn
    ·intro n m ob ob' b _ hn; simp only [DI,EQ] at hn; cases hn
    ·rintro b ⟨n,ob,hn,_⟩; simp only [DI,EQ] at hn; cases hn
   ·rw [hmo,UT hf];refine sF h hv (fun b _ hb=>?_) (fun m hm b hr hb=>?_) ks
    ·rcases hb with ⟨n,ob,hn,_⟩ | hb
     ·simp only [DI,EQ] at hn; cases hn
     ·exact .inr hb
    ·rcases hb with ⟨n,ob,hn,_⟩ | hb
     ·simp only [DI,EQ] at hn; cases hn
     ·obtain ⟨e,ag,ks',l,q1,q2⟩:=hr;exact h.nr b ⟨m,_,q1,q2⟩ hb
   ·simp only [KC,hb];cases hx:G7 st.o ks v <;> first | (rw [hx] at hf; exact hf) | (rw [hx] at hf; simp only [LM,HA] at hf; cases hf)
  split at he
  ·rename_i n i c;split at he
   ·rename_i cs hob hc;simp only [AC,AQ] at he;obtain ⟨rfl,rfl⟩:=he;obtain rfl:=FL.1 hc;obtain ⟨γb,hR,hg,hP⟩:=hbd hob [];refine ⟨γb,hR,?_,?_⟩
    ·simp only [VRel,hob] at hv;simp only [GD,LV,EC,VRel];rw [Y0 (nN _ _ _),D9,BR rfl,hg];exact ⟨trivial,hv.2⟩
    ·simp only [KC,hb,ZE];exact nN _ _ _
   ·cases he
  ·rename_i n lo hi;split at he
   ·rename_i e ag ks' l hob;split at he
    ·rename_i hlo;simp only [AC,AQ] at he;obtain ⟨rfl,rfl⟩:=he;obtain rfl:=FL.1 hlo;obtain ⟨hpr,hpb⟩:=rJ (γ':=fun m=>if m=900000 then x else γ m) (o':=[(900000,some (Ob.row true e ag ks' (l.take hi)))]) h hob hv;have hmo:GD (.vec e ag ks' (l.take hi)) []=[(900000,some (.row true e ag ks' (l.take hi)))]:=rfl;have obs:∀ m ob,DI [(900000,some (Ob.row true e ag ks' (l.take hi)))] m=some ob→m=900000∧ob = .row true e ag ks' (l.take hi):=fun m ob hn=>by
      rw [D9] at hn;split at hn
      ·rename_i h9;simp only [AC] at hn;exact ⟨h9.symm,hn.symm⟩
      ·simp [DI,EQ] at hn
     have ownP:∀ b,E4 (fun m=>if m=900000 then x else γ m) [(900000,some (Ob.row true e ag ks' (l.take hi)))] b→ES γ st.o n b:=by
      rintro b ⟨m,ob,hn,hb⟩;obtain ⟨rfl,rfl⟩:=obs m ob hn;exact hpb b (by simpa only [CO] using hb)
     have hlt:∀ b,ES γ st.o n b→E4 γ st.o b:=fun b ⟨ob,h1,h2⟩=>⟨n,ob,h1,h2⟩
     have hO:∀ b,b < w.heap.size→DK X (fun m=>if m=900000 then x else γ m) [(900000,some (Ob.row true e ag ks' (l.take hi)))] b→DK X γ st.o b:=fun b _ hb=>hb.imp_left (fun hb=>hlt b (ownP b hb))
     rw [hmo];refine ⟨fun m=>if m=900000 then x else γ m,⟨rfl,rfl,fun i=>by simp only [St.get,EQ,VRel],fun m ob hn=>?_,fun b hb=>h.lt b (hlt b (ownP b hb)),fun m m' ob ob' b hnm h1 h2=>?_,h.keep,fun b hb=>h.nr b (hlt b (ownP b hb)),h.fl,fun p hp=>by cases hp⟩,?_,?_⟩
     ·obtain ⟨rfl,rfl⟩:=obs m ob hn;simp only [ObRel,CO] at hpr ⊢;obtain ⟨k1,k2,xs,k3,k4⟩:=hpr;exact ⟨k1,k2,xs,k3,fun i y hy=>Kd.RelAll.mono (Keep.refl _ w) hO (fun _ _ hu=>hu) (k4 i y hy)⟩
     ·obtain ⟨rfl,rfl⟩:=obs m ob h1;obtain ⟨rfl,rfl⟩:=obs m' ob' h2;exact absurd rfl hnm
     ·simp only [LV,VRel,D9,CO];refine ⟨AW _,?_⟩;simp only [VRel,hob] at hv;obtain ⟨hl,p,len,cap,p',hgm,hxx,_,h22,h33,hm4,_,h5⟩:=hv;have htl:(l.take hi).length=hi:=by rw [A7,vaD hl]
      rw [htl];rw [vaj,vaj] at hxx;refine ⟨p',hi,cap,p',hxx,by rw [hxx]; simp,B7 _,AW _,by omega,hm4,.inl ?_,fun _=>rfl⟩;cases p' <;> simp [Addr.add]
     ·simp only [KC,hb,ZE]
    ·cases he
   ·simp only [AC,AQ] at he;obtain ⟨rfl,rfl⟩:=he;exact fin9 _ hv
  ·rename_i hnp;simp only [AC,AQ] at he;obtain ⟨rfl,rfl⟩:=he;exact fin9 _ hv
theorem Aq:∀ (vs:List V) (i j:Nat),EQ .any (d9 i vs) j=if i≤j∧j < i+vs.length then EC (vs.getD (j - i) .any) else .any
 | [],i,j=>by
  rw [A9 (by simp only [BB]; omega)];rfl
 | v :: r,i,j=>by
  simp only [d9,Q5,Aq r (i+1) j,AN];by_cases e:i=j
  ·subst e;simp
  ·rw [A9 e];by_cases h:i+1≤j∧j < i+1+r.length
   ·rw [BR h,BR (by omega),show j - i=(j - (i+1))+1 by omega];simp
   ·rw [A9 h,A9 (by omega)]
theorem sD (hT:TiOK P B E) {w:World}:∀ {rs:List ResultVar} {l:List V},UR E st rs=some l→Rel B nt w0 X γ st a w →
  ∃ xs:List Value,(rs.mapM fun r=>match r with | .tmp t=>pure (a.tmps.getD t undef) | .cell ad t=>do loadVar t (← asAddr (a.tmps.getD ad undef)):Sem (List Value)).run P w = .ok xs w∧VRels γ st.o w (DK X γ st.o) l xs
 | [],l,h,hR=>by
  simp only [UR,AC] at h;subst h;exact ⟨[],by simp,by simp only [VRels]⟩
 | .tmp t :: r,l,h,hR=>by
  simp only [UR] at h;split at h
  ·rename_i l' hl';simp only [AC] at h;subst h;obtain ⟨xs,h1,h2⟩:=sD hT hl' hR;refine ⟨a.tmps.getD t undef :: xs,?_,?_⟩
   ·simp only [List.mapM_cons,CA,CB,BP,h1]
   ·simp only [VRels];exact ⟨hR.tm t,h2⟩
  ·cases h
 | .cell ad t :: r,l,h,hR=>by
  simp only [UR] at h;split at h
  ·rename_i n i c hop;split at h
   ·rename_i cs hob;split at h
    ·rename_i v l' hv hl';simp only [AC] at h;subst h;obtain ⟨xs,h1,h2⟩:=sD hT hl' hR;have hx:=hR.tm ad;rw [hop] at hx;simp only [VRel,hob] at hx;obtain ⟨_,b,hg,hx⟩:=hx;have hor:=hR.ob n _ hob;simp only [ObRel] at hor;obtain ⟨b',cs',T,hg',hh,hr⟩:=hor;rw [hg] at hg';simp only [CT,AC,C5,B4] at hg';subst hg';obtain ⟨y,hy,hr'⟩:=Dj (hT.known (Di hv)) hv hh hr;refine ⟨y :: xs,?_,?_⟩
     ·have hy':(do loadVar t (← asAddr (a.tmps.getD ad undef)):Sem Value).run P w = .ok y w:=by
       rw [hx];exact hy
      simp only [CA] at hy';simp only [List.mapM_cons,CA,hy',CB,BP,h1]
     ·simp only [VRels];exact ⟨hr',h2⟩
    ·cases h
   ·cases h
  ·cases h
theorem Xa {f:FuncId} {fn:Func} {code:Code} (hf:P.funcs[f]?=some fn) (hn:(fn.name == "runtime.NumGoroutine")=false) (hb:fn.body=some code) (hnt:E.nt=fn.ntmps) (hn9:B6 fn.ntmps 900000=true) {rs:List ResultVar} (hrs:fn.results.toList=rs)
  (rks:List (List Kd)) (hm:P.follows .mixedOrders=true) (hT:TiOK P B E) (hE:∀ t,t∈E.eqs→EqSnd P t (E.tyd t).ks) (hSp:∀ f sp,lk E.sp f=some sp→Snd P B f (fun vs=>(sp vs).get)) (hIp:∀ f p,lk E.ip f=some p→RV P f p) (hB:BldOK P B E):Snd P B f (DV E code rs rks):=by
 intro w X γ vs xs r out hsp hgl hxo hR hV;unfold DV at hsp;split at hsp
 case h_2=>cases hsp
 rename_i hle;have hle':=AM hle;have hlen:xs.length=vs.length:=by rw [← hV.length,BQ]
 refine Does.enter hf hn (by rw [hb]; rfl) (calls_of_wp hf hb ?_)
 let B':BT:=⟨B.T,B.e,some (SA (γ 900000)),B.ng,B.F⟩
 have hT':TiOK P B' E:=fun t x ht=>⟨(hT t x ht).info,(hT t x ht).ks,(hT t x ht).by1,(hT t x ht).one,(hT t x ht).und⟩
 have hSp':SpOK P B' E w X:=⟨⟨hgl,hxo⟩,fun f sp hfs=>hSp f sp hfs,hIp⟩;have hB':BldOK P B' E:=hB;have hstart:Rel B' fn.ntmps w X γ ⟨d9 0 vs,H1 vs⟩ { tmps:=xs.toArray++Array.replicate (fn.ntmps - xs.toArray.size) undef,defers:=[] } w:=by
  refine ⟨?_,rfl,fun i=>?_,fun n ob hnob=>?_,hR.lt,hR.dis,hR.keep,hR.nr,hR.fl,fun p hp ob _=>?_⟩
  ·simp;omega
  ·simp only [St.get,Aq];split
   ·rename_i hi;have hi':i < vs.length:=by omega
    have h1:(vs.map EC)[i]?=some (EC vs[i]):=by simp [hi']
    obtain ⟨x,hx,hvx⟩:=hV.get h1;have h2:vs.getD (i - 0) .any=vs[i]:=by simp [hi']
    rw [h2];have h3:(xs.toArray++Array.replicate (fn.ntmps - xs.toArray.size) undef).getD i undef=x:=by
     rw [vbl,Array.getElem?_append_left (by simp; omega)];simp [hx]
    simp only [h3];exact hvx
   ·simp only [VRel]
  ·have:=hR.ob n ob hnob
   cases ob with
   | box l=>simpa only [ObRel] using this
   | row own e ag ks l=>cases own <;> simpa only [ObRel] using this
   | bld s=>simpa only [ObRel,BT.base] using this
   | map _ _=>simpa only [ObRel,BT.base] using this
   | iter _ _ _=>simpa only [ObRel,BT.base] using this
  ·simp only [B',AC] at hp;exact hp
 refine WW hT' hE hSp' hB' hnt (AM hn9) hm code hsp hstart (fun o γ' st' a' w' h' hk'=>?_);have fin:∀ l,UR E st' rs=some l→jN st'.o rks (FI vs) (ZP l)=some (r,out)→bodyPost P fn (fun e w'=>∃ x,e = .returned x∧∃ γ',Rel B.base 0 w X γ' ⟨[],GD r out⟩ JA w'∧VRel γ' (GD r out) w' (DK X γ' (GD r out)) (LV r) x∧KC vs r out (γ 900000) (γ' 900000)) .ret a' w':=by
  intro l hl he;obtain ⟨ys,hy1,hy2⟩:=sD (P:=P) hT' hl h';have hval:(results fn a'.tmps).run P w' = .ok (if h:ys.toArray.size=1 then ys.toArray[0] else .tuple ys.toArray) w':=by
   unfold results;rw [show fn.results=rs.toArray by rw [← hrs]];rw [Array.mapM_eq_mapM_toList];simp only [CA,Sem.run_map]
   erw [hy1]
   rfl
  have hrel:VRel γ' st'.o w' (DK X γ' st'.o) (ZP l) (if h:ys.toArray.size=1 then ys.toArray[0] else .tuple ys.toArray):=by
   match l,ys,hy2 with
   | [],[],_=>simp only [ZP,VRel]; exact ⟨#[],by simp,by simp only [VRels]⟩
   | [v],[y],h2=>simp only [VRels] at h2; simpa [ZP] using h2.1
   | v :: v' :: l,y :: y' :: ys,h2=>simp only [ZP,VRel]; exact ⟨(y :: y' :: ys).toArray,by simp,by simpa using h2⟩
  obtain ⟨γ2,q1,q2,q3⟩:=Zq (B:=B) h' hrel he rfl;exact ⟨h'.df,_,hval,_,rfl,γ2,q1,q2,q3⟩
 cases o with
 | exit i=>simp [DP] at hk'
 | normal=>
  simp only [DP] at hk';split at hk'
  ·rename_i l hl;exact fin l hl hk'
  ·cases hk'
 | ret=>
  simp only [DP] at hk';split at hk'
  ·rename_i l hl;exact fin l hl hk'
  ·cases hk'
end
open Go Go.RowKit
def zB:V→Value→Bool
 | .int k n,.int k' n'=>k==k'&&(n==n'&&Y4 k n)
 | .bool b,.bool c=>b==c
 | .str s,.string s'=>s.size==0&&s'.size==0
 | .zs,.slice none 0 0=>true
 | .nilp,.pointer none=>true
 | .err true,.nilIface=>true
 | .any,_=>true
 | _,_=>false
def aF:List V→List Value→Bool
 | [],[]=>true
 | v :: vs,x :: xs=>zB v x&&aF vs xs
 | _,_=>false
def uT:Kd→Value→Bool
 | .int k,.int k' n=>k==k'&&n==0
 | .bool,.bool b=>!b
 | .str,.string s=>s.size==0
 | _,_=>false
theorem zjW {k:Kd} {z:Value} (h:uT k z=true):VD k z:=by
 cases k <;> cases z <;> simp only [uT] at h <;> try (cases h; done)
 ·simp only [AI,B8] at h;obtain ⟨rfl,rfl⟩:=h;rfl
 ·simp only [B5] at h;subst h;rfl
 ·rename_i s;have e:s=CG:=by
   obtain ⟨⟨l⟩⟩:=s;cases l with
   | nil=>rfl
   | cons a l=>simp [AG] at h
  subst e;rfl
def dB (P:Program) (T t:Nat) (ks:List Kd):TD→TypeDesc→Bool
 | .slice e,.slice e'=>e==e'
 | .struct fs,.struct fields=>fs==fields.toList.map (fun f=>(f.offset,f.type))&&fields.toList.all (fun f=>(P.info? f.type).isSome)
 | .array n e,.array n' e'=>n==n'&&e==e'
 | .ptr e,.pointer e'=>e==e'
 | .bld,_=>t==T
 | .map e k,.map kt e'=>e==e'&&((match P.underlying kt with | some (.int .i64)=>true | _=>false)&&(match P.info? e with | some i=>(match i.zero with | some z=>uT k z | none=>false) | none=>false))
 | .iface,.interface _=>true
 | .leaf,d=>match ks with
  | [.int k]=>(match d with | .int k'=>k==k' | _=>false)
  | [.str]=>(match d with | .string=>true | _=>false)
  | [.bool]=>(match d with | .bool=>true | _=>false)
  | _=>true
 | _,_=>false
def mC (P:Program) (T t:Nat) (x:TI):Bool:=
 match P.info? t,P.underlying t with
 | some i,some d=>match i.zero with
  | some z=>i.size==x.size&&(i.bytes==x.bytes&&(z.cells.size==x.size&&(aF x.zero z.cells.toList&&(x.ks.length==x.size&&(B6 1 x.bytes&&((x.agg||x.size==1)&&(d.isRow==x.agg&&dB P T t x.ks x.d d)))))))
  | none=>false
 | _,_=>false
def gO (P:Program) (T:Nat):List (Nat × TI)→Bool
 | []=>true
 | (t,x) :: r=>mC P T t x&&gO P T r
theorem zjV {γ:Nat→Value} {o:Store} {w:World} {O:Nat→Prop} {v:V} {x:Value} (h:zB v x=true):VRel γ o w O v x:=by
 unfold zB at h;split at h
 ·simp only [AI,B8,Y4,AP] at h;obtain ⟨rfl,rfl,h1,h2⟩:=h;simp only [VRel];exact ⟨trivial,h1,h2⟩
 ·simp only [B8] at h;subst h;simp only [VRel]
 ·rename_i s s';simp only [AI,B8] at h;have e:∀ s:BA,s.size=0→s=CG:=fun s hs=>by
   obtain ⟨⟨l⟩⟩:=s;cases l with
   | nil=>rfl
   | cons a l=>simp [AG] at hs
  simp only [VRel];rw [e s h.1,e s' h.2];exact ⟨rfl,by simp [ByteArray.size_empty]⟩
 ·simp only [VRel]
 ·simp only [VRel]
 ·simp only [VRel]
 ·simp only [VRel]
 ·cases h
theorem Pl {γ:Nat→Value} {o:Store} {w:World} {O:Nat→Prop}:∀ {l:List V} {xs:List Value},aF l xs=true→VRels γ o w O l xs
 | [],[],_=>by simp only [VRels]
 | [],_ :: _,h=>by simp [aF] at h
 | _ :: _,[],h=>by simp [aF] at h
 | v :: vs,x :: xs,h=>by
  simp only [aF,AI] at h;simp only [VRels];exact ⟨zjV h.1,Pl h.2⟩
theorem zjc {P:Program} {B:BT} {t:Nat} {x:TI} (h:mC P B.T t x=true):TISnd P B t x:=by
 unfold mC at h;split at h
 ·rename_i i d hi hd;split at h
  ·rename_i z hz;simp only [AI,B8,vaz] at h;obtain ⟨h1,h2,h3,h4,h5,h6,h7,h8,h9⟩:=h;refine ⟨⟨i,z,hi,h1,h2,hz,h3,fun γ o w O=>Pl h4⟩,h5,AM h6,fun ha=>by rw [ha] at h7; simpa using h7,⟨d,hd,h8,?_⟩⟩;cases hx:x.d with
   | slice e=>rw [hx] at h9; cases d <;> simp only [dB] at h9 <;> first | (cases h9; done) | (simp only [B8] at h9; subst h9; rfl)
   | struct fs=>
    rw [hx] at h9;cases d <;> simp only [dB] at h9 <;> first | (cases h9; done) | skip
    rename_i fields;simp only [AI,B8,CS] at h9;exact ⟨fields,rfl,h9.1,h9.2⟩
   | array n e=>
    rw [hx] at h9;cases d <;> simp only [dB] at h9 <;> first | (cases h9; done) | skip
    simp only [AI,B8] at h9;obtain ⟨rfl,rfl⟩:=h9;rfl
   | ptr e=>rw [hx] at h9; cases d <;> simp only [dB] at h9 <;> first | (cases h9; done) | (simp only [B8] at h9; subst h9; rfl)
   | bld=>rw [hx] at h9; simp only [dB,B8] at h9; exact h9
   | map e k=>
    rw [hx] at h9;cases d <;> simp only [dB] at h9 <;> first | (cases h9; done) | skip
    rename_i kt e';simp only [AI,B8] at h9;obtain ⟨rfl,h10,h11⟩:=h9;split at h10
    ·rename_i hu;split at h11
     ·rename_i i' hi';split at h11
      ·rename_i z' hz';exact ⟨kt,i',z',rfl,hu,hi',hz',zjW h11⟩
      ·cases h11
     ·cases h11
    ·cases h10
   | iface=>rw [hx] at h9; cases d <;> simp only [dB] at h9 <;> first | (cases h9; done) | exact ⟨_,rfl⟩
   | leaf=>
    rw [hx] at h9;refine ⟨fun k hk=>?_,fun hk=>?_,fun hk=>?_⟩ <;> rw [hk] at h9 <;> cases d <;> simp only [dB] at h9 <;> first | (cases h9; done) | (simp only [B8] at h9; subst h9; rfl) | rfl
  ·cases h
 ·cases h
theorem Nw {P:Program} {B:BT} {E:Env} {ti:List (Nat × TI)} (he:E.ti=ti) (h:gO P B.T ti=true):TiOK P B E:=by
 subst he;have key:∀ (l:List (Nat × TI)),gO P B.T l=true→∀ t x,lk l t=some x→mC P B.T t x=true:=by
  intro l
  induction l with
  | nil=>intro _ t x hx; simp [lk] at hx
  | cons p r ih=>
   obtain ⟨j,y⟩:=p;intro hl t x hx;simp only [gO,AI] at hl;simp only [lk] at hx;split at hx
   ·rename_i hb;simp only [AC] at hx;subst hx;rw [← FL.1 hb];exact hl.1
   ·exact ih hl.2 t x hx
 exact fun t x ht=>zjc (key E.ti h t x ht)
def ZV (P:Program) (t w:Nat):Bool:=match P.info? t with | some _=>P.cellsOf t==w | none=>false
def XO (ks:List Kd):Nat→List Kd
 | 0=>[]
 | n+1=>ks++XO ks n
def eB (P:Program) (g:Nat→Option (List Kd)):List Field→Nat→Option (List Kd)
 | [],_=>some []
 | f :: r,o=>match g f.type with
  | some ks=>match f.name != "_"&&(f.offset==o&&ZV P f.type ks.length) with
   | true=>match eB P g r (o+ks.length) with
    | some ks'=>some (ks++ks')
    | none=>none
   | false=>none
  | none=>none
def SM (P:Program):Nat→Nat→Option (List Kd)
 | 0,_=>none
 | d+1,t=>match P.underlying t with
  | some (.int k)=>some [.int k]
  | some .bool=>some [.bool]
  | some (.struct fs)=>match P.stoodInHeld t with
   | true=>none
   | false=>eB P (SM P d) fs.toList 0
  | some (.array n e)=>match SM P d e with
   | some ks=>match ZV P e ks.length with
    | true=>some (XO ks n)
    | false=>none
   | none=>none
  | _=>none
def jM (P:Program) (ti:List (Nat × TI)):List Nat→Bool
 | []=>true
 | t :: r=>(!(P.eqGuardType P.depth t))&&((match P.underlying t with | some d=>d.isRow | none=>false)&&(match SM P 10 t with | some ks=>H7.kdsEq (EQ TI.none ti t).ks ks | none=>false))&&jM P ti r
theorem eH:∀ {ks:List Kd} {l:List V},JH ks l=true→l.length=ks.length
 | [],[],_=>rfl
 | [],_ :: _,h=>by simp [JH] at h
 | k :: _,[],h=>by cases k <;> simp [JH] at h
 | k :: ks,v :: l,h=>by
  cases k <;> cases v <;> simp only [JH] at h <;> try (cases h; done)
  ·split at h
   ·simp [eH h]
   ·cases h
  ·simp [eH h]
theorem j6:∀ {ks ks':List Kd} {l:List V},JH (ks++ks') l=true→JH ks (l.take ks.length)=true∧JH ks' (l.drop ks.length)=true
 | [],_,_,h=>⟨rfl,h⟩
 | k :: ks,ks',[],h=>by cases k <;> simp [JH] at h
 | k :: ks,ks',v :: l,h=>by
  cases k <;> cases v <;> simp only [C3,JH] at h <;> try (cases h; done)
  ·split at h
   ·rename_i hk;obtain ⟨h1,h2⟩:=j6 h;simp only [AN,List.take_succ_cons,List.drop_succ_cons,JH,hk];exact ⟨h1,h2⟩
   ·cases h
  ·obtain ⟨h1,h2⟩:=j6 h;simp only [AN,List.take_succ_cons,List.drop_succ_cons,JH];exact ⟨h1,h2⟩
theorem jL:∀ {a a':List V} {b b':List V} {c:Bool},a.length=a'.length→JN (a++b) (a'++b')=some c→∃ c1 c2,JN a a'=some c1∧JN b b'=some c2∧c=(c1&&c2)
 | [],[],b,b',c,_,h=>⟨true,c,rfl,h,by simp⟩
 | [],_ :: _,_,_,_,hl,_=>by simp at hl
 | _ :: _,[],_,_,_,hl,_=>by simp at hl
 | x :: a,y :: a',b,b',c,hl,h=>by
  have hl':a.length=a'.length:=by simpa using hl
  cases x <;> cases y <;> simp only [C3,JN] at h ⊢ <;> try (cases h; done)
  ·split at h
   ·rename_i hk;split at h
    ·rename_i c0 h0;simp only [AC] at h;obtain ⟨c1,c2,h1,h2,h3⟩:=jL hl' h0;rw [h1];exact ⟨_,c2,rfl,h2,by rw [← h,h3,Bool.and_assoc]⟩
    ·cases h
   ·cases h
  ·split at h
   ·rename_i c0 h0;simp only [AC] at h;obtain ⟨c1,c2,h1,h2,h3⟩:=jL hl' h0;rw [h1];exact ⟨_,c2,rfl,h2,by rw [← h,h3,Bool.and_assoc]⟩
   ·cases h
theorem jK:∀ {a a':List V} {c:Bool},JN a a'=some c→a.length=a'.length
 | [],[],_,_=>rfl
 | [],_ :: _,_,h=>by simp [JN] at h
 | x :: _,[],_,h=>by cases x <;> simp [JN] at h
 | x :: a,y :: a',c,h=>by
  cases x <;> cases y <;> simp only [JN] at h <;> try (cases h; done)
  ·split at h
   ·split at h
    ·rename_i h0;simp [jK h0]
    ·cases h
   ·cases h
  ·split at h
   ·rename_i h0;simp [jK h0]
   ·cases h
section
variable {P:Program} {γ:Nat→Value} {o:Store} {w:World} {O:Nat→Prop}
def TJ (P:Program) (γ:Nat→Value) (o:Store) (w:World) (O:Nat→Prop) (t:Nat) (l:List V) (x:Value):Prop:=
 match P.underlying t with
 | some d=>match d.isRow with
  | true=>∃ xs,x = .agg xs∧VRels γ o w O l xs.toList
  | false=>∃ v,l=[v]∧VRel γ o w O v x
 | none=>False
theorem Au {d t:Nat} {ks:List Kd} (h:SM P d t=some ks):∃ k,P.underlying t=some k∧(k.isRow=false→ks.length=1):=by
 cases d with
 | zero=>simp [SM] at h
 | succ d=>
  simp only [SM] at h;split at h
  ·rename_i hu; simp only [AC] at h; exact ⟨_,hu,fun _=>by rw [← h]; rfl⟩
  ·rename_i hu; simp only [AC] at h; exact ⟨_,hu,fun _=>by rw [← h]; rfl⟩
  ·rename_i hu; exact ⟨_,hu,fun h=>by simp [vbk] at h⟩
  ·rename_i hu; exact ⟨_,hu,fun h=>by simp [vbk] at h⟩
  ·cases h
theorem iT {t n off:Nat} {l:List V} {xs:Array Value} (hu:∃ k,P.underlying t=some k∧(k.isRow=false→n=1)) (hs:ZV P t n=true) (hr:VRels γ o w O l xs.toList) (hl:off+n≤l.length) (W:World) :
  ∃ y,(part t xs off).run P W = .ok y W∧TJ P γ o w O t ((l.drop off).take n) y:=by
 obtain ⟨k,hu,hn⟩:=hu;unfold ZV at hs;split at hs
 ·rename_i i hi;simp only [B8] at hs;cases hrow:k.isRow with
  | true=>
   refine ⟨.agg (xs.extract off (off+n)),?_,?_⟩
   ·cases k <;> simp [vbk] at hrow <;> simp [part,isAgg,BD hu,run_sizeOf W hi,hs]
   ·unfold TJ;rw [hu];simp only [hrow];refine ⟨_,rfl,?_⟩
    have:(xs.extract off (off+n)).toList=(xs.toList.drop off).take n:=by
     simp [List.extract_eq_take_drop]
    rw [this];exact (hr.drop off).take n
  | false=>
   obtain rfl:=hn hrow;obtain ⟨v,hv⟩:∃ v,l[off]?=some v:=⟨l[off]'(by omega),A5 _⟩;obtain ⟨y,hy,hyr⟩:=hr.get hv;have hy':xs[off]?=some y:=by simpa using hy
   refine ⟨y,?_,?_⟩
   ·cases k <;> simp [vbk] at hrow <;> simp [part,isAgg,BD hu,hy']
   ·unfold TJ;rw [hu];simp only [hrow];refine ⟨v,?_,hyr⟩;rw [List.take_one,List.head?_drop,hv];rfl
 ·cases hs
def mS (P:Program) (γ:Nat→Value) (o:Store) (w:World) (O:Nat→Prop) (dd t:Nat) (ks:List Kd):Prop:=∀ (W:World) (x y:Value) (l l':List V) (c:Bool),JH ks l=true→TJ P γ o w O t l x→TJ P γ o w O t l' y→JN l l'=some c→(vbm dd t x y).run P W = .ok c W
theorem mA (l:List V) (off n:Nat):l.drop off=(l.drop off).take n++l.drop (off+n):=by
 rw [← List.drop_drop]; exact (List.take_append_drop n (l.drop off)).symm
theorem Ar {dd:Nat} {g:Nat→Option (List Kd)} (hg:∀ t ks,g t=some ks→mS P γ o w O dd t ks∧∃ k,P.underlying t=some k∧(k.isRow=false→ks.length=1)) {xs ys:Array Value} {l l':List V} (hx:VRels γ o w O l xs.toList) (hy:VRels γ o w O l' ys.toList) (hll:l.length=l'.length) (W:World) :
  ∀ (fs:List Field) (off:Nat) {ks:List Kd} {c:Bool},off≤l.length→eB P g fs off=some ks→JH ks (l.drop off)=true→JN (l.drop off) (l'.drop off)=some c→(Op.eqFields dd xs ys fs).run P W = .ok c W
 | [],off,ks,c,hoff,hf,hk,he=>by
  simp only [eB,AC] at hf;subst hf;have h0:=eH hk;have h1:l.drop off=[]:=List.length_eq_zero_iff.1 h0;have h2:l'.drop off=[]:=by
   have:=jK he
   rw [h1] at this;exact List.length_eq_zero_iff.1 this.symm
  rw [h1,h2] at he;simp only [JN,AC] at he;subst he;simp [Op.eqFields]
 | f :: r,off,ks,c,hoff,hf,hk,he=>by
  simp only [eB] at hf;split at hf
  ·rename_i ks1 hw;split at hf
   ·rename_i hb;split at hf
    ·rename_i ks2 hf2;simp only [AC] at hf;subst hf;simp only [AI,B8,bne_iff_ne,ne_eq] at hb;obtain ⟨hn,ho,hs⟩:=hb;obtain ⟨hrun,hu⟩:=hg _ _ hw;obtain ⟨hk1,hk2⟩:=j6 hk;rw [List.drop_drop] at hk2;have hkl:=eH hk;simp only [CY,AU] at hkl;have hle:off+ks1.length≤l.length:=by omega
     rw [mA l off ks1.length,mA l' off ks1.length] at he;obtain ⟨c1,c2,h1,h2,h3⟩:=jL (by simp; omega) he;obtain ⟨a,ha,hac⟩:=iT (off:=off) hu hs hx hle W;obtain ⟨b,hb,hbc⟩:=iT (off:=off) hu hs hy (by omega) W;have he1:=hrun W a b _ _ c1 hk1 hac hbc h1;have ih:=Ar hg hx hy hll W r (off+ks1.length) hle hf2 hk2 h2;simp only [Op.eqFields,hn,ne_eq,not_false_eq_true,CO,CA,ho,ha,hb,he1,BP];subst h3;cases c1
     ·simp
     ·simpa using ih
    ·cases hf
   ·cases hf
  ·cases hf
theorem As {dd e:Nat} {ks:List Kd} (hrun:mS P γ o w O dd e ks) (hu:∃ k,P.underlying e=some k∧(k.isRow=false→ks.length=1)) (hs:ZV P e ks.length=true) {xs ys:Array Value} {l l':List V} (hx:VRels γ o w O l xs.toList) (hy:VRels γ o w O l' ys.toList) (hll:l.length=l'.length) (W:World) :
  ∀ (m i:Nat) {c:Bool},i*ks.length+m*ks.length=l.length→JH (XO ks m) (l.drop (i*ks.length))=true→JN (l.drop (i*ks.length)) (l'.drop (i*ks.length))=some c→(Op.eqItems dd e ks.length xs ys (List.range' i m)).run P W = .ok c W
 | 0,i,c,hl,hk,he=>by
  rw [C2 (by omega),C2 (by omega)] at he;simp only [JN,AC] at he;subst he;simp [Op.eqItems]
 | m+1,i,c,hl,hk,he=>by
  rw [vao,vbp] at hl;obtain ⟨hk1,hk2⟩:=j6 (ks:=ks) (ks':=XO ks m) hk;rw [List.drop_drop] at hk2;rw [mA l (i*ks.length) ks.length,mA l' (i*ks.length) ks.length] at he;obtain ⟨c1,c2,h1,h2,h3⟩:=jL (by simp; omega) he;obtain ⟨a,ha,hac⟩:=iT (off:=i*ks.length) hu hs hx (by omega) W;obtain ⟨b,hb,hbc⟩:=iT (off:=i*ks.length) hu hs hy (by omega) W;have he1:=hrun W a b _ _ c1 hk1 hac hbc h1;have ih:=As hrun hu hs hx hy hll W m (i+1) (by rw [vao,vbp]; omega) (by rw [vao,vbp]; exact hk2) (by rw [vao,vbp]; exact h2);simp only [List.range'_succ,Op.eqItems,CA,ha,hb,he1,BP];subst h3;cases c1
  ·simp
  ·simpa using ih
theorem Ik (ks:List Kd):∀ n,(XO ks n).length=n*ks.length
 | 0=>by simp [XO]
 | n+1=>by simp only [XO,AU,Ik ks n,vao,vbp]; omega
theorem oN (dd:Nat):∀ (d t:Nat) (ks:List Kd),SM P d t=some ks→mS P γ o w O (dd+d) t ks
 | 0,t,ks,h=>by simp [SM] at h
 | d+1,t,ks,h=>by
  intro W x y l l' c hk hx hy he;have hll:=jK he;simp only [SM] at h;unfold TJ at hx hy;split at h
  ·rename_i k hu;simp only [AC] at h;subst h;rw [hu] at hx hy;simp only at hx hy;obtain ⟨v,rfl,hx⟩:=hx;obtain ⟨v',rfl,hy⟩:=hy;cases v <;> simp only [JH] at hk <;> try (cases hk; done)
   cases v' <;> simp only [JN] at he <;> try (cases he; done)
   simp only [VRel] at hx hy;obtain ⟨rfl,_⟩:=hx;obtain ⟨rfl,_⟩:=hy;split at he
   ·rename_i hkk;simp only [AC,CJ] at he;have hkk:=eq_of_beq hkk;subst hkk;rw [show dd+(d+1)=(dd+d)+1 from rfl,run_equalIn_int W _ t _ k _ _ hu,he]
   ·cases he
  ·rename_i hu;simp only [AC] at h;subst h;rw [hu] at hx hy;simp only at hx hy;obtain ⟨v,rfl,hx⟩:=hx;obtain ⟨v',rfl,hy⟩:=hy;cases v <;> simp only [JH] at hk <;> try (cases hk; done)
   cases v' <;> simp only [JN] at he <;> try (cases he; done)
   simp only [VRel] at hx hy;subst hx; subst hy;simp only [AC,CJ] at he;rw [show dd+(d+1)=(dd+d)+1 from rfl,run_equalIn_bool W _ t _ _ hu,he]
  ·rename_i fs hu;rw [hu] at hx hy;simp only at hx hy;obtain ⟨xs,rfl,hx⟩:=hx;obtain ⟨ys,rfl,hy⟩:=hy;split at h
   ·cases h
   ·rename_i hst;have hfs:P.fieldsOf t=fs:=by simp [Program.fieldsOf,hu]
    rw [show dd+(d+1)=(dd+d)+1 from rfl,run_equalIn_struct W (dd+d) t xs ys (by rw [hfs]; exact hu) hst,hfs];exact Ar (fun t ks ht=>⟨oN dd d t ks ht,Au ht⟩) hx hy hll W fs.toList 0 (B7 _) h hk he
  ·rename_i m e hu;rw [hu] at hx hy;simp only at hx hy;obtain ⟨xs,rfl,hx⟩:=hx;obtain ⟨ys,rfl,hy⟩:=hy;split at h
   ·rename_i ks1 hw;split at h
    ·rename_i hs;simp only [AC] at h;subst h;have hs':=hs;unfold ZV at hs';split at hs'
     ·rename_i i hi;simp only [B8] at hs';have hkl:=eH hk;rw [Ik] at hkl;rw [show dd+(d+1)=(dd+d)+1 from rfl,run_equalIn_array W (dd+d) xs ys hu hi,hs',List.range_eq_range'];exact As (oN dd d e ks1 hw) (Au hw) hs hx hy hll W m 0 (by omega) (by simpa using hk) (by simpa using he)
     ·cases hs'
    ·cases h
   ·cases h
  ·cases h
end
theorem Aw {P:Program} {E:Env} {ti:List (Nat × TI)} (hti:E.ti=ti) {l:List Nat} (h:jM P ti l=true):∀ t,t∈l→EqSnd P t (E.tyd t).ks:=by
 induction l with
 | nil=>intro t ht; cases ht
 | cons t r ih=>
  intro t' ht';simp only [jM,AI,B5] at h;rcases AS.1 ht' with e | e
  ·subst e;refine ⟨h.1.1,fun γ o w w' O l l' xs ys c hk hc hx hy=>?_⟩;obtain ⟨⟨_,h2,h3⟩,_⟩:=h;split at h3
   ·rename_i ks hn;have hks:(E.tyd t').ks=ks:=by
     unfold Env.tyd;rw [hti];exact pK h3
    rw [hks] at hk;split at h2
    ·rename_i k hk2;have hcx:∀ {l:List V} {xs:Array Value},VRels γ o w O l xs.toList→TJ P γ o w O t' l (.agg xs):=fun hx=>by
      unfold TJ;rw [hk2];simp only [h2];exact ⟨_,rfl,hx⟩
     exact oN (P:=P) (γ:=γ) (o:=o) (w:=w) (O:=O) 9990 10 t' ks hn w' (.agg xs) (.agg ys) l l' c hk (hcx hx) (hcx hy) hc
    ·cases h2
   ·cases h3
  ·exact ih h.2 t' e
open Go Go.RowKit
theorem Snd.mono {P:Program} {B:BT} {f:FuncId} {sp sp':R9} (h:Snd P B f sp) (hs:∀ vs r,sp' vs=some r→sp vs=some r):Snd P B f sp':=
 fun w X γ vs xs r out hsp=>h w X γ vs xs r out (hs vs _ hsp)
def DS (P:Program) (B:BT) (f:FuncId) (sp:DR):Prop:=Snd P B f (fun vs=>(sp vs).get)
mutual
def U9:Kd→IV→Prop
 | .int k,x=>k.min≤x.toInt∧x.toInt≤k.max
 | .bool,_=>True
 | .str,x=>x.toStr.size≤strMax
 | .list ag ks,x=>x.toList.length≤strMax∧∀ y∈x.toList,S7 ks (FS ag y) 0
def S7:List Kd→(Nat→IV)→Nat→Prop
 | [],_,_=>True
 | k :: ks,f,j=>U9 k (f j)∧S7 ks f (j+1)
end
def wfL:V→Prop
 | .int k n=>k.min≤n∧n≤k.max
 | .str s=>s.size≤strMax
 | .list ag ks l=>l.length≤strMax∧∀ y∈l,S7 ks (FS ag y) 0
 | .vec _ ag ks l=>l.length≤strMax∧∀ y∈l,S7 ks (FS ag y) 0
 | .bld s=>s.size≤strMax
 | _=>True
def wfLs:List V→Prop
 | []=>True
 | v :: r=>wfL v∧wfLs r
def QE:V→Prop
 | .agg l=>wfLs l
 | .bor l=>wfLs l
 | v=>wfL v
def S8:List V→Prop
 | []=>True
 | v :: r=>QE v∧S8 r
mutual
theorem Kd.Rel.wf {w:World} {O:Nat→Prop}:∀ {k:Kd} {x:IV} {v:Value},Kd.Rel w O k x v→U9 k x
 | .int k,x,v,h=>by simp only [Kd.Rel] at h; simp only [U9]; exact h.2
 | .bool,x,v,h=>by simp only [U9]
 | .str,x,v,h=>by simp only [Kd.Rel] at h; simp only [U9]; exact h.2
 | .list ag ks,x,v,h=>by
  simp only [Kd.Rel] at h;obtain ⟨p,c,_,_,_,hl,hi⟩:=h;simp only [U9];refine ⟨hl,fun y hy=>?_⟩;obtain ⟨i,hi'⟩:=List.getElem?_of_mem hy;obtain ⟨b,o,_,_,_,hr⟩:=hi i y hi';exact Kd.RelAll.wf hr
theorem Kd.RelAll.wf {w:World} {O:Nat→Prop}:∀ {ks:List Kd} {f:Nat→IV} {j:Nat} {R:Nat→Value→Prop},Kd.RelAll w O ks f j R→S7 ks f j
 | [],_,_,_,_=>by simp only [S7]
 | k :: ks,f,j,R,h=>by
  simp only [Kd.RelAll] at h;obtain ⟨⟨u,_,hr⟩,h2⟩:=h;simp only [S7];exact ⟨Kd.Rel.wf hr,Kd.RelAll.wf h2⟩
end
theorem VRel.wfL {γ:Nat→Value} {o:Store} {w:World} {O:Nat→Prop} {v:V} {x:Value} (h:VRel γ o w O v x):wfL v:=by
 cases v <;> simp only [FM.wfL] <;> simp only [VRel] at h
 ·exact h.2
 ·exact h.2
 ·have:=Kd.Rel.wf h
  simp only [U9,IV.toList] at this;exact this
theorem VRels.wfLs {γ:Nat→Value} {o:Store} {w:World} {O:Nat→Prop}:∀ {l:List V} {xs:List Value},VRels γ o w O l xs→wfLs l
 | [],[],_=>by simp only [FM.wfLs]
 | [],_ :: _,h=>by simp only [VRels] at h
 | _ :: _,[],h=>by simp only [VRels] at h
 | v :: vs,x :: xs,h=>by
  simp only [VRels] at h;simp only [FM.wfLs];exact ⟨h.1.wfL,VRels.wfLs h.2⟩
theorem zgY {B:BT} {γ:Nat→Value} {o:Store} {w:World} {O:Nat→Prop} {g:Value} {e:Nat} {ag:Bool} {ks:List Kd} {l:LI} (h:ObRel B γ o w O g (.row true e ag ks l)):wfL (.vec e ag ks l):=by
 simp only [ObRel] at h;obtain ⟨_,hl,xs,_,hr⟩:=h;simp only [FM.wfL];refine ⟨hl,fun y hy=>?_⟩;obtain ⟨i,hi⟩:=List.getElem?_of_mem hy;exact Kd.RelAll.wf (hr i y hi)
theorem zcQ {B:BT} {nt:Nat} {w0:World} {X:Zone} {γ:Nat→Value} {a:Act} {w:World} {cs:List V} (h:Rel B nt w0 X γ ⟨[],EM cs⟩ a w):wfLs cs:=by
 by_cases hb:∃ s,cs=[.bld s]
 ·obtain ⟨s,rfl⟩:=hb
  have:=h.ob 900000 (.bld s) (by simp [EM,D9])
  simp only [ObRel] at this;obtain ⟨b,v,p,_,_,_,_,_,hs⟩:=this;simp only [FM.wfLs,FM.wfL,B4];exact hs
 ·have he:EM cs=(900000,some (.box (GB 900001 cs))) :: KL 900001 cs:=oL (fun s e=>hb ⟨s,e⟩);have hbox:=h.ob 900000 (.box (GB 900001 cs)) (by rw [he,D9,BR rfl]);simp only [ObRel] at hbox;obtain ⟨b,c,T,_,_,hr⟩:=hbox;have hall:∀ (j:Nat) (v:V),cs[j]?=some v→FM.wfL v:=by
   intro j v hj;by_cases hv:∃ e ag ks l,v = .vec e ag ks l
   ·obtain ⟨e,ag,ks,l,rfl⟩:=hv;have hat:=fZ (nr:=900001) hj
    have:=h.ob (900001+j) _ (show DI (EM cs) (900001+j)=_ by rw [he,D9,A9 (by omega)]; exact hat)
    exact zgY this
   ·have hbk:(GB 900001 cs)[j]?=some v:=by
     rw [dO,hj];cases v <;> first | rfl | exact absurd ⟨_,_,_,_,rfl⟩ hv
    obtain ⟨x,_,hx⟩:=hr.get hbk;exact hx.wfL
  clear hr he hb h
  induction cs with
  | nil=>simp only [FM.wfLs]
  | cons v r ih=>
   simp only [FM.wfLs];exact ⟨hall 0 v rfl,ih (fun j u hj=>hall (j+1) u (by simpa using hj))⟩
theorem vJ {B:BT} {nt:Nat} {w0:World} {X:Zone} {γ:Nat→Value} {a:Act} {w:World} {O:Nat→Prop} {o:Store} {cs:Option (List V)} (hcs:∀ l,cs=some l→wfLs l):∀ {vs:List V} {xs:List Value},(∀ l,.bor l∈vs→cs=some l)→VRels γ o w O (vs.map EC) xs→S8 vs
 | [],_,_,_=>by simp only [S8]
 | v :: r,[],_,h=>by simp only [AZ,VRels] at h
 | v :: r,x :: xs,hb,h=>by
  simp only [AZ,VRels] at h;simp only [S8];refine ⟨?_,vJ (B:=B) (nt:=nt) (w0:=w0) (X:=X) (a:=a) hcs (fun l hl=>hb l (AY _ hl)) h.2⟩;have h1:=h.1;by_cases hbor:∃ l,v = .bor l
  ·obtain ⟨l,rfl⟩:=hbor;simp only [QE];exact hcs l (hb l (AR ..))
  ·by_cases hagg:∃ l,v = .agg l
   ·obtain ⟨l,rfl⟩:=hagg;simp only [EC,VRel] at h1;obtain ⟨cs',_,hr⟩:=h1;simp only [QE];exact hr.wfLs
   ·have:QE v=FM.wfL v:=by cases v <;> first | rfl | exact absurd ⟨_,rfl⟩ hbor | exact absurd ⟨_,rfl⟩ hagg
    rw [this];cases v <;> first | exact h1.wfL | exact absurd ⟨_,rfl⟩ hbor | exact absurd ⟨_,rfl⟩ hagg | (simp only [FM.wfL])
def K2:List V→Option (List V)→Prop
 | [],_=>True
 | .bor l :: r,c=>c=some l∧K2 r c
 | _ :: r,c=>K2 r c
theorem qY:∀ {vs:List V} {c:Option (List V)},K2 vs c→∀ l,.bor l∈vs→c=some l
 | [],_,_,l,h=>by cases h
 | v :: r,c,ho,l,h=>by
  rcases AS.1 h with e | e
  ·subst e;exact ho.1
  ·cases v <;> simp only [K2] at ho <;> first | exact qY ho l e | exact qY ho.2 l e
theorem Kg {P:Program} {B:BT} {f:FuncId} {fn:Func} (E:Nat→Env) (sp:DR) (rks:List (List Kd)) (hf:P.funcs[f]?=some fn) {code:Code} {rs:List ResultVar} {nt:Nat}
  (hc:(fn.name == "runtime.NumGoroutine")=false∧fn.body=some code∧fn.ntmps=nt∧B6 nt 900000=true∧fn.results.toList=rs) (hnt:∀ N,(E N).nt=nt) (hm:P.follows .mixedOrders=true)
  (hT:∀ N,TiOK P B (E N)) (hE:∀ N t,t∈(E N).eqs→EqSnd P t ((E N).tyd t).ks) (hSp:∀ N f sp,lk (E N).sp f=some sp→DS P B f sp) (hIp:∀ N f p,lk (E N).ip f=some p→RV P f p) (hB:∀ N,BldOK P B (E N))
  (h:∀ vs r,(K2 vs (FI vs)→S8 vs)→(sp vs).get=some r→∃ N,DV (E N) code rs rks vs=some r):DS P B f sp:=by
 intro w X γ vs xs r out hsp hg hx hR hV;have hwf:K2 vs (FI vs)→S8 vs:=fun ho=>by
  refine vJ (B:=B.base) (nt:=0) (w0:=w) (X:=X) (a:=JA) (cs:=FI vs) (fun l hl=>?_) (qY ho) hV;have hm:H1 vs=EM l:=by simp only [H1,hl]
  rw [hm] at hR;exact zcQ hR
 obtain ⟨N,hN⟩:=h vs _ hwf hsp;exact Xa hf hc.1 hc.2.1 ((hnt N).trans hc.2.2.1.symm) (by rw [hc.2.2.1]; exact hc.2.2.2.1) hc.2.2.2.2 rks hm (hT N) (hE N) (hSp N) (hIp N) (hB N) w X γ vs xs r out hN hg hx hR hV
abbrev ic (n:Nat):Int:=n
noncomputable abbrev DT (E:Env) (c:Code) (kp:KP) (n:Nat) (s:St) (k:Out→St→DJ):DJ:=Q6 c (JO Q6 E c) kp n s k
noncomputable abbrev DN (E:Env) (c:Code) (k:Out→St→DJ):Out→St→DJ:=Cz c (JO Q6 E c) k
noncomputable abbrev EX (E:Env) (c:Code) (s:St) (k:Out→St→DJ):DJ:=JO Q6 E c s k
theorem DX (E:Env) (c:Code) (kp:KP) (n:Nat) (s:St) (k:Out→St→DJ):DT E c kp (n+1) s k=EX E c s (ED (fun s'=>DT E c kp n s' k) kp k):=rfl
def DW (fn:Func):Code:=match fn.body with | some c=>c | none=>.skip
def DF:Code→List Nat→Code
 | c,[]=>c
 | .seq a _,0 :: r=>DF a r
 | .seq _ b,_ :: r=>DF b r
 | .cond _ a _,0 :: r=>DF a r
 | .cond _ _ b,_ :: r=>DF b r
 | .block _ c,_ :: r=>DF c r
 | .loop c,_ :: r=>DF c r
 | .scope c,_ :: r=>DF c r
 | _,_=>.skip
open Go Go.RowKit
section
variable {P:Program} {B:BT} {f:FuncId}
theorem Does.of_calls {fn:Func} (hf:P.funcs[f]?=some fn) (hn:(fn.name == "runtime.NumGoroutine")=false) (hb:fn.body.isNone=false) {xs:List Value} {w:World} {R:Ending→World→Prop} (h:Calls P f xs.toArray w R):Does P f xs w R:=Does.enter hf hn hb h
theorem zc4 {r:V} (h:∀ cs,r≠.bor cs) (hv:∀ e ag ks l,r≠.vec e ag ks l):GD r []=[]:=by
 cases r <;> first | rfl | exact absurd rfl (h _) | exact absurd rfl (hv _ _ _ _)
theorem P7 {w:World} {X:Zone} {γ:Nat→Value} {vs:List V} {xs:List Value} {r:V} (hR:Rel B.base 0 w X γ ⟨[],H1 vs⟩ JA w) (hb:FI vs=none) (hr:LM r=true)
  (h:Does P f xs w fun e w'=>∃ x,e = .returned x∧Keep (fun _=>False) w w'∧∀ O:Nat→Prop,(∀ b,O b→b < w.heap.size)→VRel γ [] w' O r x) :
  Does P f xs w fun e w'=>∃ x,e = .returned x∧∃ γ',Rel B.base 0 w X γ' ⟨[],GD r []⟩ JA w'∧VRel γ' (GD r []) w' (DK X γ' (GD r [])) (LV r) x∧KC vs r [] (γ 900000) (γ' 900000):=by
 have hm:H1 vs=[]:=by simp only [H1,hb]
 rw [hm] at hR;have hnb:∀ cs,r≠.bor cs:=fun cs e=>by subst e; simp [LM,HA] at hr
 have hnv:∀ e ag ks l,r≠.vec e ag ks l:=fun e ag ks l h=>by subst h; simp [LM,HA] at hr
 rw [zc4 hnb hnv,UT hr];refine h.mono ?_;rintro e w' ⟨x,rfl,hk,hv⟩;refine ⟨x,rfl,γ,hR.world hk,hv _ (fun b hb=>?_),?_⟩
 ·rcases hb with ⟨n,ob,hn,_⟩ | hb
  ·simp [DI,EQ] at hn
  ·exact hR.fl b hb
 ·simp only [KC,hb];cases r <;> first | exact hr | exact absurd rfl (hnb _) | exact absurd rfl (hnv _ _ _ _)
structure BldIs (B:BT) (w:World) (b:Nat) (p v:Value) (s:BA):Prop where
 self:p = .pointer none∨p = .pointer (some ⟨b,0,none⟩)
 heap:w.heap[b]?=some (.cells #[p,v] B.T (0,0))
 own:w.ownsRowF 0 B.e 1 v s.size (DC s)
 ne:v.ownBlock≠some b
 size:s.size≤strMax
theorem sV {w:World} {X:Zone} {γ:Nat→Value} {vs:List V} {xs:List Value} {r:V} {s s':BA} (hR:Rel B.base 0 w X γ ⟨[],H1 vs⟩ JA w) (hb:FI vs=some [.bld s]) (hr:LM r=true) (hnl:∀ γ' o w' O x,VRel γ [] w O r x→VRel γ' o w' O r x)
  (h:∀ b v p,γ 900000 = .tuple #[.pointer (some ⟨b,0,none⟩),v]→BldIs B w b p v s→Does P f xs w fun e w'=>∃ x,e = .returned x∧(∃ p' v',BldIs B w' b p' v' s'∧Keep (fun k=>k=b∨v.ownBlock=some k) w w'∧∀ k,v'.ownBlock=some k→v.ownBlock=some k∨w.heap.size≤k)∧∀ O,VRel γ [] w O r x) :
  Does P f xs w fun e w'=>∃ x,e = .returned x∧∃ γ',Rel B.base 0 w X γ' ⟨[],GD r [[.bld s']]⟩ JA w'∧VRel γ' (GD r [[.bld s']]) w' (DK X γ' (GD r [[.bld s']])) (LV r) x∧KC vs r [[.bld s']] (γ 900000) (γ' 900000):=by
 have hm:H1 vs=EM [.bld s]:=by simp only [H1,hb]
 have hmo:GD r [[.bld s']]=EM [.bld s']:=by cases r <;> rfl
 rw [hm] at hR;have hob:DI (EM [.bld s]) 900000=some (.bld s):=by simp [EM,D9]
 have hor:=hR.ob 900000 _ hob;simp only [ObRel,BT.base] at hor;obtain ⟨b,v,p,hg,hp,hh,how,hne,hsz⟩:=hor;rw [hmo,UT hr];refine (h b v p hg ⟨hp,hh,how,hne,hsz⟩).mono ?_;rintro e w' ⟨x,rfl,⟨p',v',hB,hk,hnew⟩,hx⟩;have hPb:∀ k,(k=b∨v.ownBlock=some k)→E4 γ (EM [.bld s]) k:=by
  rintro k hk;refine ⟨900000,_,hob,⟨b,0,none⟩,v,hg,?_⟩;rcases hk with rfl | hk
  ·exact .inl rfl
  ·exact .inr hk
 have hXb:∀ k,(k=b∨v.ownBlock=some k)→k < w.heap.size∧X.own k∧¬ X.far k:=fun k hk=>by
  obtain ⟨h1,h2⟩:=hR.lt k (hPb k hk);exact ⟨h1,h2.resolve_left (by omega),hR.nr k (hPb k hk)⟩
 have hkX:Keep X.own w w':=hk.mono (fun k _ h=>(hXb k h).2.1);have hobs:∀ n ob,DI (EM [.bld s']) n=some ob→n=900000∧ob = .bld s':=by
  intro n ob hn;simp only [EM,D9] at hn;split at hn
  ·rename_i e;simp only [AC] at hn;exact ⟨e.symm,hn.symm⟩
  ·simp [DI,EQ] at hn
 have hP':∀ k,E4 (fun _=>.tuple #[.pointer (some ⟨b,0,none⟩),v']) (EM [.bld s']) k→k=b∨v'.ownBlock=some k:=by
  rintro k ⟨n,ob,hn,hbk⟩;obtain ⟨rfl,rfl⟩:=hobs n ob hn;obtain ⟨a,v2,h1,h2⟩:=hbk;simp only [Value.tuple.injEq] at h1;have e1:a=⟨b,0,none⟩∧v2=v':=by
   have:=congrArg Array.toList h1
   simp at this;exact ⟨this.1.symm,this.2.symm⟩
  obtain ⟨rfl,rfl⟩:=e1;rcases h2 with h2 | h2
  ·exact .inl h2.symm
  ·exact .inr h2
 have hlt':∀ k,v'.ownBlock=some k→k < w'.heap.size:=by
  intro k hk;rcases hB.own.2 with ⟨rfl,_⟩ | ⟨g,cap,cur,fz,rfl,_,hgh,_⟩
  ·simp [CE] at hk
  ·simp only [CE,AC] at hk;subst hk;exact (C7.1 hgh).1
 refine ⟨x,rfl,fun _=>.tuple #[.pointer (some ⟨b,0,none⟩),v'],⟨rfl,rfl,fun i=>by simp only [St.get,EQ,VRel],fun n ob hn=>?_,fun k hk2=>?_,fun n m ob ob' k hnm h1 h2=>?_,hkX,fun k hk2 hf=>?_,fun k hf=>C0 (hR.fl k hf) hk.size,fun q hq=>by cases hq⟩,hnl _ _ _ _ _ (hx _),?_⟩
 ·obtain ⟨rfl,rfl⟩:=hobs n ob hn;simp only [ObRel,BT.base];exact ⟨b,v',p',rfl,hB.self,hB.heap,hB.own,hB.ne,hB.size⟩
 ·rcases hP' k hk2 with rfl | h2
  ·obtain ⟨h3,h4,_⟩:=hXb k (.inl rfl);exact ⟨C0 h3 hk.size,.inr h4⟩
  ·refine ⟨hlt' k h2,?_⟩;rcases hnew k h2 with h3 | h3
   ·exact .inr (hXb k (.inr h3)).2.1
   ·exact .inl h3
 ·obtain ⟨rfl,rfl⟩:=hobs n ob h1;obtain ⟨rfl,rfl⟩:=hobs m ob' h2;exact absurd rfl hnm
 ·rcases hP' k hk2 with rfl | h2
  ·exact (hXb k (.inl rfl)).2.2 hf
  ·rcases hnew k h2 with h3 | h3
   ·exact (hXb k (.inr h3)).2.2 hf
   ·have:=hR.fl k hf
    omega
 ·simp only [KC,hb];exact ⟨hr,rfl,by rw [hg]; rfl⟩
theorem nF {w:World} {γ:Nat→Value} {s:BA} {O:Nat→Prop} {x:Value} {b:Nat} {v:Value} (hg:γ 900000 = .tuple #[.pointer (some ⟨b,0,none⟩),v]) (h:VRel γ (EM [.bld s]) w O (.ptr 900000 0 0) x):x = .pointer (some ⟨b,0,none⟩):=by
 simp only [VRel,EM,D9,CO] at h;obtain ⟨_,b',v',h1,rfl⟩:=h;rw [hg] at h1;simp only [Value.tuple.injEq] at h1
 have:=congrArg Array.toList h1
 simp at this;rw [this.1]
theorem Kf {w:World} {X:Zone} {γ:Nat→Value} {vs:List V} {xs:List Value} {e:Nat} {ag:Bool} {ks:List Kd} {l:LI} (hR:Rel B.base 0 w X γ ⟨[],H1 vs⟩ JA w) (hb:FI vs=none) (he:e < 1000000) (hks:0 < ks.length) (hl:l.length≤strMax)
  (h:Does P f xs w fun e' w'=>∃ v ys,e' = .returned v∧Keep (fun _=>False) w w'∧w'.ownsRow w.heap.size e ks.length v l.length ys∧∀ (O:Nat→Prop) i y,l[i]?=some y→Kd.RelAll w' O ks (FS ag y) 0 (fun j u=>ys[i*ks.length+j]?=some u)) :
  Does P f xs w fun e' w'=>∃ x,e' = .returned x∧∃ γ',Rel B.base 0 w X γ' ⟨[],GD (.vec e ag ks l) []⟩ JA w'∧VRel γ' (GD (.vec e ag ks l) []) w' (DK X γ' (GD (.vec e ag ks l) [])) (LV (.vec e ag ks l)) x∧KC vs (.vec e ag ks l) [] (γ 900000) (γ' 900000):=by
 have hm:H1 vs=[]:=by simp only [H1,hb]
 rw [hm] at hR;have hmo:GD (.vec e ag ks l) []=[(900000,some (.row true e ag ks l))]:=rfl;rw [hmo];refine h.mono ?_;rintro e' w' ⟨v,ys,rfl,hk,hown,hel⟩;have hown0:w'.ownsRow 0 e ks.length v l.length ys:=by
  refine ⟨hown.1,?_⟩;rcases hown.2 with h1 | ⟨g,cap,cur,h1,_,h2,h3,h4,h5,h6⟩
  ·exact .inl h1
  ·exact .inr ⟨g,cap,cur,h1,B7 _,h2,h3,h4,h5,h6⟩
 have obs:∀ n ob,DI [(900000,some (Ob.row true e ag ks l))] n=some ob→n=900000∧ob = .row true e ag ks l:=fun n ob hn=>by
  rw [D9] at hn;split at hn
  ·rename_i h9;simp only [AC] at hn;exact ⟨h9.symm,hn.symm⟩
  ·simp [DI,EQ] at hn
 have hfresh:∀ b,v.ownBlock=some b→w.heap.size≤b∧b < w'.heap.size:=fun b hb=>hown.lt b hb
 have ownP:∀ b,E4 (fun n=>if n=900000 then v else γ n) [(900000,some (Ob.row true e ag ks l))] b→v.ownBlock=some b:=by
  rintro b ⟨n,ob,hn,hb⟩;obtain ⟨rfl,rfl⟩:=obs n ob hn;simpa only [EU,CO] using hb
 refine ⟨v,rfl,fun n=>if n=900000 then v else γ n,⟨hR.sz,hR.df,fun i=>by simp only [St.get,EQ,VRel],fun n ob hn=>?_,fun b hb=>?_,fun n m ob ob' b hnm h1 h2=>?_,hk.mono (fun _ _ h=>h.elim),fun b hb hf=>?_,fun b hf=>C0 (hR.fl b hf) hk.size,fun p hp=>by cases hp⟩,?_,?_⟩
 ·obtain ⟨rfl,rfl⟩:=obs n ob hn;simp only [ObRel,CO];exact ⟨hks,hl,ys,OwnRow.of hown0 he,hel _⟩
 ·have:=hfresh b (ownP b hb)
  exact ⟨this.2,.inl this.1⟩
 ·obtain ⟨rfl,rfl⟩:=obs n ob h1;obtain ⟨rfl,rfl⟩:=obs m ob' h2;exact absurd rfl hnm
 ·have:=hfresh b (ownP b hb)
  have:=hR.fl b hf
  omega
 ·simp only [LV,VRel,D9,CO];refine ⟨AW _,?_⟩;rcases hown.2 with ⟨rfl,h0⟩ | ⟨g,cap,cur,rfl,_,h2,h3,h4,h5,h6⟩
  ·exact ⟨none,0,0,none,rfl,by rw [h0],B7 _,by rw [h0]; exact AW _,AW _,B7 _,.inl rfl,fun _=>rfl⟩
  ·refine ⟨some ⟨g,0,none⟩,l.length,cap,some ⟨g,0,none⟩,rfl,by simp,B7 _,AW _,h3,h4,.inl ?_,fun _=>rfl⟩;simp [Addr.add]
 ·simp only [KC,hb,ZE]
end
theorem ziY {w w':World} {O:Nat→Prop} (hO:∀ b,O b→b < w.heap.size) {g:Nat} {T:TypeId} {l:List BA} {c:Nat} (hg:w.heap.size≤g) (hh:w'.heap[g]?=some (.cells (l.map Value.string).toArray T (0,0))) (hc:l.length≤c) (hcm:c≤maxLen) (hl:l.length≤strMax)
  (hs:∀ s∈l,s.size≤strMax):Kd.Rel w' O (.list false [.str]) (.list (l.map IV.str)) (.slice (some ⟨g,0,none⟩) l.length c):=by
 simp only [Kd.Rel,IV.toList,BQ];refine ⟨_,c,rfl,hc,hcm,hl,fun i y hy=>⟨g,0,rfl,fun h=>by have:=hO g h; omega,(C7.1 hh).1,?_⟩⟩;simp only [B9,DD] at hy;obtain ⟨s,hs1,rfl⟩:=hy;simp only [Kd.RelAll,AN,BB,BJ,Nat.mul_one,C6,B4];refine ⟨.string s,?_,?_⟩
 ·simp only [vaF,hh];simp [hs1]
 ·simp only [Kd.Rel,FS,IV.toStr];exact ⟨trivial,hs s (vab hs1)⟩
open Go Go.RowKit
theorem R.get_br (b:Bool) (x y:R):(R.br b x y).get=cond b x.get y.get:=by cases b <;> rfl
theorem R.get_ok (v:V) (o:List (List V)):(R.ok v o).get=some (v,o):=rfl
theorem R.get_no:R.no.get=none:=rfl
def DL (n:Int):BA:=⟨(Lib.itoa n).toArray⟩
def FA (s:BA):Int:=match Lib.atoiAll s.data.toList with | .ok v=>v | .range=>Lib.atoiSat s.data.toList | _=>0
def LC (s:BA):Bool:=match Lib.atoiAll s.data.toList with | .ok _=>true | _=>false
def cutL (s sep:BA):BA:=⟨(Lib.cut s.data.toList sep.data.toList).1.toArray⟩
def FT (s sep:BA):BA:=⟨(Lib.cut s.data.toList sep.data.toList).2.1.toArray⟩
def Vt (s sep:BA):Bool:=(Lib.cut s.data.toList sep.data.toList).2.2
def D1 (s sep:BA):List BA:=Lib.splitB sep 0 (Lib.countB s sep) s
def MZ (c:Int):UInt8:=UInt8.ofNat c.toNat
def TQ:DR
 | [.bor [.bld s],.str t]=>.br (decide (s.size+t.size≤strMax)) (.ok (.tup [.int .i64 (ic t.size),.err true]) [[.bld (s++t)]]) .no
 | _=>.no
def YD:DR
 | [.bor [.bld s],.int .u8 c]=>.br (decide (s.size+1≤strMax)) (.ok (.err true) [[.bld (s.push (MZ c))]]) .no
 | _=>.no
def TP:DR
 | [.bor [.bld s]]=>.ok (.str s) [[.bld s]]
 | _=>.no
def OM:DR
 | [.int .i64 n]=>.ok (.str (DL n)) []
 | _=>.no
def QS:DR
 | [.str s]=>.ok (.tup [.int .i64 (FA s),.err (LC s)]) []
 | _=>.no
def TR:DR
 | [.str s,.str sep]=>.br (decide (s.size < 4294967281)) (.ok (.tup [.str (cutL s sep),.str (FT s sep),.bool (Vt s sep)]) []) .no
 | _=>.no
def MX:DR
 | [.str s,.str sep]=>.br (decide (s.size < 4294967281)&&decide (1≤sep.size)) (.ok (.list false [.str] ((D1 s sep).map IV.str)) []) .no
 | _=>.no
def E1 (n:Int):BA:=⟨(CI n.toNat).toArray⟩
def GG (s:BA):Int:=match Lib.parseMag s.data.toList with | .ok v=>(v:Int) | .range=>18446744073709551615 | _=>0
def I4 (s:BA):Bool:=match Lib.parseMag s.data.toList with | .ok _=>true | _=>false
def PD (s cs:BA):BA:=⟨(Lib.trimRightB s.data.toList (cs.data.toList.headD 0)).toArray⟩
def HL (s:BA) (n:Nat):BA:=⟨(Lib.repeatL s.data.toList n).toArray⟩
def F8 (s p:BA):BA:=⟨(Lib.trimPrefix s.data.toList p.data.toList).toArray⟩
def OT (s p:BA):Bool:=Lib.hasPrefix s.data.toList p.data.toList
def iD:DR
 | [.int .u64 n,.int .i64 b]=>.br (decide (b=10)) (.ok (.str (E1 n)) []) .no
 | _=>.no
def iE:DR
 | [.str s,.int .i64 b,.int .i64 c]=>.br (decide (b=10)&&decide (c=64)) (.ok (.tup [.int .u64 (GG s),.err (I4 s)]) []) .no
 | _=>.no
def iG:DR
 | [.str s,.str cs]=>.br (decide (cs.size=1)&&decide ((cs.data.toList.headD 0).toNat < 128)) (.ok (.str (PD s cs)) []) .no
 | _=>.no
def YG:DR
 | [.str s,.int .i64 n]=>.br (decide (0≤n)&&decide (s.size*n.toNat≤strMax)) (.ok (.str (HL s n.toNat)) []) .no
 | _=>.no
def YE:DR
 | [.str s,.str p]=>.ok (.tup [.str (F8 s p),.bool (OT s p)]) []
 | _=>.no
def F9 (l:List BA) (sep:BA):BA:=⟨(Lib.join (l.map (·.data.toList)) sep.data.toList).toArray⟩
def YF:DR
 | [.list false [.str] l,.str sep]=>.br (decide (l.length≤strMax)&&decide ((F9 (l.map IV.toStr) sep).size≤strMax)) (.ok (.str (F9 (l.map IV.toStr) sep)) []) .no
 | _=>.no
def FU:LI→BA→Int→Int
 | [],_,_ => -1
 | x :: l,s,i=>cond (s.toList==x.toStr.toList) i (FU l s (i+1))
theorem Tq {l:List UInt8} {v:Int} (h:Lib.atoiAll l = .ok v):AB.min≤v∧v≤AB.max:=by
 have e1:AB.min = -9223372036854775808:=rfl;have e2:AB.max=9223372036854775807:=rfl;rw [e1,e2];unfold Lib.atoiAll at h;split at h
 ·cases h
 ·simp only at h;split at h
  ·cases h
  ·cases h
  ·rename_i u hu;split at h
   ·cases h
   ·split at h
    ·cases h
    ·simp only [Lib.NumEnd.ok.injEq] at h;subst h;split <;> omega
theorem vL (s:BA):AB.min≤FA s∧FA s≤AB.max:=by
 have e1:AB.min = -9223372036854775808:=rfl;have e2:AB.max=9223372036854775807:=rfl;unfold FA;split
 ·rename_i v hv;exact Tq hv
 ·unfold Lib.atoiSat;rw [e1,e2];split <;> omega
 ·rw [e1,e2]; omega
theorem Y6 {n:Int} (h0:AB.min≤n) (h1:n≤AB.max):(DL n).size≤21:=by
 have e1:AB.min = -9223372036854775808:=rfl;have e2:AB.max=9223372036854775807:=rfl;rw [e1] at h0;rw [e2] at h1
 have:=Lib.itoa_length_le n h0 h1
 simpa [DL,AG] using this
theorem rW (s:BA):AJ.min≤GG s∧GG s≤AJ.max:=by
 have e1:AJ.min=0:=rfl;have e2:AJ.max=18446744073709551615:=rfl;unfold GG;split
 ·rename_i v hv
  have:=Lib.parseMag_lt hv
  rw [e1,e2]; omega
 ·rw [e1,e2]; omega
 ·rw [e1,e2]; omega
theorem qT {n:Int} (h0:0≤n) (h1:n≤18446744073709551615):(E1 n).size≤20:=by
 rcases Int.lt_or_le 0 n with h | h
 ·have hd:=Lib.numDigits_eq n.toNat (by omega) (by omega);have hl:=Lib.decDigits_length n.toNat;have hs:(E1 n).size=(CI n.toNat).length:=by simp [E1,AG]
  rw [hs,hl];split at hd <;> omega
 ·have:n=0:=by omega
  subst this;have hd:CI (0:Int).toNat=[UInt8.ofNat (48+0)]:=by rw [show (0:Int).toNat=0 from rfl,CI]; rfl
  unfold E1;rw [hd];decide
theorem Ol (s cs:BA):(PD s cs).size≤s.size:=by
 have:∀ (l:List UInt8) c,(Lib.trimRightB l c).length≤l.length:=fun l c=>by
  unfold Lib.trimRightB;rw [List.length_reverse]
  have:=(List.dropWhile_sublist (·==c) (l:=l.reverse)).length_le
  simpa using this
 have h:=this s.data.toList (cs.data.toList.headD 0);simp only [PD,AG,C9];simpa using h
theorem Ok (s p:BA):(F8 s p).size≤s.size:=by
 simp only [F8,AG,C9,Lib.trimPrefix];split
 ·simp
 ·simp
theorem sB (s:BA) (n:Nat):(HL s n).size=s.size*n:=by
 have:∀ (l:List UInt8) n,(Lib.repeatL l n).length=l.length*n:=fun l n=>by rw [Lib.repeatL_length,Nat.mul_comm]
 show (Lib.repeatL s.data.toList n).toArray.size=s.size*n;rw [C9,this,CQ];rfl
theorem jC (s sep:BA):(cutL s sep).size≤s.size∧(FT s sep).size≤s.size:=by
 unfold cutL FT Lib.cut;split
 ·simp only [AG,C9,A7,CY,CQ];omega
 ·simp only [AG,C9,CQ,BB];omega
theorem XS (sep:BA):∀ (k:Nat) (s:BA),(Lib.splitB sep 0 k s).length≤k+1∧∀ p∈Lib.splitB sep 0 k s,p.size≤s.size
 | 0,s=>by simp [Lib.splitB]
 | k+1,s=>by
  unfold Lib.splitB;split
  ·simp
  ·obtain ⟨h1,h2⟩:=XS sep k (s.extract ((Lib.indexB s sep).toNat+sep.size) s.size);refine ⟨by simp only [AN]; omega,fun p hp=>?_⟩;rcases AS.1 hp with h | h
   ·subst h;simp only [vbd];omega
   ·have:=h2 p h
    simp only [vbd] at this;omega
open Go Go.Proofs
def gT:List (Nat × TI):=[
 (2,⟨1,8,false,[.z],[.int .i64 0],.leaf⟩),
 (3,⟨1,8,false,[.z],[.int .i64 0],.leaf⟩),
 (4,⟨1,1,false,[.bool],[.bool false],.leaf⟩),
 (5,⟨1,1,false,[.int .u8],[.int .u8 0],.leaf⟩),
 (6,⟨1,1,false,[.int .u8],[.int .u8 0],.leaf⟩),
 (7,⟨4,24,true,[.z,.z,.bool,.int .u8],[.int .i64 0,.int .i64 0,.bool false,.int .u8 0],.struct [(0,2),(1,3),(2,4),(3,6)]⟩),
 (8,⟨4,24,true,[.z,.z,.bool,.int .u8],[.int .i64 0,.int .i64 0,.bool false,.int .u8 0],.struct [(0,2),(1,3),(2,4),(3,6)]⟩),
 (9,⟨1,16,false,[.str],[.str ⟨#[]⟩],.leaf⟩),
 (22,⟨1,24,false,[.list false [.z]],[.zs],.slice 3⟩),
 (23,⟨1,24,false,[.list true [.z,.list false [.z],.list false [.z],.list false [.z],.list false [.z]]],[.zs],.slice 81⟩),
 (25,⟨4,64,true,[.z,.z,.list false [.z],.list true [.z,.list false [.z],.list false [.z],.list false [.z],.list false [.z]]],[.int .i64 0,.int .i64 0,.zs,.zs],.struct [(0,3),(1,3),(2,22),(3,23)]⟩),
 (26,⟨1,24,false,[.list true [.z,.z,.z,.z,.z,.z,.bool,.list false [.z]]],[.zs],.slice 43⟩),
 (27,⟨1,24,false,[.list true [.z,.list true [.bool,.z,.z],.z,.z,.z,.z,.z,.z]],[.zs],.slice 50⟩),
 (28,⟨3,24,true,[.z,.z,.z],[.int .i64 0,.int .i64 0,.int .i64 0],.array 3 3⟩),
 (29,⟨1,24,false,[.list true [.z,.list false [.int .u64]]],[.zs],.slice 85⟩),
 (31,⟨6,64,true,[.z,.z,.z,.z,.z,.list true [.z,.list false [.int .u64]]],[.int .i64 0,.int .i64 0,.int .i64 0,.int .i64 0,.int .i64 0,.zs],.struct [(0,3),(1,3),(2,28),(5,29)]⟩),
 (33,⟨1,24,false,[.list true [.z,.z,.z,.z,.z,.z,.z,.z,.z,.z,.z,.z,.z,.z,.z,.bool,.z]],[.zs],.slice 39⟩),
 (35,⟨2,16,true,[.z,.z],[.int .i64 0,.int .i64 0],.struct [(0,3),(1,3)]⟩),
 (37,⟨10,80,true,[.z,.z,.z,.z,.z,.z,.z,.z,.z,.z],[.int .i64 0,.int .i64 0,.int .i64 0,.int .i64 0,.int .i64 0,.int .i64 0,.int .i64 0,.int .i64 0,.int .i64 0,.int .i64 0],.array 5 35⟩),
 (39,⟨17,136,true,[.z,.z,.z,.z,.z,.z,.z,.z,.z,.z,.z,.z,.z,.z,.z,.bool,.z],[.int .i64 0,.int .i64 0,.int .i64 0,.int .i64 0,.int .i64 0,.int .i64 0,.int .i64 0,.int .i64 0,.int .i64 0,.int .i64 0,.int .i64 0,.int .i64 0,.int .i64 0,.int .i64 0,.int .i64 0,.bool false,.int .i64 0],.struct [(0,3),(1,3),(2,37),(12,3),(13,3),(14,3),(15,4),(16,3)]⟩),
 (43,⟨8,80,true,[.z,.z,.z,.z,.z,.z,.bool,.list false [.z]],[.int .i64 0,.int .i64 0,.int .i64 0,.int .i64 0,.int .i64 0,.int .i64 0,.bool false,.zs],.struct [(0,3),(1,3),(2,3),(3,3),(4,3),(5,3),(6,4),(7,22)]⟩),
 (46,⟨1,24,false,[.list true [.bool,.z,.z]],[.zs],.slice 101⟩),
 (48,⟨4,32,true,[.z,.z,.z,.z],[.int .i64 0,.int .i64 0,.int .i64 0,.int .i64 0],.array 4 3⟩),
 (50,⟨8,80,true,[.z,.list true [.bool,.z,.z],.z,.z,.z,.z,.z,.z],[.int .i64 0,.zs,.int .i64 0,.int .i64 0,.int .i64 0,.int .i64 0,.int .i64 0,.int .i64 0],.struct [(0,3),(1,46),(2,48),(6,3),(7,3)]⟩),
 (51,⟨1,24,false,[.list false [.int .u8]],[.zs],.slice 5⟩),
 (65,⟨1,24,false,[.list false [.str]],[.zs],.slice 9⟩),
 (81,⟨5,104,true,[.z,.list false [.z],.list false [.z],.list false [.z],.list false [.z]],[.int .i64 0,.zs,.zs,.zs,.zs],.struct [(0,3),(1,22),(2,22),(3,22),(4,22)]⟩),
 (82,⟨1,24,false,[.list false [.int .u64]],[.zs],.slice 106⟩),
 (85,⟨2,32,true,[.z,.list false [.int .u64]],[.int .i64 0,.zs],.struct [(0,3),(1,82)]⟩),
 (93,⟨1,24,false,[.list true [.z,.z]],[.zs],.slice 35⟩),
 (96,⟨1,8,false,[.list false []],[.nilp],.ptr 98⟩),
 (98,⟨2,32,true,[.list false [],.list false [.int .u8]],[.nilp,.zs],.bld⟩),
 (101,⟨3,24,true,[.bool,.z,.z],[.bool false,.int .i64 0,.int .i64 0],.struct [(0,4),(1,3),(2,3)]⟩),
 (106,⟨1,8,false,[.int .u64],[.int .u64 0],.leaf⟩),
 (108,⟨6,48,true,[.bool,.z,.z,.z,.z,.z],[.bool false,.int .i64 0,.int .i64 0,.int .i64 0,.int .i64 0,.int .i64 0],.struct [(0,4),(1,3),(2,3),(3,3),(4,3),(5,3)]⟩),
 (119,⟨1,24,false,[.list true [.z,.z,.z,.z,.z,.z,.z,.z,.z,.z]],[.zs],.slice 37⟩),
 (126,⟨1,8,false,[.list false []],[.nilp],.ptr 129⟩),
 (129,⟨1,24,true,[.list false [.str]],[.zs],.struct [(0,65)]⟩),
 (135,⟨1,8,false,[.list false []],[.nilp],.ptr 85⟩),
 (149,⟨1,16,false,[.list false []],[.err true],.iface⟩),
 (152,⟨1,24,false,[.list true [.bool,.z,.z,.z,.z,.z]],[.zs],.slice 108⟩),
 (156,⟨1,8,false,[.int .u64],[.int .u64 0],.leaf⟩),
 (169,⟨1,8,false,[.list false []],[.nilp],.ptr 207⟩),
 (207,⟨34,336,true,[.z,.z,.z,.z,.z,.list true [.z,.list false [.int .u64]],.z,.z,.z,.z,.z,.z,.z,.z,.z,.z,.z,.z,.z,.z,.z,.bool,.z,.list true [.z,.z,.z,.z,.z,.z,.z,.z,.z,.z],.list true [.bool,.z,.z],.z,.list true [.bool,.z,.z],.z,.z,.z,.z,.z,.z,.z],[.int .i64 0,.int .i64 0,.int .i64 0,.int .i64 0,.int .i64 0,.zs,.int .i64 0,.int .i64 0,.int .i64 0,.int .i64 0,.int .i64 0,.int .i64 0,.int .i64 0,.int .i64 0,.int .i64 0,.int .i64 0,.int .i64 0,.int .i64 0,.int .i64 0,.int .i64 0,.int .i64 0,.bool false,.int .i64 0,.zs,.zs,.int .i64 0,.zs,.int .i64 0,.int .i64 0,.int .i64 0,.int .i64 0,.int .i64 0,.int .i64 0,.int .i64 0],.struct [(0,31),(6,39),(23,119),(24,46),(25,50),(33,3)]⟩),
 (221,⟨1,8,false,[.list false []],[.any],.map 3 .z⟩),
 (224,⟨1,8,false,[.list false []],[.any],.map 4 (.bool)⟩),
 (261,⟨1,24,false,[.list true [.z,.z,.z,.z,.z,.z,.z,.z,.z,.z,.z]],[.zs],.slice 264⟩),
 (264,⟨11,88,true,[.z,.z,.z,.z,.z,.z,.z,.z,.z,.z,.z],[.int .i64 0,.int .i64 0,.int .i64 0,.int .i64 0,.int .i64 0,.int .i64 0,.int .i64 0,.int .i64 0,.int .i64 0,.int .i64 0,.int .i64 0],.struct [(0,37),(10,3)]⟩),
 (273,⟨11,88,true,[.z,.z,.z,.z,.z,.z,.z,.z,.z,.z,.z],[.int .i64 0,.int .i64 0,.int .i64 0,.int .i64 0,.int .i64 0,.int .i64 0,.int .i64 0,.int .i64 0,.int .i64 0,.int .i64 0,.int .i64 0],.struct [(0,3),(1,37)]⟩),
 (274,⟨1,24,false,[.list true [.z,.z,.z,.z,.z,.z,.z,.z,.z,.z,.z]],[.zs],.slice 273⟩)]
def oM:List Nat:=[28,35,39,48,101,108]
noncomputable abbrev PR:Program:=Tryz.prog
theorem Nv:gO PR 98 gT=true:=by kernel_rfl
theorem Av:jM PR gT oM=true:=by kernel_rfl
theorem Et:PR.follows .mixedOrders=true:=by kernel_rfl
theorem Uc:∃ i,PR.info? 98=some i∧i.zero=some (.agg #[.pointer none,.slice none 0 0]):=by
 refine ⟨(PR.info? 98).getD default,by kernel_rfl,by kernel_rfl⟩
theorem vT (_h:(EQ TI.none gT 98).d = .bld):∃ i,PR.info? 98=some i∧i.zero=some (.agg #[.pointer none,.slice none 0 0]):=Uc
def D0 (sp:List (Nat × DR)) (lp:List (Nat × KP)) (nt N:Nat):Env:=⟨gT,sp,[],lp,nt,N,oM,[]⟩
def kP (sp:List (Nat × DR)) (ip:List (Nat × Ip)) (lp:List (Nat × KP)) (nt N:Nat):Env:=⟨gT,sp,[],lp,nt,N,oM,ip⟩
abbrev HF (fn:Func) (c:Code) (nt:Nat) (rs:List ResultVar):Prop:=(fn.name == "runtime.NumGoroutine")=false∧fn.body=some c∧fn.ntmps=nt∧B6 nt 900000=true∧fn.results.toList=rs
theorem DZ {fn:Func} {nt:Nat} {rs:List ResultVar} (h:(!(fn.name == "runtime.NumGoroutine")&&(fn.body.isSome&&(fn.ntmps==nt&&B6 nt 900000)))=true:=by kernel_rfl) (h2:fn.results.toList=rs:=by kernel_rfl):HF fn (DW fn) nt rs:=by
 simp only [AI,B5,B8] at h;refine ⟨h.1,?_,h.2.2.1,h.2.2.2,h2⟩;unfold DW;cases hb:fn.body with
 | none=>rw [hb] at h; exact absurd h.2.1 (by decide)
 | some c=>rfl
noncomputable def IR:Code:=DW Tryz.f3
theorem za1:HF Tryz.f3 IR 165 [.tmp 10]:=DZ
noncomputable def M0:Code:=DW Tryz.f7
theorem zaT:HF Tryz.f7 M0 63 [.cell 2 31]:=DZ
noncomputable def xD:Code:=DW Tryz.f8
theorem za3:HF Tryz.f8 xD 21 [.cell 4 39,.tmp 5]:=DZ
noncomputable def wY:Code:=DW Tryz.f9
theorem zaS:HF Tryz.f9 wY 58 [.cell 4 39]:=DZ
noncomputable def LF:Code:=DW Tryz.f10
theorem zah:HF Tryz.f10 LF 100 [.tmp 4]:=DZ
noncomputable def WL:Code:=DW Tryz.f11
theorem zaH:HF Tryz.f11 WL 61 [.tmp 2]:=DZ
noncomputable def TX:Code:=DW Tryz.f12
theorem zan:HF Tryz.f12 TX 54 [.tmp 6]:=DZ
noncomputable def KE:Code:=DW Tryz.f13
theorem zb3:HF Tryz.f13 KE 94 [.tmp 2]:=DZ
noncomputable def xC:Code:=DW Tryz.f14
theorem za2:HF Tryz.f14 xC 31 [.tmp 0]:=DZ
noncomputable def TY:Code:=DW Tryz.f15
theorem zao:HF Tryz.f15 TY 59 [.tmp 2,.tmp 3]:=DZ
noncomputable def xR:Code:=DW Tryz.f16
theorem zbm:HF Tryz.f16 xR 25 [.tmp 6,.tmp 7]:=DZ
noncomputable def JD:Code:=DW Tryz.f17
theorem zb2:HF Tryz.f17 JD 88 [.cell 2 31,.tmp 3]:=DZ
noncomputable def SD:Code:=DW Tryz.f23
theorem zag:HF Tryz.f23 SD 82 [.cell 2 39,.tmp 3,.tmp 4]:=DZ
noncomputable def xN:Code:=DW Tryz.f26
theorem zbd:HF Tryz.f26 xN 46 [.cell 4 50]:=DZ
noncomputable def WN:Code:=DW Tryz.f27
theorem zbf:HF Tryz.f27 WN 37 [.tmp 4]:=DZ
noncomputable def xO:Code:=DW Tryz.f29
theorem zbe:HF Tryz.f29 xO 8 [.tmp 2]:=DZ
noncomputable def wX:Code:=DW Tryz.f32
theorem zaR:HF Tryz.f32 wX 24 [.tmp 6]:=DZ
noncomputable def w8:Code:=DW Tryz.f35
theorem zaX:HF Tryz.f35 w8 15 [.tmp 4]:=DZ
noncomputable def MB:Code:=DW Tryz.f36
theorem zaW:HF Tryz.f36 MB 113 [.tmp 4]:=DZ
noncomputable def WO:Code:=DW Tryz.f37
theorem zbk:HF Tryz.f37 WO 29 [.tmp 8,.tmp 9]:=DZ
noncomputable def yH:Code:=DW Tryz.f38
theorem zbJ:HF Tryz.f38 yH 16 [.cell 2 37]:=DZ
noncomputable def T4:Code:=DW Tryz.f39
theorem zaU:HF Tryz.f39 T4 32 [.cell 4 37]:=DZ
noncomputable def wH:Code:=DW Tryz.f40
theorem zam:HF Tryz.f40 wH 39 [.cell 4 39]:=DZ
noncomputable def wG:Code:=DW Tryz.f41
theorem zal:HF Tryz.f41 wG 9 [.tmp 2]:=DZ
noncomputable def xJ:Code:=DW Tryz.f43
theorem za9:HF Tryz.f43 xJ 38 [.tmp 2]:=DZ
noncomputable def wV:Code:=DW Tryz.f45
theorem zaI:HF Tryz.f45 wV 47 [.tmp 2]:=DZ
noncomputable def WM:Code:=DW Tryz.f46
theorem zaJ:HF Tryz.f46 WM 26 []:=DZ
noncomputable def wI:Code:=DW Tryz.f48
theorem zap:HF Tryz.f48 wI 66 [.tmp 6]:=DZ
noncomputable def QU:Code:=DW Tryz.f49
theorem zbt:HF Tryz.f49 QU 54 [.tmp 2]:=DZ
noncomputable def yV:Code:=DW Tryz.f50
theorem zb5:HF Tryz.f50 yV 10 []:=DZ
noncomputable def yA:Code:=DW Tryz.f51
theorem zbz:HF Tryz.f51 yA 33 [.cell 2 108,.tmp 3]:=DZ
noncomputable def wZ:Code:=DW Tryz.f52
theorem zaV:HF Tryz.f52 wZ 14 [.cell 0 31]:=DZ
noncomputable def T7:Code:=DW Tryz.f53
theorem zbO:HF Tryz.f53 T7 13 [.cell 4 50]:=DZ
noncomputable def LG:Code:=DW Tryz.f54
theorem zaN:HF Tryz.f54 LG 59 [.tmp 6]:=DZ
noncomputable def TZ:Code:=DW Tryz.f56
theorem zaq:HF Tryz.f56 TZ 29 [.tmp 4,.tmp 5,.tmp 6]:=DZ
noncomputable def wJ:Code:=DW Tryz.f57
theorem zar:HF Tryz.f57 wJ 37 [.tmp 2]:=DZ
noncomputable def wU:Code:=DW Tryz.f58
theorem zaG:HF Tryz.f58 wU 17 [.cell 2 50,.tmp 3]:=DZ
noncomputable def JC:Code:=DW Tryz.f59
theorem zbj:HF Tryz.f59 JC 73 [.tmp 8,.tmp 9]:=DZ
noncomputable def yM:Code:=DW Tryz.f60
theorem zbR:HF Tryz.f60 yM 9 [.tmp 4]:=DZ
noncomputable def xS:Code:=DW Tryz.f61
theorem zbn:HF Tryz.f61 xS 13 [.tmp 4]:=DZ
noncomputable def NU:Code:=DW Tryz.f62
theorem zbG:HF Tryz.f62 NU 75 [.tmp 8]:=DZ
noncomputable def wT:Code:=DW Tryz.f63
theorem zaF:HF Tryz.f63 wT 16 [.cell 2 48]:=DZ
noncomputable def yT:Code:=DW Tryz.f65
theorem zb1:HF Tryz.f65 yT 8 [.tmp 4]:=DZ
noncomputable def yW:Code:=DW Tryz.f66
theorem zb6:HF Tryz.f66 yW 26 [.tmp 2]:=DZ
noncomputable def yU:Code:=DW Tryz.f67
theorem zb4:HF Tryz.f67 yU 24 [.tmp 4]:=DZ
noncomputable def yZ:Code:=DW Tryz.f68
theorem zb9:HF Tryz.f68 yZ 13 [.tmp 4]:=DZ
noncomputable def yY:Code:=DW Tryz.f69
theorem zb8:HF Tryz.f69 yY 11 [.tmp 2]:=DZ
noncomputable def yX:Code:=DW Tryz.f70
theorem zb7:HF Tryz.f70 yX 28 [.tmp 2]:=DZ
noncomputable def xA:Code:=DW Tryz.f74
theorem zaZ:HF Tryz.f74 xA 32 [.tmp 2]:=DZ
noncomputable def T9:Code:=DW Tryz.f80
theorem zbV:HF Tryz.f80 T9 19 [.tmp 4]:=DZ
noncomputable def wE:Code:=DW Tryz.f81
theorem zaj:HF Tryz.f81 wE 46 [.cell 2 39]:=DZ
noncomputable def wF:Code:=DW Tryz.f83
theorem zak:HF Tryz.f83 wF 11 [.tmp 2]:=DZ
noncomputable def wD:Code:=DW Tryz.f84
theorem zai:HF Tryz.f84 wD 11 [.tmp 2]:=DZ
noncomputable def yF:Code:=DW Tryz.f93
theorem zbH:HF Tryz.f93 yF 41 [.tmp 4]:=DZ
noncomputable def nK:Code:=DW Tryz.f96
theorem zbl:HF Tryz.f96 nK 24 [.tmp 8]:=DZ
noncomputable def yJ:Code:=DW Tryz.f97
theorem zbL:HF Tryz.f97 yJ 16 [.tmp 2]:=DZ
noncomputable def xM:Code:=DW Tryz.f100
theorem zbc:HF Tryz.f100 xM 8 [.tmp 0]:=DZ
noncomputable def T3:Code:=DW Tryz.f104
theorem zaM:HF Tryz.f104 T3 37 [.tmp 2]:=DZ
noncomputable def wK:Code:=DW Tryz.f106
theorem zas:HF Tryz.f106 wK 25 [.tmp 4]:=DZ
noncomputable def yN:Code:=DW Tryz.f107
theorem zbS:HF Tryz.f107 yN 9 [.tmp 4]:=DZ
noncomputable def xX:Code:=DW Tryz.f108
theorem zbu:HF Tryz.f108 xX 22 [.tmp 3]:=DZ
noncomputable def LH:Code:=DW Tryz.f109
theorem zca:HF Tryz.f109 LH 94 [.tmp 4]:=DZ
noncomputable def wN:Code:=DW Tryz.f110
theorem zav:HF Tryz.f110 wN 14 [.tmp 6]:=DZ
noncomputable def wL:Code:=DW Tryz.f111
theorem zat:HF Tryz.f111 wL 18 [.tmp 6]:=DZ
noncomputable def yB:Code:=DW Tryz.f112
theorem zbA:HF Tryz.f112 yB 11 [.tmp 5]:=DZ
noncomputable def xY:Code:=DW Tryz.f113
theorem zbx:HF Tryz.f113 xY 32 [.tmp 2]:=DZ
noncomputable def yL:Code:=DW Tryz.f114
theorem zbN:HF Tryz.f114 yL 26 [.tmp 4]:=DZ
noncomputable def dR:Code:=DW Tryz.f115
theorem zbP:HF Tryz.f115 dR 165 [.tmp 2]:=DZ
noncomputable def dS:Code:=DW Tryz.f116
theorem zbQ:HF Tryz.f116 dS 22 [.cell 2 50]:=DZ
noncomputable def YQ:Code:=DW Tryz.f117
theorem zbD:HF Tryz.f117 YQ 75 [.tmp 4,.tmp 5]:=DZ
noncomputable def NT:Code:=DW Tryz.f118
theorem zaQ:HF Tryz.f118 NT 94 [.tmp 6]:=DZ
noncomputable def wS:Code:=DW Tryz.f119
theorem zaE:HF Tryz.f119 wS 25 [.tmp 6]:=DZ
noncomputable def HQ:Code:=DW Tryz.f123
theorem zaL:HF Tryz.f123 HQ 87 [.cell 2 50]:=DZ
noncomputable def Up:Code:=DW Tryz.f124
theorem zaC:HF Tryz.f124 Up 32 [.cell 6 37,.cell 7 37]:=DZ
noncomputable def T8:Code:=DW Tryz.f125
theorem zbT:HF Tryz.f125 T8 19 [.tmp 4]:=DZ
noncomputable def xW:Code:=DW Tryz.f126
theorem zbs:HF Tryz.f126 xW 24 [.tmp 6]:=DZ
noncomputable def yQ:Code:=DW Tryz.f127
theorem zbY:HF Tryz.f127 yQ 15 [.tmp 4]:=DZ
noncomputable def yG:Code:=DW Tryz.f128
theorem zbI:HF Tryz.f128 yG 14 [.cell 6 48]:=DZ
noncomputable def xV:Code:=DW Tryz.f130
theorem zbq:HF Tryz.f130 xV 16 [.tmp 4]:=DZ
noncomputable def xK:Code:=DW Tryz.f131
theorem zba:HF Tryz.f131 xK 76 [.tmp 2,.tmp 3]:=DZ
noncomputable def xB:Code:=DW Tryz.f133
theorem za0:HF Tryz.f133 xB 66 [.tmp 2]:=DZ
noncomputable def w9:Code:=DW Tryz.f134
theorem zaY:HF Tryz.f134 w9 27 [.tmp 4]:=DZ
noncomputable def yK:Code:=DW Tryz.f146
theorem zbM:HF Tryz.f146 yK 35 [.tmp 4]:=DZ
noncomputable def yI:Code:=DW Tryz.f147
theorem zbK:HF Tryz.f147 yI 71 [.tmp 4]:=DZ
noncomputable def xT:Code:=DW Tryz.f149
theorem zbo:HF Tryz.f149 xT 23 [.tmp 4]:=DZ
noncomputable def OP:Code:=DW Tryz.f151
theorem zbv:HF Tryz.f151 OP 54 [.tmp 4]:=DZ
noncomputable def SF:Code:=DW Tryz.f163
theorem zbU:HF Tryz.f163 SF 19 [.tmp 4]:=DZ
noncomputable def wO:Code:=DW Tryz.f164
theorem zaw:HF Tryz.f164 wO 21 [.tmp 4]:=DZ
noncomputable def wP:Code:=DW Tryz.f165
theorem zax:HF Tryz.f165 wP 21 [.tmp 4]:=DZ
noncomputable def wQ:Code:=DW Tryz.f166
theorem zay:HF Tryz.f166 wQ 7 [.tmp 2]:=DZ
noncomputable def xZ:Code:=DW Tryz.f167
theorem zby:HF Tryz.f167 xZ 43 [.tmp 2]:=DZ
noncomputable def wM:Code:=DW Tryz.f168
theorem zau:HF Tryz.f168 wM 30 [.tmp 8]:=DZ
noncomputable def xP:Code:=DW Tryz.f169
theorem zbg:HF Tryz.f169 xP 86 [.tmp 6]:=DZ
noncomputable def xQ:Code:=DW Tryz.f170
theorem zbh:HF Tryz.f170 xQ 9 [.cell 2 48,.tmp 3]:=DZ
noncomputable def SE:Code:=DW Tryz.f171
theorem zbi:HF Tryz.f171 SE 31 [.tmp 6,.tmp 7,.tmp 8]:=DZ
noncomputable def yD:Code:=DW Tryz.f173
theorem zbC:HF Tryz.f173 yD 6 [.tmp 2]:=DZ
noncomputable def wR:Code:=DW Tryz.f174
theorem zaD:HF Tryz.f174 wR 12 [.tmp 2]:=DZ
noncomputable def IE:Code:=DW Tryz.f175
theorem zaO:HF Tryz.f175 IE 66 [.tmp 6,.tmp 7]:=DZ
noncomputable def wW:Code:=DW Tryz.f180
theorem zaK:HF Tryz.f180 wW 20 [.tmp 4]:=DZ
noncomputable def yO:Code:=DW Tryz.f181
theorem zbW:HF Tryz.f181 yO 29 [.cell 4 35,.cell 5 35]:=DZ
noncomputable def OQ:Code:=DW Tryz.f182
theorem zbw:HF Tryz.f182 OQ 33 [.tmp 6]:=DZ
noncomputable def xU:Code:=DW Tryz.f186
theorem zbp:HF Tryz.f186 xU 21 [.tmp 4]:=DZ
noncomputable def xL:Code:=DW Tryz.f187
theorem zbb:HF Tryz.f187 xL 19 [.tmp 2,.tmp 3]:=DZ
noncomputable def yP:Code:=DW Tryz.f191
theorem zbX:HF Tryz.f191 yP 8 [.tmp 2]:=DZ
noncomputable def yC:Code:=DW Tryz.f206
theorem zbB:HF Tryz.f206 yC 9 [.tmp 2]:=DZ
noncomputable def ID:Code:=DW Tryz.f207
theorem zaA:HF Tryz.f207 ID 69 [.tmp 6,.tmp 7,.tmp 8]:=DZ
noncomputable def T1:Code:=DW Tryz.f208
theorem zaz:HF Tryz.f208 T1 62 [.tmp 6,.tmp 7]:=DZ
noncomputable def xG:Code:=DW Tryz.f209
theorem za6:HF Tryz.f209 xG 23 [.tmp 4]:=DZ
noncomputable def xE:Code:=DW Tryz.f210
theorem za4:HF Tryz.f210 xE 54 [.tmp 6,.tmp 7,.tmp 8]:=DZ
noncomputable def T6:Code:=DW Tryz.f211
theorem zbE:HF Tryz.f211 T6 40 [.tmp 2]:=DZ
noncomputable def YP:Code:=DW Tryz.f212
theorem zaP:HF Tryz.f212 YP 88 [.tmp 4,.tmp 5]:=DZ
noncomputable def yS:Code:=DW Tryz.f219
theorem zb0:HF Tryz.f219 yS 12 [.cell 4 35]:=DZ
noncomputable def yR:Code:=DW Tryz.f220
theorem zbZ:HF Tryz.f220 yR 2 [.cell 0 35]:=DZ
noncomputable def y0:Code:=DW Tryz.f221
theorem zcb:HF Tryz.f221 y0 15 [.tmp 4]:=DZ
noncomputable def T2:Code:=DW Tryz.f240
theorem zaB:HF Tryz.f240 T2 43 [.tmp 4,.tmp 5,.tmp 6]:=DZ
noncomputable def xI:Code:=DW Tryz.f241
theorem za8:HF Tryz.f241 xI 16 [.tmp 2]:=DZ
noncomputable def xF:Code:=DW Tryz.f242
theorem za5:HF Tryz.f242 xF 10 [.cell 4 37]:=DZ
noncomputable def xH:Code:=DW Tryz.f243
theorem za7:HF Tryz.f243 xH 15 [.cell 4 37]:=DZ
noncomputable def yE:Code:=DW Tryz.f244
theorem zbF:HF Tryz.f244 yE 16 [.tmp 2]:=DZ
noncomputable def NV:Code:=DW Tryz.f248
theorem zcc:HF Tryz.f248 NV 46 [.tmp 4,.cell 5 108]:=DZ
noncomputable def T5:Code:=DW Tryz.f264
theorem zbr:HF Tryz.f264 T5 79 [.tmp 4]:=DZ
end Go.FM
