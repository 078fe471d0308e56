/-
  A small machine that reckons what a call comes to; the functions of the program, one by one. (THE SMALL MACHINE (22): what comes back from a call., THE SMALL MACHINE (23): what a function is said to do; a cal, THE SMALL MACHINE (24): a call., and so on.)
-/
import Derived.Test.YtihliihljmfhlaaGreatDa
import Derived.Lib.ConvBytes
import Derived.Lib.AtoiAll
import Derived.Lib.ItoaLen
import Derived.Lib.SplitLaws
import Derived.Lib.TrimByte
import Derived.Lib.Repeat
import Derived.Lib.Join
import Derived.Test.YtihliihljmfhlaaGreatProg
import Derived.Shelf.Strings.BuilderK
import Derived.Shelf.Sort.Plain
import Derived.Shelf.Slices.Cells
import Derived.Shelf.Slices.In.SortNone
import Derived.Shelf.SlicesE.DeleteFunc
import Derived.Lib.AppendIntMem
set_option linter.all false
set_option maxRecDepth 100000
open Array renaming length_toList→CS,getElem?_toList→vaw,toList_append→vaC,getElem?_eq_some_iff→vaY,getD_eq_getD_getElem?→vbh,all_eq_true_iff_forall_mem→vbt
open BitVec renaming ofInt→AU,toNat→B1
open Bool renaming and_eq_true→AG,not_true→BB,not_eq_true'→BO,not_false→BX,and_true→vay,or_false→va9
open ByteArray renaming empty→vba
open Decidable renaming byContradiction→vby
open Go.Addr.mk renaming injEq→CP
open Go.IntKind renaming wrap→AA,i64→AC,u64→AI,bits→AK,signed→vai
open Go.Lib renaming bytesWorld→vaV
open Go.Op renaming operands→BR,equalIn→vbi
open Go.Region renaming wanted→CO,binds→vaW,ready→vbr
open Go.Result renaming andThen_ok→A9,andThen→vaE
open Go.Sem renaming run_bind→BS,run_pure→BU
open Go.TypeDesc renaming isRow→vbg
open Go.Value renaming ownBlock→CA
open Go.Value.pointer renaming injEq→B9
open Go.Value.slice renaming injEq→B4
open List renaming length_cons→AP,mem_append→AQ,mem_cons_self→AR,length_append→AS,mem_cons→AT,getElem?_eq_getElem→AV,mem_cons_of_mem→AW,map_cons→A2,getElem?_eq_some_iff→A5,length_take→A7,getElem?_cons_zero→BE,getElem?_eq_none→BF,mem_singleton→BJ,length_nil→BZ,getElem?_map→B6,drop→CB,getElem?_cons_succ→CD,length_map→CL,length_singleton→CT,length_drop→vab,map_nil→vac,all_eq_true→vah,cons_append→vap,take_of_length_le→vax,getElem?_drop→vaB,mem_append_right→vaG,mem_of_getElem?→vaJ,mem_append_left→vaK,countP_cons_of_pos→vaO,mem_map_of_mem→vaP,filter_cons→vaU,append_nil→va8,range'→vbb,countP_cons_of_neg→vbc,getElem?_append_right→vbk
open List.cons renaming injEq→vaI
open Nat renaming le_of_ble_eq_true→AL,le_refl→AO,zero_add→A3,beq→A4,blt→A8,ble→BM,ble_eq_true_of_le→BW,zero_le→B7,lt_of_lt_of_le→CC,le_trans→CR,add_zero→vaa,lt_or_ge→vae,add_mul→vaf,sub_zero→vam,min_eq_left→vaz,beq_refl→vbd,one_mul→vbm
open Option renaming map_some→vag,getD_some→vaq
open Option.some renaming injEq→AB,inj→B3
open Prod.mk renaming injEq→AM
namespace Go.FM
open Go Go.RowKit
theorem RP:∀ l:List V,KG l=l.map fun _=>.any
 | []=>rfl
 | _ :: r=>by simp [KG,RP r]
section
variable {B:BT} {nt:Nat} {w0:World} {X:Zone} {γ:Nat→Value} {st st':St} {a:Act} {w:World} {P:Program} {E:Env}
theorem W6 {B':BT} {own:Nat→Prop} {O1:Nat→Prop} {g:Nat→Value} (nm:Nat):∀ (r:List V) (j0:Nat) {γ:Nat→Value} {st:St} {F:Nat→Prop},nm+j0+r.length≤900000→Rel B nt w0 ⟨own,F⟩ γ st a w →
  (∀ b,CZ ⟨own,F⟩ γ st.o b→O1 b) →
  (∀ j e ag ks l,r[j]?=some (.vec e ag ks l)→ObRel B' γ [] w O1 (g (j0+j)) (.row true e ag ks l)∧∀ b,(g (j0+j)).ownBlock=some b→F b∧(w0.heap.size≤b∨own b)) →
  (∀ i j e ag ks l e' ag' ks' l' b,i≠j→r[i]?=some (.vec e ag ks l)→r[j]?=some (.vec e' ag' ks' l')→(g (j0+i)).ownBlock=some b→(g (j0+j)).ownBlock=some b→False) →
  ∃ γd F',Rel B nt w0 ⟨own,F'⟩ γd (st.ups (HS (nm+j0) r)) a w∧(∀ b,F' b→F b)∧(∀ b,F b→(∀ j e ag ks l,r[j]?=some (.vec e ag ks l)→(g (j0+j)).ownBlock≠some b)→F' b) ∧
   (∀ b,CZ ⟨own,F'⟩ γd (st.ups (HS (nm+j0) r)).o b→CZ ⟨own,F⟩ γ st.o b) ∧
   (∀ j e ag ks l,r[j]?=some (.vec e ag ks l)→γd (nm+j0+j)=g (j0+j)∧CY (st.ups (HS (nm+j0) r)).o (nm+j0+j)=some (.row true e ag ks l)) ∧
   (∀ m,(m < nm+j0∨nm+j0+r.length≤m)→γd m=γ m∧(∀ cs:List V,CY st.o m=some (.box (KG cs))→CY (st.ups (HS (nm+j0) r)).o m=some (.box (KG cs))) ∧
    (∀ e ag ks l,CY st.o m=some (.row true e ag ks l)→CY (st.ups (HS (nm+j0) r)).o m=some (.row true e ag ks l)))
 | [],j0,γ,st,F,_,h,hO,hr,hd=>⟨γ,F,h,fun _ h=>h,fun _ h _=>h,fun _ h=>h,fun j e ag ks l hj=>by simp at hj,fun m _=>⟨rfl,fun _ h=>h,fun _ _ _ _ h=>h⟩⟩
 | v :: r,j0,γ,st,F,h9,h,hO,hr,hd=>by
  rw [AP] at h9;by_cases hv:∃ e ag ks l,v = .vec e ag ks l
  ·obtain ⟨e,ag,ks,l,rfl⟩:=hv;obtain ⟨hr0,hb0⟩:=hr 0 e ag ks l (by simp);rw [vaa] at hr0 hb0;have h1:=h.add (nm+j0) (by omega) (.row true e ag ks l) (g j0) (fun b hb=>hb0 b hb) (fun O' hO'=>by
    simp only [ObRel] at hr0 ⊢;obtain ⟨k1,k2,xs,k3,k4⟩:=hr0;exact ⟨k1,k2,xs,k3,fun i y hy=>Kd.RelAll.mono (Keep.refl _ w) (fun b _ hb=>hO b (hO' b hb)) (fun _ _ hu=>hu) (k4 i y hy)⟩)
   have hO2:∀ b,CZ ⟨own,fun b=>F b∧¬ D3 (g j0) (.row true e ag ks l) b⟩ (fun m=>if nm+j0=m then g j0 else γ m) (st.up (.new (nm+j0) (.row true e ag ks l))).o b→CZ ⟨own,F⟩ γ st.o b:=by
    rintro b (⟨m,ob1,hm,hb1⟩ | hb)
    ·rw [ES] at hm;split at hm
     ·rename_i e1;subst e1;simp only [AB] at hm;subst hm;simp only [B8] at hb1;exact .inr (hb0 b hb1).1
     ·rename_i e1;obtain ⟨ob0,h0,hs⟩:=LN hm;simp only [AX e1] at hb1;exact .inl ⟨m,ob0,h0,((PE hs).2 _ _).1 hb1⟩
    ·exact .inr hb.1
   obtain ⟨γd,F',r1,r2,r3,r4,r5,r6⟩:=W6 (B':=B') nm r (j0+1) (by omega) h1 (fun b hb=>hO b (hO2 b hb)) (fun j e' ag' ks' l' hj=>by
     obtain ⟨q1,q2⟩:=hr (j+1) e' ag' ks' l' (by simpa using hj);rw [show j0+(j+1)=j0+1+j by omega] at q1 q2;refine ⟨Nl q1,fun b hb=>⟨⟨(q2 b hb).1,fun hb'=>?_⟩,(q2 b hb).2⟩⟩;exact hd 0 (j+1) e ag ks l e' ag' ks' l' b (by omega) (by simp) (by simpa using hj) hb' (by rw [show j0+(j+1)=j0+1+j by omega]; exact hb))
    (fun i j e1 ag1 ks1 l1 e2 ag2 ks2 l2 b hij h1 h2 hb1 hb2=>hd (i+1) (j+1) e1 ag1 ks1 l1 e2 ag2 ks2 l2 b (by omega) (by simpa using h1) (by simpa using h2) (by rw [show j0+(i+1)=j0+1+i by omega]; exact hb1) (by rw [show j0+(j+1)=j0+1+j by omega]; exact hb2))
   refine ⟨γd,F',r1,fun b hb=>(r2 b hb).1,fun b hb hn=>r3 b ⟨hb,fun hb'=>hn 0 e ag ks l (by simp) hb'⟩ (fun j e' ag' ks' l' hj=>by
     have:=hn (j+1) e' ag' ks' l' (by simpa using hj)
     rwa [show j0+(j+1)=j0+1+j by omega] at this),fun b hb=>hO2 b (r4 b hb),?_,?_⟩
   ·intro j e' ag' ks' l' hj;cases j with
    | zero=>
     simp only [BE,AB,V.vec.injEq] at hj;obtain ⟨rfl,rfl,rfl,rfl⟩:=hj;obtain ⟨p1,_,p3⟩:=r6 (nm+j0) (.inl (by omega));refine ⟨by rw [vaa,vaa,p1]; simp,?_⟩;rw [vaa];exact p3 e ag ks l (by rw [ES,A6 rfl])
    | succ j=>
     obtain ⟨p1,p2⟩:=r5 j e' ag' ks' l' (by simpa using hj);rw [show nm+(j0+1)+j=nm+j0+(j+1) by omega] at p1 p2;exact ⟨by rw [p1]; congr 1; omega,p2⟩
   ·intro m hm;have hne:nm+j0≠m:=by
     simp only [AP] at hm;omega
    obtain ⟨p1,p2,p3⟩:=r6 m (by simp only [AP] at hm; omega);refine ⟨by rw [p1,AX hne],fun cs hc=>p2 cs ?_,fun e' ag' ks' l' hc=>p3 e' ag' ks' l' ?_⟩
    ·rw [ES,AX hne,hc];simp only [FD,RP,List.map_map,AB,Ob.box.injEq];rfl
    ·rw [ES,AX hne,hc];rfl
  ·have hu:HS (nm+j0) (v :: r)=HS (nm+(j0+1)) r:=by
    cases v <;> first | rfl | exact absurd ⟨_,_,_,_,rfl⟩ hv
   rw [hu];obtain ⟨γd,F',r1,r2,r3,r4,r5,r6⟩:=W6 (B':=B') nm r (j0+1) (by omega) h hO (fun j e' ag' ks' l' hj=>by
     obtain ⟨q1,q2⟩:=hr (j+1) e' ag' ks' l' (by simpa using hj);rw [show j0+(j+1)=j0+1+j by omega] at q1 q2;exact ⟨q1,q2⟩)
    (fun i j e1 ag1 ks1 l1 e2 ag2 ks2 l2 b hij h1 h2 hb1 hb2=>hd (i+1) (j+1) e1 ag1 ks1 l1 e2 ag2 ks2 l2 b (by omega) (by simpa using h1) (by simpa using h2) (by rw [show j0+(i+1)=j0+1+i by omega]; exact hb1) (by rw [show j0+(j+1)=j0+1+j by omega]; exact hb2))
   refine ⟨γd,F',r1,r2,fun b hb hn=>r3 b hb (fun j e' ag' ks' l' hj=>by
     have:=hn (j+1) e' ag' ks' l' (by simpa using hj)
     rwa [show j0+(j+1)=j0+1+j by omega] at this),r4,?_,?_⟩
   ·intro j e' ag' ks' l' hj;cases j with
    | zero=>
     simp only [BE,AB] at hj;exact absurd ⟨_,_,_,_,hj⟩ hv
    | succ j=>
     obtain ⟨p1,p2⟩:=r5 j e' ag' ks' l' (by simpa using hj);rw [show nm+(j0+1)+j=nm+j0+(j+1) by omega] at p1 p2;exact ⟨by rw [p1]; congr 1; omega,p2⟩
   ·intro m hm;exact r6 m (by simp only [AP] at hm; omega)
end
open Go Go.RowKit
def LD:V→Bool
 | .agg l=>l.all F5
 | .tup l=>l.all fun v=>match v with | .agg l=>l.all F5 | v=>F5 v
 | v=>F5 v
def SM:V→Bool
 | .bor cs=>cs.all M1
 | .vec _ _ _ _=>true
 | v=>LD v
def fT:List V→List V→Bool
 | [.bld _],[.bld _]=>true
 | [.bld _],_=>false
 | _,cs=>cs.all M1
def JR (vs:List V) (r:V) (out:List (List V)) (g g':Value):Prop:=
 match EL vs,out with
 | none,[]=>SM r=true
 | some cs,[cs']=>LD r=true∧fT cs cs'=true∧NL g'=NL g
 | _,_=>False
def Does (P:Program) (f:FuncId) (xs:List Value) (w:World) (R:Ending→World→Prop):Prop:=
 match (callFunc f xs.toArray).run P w with
 | .ok (.enter g args) w'=>Calls P g args w' R
 | .ok (.value x) w'=>R (.returned x) w'
 | .ok (.row row args) w'=>Rows P row args w' fun x w''=>R (.returned x) w''
 | _=>False
theorem Does.mono {P:Program} {f:FuncId} {xs:List Value} {w:World} {R R':Ending→World→Prop} (h:Does P f xs w R) (hr:∀ e w',R e w'→R' e w'):Does P f xs w R':=by
 unfold Does at h ⊢;split at h
 ·exact Calls.mono h hr
 ·exact hr _ _ h
 ·exact Rows.mono h (fun v w'=>hr _ _)
 ·exact h.elim
theorem Does.enter {P:Program} {f:FuncId} {fn:Func} (hf:P.funcs[f]?=some fn) (hn:(fn.name == "runtime.NumGoroutine")=false) (hb:fn.body.isNone=false) {xs:List Value} {w:World} {R:Ending→World→Prop} (h:Calls P f xs.toArray w R):Does P f xs w R:=by
 have:(callFunc f xs.toArray).run P w = .ok (.enter f xs.toArray) w:=by
  unfold callFunc;have hn':¬ fn.name = "runtime.NumGoroutine":=by simpa using hn
  have hb':¬ fn.body=none:=fun h=>by rw [h] at hb; cases hb
  simp [hf,hn',hb']
 unfold Does;rw [this];exact h
def Snd (P:Program) (B:BT) (f:FuncId) (sp:NK):Prop:=
 ∀ (w:World) (X:Zone) (γ:Nat→Value) (vs:List V) (xs:List Value) (r:V) (out:List (List V)),sp vs=some (r,out)→Glob B w→(∀ b,X.own b→B.ng≤b) →
  Rel B.base 0 w X γ ⟨[],HL vs⟩ IG w→VRels γ (HL vs) w (CZ X γ (HL vs)) (vs.map D4) xs →
  Does P f xs w fun e w'=>∃ x,e = .returned x∧∃ γ',Rel B.base 0 w X γ' ⟨[],FT r out⟩ IG w'∧VRel γ' (FT r out) w' (CZ X γ' (FT r out)) (J6 r) x∧JR vs r out (γ 900000) (γ' 900000)
theorem X4 {γ γ':Nat→Value} {o o':Store} {w:World} {O O':Nat→Prop} {v:V} (hf:F5 v=true) (hO:QQ v=true→∀ b,b < w.heap.size→O' b→O b) {x:Value} (h:VRel γ o w O v x):VRel γ' o' w O' v x:=by
 cases v <;> simp only [F5] at hf <;> first | (cases hf; done) | (exact OZ rfl (VRel.mono (Keep.refl _ w) (hO rfl) h)) | (simp only [VRel] at h ⊢; try exact h)
theorem W8:∀ {l:List V} {v:V},v∈l→QQ v=true→F9 l=true
 | u :: r,v,hm,hv=>by
  simp only [F9];cases hu:QQ u with
  | true=>rfl
  | false=>
   rcases AT.1 hm with h1 | h1
   ·subst h1;rw [hv] at hu;cases hu
   ·exact W8 h1 hv
theorem cN {γ γ':Nat→Value} {o o':Store} {w:World} {O O':Nat→Prop}:∀ {l:List V} {xs:List Value},l.all F5=true→(F9 l=true→∀ b,b < w.heap.size→O' b→O b)→VRels γ o w O l xs→VRels γ' o' w O' l xs
 | [],[],_,_,_=>by simp only [VRels]
 | [],_ :: _,_,_,h=>by simp only [VRels] at h
 | _ :: _,[],_,_,h=>by simp only [VRels] at h
 | v :: l,x :: xs,hf,hO,h=>by
  simp only [VRels] at h ⊢;simp only [List.all_cons,AG] at hf;exact ⟨X4 hf.1 (fun hv=>hO (W8 (AR ..) hv)) h.1,cN hf.2 (fun hl=>hO (by simp only [F9]; split <;> first | rfl | exact hl)) h.2⟩
theorem cO {γ γ':Nat→Value} {o o':Store} {w:World} {O O':Nat→Prop} {v:V} (hf:LD v=true) (hO:GB v=true→∀ b,b < w.heap.size→O' b→O b) {x:Value} (h:VRel γ o w O v x):VRel γ' o' w O' v x:=by
 by_cases ha:∃ l,v = .agg l
 ·obtain ⟨l,rfl⟩:=ha;simp only [VRel] at h ⊢;obtain ⟨cs,hx,hr⟩:=h;exact ⟨cs,hx,cN hf hO hr⟩
 by_cases ht:∃ l,v = .tup l
 ·obtain ⟨l,rfl⟩:=ht;simp only [VRel] at h ⊢;obtain ⟨cs,hx,hr⟩:=h;refine ⟨cs,hx,?_⟩;simp only [LD] at hf;have key:∀ (l:List V) (xs:List Value),(l.all fun v=>match v with | .agg l=>l.all F5 | v=>F5 v)=true→(GB.go l=true→∀ b,b < w.heap.size→O' b→O b)→VRels γ o w O l xs→VRels γ' o' w O' l xs:=by
   intro l
   induction l with
   | nil=>
    intro xs _ _ h;cases xs with
    | nil=>simp only [VRels]
    | cons _ _=>simp only [VRels] at h
   | cons v l ih=>
    intro xs hf hO h;cases xs with
    | nil=>simp only [VRels] at h
    | cons x xs=>
     simp only [VRels] at h ⊢;simp only [List.all_cons,AG] at hf;have h2:GB.go l=true→GB.go (v :: l)=true:=fun hl=>by cases v <;> simp only [GB.go] <;> first | exact hl | (split <;> first | rfl | exact hl)
     refine ⟨?_,ih xs hf.2 (fun hl=>hO (h2 hl)) h.2⟩;by_cases hv:∃ l',v = .agg l'
     ·obtain ⟨l',rfl⟩:=hv;have h1:=h.1;simp only [VRel] at h1 ⊢;obtain ⟨cs,hx,hr⟩:=h1;exact ⟨cs,hx,cN hf.1 (fun hl=>hO (by simp only [GB.go,hl])) hr⟩
     ·have hf1:F5 v=true:=by
       have:=hf.1
       split at this
       ·exact absurd ⟨_,rfl⟩ hv
       ·exact this
      exact X4 hf1 (fun hl=>hO (by cases v <;> simp_all [GB.go])) h.1
  exact key l _ hf hO hr
 have h1:F5 v=true:=by cases v <;> first | exact hf | exact absurd ⟨_,rfl⟩ ha | exact absurd ⟨_,rfl⟩ ht
 exact X4 h1 (fun hl=>hO (by cases v <;> first | exact hl | (simp only [QQ] at hl; cases hl))) h
theorem SR {v:V} (h:LD v=true):J6 v=v:=by
 cases v <;> first | rfl | (simp only [LD,F5] at h; cases h)
theorem iR {o:Store} {bs:List V} {tk:Option Kd} {v:V} (h:D9.lentC [v]=[]):∀ cs,DO o bs tk v≠.bor cs:=by
 intro cs hc;cases v
 case ptr n i c=>simp [D9.lentC] at h
 all_goals simp only [DO] at hc
 all_goals (repeat' split at hc)
 all_goals (cases hc)
theorem iS {o:Store} {bs:List V} {tk:Option Kd} {v:V} {cs:List V} (h:DO o bs tk v = .bor cs):cs=bs:=by
 cases v <;> simp only [DO] at h <;> try (cases h; done)
 all_goals (repeat' split at h)
 all_goals first | (cases h; done) | (cases h; rfl)
theorem i6 {o:Store} {bs:List V}:∀ {l:List V},(EL.borC (l.map (DO o bs none))=none∨EL.borC (l.map (DO o bs none))=some bs)∧(D9.lentC l=[]→EL.borC (l.map (DO o bs none))=none)
 | []=>by simp [EL.borC]
 | v :: r=>by
  have ih:=i6 (o:=o) (bs:=bs) (l:=r);have hl:D9.lentC (v :: r)=[]→D9.lentC [v]=[]∧D9.lentC r=[]:=by cases v <;> simp [D9.lentC]
  simp only [A2];cases hv:DO o bs none v
  case bor cs=>
   simp only [EL.borC];refine ⟨.inr (by rw [iS hv]),fun h=>absurd hv (iR (hl h).1 cs)⟩
  all_goals (simp only [EL.borC]; exact ⟨ih.1,fun h=>ih.2 (hl h).2⟩)
theorem U1 {o:Store} {bs:List V}:∀ {l:List V} {tks:List (List Kd)},(EL (ER o bs tks l)=none∨EL (ER o bs tks l)=some bs)∧(D9 l=[]→EL (ER o bs tks l)=none)
 | [],tks=>by cases tks <;> simp [ER,EL]
 | v :: r,tks=>by
  obtain ⟨ks,tks',he⟩:∃ ks tks',ER o bs tks (v :: r)=G5 o bs ks v :: ER o bs tks' r:=by
   cases tks with
   | nil=>exact ⟨[],[],rfl⟩
   | cons k ks=>exact ⟨k,ks,rfl⟩
  have ih:=U1 (o:=o) (bs:=bs) (l:=r) (tks:=tks');rw [he];have hl:D9 (v :: r)=[]→D9 [v]=[]∧D9 r=[]:=by cases v <;> simp [D9]
  by_cases hc:∃ f l,v = .clo f l
  ·obtain ⟨f,l,rfl⟩:=hc;have hb:=i6 (o:=o) (bs:=bs) (l:=l);simp only [G5,EL];cases hx:EL.borC (l.map (DO o bs none)) with
   | none=>exact ⟨ih.1,fun h=>ih.2 (hl h).2⟩
   | some cs=>
    simp only;refine ⟨.inr ?_,fun h=>?_⟩
    ·rcases hb.1 with h1 | h1 <;> rw [hx] at h1
     ·cases h1
     ·exact h1
    ·have:=hb.2 (by have:=(hl h).1; simpa [D9] using this)
     rw [hx] at this;cases this
  ·by_cases ha:∃ l,v = .agg l
   ·obtain ⟨l,rfl⟩:=ha;simp only [G5,EL];exact ⟨ih.1,fun h=>ih.2 (hl h).2⟩
   ·have h1:G5 o bs ks v=DO o bs ks.head? v:=by
     cases v <;> first | rfl | exact absurd ⟨_,rfl⟩ ha | exact absurd ⟨_,_,rfl⟩ hc
    rw [h1];cases hv:DO o bs ks.head? v
    case bor cs=>
     simp only [EL];refine ⟨.inr (by rw [iS hv]),fun h=>absurd hv (iR (v:=v) ?_ cs)⟩
     have:=(hl h).1
     cases v <;> simp_all [D9,D9.lentC]
    case clo f l=>
     exfalso;cases v <;> simp only [DO] at hv <;> try (cases hv; done)
     all_goals (repeat' split at hv)
     all_goals (cases hv)
    all_goals (simp only [EL]; exact ⟨ih.1,fun h=>ih.2 (hl h).2⟩)
open Go Go.RowKit
section
variable {B:BT} {nt:Nat} {w0:World} {X:Zone} {γ:Nat→Value} {st st':St} {a:Act} {w:World} {P:Program} {E:Env}
theorem VG (h:Rel B nt w0 X γ st a w) (ns:List Nat) {b:Nat} (hb:CZ X γ (st.ups (DP st.o ns)).o b):CZ X γ st.o b∧∀ m∈ns,¬ RowOf γ st.o m b:=by
 obtain ⟨h1,h2,h3,h4,h5⟩:=JW st.o ns (FrzLe.refl _) h;refine ⟨h2.owned hb,?_⟩;rintro m hm ⟨e,ag,ks,l,ho,hob⟩;rcases hb with ⟨m',ob',hm',hb'⟩ | hb
 ·by_cases e1:m=m'
  ·subst e1;rcases h2 m with h6 | ⟨e',ag',ks',l',h6,h7⟩
   ·rw [h6,ho] at hm'
    have:=h4 m hm true e ag ks l (by rw [h6,ho])
    cases this
   ·rw [h7,AB] at hm';subst hm';exact hb'.elim
  ·rcases h2 m' with h6 | ⟨e',ag',ks',l',h6,h7⟩
   ·rw [h6] at hm';exact h.dis m m' _ ob' b e1 ho hm' hob hb'
   ·rw [h7,AB] at hm';subst hm';exact hb'.elim
 ·exact h.near ⟨m,_,ho,hob⟩ hb
theorem bB (h:Rel B nt w0 X γ st a w) (hg:GX B w0 X) {f:FuncId} {sp:NK} (hS:Snd P B f sp) {vs:List V} {xs:List Value} (hv:VRels γ st.o w (CZ X γ st.o) vs xs) (hl:D9 vs=[]) {tks:List (List Kd)} {v:V} {out:List (List V)}
  (hsp:sp (ER st.o [] tks vs)=some (v,out)) :
  Does P f xs w fun e w'=>∃ x,e = .returned x∧∃ γ',Rel B.base 0 w ⟨fun _=>False,fun b=>CZ X γ st.o b∧∀ m∈DT vs,¬ RowOf γ st.o m b⟩ γ' ⟨[],FT v out⟩ IG w' ∧
   VRel γ' (FT v out) w' (CZ ⟨fun _=>False,fun b=>CZ X γ st.o b∧∀ m∈DT vs,¬ RowOf γ st.o m b⟩ γ' (FT v out)) (J6 v) x∧SM v=true∧out=[]:=by
 have hb:EL (ER st.o [] tks vs)=none:=U1.2 hl;have hm:HL (ER st.o [] tks vs)=[]:=by simp only [HL,hb]
 have hR:Rel B.base 0 w ⟨fun _=>False,fun b=>CZ X γ st.o b∧∀ m∈DT vs,¬ RowOf γ st.o m b⟩ γ ⟨[],[]⟩ IG w:=by
  refine ⟨rfl,rfl,fun i=>by simp only [St.get,D6,VRel],fun n ob hn=>?_,?_,?_,Keep.refl _ w,?_,?_,fun p hp=>by cases hp⟩
  ·simp only [CY,D6] at hn; cases hn
  ·rintro b ⟨n,ob,hn,_⟩; simp only [CY,D6] at hn; cases hn
  ·intro n m ob ob' b _ hn; simp only [CY,D6] at hn; cases hn
  ·rintro b ⟨n,ob,hn,_⟩; simp only [CY,D6] at hn; cases hn
  ·rintro b ⟨hb | hb,_⟩
   ·exact (h.lt b hb).1
   ·exact h.fl b hb
 have:=hS w ⟨fun _=>False,fun b=>CZ X γ st.o b∧∀ m∈DT vs,¬ RowOf γ st.o m b⟩ γ (ER st.o [] tks vs) xs v out hsp (h.glob hg) (fun _ hf=>hf.elim) (by rw [hm]; exact hR) (by
  rw [hm];refine XA h (fun b _ hb=>?_) [] hv (fun m hm b hr hb=>?_) (fun m hm=>by rw [hl] at hm; cases hm)
  ·rcases hb with ⟨n,ob,hn,_⟩ | hb
   ·simp only [CY,D6] at hn; cases hn
   ·exact hb.1
  ·rcases hb with ⟨n,ob,hn,_⟩ | hb
   ·simp only [CY,D6] at hn; cases hn
   ·exact hb.2 m hm hr)
 refine this.mono ?_;rintro e w' ⟨x,he,γ',h1,h2,h3⟩;refine ⟨x,he,γ',h1,h2,?_⟩;simp only [JR,hb] at h3;cases out with
 | nil=>exact ⟨h3,rfl⟩
 | cons _ _=>exact h3.elim
theorem ZD (h:Rel B nt w0 X γ st a w) {w':World} {X':Zone} (hX:∀ b,¬ X'.own b) {γ':Nat→Value} {st':St} {a':Act} (hc:Rel B.base 0 w X' γ' st' a' w') (F:Nat→Prop) (hF:∀ b,F b→X.far b∨(w.heap.size≤b∧b < w'.heap.size)):Rel B nt w0 ⟨X.own,F⟩ γ st a w':=
 (h.fresh (hc.keep) (fun b _ hb=>(hX b hb).elim)).shrink hF
theorem R6 {cs:List V} (h:cs.all M1=true):D7 cs=(900000,some (.box (EV 900001 cs))) :: IB 900001 cs:=by
 refine bZ (fun s he=>?_);subst he;simp [M1,F5] at h
theorem lA {w':World} {X':Zone} {γ':Nat→Value} {cs:List V} (hok:cs.all M1=true) (_:Rel B.base 0 w X' γ' ⟨[],D7 cs⟩ IG w') {c:Array Value}
  (hr:VRels γ' (D7 cs) w' (CZ X' γ' (D7 cs)) (EV 900001 cs) c.toList) {γf:Nat→Value} {of:Store} {nm:Nat}
  (hrow:∀ j e ag ks l,cs[j]?=some (.vec e ag ks l)→γf (nm+j)=γ' (900001+j)∧CY of (nm+j)=some (.row true e ag ks l)) {O':Nat→Prop} (hO:F9 cs=true→∀ b,b < w'.heap.size→O' b→CZ X' γ' (D7 cs) b) :
  VRels γf of w' O' (EV nm cs) c.toList:=by
 have hl:=hr.length;rw [RR] at hl;refine VRels.of_get (by rw [RR,hl]) (fun j v x hv hx=>?_);rw [U0] at hv;cases hcj:cs[j]? with
 | none=>rw [hcj] at hv; cases hv
 | some u=>
  rw [hcj] at hv;simp only [vag,AB] at hv;have hb:(EV 900001 cs)[j]?=some (match (generalizing:=false) u with | .vec _ _ _ l=>.row (900001+j) 0 l.length | v=>v):=by rw [U0,hcj]; rfl
  have hux:=hr.get' hb hx;have huok:M1 u=true:=vah.1 hok u (vaJ hcj);by_cases hvec:∃ e ag ks l,u = .vec e ag ks l
  ·obtain ⟨e,ag,ks,l,rfl⟩:=hvec;simp only at hv hux;subst hv;obtain ⟨h1,h2⟩:=hrow j e ag ks l hcj;have hat:=WF (nr:=900001) hcj;have hat':CY (D7 cs) (900001+j)=some (.row true e ag ks l):=by
    rw [R6 hok,DF,AX (by omega)];exact hat
   simp only [VRel,hat'] at hux;simp only [VRel,h2,h1];exact hux
  ·have hf:F5 u=true:=by cases u <;> first | exact huok | exact absurd ⟨_,_,_,_,rfl⟩ hvec
   have hvu:v=u:=by cases u <;> first | exact hv.symm | exact absurd ⟨_,_,_,_,rfl⟩ hvec
   have hux':VRel γ' (D7 cs) w' (CZ X' γ' (D7 cs)) u x:=by cases u <;> first | exact hux | exact absurd ⟨_,_,_,_,rfl⟩ hvec
   subst hvu;exact X4 hf (fun hv=>hO (W8 (vaJ hcj) hv)) hux'
theorem iX {w':World} {X':Zone} {γ':Nat→Value} {cs:List V} (hok:cs.all M1=true) (hc:Rel B.base 0 w X' γ' ⟨[],D7 cs⟩ IG w') :
  (∀ (γ:Nat→Value) j e ag ks l,cs[j]?=some (.vec e ag ks l)→ObRel B.base γ [] w' (fun b=>F9 cs=true→CZ X' γ' (D7 cs) b) (γ' (900001+j)) (.row true e ag ks l)∧∀ b,(γ' (900001+j)).ownBlock=some b→ED γ' (D7 cs) b) ∧
  (∀ i j e ag ks l e' ag' ks' l' b,i≠j→cs[i]?=some (.vec e ag ks l)→cs[j]?=some (.vec e' ag' ks' l')→(γ' (900001+i)).ownBlock=some b→(γ' (900001+j)).ownBlock=some b→False) ∧
  (∀ j e ag ks l b,cs[j]?=some (.vec e ag ks l)→(γ' (900001+j)).ownBlock=some b→DY γ' (D7 cs) 900000 b→False):=by
 have hat:∀ {j e ag ks l},cs[j]?=some (V.vec e ag ks l)→CY (D7 cs) (900001+j)=some (.row true e ag ks l):=by
  intro j e ag ks l hj;rw [R6 hok,DF,AX (by omega)];exact WF hj
 refine ⟨fun γ j e ag ks l hj=>⟨?_,fun b hb=>⟨_,_,hat hj,hb⟩⟩,?_,?_⟩
 ·have hr:=hc.ob _ _ (hat hj);simp only [ObRel] at hr ⊢;obtain ⟨k1,k2,xs,k3,k4⟩:=hr;refine ⟨k1,k2,xs,k3,fun i y hy=>Kd.RelAll.mono (Keep.refl _ w') (fun b _ hb=>?_) (fun _ _ hu=>hu) (k4 i y hy)⟩;exact hb (W8 (vaJ hj) rfl)
 ·intro i j e ag ks l e' ag' ks' l' b hij h1 h2 hb1 hb2;exact hc.dis _ _ _ _ b (by omega) (hat h1) (hat h2) hb1 hb2
 ·rintro j e ag ks l b hj hb ⟨ob,h1,h2⟩;exact hc.dis _ _ _ _ b (by omega) (hat hj) h1 hb h2
theorem xZ (h:Rel B nt w0 X γ st a w) (hg:GX B w0 X) {f:FuncId} {sp:NK} (hS:Snd P B f sp) {vs:List V} {xs:List Value} (hv:VRels γ st.o w (CZ X γ st.o) vs xs) (hl:D9 vs=[]) {tks:List (List Kd)} {v:V} {out:List (List V)}
  (hsp:sp (ER st.o [] tks vs)=some (v,out)) (hnb:∀ cs,v≠.bor cs) (hnv:∀ e ag ks l,v≠.vec e ag ks l) :
  Does P f xs w fun e w'=>∃ x,e = .returned x∧∃ γ',Rel B nt w0 X γ' (st.ups (DP st.o (match GB v with | true=>DT vs | false=>[]))) a w' ∧
   VRel γ' (st.ups (DP st.o (match GB v with | true=>DT vs | false=>[]))).o w' (CZ X γ' (st.ups (DP st.o (match GB v with | true=>DT vs | false=>[]))).o) v x:=by
 refine (bB h hg hS hv hl hsp).mono ?_;rintro e w' ⟨x,he,γ',h1,h2,h3,rfl⟩;have hf:LD v=true:=by cases v <;> first | exact h3 | exact absurd rfl (hnb _) | exact absurd rfl (hnv _ _ _ _)
 have hmo:FT v []=[]:=by cases v <;> first | rfl | exact absurd rfl (hnb _) | exact absurd rfl (hnv _ _ _ _)
 rw [hmo] at h1 h2;rw [SR hf] at h2;have hz:=(JW st.o (match GB v with | true=>DT vs | false=>[]) (FrzLe.refl _) h).1;have hp:=ZD hz (fun b hb=>hb) h1 X.far (fun b hb=>.inl hb);refine ⟨x,he,γ,hp,cO hf (fun hhl b _ hb=>?_) h2⟩
 have:=VG h _ hb
 rw [hhl] at this;exact .inr this
theorem xY (h:Rel B nt w0 X γ st a w) (hg:GX B w0 X) {f:FuncId} {sp:NK} (hS:Snd P B f sp) {vs:List V} {xs:List Value} (hv:VRels γ st.o w (CZ X γ st.o) vs xs) (hl:D9 vs=[]) {tks:List (List Kd)} {cs:List V} {out:List (List V)}
  (hsp:sp (ER st.o [] tks vs)=some (.bor cs,out)) (d:Nat) (hd9:d≠900000) (hn9:1000*(d+1)+cs.length≤900000) :
  Does P f xs w fun e w'=>∃ x,e = .returned x∧∃ γ',Rel B nt w0 X γ' (st.ups (DP st.o (match F9 cs with | true=>DT vs | false=>[])++(HS (1000*(d+1)) cs++[.new d (.box (EV (1000*(d+1)) cs))]))) a w' ∧
   VRel γ' (st.ups (DP st.o (match F9 cs with | true=>DT vs | false=>[])++(HS (1000*(d+1)) cs++[.new d (.box (EV (1000*(d+1)) cs))]))).o w'
    (CZ X γ' (st.ups (DP st.o (match F9 cs with | true=>DT vs | false=>[])++(HS (1000*(d+1)) cs++[.new d (.box (EV (1000*(d+1)) cs))]))).o) (.ptr d 0 0) x:=by
 refine (bB h hg hS hv hl hsp).mono ?_;rintro e w' ⟨x,he,γ',h1,h2,h3,rfl⟩;simp only [SM] at h3;have hmo:FT (.bor cs) []=D7 cs:=rfl;rw [hmo] at h1 h2;generalize hX':(⟨fun _=>False,fun b=>CZ X γ st.o b∧∀ m∈DT vs,¬ RowOf γ st.o m b⟩:Zone)=X' at h1 h2;have hXo:∀ b,¬ X'.own b:=fun b hb=>by rw [← hX'] at hb; exact hb
 have hz:=(JW st.o (match F9 cs with | true=>DT vs | false=>[]) (FrzLe.refl _) h).1;have hPf:∀ b,ED γ' (D7 cs) b→w.heap.size≤b∧b < w'.heap.size:=fun b hb=>by
  obtain ⟨q1,q2⟩:=h1.lt b hb;exact ⟨q2.resolve_right (hXo b),q1⟩
 have hp:=ZD hz hXo h1 (fun b=>X.far b∨ED γ' (D7 cs) b) (fun b hb=>hb.imp_right (hPf b));obtain ⟨br1,br2,br3⟩:=iX h3 h1;have hO1:∀ b,CZ ⟨X.own,fun b=>X.far b∨ED γ' (D7 cs) b⟩ γ (st.ups (DP st.o (match F9 cs with | true=>DT vs | false=>[]))).o b→(F9 cs=true→CZ X' γ' (D7 cs) b):=by
  intro b hb hal;rw [hal] at hb;have key:CZ X γ (st.ups (DP st.o (DT vs))).o b∨ED γ' (D7 cs) b:=by
   rcases hb with hb | hb | hb
   ·exact .inl (.inl hb)
   ·exact .inl (.inr hb)
   ·exact .inr hb
  rcases key with hb | hb
  ·have:=VG h _ hb
   exact .inr (by rw [← hX']; exact this)
  ·exact .inl hb
 obtain ⟨γd,F',r1,r2,r3,r4,r5,r6⟩:=W6 (B':=B.base) (g:=fun j=>γ' (900001+j)) (1000*(d+1)) cs 0 (by omega) hp hO1 (fun j e ag ks l hj=>by
   rw [A3];obtain ⟨q1,q2⟩:=br1 γ j e ag ks l hj;exact ⟨q1,fun b hb=>⟨.inr (q2 b hb),.inl (CR h.keep.size (hPf b (q2 b hb)).1)⟩⟩)
  (fun i j e ag ks l e' ag' ks' l' b hij q1 q2 q3 q4=>by
   rw [A3] at q3 q4;exact br2 i j e ag ks l e' ag' ks' l' b hij q1 q2 q3 q4)
 simp only [vaa,A3] at r1 r3 r4 r5 r6;have hob0:CY (D7 cs) 900000=some (.box (EV 900001 cs)):=by rw [R6 h3,DF,A6 rfl]
 have hor:=h1.ob _ _ hob0;simp only [ObRel] at hor;obtain ⟨b0,c,T,hg,hh,hr⟩:=hor;have hb0P:ED γ' (D7 cs) b0:=⟨900000,_,hob0,⟨_,hg,rfl⟩⟩;have hadd:=r1.add d hd9 (.box (EV (1000*(d+1)) cs)) (γ' 900000) (fun b hb=>by
   obtain ⟨ad,q1,q2⟩:=hb;rw [hg] at q1;simp only [B9,AB] at q1;subst q1;simp only at q2;subst q2;exact ⟨r3 b0 (.inr hb0P) (fun j e ag ks l hj hb=>br3 j e ag ks l b0 hj hb ⟨_,hob0,_,hg,rfl⟩),.inl (CR h.keep.size (hPf b0 hb0P).1)⟩)
  (fun O' hO'=>by
   simp only [ObRel];refine ⟨b0,c,T,hg,hh,lA h3 h1 hr (fun j e ag ks l hj=>?_) (fun hal b _ hb=>hO1 b (r4 b (hO' b hb)) hal)⟩;obtain ⟨q1,q2⟩:=r5 j e ag ks l hj;refine ⟨by rw [AX (by omega)]; exact q1,?_⟩;rw [ES,AX (by omega),q2];rfl)
 have hfin:=hadd.shrink (F:=X.far) (fun b hb=>by
   have hlt:=h.fl b hb;refine ⟨r3 b (.inl hb) (fun j e ag ks l hj hbj=>?_),fun hbb=>?_⟩
   ·have:=hPf b ((br1 γ j e ag ks l hj).2 b hbj)
    omega
   ·obtain ⟨ad,q1,q2⟩:=hbb;rw [hg] at q1;simp only [B9,AB] at q1;subst q1;simp only at q2;subst q2
    have:=hPf b0 hb0P
    omega)
 refine ⟨x,he,_,by rw [IN,IN]; exact hfin,?_⟩;rw [IN,IN];simp only [St.ups,VRel,ES,B8];simp only [J6,D4,VRel,hob0] at h2;exact h2
theorem yA (h:Rel B nt w0 X γ st a w) (hg:GX B w0 X) {f:FuncId} {sp:NK} (hS:Snd P B f sp) {vs:List V} {xs:List Value} (hv:VRels γ st.o w (CZ X γ st.o) vs xs) (hl:D9 vs=[]) {tks:List (List Kd)} {e:Nat} {ag:Bool} {ks:List Kd} {l:LI} {out:List (List V)}
  (hsp:sp (ER st.o [] tks vs)=some (.vec e ag ks l,out)) (d:Nat) (hd9:d≠900000) :
  Does P f xs w fun e' w'=>∃ x,e' = .returned x∧∃ γ',Rel B nt w0 X γ' (st.ups (DP st.o (DT vs)++[.new d (.row true e ag ks l)])) a w' ∧
   VRel γ' (st.ups (DP st.o (DT vs)++[.new d (.row true e ag ks l)])).o w' (CZ X γ' (st.ups (DP st.o (DT vs)++[.new d (.row true e ag ks l)])).o) (.row d 0 l.length) x:=by
 refine (bB h hg hS hv hl hsp).mono ?_;rintro e' w' ⟨x,he,γ',h1,h2,h3,rfl⟩;have hmo:FT (.vec e ag ks l) []=[(900000,some (.row true e ag ks l))]:=rfl;rw [hmo] at h1 h2;generalize hX':(⟨fun _=>False,fun b=>CZ X γ st.o b∧∀ m∈DT vs,¬ RowOf γ st.o m b⟩:Zone)=X' at h1 h2;have hXo:∀ b,¬ X'.own b:=fun b hb=>by rw [← hX'] at hb; exact hb
 have hz:=(JW st.o (DT vs) (FrzLe.refl _) h).1;have hPf:∀ b,ED γ' [(900000,some (.row true e ag ks l))] b→w.heap.size≤b∧b < w'.heap.size:=fun b hb=>by
  obtain ⟨q1,q2⟩:=h1.lt b hb;exact ⟨q2.resolve_right (hXo b),q1⟩
 have hp:=ZD hz hXo h1 (fun b=>X.far b∨ED γ' [(900000,some (.row true e ag ks l))] b) (fun b hb=>hb.imp_right (hPf b));have hO1:∀ b,CZ ⟨X.own,fun b=>X.far b∨ED γ' [(900000,some (.row true e ag ks l))] b⟩ γ (st.ups (DP st.o (DT vs))).o b→CZ X' γ' [(900000,some (.row true e ag ks l))] b:=by
  intro b hb;have key:CZ X γ (st.ups (DP st.o (DT vs))).o b∨ED γ' [(900000,some (.row true e ag ks l))] b:=by
   rcases hb with hb | hb | hb
   ·exact .inl (.inl hb)
   ·exact .inl (.inr hb)
   ·exact .inr hb
  rcases key with hb | hb
  ·have:=VG h _ hb
   exact .inr (by rw [← hX']; exact this)
  ·exact .inl hb
 have hob0:CY [(900000,some (.row true e ag ks l))] 900000=some (.row true e ag ks l):=by rw [DF,A6 rfl]
 have hor:=h1.ob _ _ hob0;simp only [ObRel] at hor;obtain ⟨k1,k2,ys,k3,k4⟩:=hor;have hg0:∀ b,D3 (γ' 900000) (.row true e ag ks l) b→ED γ' [(900000,some (.row true e ag ks l))] b:=fun b hb=>⟨900000,_,hob0,hb⟩
 have hadd:=hp.add d hd9 (.row true e ag ks l) (γ' 900000) (fun b hb=>⟨.inr (hg0 b hb),.inl (CR h.keep.size (hPf b (hg0 b hb)).1)⟩)
  (fun O' hO'=>by
   simp only [ObRel];exact ⟨k1,k2,ys,k3,fun i y hy=>Kd.RelAll.mono (Keep.refl _ w') (fun b _ hb=>hO1 b (hO' b hb)) (fun _ _ hu=>hu) (k4 i y hy)⟩)
 have hfin:=hadd.shrink (F:=X.far) (fun b hb=>by
   have hlt:=h.fl b hb;refine ⟨.inl hb,fun hbb=>?_⟩
   have:=hPf b (hg0 b hbb)
   omega)
 refine ⟨x,he,_,by rw [IN]; exact hfin,?_⟩;rw [IN];simp only [St.ups,VRel,ES,B8];simp only [J6,VRel,hob0] at h2;exact h2
theorem Tb {γ:Nat→Value} {o:Store} {w:World} {O O':Nat→Prop} (hO:∀ b,b < w.heap.size→O' b→O b) {v:V} {y:Kd × IV} {x:Value} (he:gX v=some y) (hv:VRel γ o w O v x):Kd.Rel w O' y.1 y.2 x:=by
 cases v <;> simp only [gX] at he <;> first | (cases he; done) | skip
 all_goals
  simp only [AB] at he;subst he;simp only [VRel] at hv
 case list ag ks l=>exact Kd.Rel.mono (Keep.refl _ w) hO hv
 all_goals
  simp only [Kd.Rel,IV.toInt,IV.toBool,IV.toStr];exact hv
theorem uY {γ:Nat→Value} {o:Store} {w:World} {O O':Nat→Prop} (hO:∀ b,b < w.heap.size→O' b→O b) :
  ∀ {cs:List V} {y:List Kd × LI} {xs:List Value} {j:Nat} {f:Nat→IV} {R:Nat→Value→Prop},WW cs=some y→VRels γ o w O cs xs→(∀ i,f (j+i)=IA y.2 i)→(∀ i u,xs[i]?=some u→R (j+i) u)→Kd.RelAll w O' y.1 f j R
 | [],y,xs,j,f,R,he,hv,hf,hR=>by
  simp only [WW,AB] at he;subst he;simp only [Kd.RelAll]
 | v :: cs,y,[],j,f,R,he,hv,hf,hR=>by simp only [VRels] at hv
 | v :: cs,y,x :: xs,j,f,R,he,hv,hf,hR=>by
  simp only [WW] at he;split at he
  ·rename_i a b ha hb;simp only [AB] at he;subst he;simp only [VRels] at hv;simp only [Kd.RelAll];refine ⟨⟨x,by have:=hR 0 x rfl; simpa using this,?_⟩,uY hO hb hv.2 (fun i=>?_) (fun i u hu=>?_)⟩
   ·have h0:=hf 0;simp only [vaa,IA] at h0;rw [h0];exact Tb hO ha hv.1
   ·rw [show j+1+i=j+(i+1) by omega,hf];rfl
   ·rw [show j+1+i=j+(i+1) by omega];exact hR (i+1) u (by simpa using hu)
  ·cases he
theorem yG (h:Rel B nt w0 X γ st a w) {v:V} {x:Value} (hv:VRel γ st.o w (CZ X γ st.o) v x) {γb:Nat→Value} {bo:Store} {O':Nat→Prop} (hO:∀ b,b < w.heap.size→O' b→CZ X γ st.o b)
  (hrow:∀ m∈D1 [v],∀ b,RowOf γ st.o m b→¬ O' b) (hl:∀ m∈D9.lentC [v],∀ b,DY γ st.o m b→¬ O' b):VRel γb bo w O' (D4.go (IU st.o v)) x:=by
 by_cases hp:∃ n i c,v = .ptr n i c
 ·obtain ⟨n,i,c,rfl⟩:=hp;simp only [IU];split
  ·rename_i cs hic ho;split
   ·rename_i y hy;simp only [AG] at hic;obtain rfl:=EI.1 hic.1;obtain rfl:=EI.1 hic.2;simp only [VRel,ho] at hv;obtain ⟨_,b,hg,rfl⟩:=hv;obtain ⟨b',c,T,hg',hh,hc⟩:=h.ob n _ ho;rw [hg] at hg';simp only [B9,AB,CP,CE] at hg';subst hg';simp only [D4.go,VRel];refine ⟨b,0,rfl,hl n (by simp [D9.lentC]) b ⟨_,ho,⟨_,hg,rfl⟩⟩,?_,uY hO hy hc (fun i=>by rw [A3]) (fun i u hu=>?_)⟩
    ·rcases vae b w.heap.size with h1 | h1
     ·exact h1
     ·rw [Array.getElem?_eq_none h1] at hh;cases hh
    ·simp only [World.cell?,hh,A3];simpa using hu
   ·simp only [D4.go,VRel]
  ·simp only [D4.go,VRel]
 ·have h1:IU st.o v=F6 (DO st.o [] none v):=by cases v <;> first | rfl | exact absurd ⟨_,_,_,rfl⟩ hp
  have h2:D4.go (F6 (DO st.o [] none v))=F6 (DO st.o [] none v):=by cases DO st.o [] none v <;> rfl
  rw [h1,h2];exact aS h hv hO hrow [] none
theorem kY (h:Rel B nt w0 X γ st a w) {γb:Nat→Value} {bo:Store} {O':Nat→Prop} (hO:∀ b,b < w.heap.size→O' b→CZ X γ st.o b) :
  ∀ {l:List V} {xs:List Value},VRels γ st.o w (CZ X γ st.o) l xs→(∀ m∈D1 l,∀ b,RowOf γ st.o m b→¬ O' b)→(∀ m∈D9.lentC l,∀ b,DY γ st.o m b→¬ O' b) →
   VRels γb bo w O' ((l.map (IU st.o)).map D4.go) xs
 | [],[],_,_,_=>by simp only [vac,VRels]
 | [],x :: xs,hv,_,_=>by simp only [VRels] at hv
 | v :: l,[],hv,_,_=>by simp only [VRels] at hv
 | v :: l,x :: xs,hv,hr,hl=>by
  simp only [VRels,A2] at hv ⊢;exact ⟨yG h hv.1 hO (fun m hm=>hr m (ST v l m (.inl hm))) (fun m hm=>hl m (YQ v l m (.inl hm))),
   kY h hO hv.2 (fun m hm=>hr m (ST v l m (.inr hm))) (fun m hm=>hl m (YQ v l m (.inr hm)))⟩
theorem xN (h:Rel B nt w0 X γ st a w) {v:V} {x:Value} (hv:VRel γ st.o w (CZ X γ st.o) v x) {γb:Nat→Value} {bo:Store} {O':Nat→Prop} (hO:∀ b,b < w.heap.size→O' b→CZ X γ st.o b)
  (hrow:∀ m∈H0 v,∀ b,RowOf γ st.o m b→¬ O' b) (hl:∀ m∈D9 [v],∀ b,DY γ st.o m b→¬ O' b) (ks:List Kd):VRel γb bo w O' (D4 (I8 st.o ks v)) x:=by
 by_cases hc:(∃ f l,v = .clo f l)∨(∃ n i c,v = .ptr n i c)
 ·rcases hc with ⟨f,l,rfl⟩ | ⟨n,i,c,rfl⟩
  ·simp only [I8,D4,VRel] at hv ⊢;obtain ⟨cs,hx,hr⟩:=hv;exact ⟨cs,hx,kY h hO hr hrow (fun m hm=>hl m (by simpa [D9] using hm))⟩
  ·simp only [I8,D4,VRel]
 ·have h1:I8 st.o ks v=G5 st.o [] ks v:=by cases v <;> first | rfl | exact absurd (.inl ⟨_,_,rfl⟩) hc | exact absurd (.inr ⟨_,_,_,rfl⟩) hc
  have h2:D9 [v]=[]:=by cases v <;> first | rfl | exact absurd (.inl ⟨_,_,rfl⟩) hc | exact absurd (.inr ⟨_,_,_,rfl⟩) hc
  rw [h1];exact iT h hv hO hrow (fun m hm=>by rw [h2] at hm; cases hm) [] ks
theorem iQ (h:Rel B nt w0 X γ st a w) {γb:Nat→Value} {bo:Store} {O':Nat→Prop} (hO:∀ b,b < w.heap.size→O' b→CZ X γ st.o b) :
  ∀ {l:List V} {tks:List (List Kd)} {xs:List Value},VRels γ st.o w (CZ X γ st.o) l xs→(∀ m∈DT l,∀ b,RowOf γ st.o m b→¬ O' b)→(∀ m∈D9 l,∀ b,DY γ st.o m b→¬ O' b) →
   VRels γb bo w O' ((HR st.o tks l).map D4) xs
 | [],tks,[],_,_,_=>by cases tks <;> simp only [HR,vac,VRels]
 | [],tks,x :: xs,hv,_,_=>by simp only [VRels] at hv
 | v :: l,tks,[],hv,_,_=>by simp only [VRels] at hv
 | v :: l,tks,x :: xs,hv,hr,hl=>by
  simp only [VRels] at hv;have h1:∀ ks,VRel γb bo w O' (D4 (I8 st.o ks v)) x:=fun ks=>xN h hv.1 hO (fun m hm=>hr m (by simp only [DT,AQ]; exact .inl hm)) (fun m hm=>hl m (by
   cases v <;> simp_all [D9])) ks
  have h2:∀ tks,VRels γb bo w O' ((HR st.o tks l).map D4) xs:=fun tks=>iQ h hO hv.2 (fun m hm=>hr m (by simp only [DT,AQ]; exact .inr hm)) (fun m hm=>hl m (by
   cases v <;> simp_all [D9]))
  cases tks with
  | nil=>simp only [HR,A2,VRels]; exact ⟨h1 _,h2 _⟩
  | cons k ks=>simp only [HR,A2,VRels]; exact ⟨h1 _,h2 _⟩
theorem yF (o:Store) (v:V):∀ cs,IU o v≠.bor cs:=by
 intro cs he;by_cases hp:∃ n i c,v = .ptr n i c
 ·obtain ⟨n,i,c,rfl⟩:=hp;simp only [IU] at he;split at he
  ·split at he <;> cases he
  ·cases he
 ·have h1:IU o v=F6 (DO o [] none v):=by cases v <;> first | rfl | exact absurd ⟨_,_,_,rfl⟩ hp
  rw [h1] at he;cases hx:DO o [] none v <;> rw [hx] at he <;> simp only [F6] at he <;> cases he
theorem i7 (o:Store):∀ l:List V,EL.borC (l.map (IU o))=none
 | []=>rfl
 | v :: r=>by
  have:=yF o v
  simp only [A2];cases hx:IU o v <;> simp only [EL.borC,i7 o r]
  exact absurd hx (this _)
theorem i8 (o:Store):∀ (l:List V) (tks:List (List Kd)),EL (HR o tks l)=none
 | [],tks=>by cases tks <;> rfl
 | v :: r,tks=>by
  obtain ⟨ks,tks',he⟩:∃ ks tks',HR o tks (v :: r)=I8 o ks v :: HR o tks' r:=by
   cases tks with
   | nil=>exact ⟨[],[],rfl⟩
   | cons k ks=>exact ⟨k,ks,rfl⟩
  have ih:=i8 o r tks';rw [he];by_cases hc:(∃ f l,v = .clo f l)∨(∃ n i c,v = .ptr n i c)
  ·rcases hc with ⟨f,l,rfl⟩ | ⟨n,i,c,rfl⟩
   ·simp only [I8,EL,i7,ih]
   ·simp only [I8,EL,ih]
  ·have h1:I8 o ks v=G5 o [] ks v:=by cases v <;> first | rfl | exact absurd (.inl ⟨_,_,rfl⟩) hc | exact absurd (.inr ⟨_,_,_,rfl⟩) hc
   have h2:D9 [v]=[]:=by cases v <;> first | rfl | exact absurd (.inl ⟨_,_,rfl⟩) hc | exact absurd (.inr ⟨_,_,_,rfl⟩) hc
   have h3:=(U1 (o:=o) (bs:=[]) (l:=[v]) (tks:=[ks])).2 h2;simp only [ER] at h3;rw [h1];cases hx:G5 o [] ks v <;> rw [hx] at h3 <;> simp only [EL] at h3 ⊢ <;> first | exact ih | (cases h3; done) | skip
   cases hy:EL.borC _ with
   | none=>simpa only using ih
   | some cs=>rw [hy] at h3; cases h3
theorem yB (h:Rel B nt w0 X γ st a w) (hg:GX B w0 X) {f:FuncId} {sp:NK} (hS:Snd P B f sp) {vs:List V} {xs:List Value} (hv:VRels γ st.o w (CZ X γ st.o) vs xs) {tks:List (List Kd)} {b:Bool}
  (hsp:sp (HR st.o tks vs)=some (.bool b,[])) :
  Does P f xs w fun e w'=>∃ x,e = .returned x∧∃ γ',Rel B nt w0 X γ' st a w'∧VRel γ' st.o w' (CZ X γ' st.o) (.bool b) x:=by
 have hb:EL (HR st.o tks vs)=none:=i8 _ _ _;have hm:HL (HR st.o tks vs)=[]:=by simp only [HL,hb]
 generalize hX':(⟨fun _=>False,fun b=>CZ X γ st.o b∧(∀ m∈DT vs,¬ RowOf γ st.o m b)∧∀ m∈D9 vs,¬ DY γ st.o m b⟩:Zone)=X';have hXo:∀ b,¬ X'.own b:=fun b hb=>by rw [← hX'] at hb; exact hb
 have hXf:∀ b,X'.far b→CZ X γ st.o b∧(∀ m∈DT vs,¬ RowOf γ st.o m b)∧∀ m∈D9 vs,¬ DY γ st.o m b:=fun b hb=>by rw [← hX'] at hb; exact hb
 have hO:∀ b,CZ X' γ [] b→X'.far b:=fun b hb=>by
  rcases hb with ⟨n,ob,hn,_⟩ | hb
  ·simp only [CY,D6] at hn; cases hn
  ·exact hb
 have hR:Rel B.base 0 w X' γ ⟨[],[]⟩ IG w:=by
  refine ⟨rfl,rfl,fun i=>by simp only [St.get,D6,VRel],fun n ob hn=>?_,?_,?_,Keep.refl _ w,?_,?_,fun p hp=>by cases hp⟩
  ·simp only [CY,D6] at hn; cases hn
  ·rintro b ⟨n,ob,hn,_⟩; simp only [CY,D6] at hn; cases hn
  ·intro n m ob ob' b _ hn; simp only [CY,D6] at hn; cases hn
  ·rintro b ⟨n,ob,hn,_⟩; simp only [CY,D6] at hn; cases hn
  ·intro b hb;rcases (hXf b hb).1 with hb | hb
   ·exact (h.lt b hb).1
   ·exact h.fl b hb
 have:=hS w X' γ (HR st.o tks vs) xs (.bool b) [] hsp (h.glob hg) (fun b hb=>(hXo b hb).elim) (by rw [hm]; exact hR) (by
  rw [hm];exact iQ h (fun b _ hb=>(hXf b (hO b hb)).1) hv (fun m hm b hr hb=>(hXf b (hO b hb)).2.1 m hm hr) (fun m hm b hr hb=>(hXf b (hO b hb)).2.2 m hm hr))
 refine this.mono ?_;rintro e w' ⟨x,he,γ',h1,h2,_⟩;have hp:=ZD h hXo h1 X.far (fun b hb=>.inl hb);exact ⟨x,he,γ,hp,by simpa only [J6,D4,VRel] using h2⟩
end
open Go Go.RowKit
mutual
theorem VRel.leaves {γ γ':Nat→Value} {o o':Store} {w:World} {O:Nat→Prop} (h1:∀ n lo hi x,VRel γ o w O (.row n lo hi) x→VRel γ' o' w O (.row n lo hi) x) (h2:∀ n i c x,VRel γ o w O (.ptr n i c) x→VRel γ' o' w O (.ptr n i c) x)
  (h3:∀ n c cap sz len x,VRel γ o w O (.bview n c cap sz len) x→VRel γ' o' w O (.bview n c cap sz len) x):∀ {v:V} {x:Value},VRel γ o w O v x→VRel γ' o' w O v x
 | .any,_,_=>by simp only [VRel]
 | .int _ _,_,h=>by simpa only [VRel] using h
 | .bool _,_,h=>by simpa only [VRel] using h
 | .str _,_,h=>by simpa only [VRel] using h
 | .list _ _ _,_,h=>by simpa only [VRel] using h
 | .zs,_,h=>by simpa only [VRel] using h
 | .row _ _ _,_,h=>h1 _ _ _ _ h
 | .ptr _ _ _,_,h=>h2 _ _ _ _ h
 | .iptr _ _ _,_,h=>by simpa only [VRel] using h
 | .bview _ _ _ _ _,_,h=>h3 _ _ _ _ _ _ h
 | .agg l,x,h=>by
  simp only [VRel] at h ⊢;obtain ⟨cs,hx,hr⟩:=h;exact ⟨cs,hx,VRels.leaves h1 h2 h3 hr⟩
 | .tup l,x,h=>by
  simp only [VRel] at h ⊢;obtain ⟨cs,hx,hr⟩:=h;exact ⟨cs,hx,VRels.leaves h1 h2 h3 hr⟩
 | .err _,_,h=>by simpa only [VRel] using h
 | .nilp,_,h=>by simpa only [VRel] using h
 | .clo _ l,x,h=>by
  simp only [VRel] at h ⊢;obtain ⟨cs,hx,hr⟩:=h;exact ⟨cs,hx,VRels.leaves h1 h2 h3 hr⟩
 | .bor _,_,h=>by simp only [VRel] at h
 | .vec _ _ _ _,_,h=>by simp only [VRel] at h
 | .bld _,_,h=>by simp only [VRel] at h
theorem VRels.leaves {γ γ':Nat→Value} {o o':Store} {w:World} {O:Nat→Prop} (h1:∀ n lo hi x,VRel γ o w O (.row n lo hi) x→VRel γ' o' w O (.row n lo hi) x) (h2:∀ n i c x,VRel γ o w O (.ptr n i c) x→VRel γ' o' w O (.ptr n i c) x)
  (h3:∀ n c cap sz len x,VRel γ o w O (.bview n c cap sz len) x→VRel γ' o' w O (.bview n c cap sz len) x):∀ {l:List V} {xs:List Value},VRels γ o w O l xs→VRels γ' o' w O l xs
 | [],[],_=>by simp only [VRels]
 | [],_ :: _,h=>by simp only [VRels] at h
 | _ :: _,[],h=>by simp only [VRels] at h
 | v :: vs,x :: xs,h=>by
  simp only [VRels] at h ⊢;exact ⟨VRel.leaves h1 h2 h3 h.1,VRels.leaves h1 h2 h3 h.2⟩
end
section
variable {B:BT} {nt:Nat} {w0:World} {X:Zone} {γ:Nat→Value} {st st':St} {a:Act} {w:World} {P:Program} {E:Env}
theorem nU:∀ (hs:List Nat) {st:St} {X:Zone},Rel B nt w0 X γ st a w →
  Rel B nt w0 ⟨X.own,fun b=>X.far b∨∃ m∈hs,DY γ st.o m b⟩ γ (st.ups (IZ hs)) a w∧(st.ups (IZ hs)).t=st.t∧∀ m,CY (st.ups (IZ hs)).o m=if m∈hs then none else CY st.o m
 | [],st,X,h=>⟨h.shrink (fun b hb=>by simpa using hb),rfl,fun m=>by simp [IZ,St.ups]⟩
 | n :: r,st,X,h=>by
  obtain ⟨h1,h2,h3⟩:=nU r (h.kill n);have hob:∀ m,CY (st.up (.kill n)).o m=if n=m then none else CY st.o m:=fun m=>by simp only [St.up,DF]
  refine ⟨?_,h2,fun m=>?_⟩
  ·simp only [IZ,St.ups];refine h1.shrink (fun b hb=>?_);rcases hb with hb | ⟨m,hm,hb⟩
   ·exact .inl (.inl hb)
   ·by_cases e:n=m
    ·subst e;exact .inl (.inr hb)
    ·rcases AT.1 hm with h4 | h4
     ·exact absurd h4.symm e
     ·obtain ⟨ob,p1,p2⟩:=hb;exact .inr ⟨m,h4,ob,by rw [hob,AX e]; exact p1,p2⟩
  ·simp only [IZ,St.ups];rw [h3,hob];by_cases h4:m∈r
   ·simp [h4]
   ·by_cases h5:n=m
    ·subst h5;simp
    ·have:¬ m=n:=fun e=>h5 e.symm
     simp [h4,h5,this]
theorem nA (h:Rel B nt w0 X γ st a w) (ns:List Nat) {n:Nat} {ob:Ob} (ho:CY st.o n=some ob) (hb:∀ e ag ks l,ob≠.row true e ag ks l):CY (st.ups (DP st.o ns)).o n=some ob:=by
 obtain ⟨_,h2,_⟩:=JW st.o ns (FrzLe.refl _) h;rcases h2 n with h3 | ⟨e,ag,ks,l,h3,_⟩
 ·rw [h3,ho]
 ·rw [ho,AB] at h3;exact absurd h3 (hb _ _ _ _)
theorem Rel.boundB (h:Rel B nt w0 X γ st a w) {n:Nat} {s:BA} (ho:CY st.o n=some (.bld s)) {w1:World} {own1 F:Nat→Prop} (hk:Keep own1 w1 w)
  (hF:∀ b,F b→CZ X γ st.o b∧¬ DY γ st.o n b) (hown:∀ b,DY γ st.o n b→w1.heap.size≤b∨own1 b) :
  Rel B.base 0 w1 ⟨own1,F⟩ (fun _=>γ n) ⟨[],D7 [.bld s]⟩ IG w∧∀ b,ED (fun _=>γ n) (D7 [.bld s]) b→DY γ st.o n b:=by
 have hP:∀ b,ED (fun _=>γ n) (D7 [.bld s]) b→DY γ st.o n b:=by
  rintro b ⟨m,ob,hm,hb⟩;simp only [D7] at hm;rw [DF] at hm;split at hm
  ·simp only [AB] at hm;subst hm;exact ⟨_,ho,hb⟩
  ·simp only [CY,D6] at hm; cases hm
 refine ⟨⟨rfl,rfl,fun i=>by simp only [St.get,D6,VRel],fun m ob hm=>?_,fun b hb=>?_,?_,hk,?_,?_,fun p hp=>by cases hp⟩,hP⟩
 ·simp only [D7] at hm;rw [DF] at hm;split at hm
  ·simp only [AB] at hm;subst hm
   have:=h.ob n _ ho
   simpa only [ObRel,BT.base] using this
  ·simp only [CY,D6] at hm; cases hm
 ·obtain ⟨ob,h1,h2⟩:=hP b hb;exact ⟨(h.lt b ⟨n,ob,h1,h2⟩).1,hown b (hP b hb)⟩
 ·intro m1 m2 ob1 ob2 b hne h1 h2 _ _;simp only [D7] at h1 h2;rw [DF] at h1 h2;split at h1
  ·split at h2
   ·omega
   ·simp only [CY,D6] at h2; cases h2
  ·simp only [CY,D6] at h1; cases h1
 ·intro b hb hf;exact (hF b hf).2 (hP b hb)
 ·intro b hb;rcases (hF b hb).1 with h1 | h1
  ·exact (h.lt b h1).1
  ·exact h.fl b h1
theorem xW (h:Rel B nt w0 X γ st a w) (hg:GX B w0 X) {f:FuncId} {sp:NK} (hS:Snd P B f sp) {vs:List V} {xs:List Value} (hv:VRels γ st.o w (CZ X γ st.o) vs xs) {n:Nat} (hl:D9 vs=[n]) {s s':BA} (ho:CY st.o n=some (.bld s))
  {tks:List (List Kd)} {v:V} (hsp:sp (ER st.o [.bld s] tks vs)=some (v,[[.bld s']])) (hib:YB (EL (ER st.o [.bld s] tks vs))=true) :
  Does P f xs w fun e w'=>∃ x,e = .returned x∧∃ γ',Rel B nt w0 X γ' (st.ups (DP st.o (match GB v with | true=>DT vs | false=>[])++[.set n (.bld s')])) a w' ∧
   VRel γ' (st.ups (DP st.o (match GB v with | true=>DT vs | false=>[])++[.set n (.bld s')])).o w' (CZ X γ' (st.ups (DP st.o (match GB v with | true=>DT vs | false=>[])++[.set n (.bld s')])).o) v x:=by
 have hL:∀ b,DY γ st.o n b→w.heap.size≤b∨DY γ st.o n b:=fun b hb=>.inr hb
 obtain ⟨hR,hP⟩:=h.boundB ho (w1:=w) (own1:=DY γ st.o n) (F:=fun b=>CZ X γ st.o b∧¬ DY γ st.o n b∧∀ m∈DT vs,¬ RowOf γ st.o m b) (Keep.refl _ w) (fun b hb=>⟨hb.1,hb.2.1⟩) hL;generalize hX':(⟨DY γ st.o n,fun b=>CZ X γ st.o b∧¬ DY γ st.o n b∧∀ m∈DT vs,¬ RowOf γ st.o m b⟩:Zone)=X' at hR;have hXf:∀ b,X'.far b↔(CZ X γ st.o b∧¬ DY γ st.o n b∧∀ m∈DT vs,¬ RowOf γ st.o m b):=fun b=>by rw [← hX']
 have hXo:∀ b,X'.own b↔DY γ st.o n b:=fun b=>by rw [← hX']
 have hnP:∀ b,DY γ st.o n b→ED γ st.o b:=fun b ⟨ob,h1,h2⟩=>⟨n,ob,h1,h2⟩
 rcases (U1 (o:=st.o) (bs:=[.bld s]) (l:=vs) (tks:=tks)).1 with hb | hb
 ·rw [hb] at hib;cases hib
 ·have hm:HL (ER st.o [.bld s] tks vs)=D7 [.bld s]:=by simp only [HL,hb]
  have hcall:=hS w X' (fun _=>γ n) (ER st.o [.bld s] tks vs) xs v [[.bld s']] hsp (h.glob hg) (fun b hb=>h.high hg (hnP b ((hXo b).1 hb))) (by rw [hm]; exact hR) (by
   rw [hm];refine XA h (fun b _ hb=>?_) [.bld s] hv (fun m hm b hr hb=>?_) (fun m hm=>?_)
   ·rcases hb with hb | hb
    ·exact .inl (hnP b (hP b hb))
    ·exact ((hXf b).1 hb).1
   ·rcases hb with hb | hb
    ·obtain ⟨e,ag,ks,l,h5,h6⟩:=hr;obtain ⟨ob,h7,h8⟩:=hP b hb;have hne:n≠m:=by
      rintro rfl;rw [ho] at h5;cases h5
     exact h.dis n m ob _ b hne h7 h5 h8 h6
    ·exact ((hXf b).1 hb).2.2 m hm hr
   ·rw [hl] at hm;simp only [BJ] at hm;subst hm;exact ⟨rfl,.inr ⟨s,s,ho,by simp [D7,DF]⟩⟩)
  refine hcall.mono ?_;rintro e w' ⟨x,he,γ',h1,h2,h3⟩;simp only [JR,hb] at h3;obtain ⟨hf,_,had⟩:=h3;have hmo:FT v [[.bld s']]=D7 [.bld s']:=by cases v <;> rfl
  rw [hmo] at h1 h2;rw [SR hf] at h2;refine ⟨x,he,?_⟩;generalize hF0:(match GB v with | true=>DT vs | false=>[])=F0;have hz:=(JW st.o F0 (FrzLe.refl _) h).1;have hon:=nA h F0 ho (fun _ _ _ _=>by simp);have hob0:CY (D7 [.bld s']) 900000=some (.bld s'):=by simp [D7,DF]
  have hor:=h1.ob _ _ hob0;have hor0:=h.ob _ _ ho;simp only [ObRel] at hor hor0;obtain ⟨b1,v1,p1,hg1,_⟩:=hor;obtain ⟨b0,v0,p0,hg0,_⟩:=hor0;have hbb:b1=b0:=by
   rw [hg1,hg0] at had;simpa [NL] using had
  subst hbb;have hbl:∀ b,DY γ (st.ups (DP st.o F0)).o n b↔DY γ st.o n b:=fun b=>by simp only [DY,hon,ho]
  have hOP:∀ b,D3 (γ' 900000) (.bld s') b→ED γ' (D7 [.bld s']) b:=fun b hb=>⟨_,_,hob0,hb⟩
  have hsz:=h1.keep.size;have hlend:=hz.lend (n:=n) (ob':=.bld s') (g':=γ' 900000) hon had h1.keep (K:=X'.own) (fun b _ hb=>.inl ((hbl b).2 ((hXo b).1 hb)))
   (fun b hb=>by
    obtain ⟨q1,q2⟩:=h1.lt b (hOP b hb);exact ⟨q1,q2.elim .inr (fun hb=>.inl ((hbl b).2 ((hXo b).1 hb)))⟩)
   (fun O v x hvx=>VRel.leaves (fun m lo hi x hx=>by
     simp only [VRel] at hx ⊢;rw [DF];by_cases e:n=m
     ·subst e; simp only [B8]
     ·simp only [AX e]; exact hx) (fun m i c x hx=>by
     simp only [VRel] at hx ⊢;rw [DF];by_cases e:n=m
     ·subst e;simp only [B8];rw [hon] at hx;obtain ⟨rfl,b,v',hg,hxx⟩:=hx;rw [hg0] at hg;simp only [Value.tuple.injEq,Array.mk.injEq,vaI,B9,AB,CP,CE] at hg;refine ⟨rfl,b1,v1,hg1,?_⟩;rw [hxx,hg.1]
     ·simp only [AX e]; exact hx) (fun m c cap sz len x hx=>by
     simp only [VRel] at hx ⊢;rw [DF];by_cases e:n=m
     ·subst e; simp only [B8]
     ·simp only [AX e]; exact hx) hvx)
   (by
    have hor:=h1.ob _ _ hob0;simpa only [ObRel,BT.base] using hor)
  have hfin:=hlend.shrink (F:=X.far) (fun b hb=>⟨.inl hb,fun hbb=>by
   obtain ⟨q1,q2⟩:=h1.lt b (hOP b hbb)
   have:=h.fl b hb
   rcases q2 with q2 | q2
   ·omega
   ·exact h.nr b (hnP b ((hXo b).1 q2)) hb⟩)
  refine ⟨_,by rw [IN]; exact hfin,?_⟩;rw [IN];refine cO hf (fun hhl b hlt hb=>?_) h2;rw [hhl] at hF0;simp only at hF0;rcases hb with ⟨m,ob,hm,hbm⟩ | hb
  ·simp only [St.ups,St.up] at hm;rw [DF] at hm;by_cases e:n=m
   ·subst e;simp only [B8,AB] at hm hbm;subst hm;exact .inl (hOP b hbm)
   ·simp only [AX e] at hm hbm;obtain ⟨q1,q2⟩:=VG h F0 (b:=b) (.inl ⟨m,ob,hm,hbm⟩);refine .inr ((hXf b).2 ⟨q1,fun hbn=>?_,by rw [hF0]; exact q2⟩);obtain ⟨ob2,q3,q4⟩:=(hbl b).2 hbn;exact hz.dis n m ob2 ob b e q3 hm q4 hbm
  ·refine .inr ((hXf b).2 ⟨.inr hb,fun hbn=>h.nr b (hnP b hbn) hb,fun m _ ⟨e,ag,ks,l,q1,q2⟩=>h.nr b ⟨m,_,q1,q2⟩ hb⟩)
theorem ZO {o:Store} {all:List Nat} {n:Nat}:∀ {cs:List V},n∈F1 o all cs→∃ lo hi own e ag ks l,.row n lo hi∈cs∧CY o n=some (.row own e ag ks l)∧(own&&(A4 lo 0&&A4 (FY n all) 1))=false
 | [],h=>by simp [F1] at h
 | v :: r,h=>by
  have up:n∈F1 o all r→∃ lo hi own e ag ks l,.row n lo hi∈v :: r∧CY o n=some (.row own e ag ks l)∧(own&&(A4 lo 0&&A4 (FY n all) 1))=false:=fun h'=>by
   obtain ⟨lo,hi,own,e,ag,ks,l,h1,h2,h3⟩:=ZO h';exact ⟨lo,hi,own,e,ag,ks,l,AW _ h1,h2,h3⟩
  cases v
  case row m lo hi=>
   simp only [F1] at h;split at h
   ·rename_i own e ag ks l hob;split at h
    ·exact up h
    ·rename_i hb;rcases AT.1 h with h1 | h1
     ·subst h1;exact ⟨lo,hi,own,e,ag,ks,l,AR ..,hob,hb⟩
     ·exact up h1
   ·exact up h
  all_goals exact up h
theorem xX (h:Rel B nt w0 X γ st a w) (hg:GX B w0 X) {f:FuncId} {sp:NK} (hS:Snd P B f sp) {vs:List V} {xs:List Value} (hv:VRels γ st.o w (CZ X γ st.o) vs xs) {n:Nat} (hl:D9 vs=[n]) {cs:List V} (ho:CY st.o n=some (.box cs)) {all:List Nat} (hall:D1 cs++DT vs=all)
  {tks:List (List Kd)} {v:V} {out:List V} (hsp:sp (ER st.o (cs.map (EE st.o all)) tks vs)=some (v,[out])) (hib:YB (EL (ER st.o (cs.map (EE st.o all)) tks vs))=true) {nm:Nat} (hlen:out.length=cs.length) (hnm:n < nm∨nm+out.length≤n) (hn9:nm+out.length≤900000) :
  Does P f xs w fun e w'=>∃ x,e = .returned x∧∃ γ',Rel B nt w0 X γ' (st.ups (DP st.o (F1 st.o all cs++(match GB v||F9 out with | true=>DT vs | false=>[])) ++
     (IZ (E9 st.o all cs)++(.set n (.box (KG cs)) :: (HS nm out++[.set n (.box (EV nm out))]))))) a w' ∧
   VRel γ' (st.ups (DP st.o (F1 st.o all cs++(match GB v||F9 out with | true=>DT vs | false=>[])) ++
     (IZ (E9 st.o all cs)++(.set n (.box (KG cs)) :: (HS nm out++[.set n (.box (EV nm out))]))))).o w' (CZ X γ' (st.ups (DP st.o (F1 st.o all cs++(match GB v||F9 out with | true=>DT vs | false=>[])) ++
     (IZ (E9 st.o all cs)++(.set n (.box (KG cs)) :: (HS nm out++[.set n (.box (EV nm out))]))))).o) v x:=by
 let L:Nat→Prop:=fun b=>DY γ st.o n b∨∃ m∈E9 st.o all cs,DY γ st.o m b
 have hLP:∀ b,L b→ED γ st.o b:=by
  rintro b (⟨ob,h1,h2⟩ | ⟨m,_,ob,h1,h2⟩)
  ·exact ⟨n,ob,h1,h2⟩
  ·exact ⟨m,ob,h1,h2⟩
 have hbound:=h.bound ho (DT vs) (w1:=w) (own1:=L) (F:=fun b=>CZ X γ st.o b∧¬ L b∧(∀ m∈F1 st.o all cs,¬ DY γ st.o m b)∧∀ m∈DT vs,¬ RowOf γ st.o m b) (Keep.refl _ w)
  (fun b hb=>⟨hb.1,fun h1=>hb.2.1 (.inl h1),fun m hm h1=>hb.2.1 (.inr ⟨m,by rw [← hall]; exact hm,h1⟩),by rw [hall]; exact hb.2.2.1⟩) (fun b hb=>.inr (by rw [hall] at hb; exact hb))
 rw [hall] at hbound;obtain ⟨γb,hR,hg0,hP⟩:=hbound;generalize hX':(⟨L,fun b=>CZ X γ st.o b∧¬ L b∧(∀ m∈F1 st.o all cs,¬ DY γ st.o m b)∧∀ m∈DT vs,¬ RowOf γ st.o m b⟩:Zone)=X' at hR;have hXf:∀ b,X'.far b↔(CZ X γ st.o b∧¬ L b∧(∀ m∈F1 st.o all cs,¬ DY γ st.o m b)∧∀ m∈DT vs,¬ RowOf γ st.o m b):=fun b=>by rw [← hX']
 have hXo:∀ b,X'.own b↔L b:=fun b=>by rw [← hX']
 have hb:EL (ER st.o (cs.map (EE st.o all)) tks vs)=some (cs.map (EE st.o all)):=by
  rcases (U1 (o:=st.o) (bs:=cs.map (EE st.o all)) (l:=vs) (tks:=tks)).1 with hb | hb
  ·rw [hb] at hib; cases hib
  ·exact hb
 have hm:HL (ER st.o (cs.map (EE st.o all)) tks vs)=D7 (cs.map (EE st.o all)):=by simp only [HL,hb]
 have hargs:∀ m∈DT vs,∀ b,RowOf γ st.o m b→¬ L b:=by
  intro m hm b hr hLb;obtain ⟨e,ag,ks,l,h5,h6⟩:=hr;rcases hLb with ⟨ob,h7,h8⟩ | ⟨m2,h9,ob,h7,h8⟩
  ·have hne:n≠m:=by
    rintro rfl;rw [ho] at h5;cases h5
   exact h.dis n m ob _ b hne h7 h5 h8 h6
  ·by_cases hne:m2=m
   ·subst hne;obtain ⟨hi2,e2,ag2,ks2,l2,k1,k2,k3⟩:=NW.1 h9;rw [← hall,O6] at k3;have q1:=O7 (QV k1);have q2:=O7 hm;omega
   ·exact h.dis m2 m ob _ b hne h7 h5 h8 h6
 have hok0:∀ v,M1 (EE st.o all v)=true:=by
  intro v;rcases U4 st.o all v with ⟨_,_,_,_,_,_,_,_,_,h1⟩ | ⟨h1,_⟩
  ·rw [h1]; rfl
  ·cases hcc:EE st.o all v <;> first | rfl | (rw [hcc] at h1; cases h1)
 have hcall:=hS w X' γb (ER st.o (cs.map (EE st.o all)) tks vs) xs v [out] hsp (h.glob hg) (fun b hb=>h.high hg (hLP b ((hXo b).1 hb))) (by rw [hm]; exact hR) (by
  rw [hm];refine XA h (fun b _ hb=>?_) _ hv (fun m hm b hr hb=>?_) (fun m hm=>?_)
  ·rcases hb with hb | hb
   ·exact .inl (hLP b (hP b hb))
   ·exact ((hXf b).1 hb).1
  ·rcases hb with hb | hb
   ·exact hargs m hm b hr (hP b hb)
   ·exact ((hXf b).1 hb).2.2.2 m hm hr
  ·rw [hl] at hm;simp only [BJ] at hm;subst hm;exact ⟨hg0,.inl ⟨cs,_,ho,by rw [R6 (vah.2 (fun v hv=>by obtain ⟨u,_,rfl⟩:=List.mem_map.1 hv; exact hok0 u)),DF,A6 rfl]⟩⟩)
 refine hcall.mono ?_;rintro e w' ⟨x,he,γ',h1,h2,h3⟩;simp only [JR,hb] at h3;obtain ⟨hf,hsk,had⟩:=h3;have hok:out.all M1=true:=by
  unfold fT at hsk;split at hsk
  ·rename_i s s' hcs;cases cs with
   | nil=>simp at hcs
   | cons u r=>
    simp only [A2,vaI] at hcs
    have:=hok0 u
    rw [hcs.1] at this;cases this
  ·cases hsk
  ·exact hsk
 have hmo:FT v [out]=D7 out:=by cases v <;> rfl
 rw [hmo] at h1 h2;rw [SR hf] at h2;refine ⟨x,he,?_⟩;generalize hF0:F1 st.o all cs++(match GB v||F9 out with | true=>DT vs | false=>[])=F0;have hz:=(JW st.o F0 (FrzLe.refl _) h).1;have hzf:=(JW st.o F0 (FrzLe.refl _) h).2.1;have hon:=nA h F0 ho (fun _ _ _ _=>by simp);obtain ⟨hk,hkt,hko⟩:=nU (E9 st.o all cs) hz;have hnh:n ∉ E9 st.o all cs:=by
  intro hn;obtain ⟨_,_,_,_,_,_,q,_⟩:=NW.1 hn;rw [ho] at q;cases q
 have hon2:CY ((st.ups (DP st.o F0)).ups (IZ (E9 st.o all cs))).o n=some (.box cs):=by rw [hko,AX hnh]; exact hon
 have hor0:=h.ob _ _ ho;simp only [ObRel] at hor0;obtain ⟨b0,c0,T0,hgn,hh0,hr0⟩:=hor0;have hob0:CY (D7 out) 900000=some (.box (EV 900001 out)):=by rw [R6 hok,DF,A6 rfl]
 have hor:=h1.ob _ _ hob0;simp only [ObRel] at hor;obtain ⟨b1,c,T,hg,hh,hr⟩:=hor;have hbb:b1=b0:=by
  rw [hg,hg0,hgn] at had;simpa [NL] using had
 subst hbb;have hg':γ' 900000=γ n:=by rw [hg,hgn]
 have hsz:=h1.keep.size;have hbn:∀ b,DY γ st.o n b↔b=b1:=by
  intro b;constructor
  ·rintro ⟨ob,h5,h6⟩;rw [ho] at h5;cases h5;obtain ⟨ad,h7,h8⟩:=h6;rw [hgn] at h7;cases h7;exact h8.symm
  ·rintro rfl;exact ⟨_,ho,_,hgn,rfl⟩
 have hbn2:∀ b,DY γ ((st.ups (DP st.o F0)).ups (IZ (E9 st.o all cs))).o n b↔b=b1:=by
  intro b;rw [← hbn b];simp only [DY,hon2,ho]
 have hbx:∀ l b,D3 (γ n) (.box l) b↔b=b1:=by
  intro l b;rw [← hbn b];simp only [DY,ho,AB,exists_eq_left',D3]
 have hhb:∀ m∈E9 st.o all cs,∀ b,DY γ st.o m b→DY γ (st.ups (DP st.o F0)).o m b:=by
  rintro m hm b ⟨ob,h5,h6⟩;obtain ⟨hi2,e2,ag2,ks2,l2,k1,k2,k3⟩:=NW.1 hm;refine ⟨ob,?_,h6⟩;rw [(JW st.o F0 (FrzLe.refl _) h).2.2.2.2 m ?_]
  ·exact h5
  ·intro hmF;rw [← hF0] at hmF;rcases AQ.1 hmF with h7 | h7
   ·obtain ⟨lo3,hi3,own3,e3,ag3,ks3,l3,q1,q2,q3⟩:=ZO h7;obtain ⟨i1,hi1⟩:=List.mem_iff_getElem?.1 k1;obtain ⟨i2,hi2⟩:=List.mem_iff_getElem?.1 q1;rw [← hall,O6] at k3;rcases Nat.lt_trichotomy i1 i2 with hlt | hlt | hlt
    ·have:=Q0 hlt hi1 hi2
     omega
    ·subst hlt;rw [hi1] at hi2;simp only [AB,V.row.injEq,true_and] at hi2;obtain ⟨rfl,rfl⟩:=hi2;rw [k2] at q2;simp only [AB,Ob.row.injEq] at q2;obtain ⟨rfl,_⟩:=q2;rw [← hall,O6,k3] at q3;simp at q3
    ·have:=Q0 hlt hi2 hi1
     omega
   ·have q1:m∈DT vs:=by
     split at h7
     ·exact h7
     ·cases h7
    rw [← hall,O6] at k3
    have:=O7 (QV k1)
    have:=O7 q1
    omega
 have hlend:=hk.lend (n:=n) (ob':=.box (KG cs)) (g':=γ n) hon2 rfl h1.keep (K:=X'.own)
  (fun b hlt hb=>by
   have hLb:=(hXo b).1 hb;rcases hLb with h5 | ⟨m,h6,h7⟩
   ·exact .inl ((hbn2 b).2 ((hbn b).1 h5))
   ·refine .inr ⟨.inr ⟨m,h6,hhb m h6 b h7⟩,?_⟩;exact (h.lt b (hLP b (.inr ⟨m,h6,h7⟩))).2)
  (fun b hb=>by
   have:=(hbx _ b).1 hb
   subst this;exact ⟨CC (h.lt _ ⟨n,_,ho,(hbx _ _).2 rfl⟩).1 hsz,.inl ((hbn2 _).2 rfl)⟩)
  (fun O v x hvx=>by
   refine VRel.cmp ?_ hvx;intro m ob1 hm;refine ⟨by by_cases e:n=m <;> simp [e],?_⟩;rw [DF] at hm;by_cases e:n=m
   ·subst e;simp only [B8,AB] at hm;subst hm;exact ⟨_,hon2,by simp [Ob.fits,RP]⟩
   ·rw [AX e] at hm;exact ⟨ob1,hm,ob1.fits_refl⟩)
  (by
   simp only [ObRel];refine ⟨b1,c,T,hgn,hh,?_⟩;have hcl:=hr.length;rw [RR,hlen] at hcl;refine VRels.of_get (by rw [RP,CL,hcl]) (fun j v x hv hx=>?_);rw [RP,B6] at hv;cases hcj:cs[j]? with
   | none=>rw [hcj] at hv; cases hv
   | some u=>
    rw [hcj] at hv;simp only [vag,AB] at hv;subst hv;simp only [VRel])
 obtain ⟨br1,br2,br3⟩:=iX hok h1;have hPf:∀ b,ED γ' (D7 out) b→(w.heap.size≤b∧b < w'.heap.size)∨L b:=fun b hb=>by
  obtain ⟨q1,q2⟩:=h1.lt b hb;rcases q2 with q2 | q2
  ·exact .inl ⟨q2,q1⟩
  ·exact .inr ((hXo b).1 q2)
 have hb1P:ED γ' (D7 out) b1:=⟨900000,_,hob0,⟨_,hg,rfl⟩⟩;have hLb1:L b1:=.inl ((hbn b1).2 rfl);have hsh:=hlend.shrink (F:=fun b=>(X.far b∨ED γ' (D7 out) b)∧b≠b1) (fun b hb=>by
  refine ⟨?_,fun hbb=>hb.2 ((hbx _ b).1 hbb)⟩;rcases hb.1 with h5 | h5
  ·exact .inl (.inl h5)
  ·rcases hPf b h5 with h6 | h6 | ⟨m,h6,h7⟩
   ·exact .inr h6
   ·exact absurd ((hbn b).1 h6) hb.2
   ·exact .inl (.inr ⟨m,h6,hhb m h6 b h7⟩))
 have hfarX:∀ b,X.far b→X'.far b:=fun b hb=>(hXf b).2 ⟨.inr hb,fun hL=>h.nr b (hLP b hL) hb,fun m _ ⟨ob,q1,q2⟩=>h.nr b ⟨m,ob,q1,q2⟩ hb,fun m _ ⟨e,ag,ks,l,q1,q2⟩=>h.nr b ⟨m,_,q1,q2⟩ hb⟩
 have hO1:∀ b,CZ ⟨X.own,fun b=>(X.far b∨ED γ' (D7 out) b)∧b≠b1⟩ (fun m=>if n=m then γ n else γ m) (((st.ups (DP st.o F0)).ups (IZ (E9 st.o all cs))).up (.set n (.box (KG cs)))).o b →
   ((GB v||F9 out)=true→CZ X' γ' (D7 out) b):=by
  intro b hb hflag;rcases hb with ⟨m,ob,hm,hbm⟩ | ⟨hb | hb,_⟩
  ·simp only [St.up] at hm;rw [DF] at hm;by_cases e:n=m
   ·subst e;simp only [B8,AB] at hm hbm;subst hm
    have:=(hbx _ b).1 hbm
    subst this;exact .inl hb1P
   ·simp only [AX e] at hm hbm;rw [hko] at hm;split at hm
    ·cases hm
    rename_i hmh;obtain ⟨q1,q2⟩:=VG h F0 (b:=b) (.inl ⟨m,ob,hm,hbm⟩);refine .inr ((hXf b).2 ⟨q1,fun hL=>?_,fun m' hm' hbl=>?_,fun m' hm'=>?_⟩)
    ·rcases hL with h5 | ⟨m2,h5,h6⟩
     ·obtain ⟨ob2,q3,q4⟩:DY γ (st.ups (DP st.o F0)).o n b:=⟨_,hon,(hbx _ b).2 ((hbn b).1 h5)⟩;exact hz.dis n m ob2 ob b e q3 hm q4 hbm
     ·obtain ⟨ob2,q3,q4⟩:=hhb m2 h5 b h6;exact hz.dis m2 m ob2 ob b (fun e=>hmh (e ▸ h5)) q3 hm q4 hbm
    ·obtain ⟨lo3,hi3,own3,e3,ag3,ks3,l3,p1,p2,p3⟩:=ZO hm';obtain ⟨ob2,q3,q4⟩:=hbl;rw [p2,AB] at q3;subst q3;cases own3 with
     | false=>exact q4.elim
     | true=>exact q2 m' (by rw [← hF0]; exact vaK _ hm') ⟨e3,ag3,ks3,l3,p2,q4⟩
    ·refine q2 m' ?_;rw [← hF0,hflag];exact vaG _ hm'
  ·exact .inr (hfarX b hb)
  ·exact .inl hb
 have hrows:=W6 (B':=B.base) (O1:=fun b=>F9 out=true→CZ X' γ' (D7 out) b) (g:=fun j=>γ' (900001+j)) nm out 0 (by omega) hsh (fun b hb hal=>hO1 b hb (by simp [hal])) (fun j e ag ks l hj=>by
   rw [A3];obtain ⟨q1,q2⟩:=br1 (fun m=>if n=m then γ n else γ m) j e ag ks l hj;refine ⟨q1,fun b hb=>⟨⟨.inr (q2 b hb),?_⟩,?_⟩⟩
   ·rintro rfl;exact br3 j e ag ks l _ hj hb ⟨_,hob0,_,hg,rfl⟩
   ·rcases hPf b (q2 b hb) with h5 | h5
    ·exact .inl (CR h.keep.size h5.1)
    ·exact (h.lt b (hLP b h5)).2)
  (fun i j e ag ks l e' ag' ks' l' b hij q1 q2 q3 q4=>by
   rw [A3] at q3 q4;exact br2 i j e ag ks l e' ag' ks' l' b hij q1 q2 q3 q4)
 obtain ⟨γ4,F4,r1,r2,r3,r4,r5,r6⟩:=hrows;simp only [vaa,A3] at r1 r3 r4 r5 r6;obtain ⟨hγn,hobn,_⟩:=r6 n hnm;have hon4:=hobn cs (by simp only [St.up,DF,B8]);simp only [B8] at hγn;have hset:=r1.set (n:=n) (ob':=.box (EV nm out)) hon4 (by simp only [Ob.fits,RP,CL,RR,hlen]) (Keep.refl _ w') (fun b hb=>hb) (fun hown hcmp=>by
  simp only [ObRel];refine ⟨b1,c,T,by rw [hγn,hgn],hh,lA hok h1 hr (fun j e ag ks l hj=>?_) (fun hal b _ hb=>hO1 b (r4 b (hown b hb)) (by simp [hal]))⟩;obtain ⟨q1,q2⟩:=r5 j e ag ks l hj;refine ⟨q1,?_⟩;have hjl:j < out.length:=by
   rcases vae j out.length with h' | h'
   ·exact h'
   ·rw [BF h'] at hj; cases hj
  rw [DF,AX (by omega)];exact q2)
 have hfin:=hset.shrink (F:=X.far) (fun b hb=>by
  refine r3 b ⟨.inl hb,fun e=>h.nr b (hLP b (e ▸ hLb1)) hb⟩ (fun j e ag ks l hj hbj=>?_);rcases hPf b ((br1 γ j e ag ks l hj).2 b hbj) with h5 | h5
  ·have:=h.fl b hb
   omega
  ·exact h.nr b (hLP b h5) hb)
 have hst:(st.ups (DP st.o F0++(IZ (E9 st.o all cs)++(.set n (.box (KG cs)) :: (HS nm out++[.set n (.box (EV nm out))]))))) =
   (((((st.ups (DP st.o F0)).ups (IZ (E9 st.o all cs))).up (.set n (.box (KG cs)))).ups (HS nm out)).up (.set n (.box (EV nm out)))):=by
  rw [IN,IN];simp only [St.ups];rw [IN];rfl
 rw [hst];refine ⟨_,hfin,cO hf (fun hhl b _ hb=>?_) h2⟩;rcases hb with ⟨m,ob,hm,hbm⟩ | hb
 ·simp only [St.up] at hm;rw [DF] at hm;refine hO1 b (r4 b (.inl ?_)) (by simp [hhl]);by_cases e:n=m
  ·subst e;simp only [B8,AB] at hm;subst hm;exact ⟨n,_,hon4,hbm⟩
  ·rw [AX e] at hm;exact ⟨m,ob,hm,hbm⟩
 ·exact .inr (hfarX b hb)
end
open Go Go.RowKit
theorem dL (k:Int):∀ es:List (Int × IV),EN es k≤es.length
 | []=>AO _
 | (j,x) :: r=>by
  rw [EN,AP]
  have:=dL k r
  cases j==k <;> simp only [CF,BQ] <;> omega
theorem YV (x:IV):∀ (es:List (Int × IV)) (i:Nat),(KR es i x).length=es.length
 | [],_=>rfl
 | (j,y) :: r,0=>rfl
 | (j,y) :: r,i+1=>by rw [KR,AP,YV x r i,AP]
theorem oJ (x:IV):∀ (es:List (Int × IV)) (i j:Nat),(KR es i x)[j]?=(es[j]?).map fun e=>if j=i then (e.1,x) else e
 | [],i,j=>by simp [KR]
 | (k,y) :: r,0,0=>by simp [KR]
 | (k,y) :: r,0,j+1=>by
  rw [KR,CD,CD];cases r[j]? <;> simp
 | e :: r,i+1,0=>by simp [KR]
 | e :: r,i+1,j+1=>by
  rw [KR,CD,CD,oJ x r i j];congr 1
  funext e
  by_cases h:j=i
  ·rw [A6 h,A6 (by omega)]
  ·rw [AX h,AX (by omega)]
theorem mW (k:Int):∀ (es:List (Int × IV)) (l:List MapEntry) (i:Nat),l.length=es.length→(∀ (j:Nat) (e:Int × IV),es[j]?=some e→∃ m,l[j]?=some m∧m.key = .int .i64 e.1) →
  (EN es k < es.length→∃ m,l[EN es k]?=some m∧m.key = .int .i64 k∧Instr.findNow (.int .i64) (.int .i64 k) l i=some (some (i+EN es k,m.val))) ∧
  (¬ EN es k < es.length→Instr.findNow (.int .i64) (.int .i64 k) l i=some none)
 | [],[],i,_,_=>⟨fun h=>by simp at h,fun _=>rfl⟩
 | [],_ :: _,i,h,_=>by simp at h
 | _ :: _,[],i,h,_=>by simp at h
 | (j,x) :: r,m :: l,i,hl,h=>by
  obtain ⟨m',hm,hkey⟩:=h 0 (j,x) rfl;obtain rfl:m=m':=by simpa using hm
  have hs:Instr.sameNow (.int .i64) (.int .i64 k) m.key=some (k==j):=by rw [hkey]; simp [Instr.sameNow]
  rw [EN];by_cases e:j=k
  ·subst e;rw [CN,CF];refine ⟨fun _=>⟨m,rfl,hkey,?_⟩,fun h=>absurd (Nat.zero_lt_succ _) h⟩;rw [Instr.findNow,hs,CN];simp
  ·have e1:(j==k)=false:=by simpa using e
   have e2:(k==j)=false:=by simpa using fun h:k=j=>e h.symm
   rw [e1,BQ,AP];obtain ⟨h1,h2⟩:=mW k r l (i+1) (by simpa using hl) (fun j' e' he'=>h (j'+1) e' (by simpa using he'));refine ⟨fun hlt=>?_,fun hlt=>?_⟩
   ·obtain ⟨m',g1,g2,g3⟩:=h1 (by omega);refine ⟨m',by simpa using g1,g2,?_⟩;rw [Instr.findNow,hs,e2];simp only [g3];congr 3;omega
   ·rw [Instr.findNow,hs,e2];exact h2 (by omega)
theorem n4 {γ:Nat→Value} {o:Store} {w:World} {O:Nat→Prop} {k:Kd} (hk:QT k=true) {v:V} {y:IV} (hy:JK o k v=some y) {x:Value} (hv:VRel γ o w O v x) (w':World) (O':Nat→Prop):Kd.Rel w' O' k y x:=by
 cases k <;> simp only [QT] at hk <;> try (cases hk; done)
 all_goals
  cases v <;> simp only [JK] at hy <;> try (cases hy; done)
 ·rename_i k k' n;cases hkk:k==k' with
  | false=>rw [hkk] at hy; cases hy
  | true=>
   rw [hkk] at hy;obtain rfl:=B3 hy;obtain rfl:k=k':=by simpa using hkk
   simp only [VRel] at hv;simp only [Kd.Rel,IV.toInt];exact hv
 ·obtain rfl:=B3 hy;simp only [VRel] at hv;simp only [Kd.Rel,IV.toBool];exact hv
 ·obtain rfl:=B3 hy;simp only [VRel] at hv;simp only [Kd.Rel,IV.toStr];exact hv
section
variable {w w':World} {O O':Nat→Prop} {vk:Kd} {es:List (Int × IV)} {ents:Array MapEntry}
theorem EntRel.find (h:EntRel w O vk es ents) (k:Int) :
  (EN es k < es.length→∃ m,ents[EN es k]?=some m∧m.key = .int .i64 k∧m.born=EN es k∧Kd.Rel w O vk (HA vk es k) m.val∧Instr.findNow (.int .i64) (.int .i64 k) ents.toList 0=some (some (EN es k,m.val))) ∧
  (¬ EN es k < es.length→HA vk es k=I6 vk∧Instr.findNow (.int .i64) (.int .i64 k) ents.toList 0=some none):=by
 obtain ⟨h1,h2⟩:=mW k es ents.toList 0 (by simpa using h.1) (fun j e he=>by
  obtain ⟨v,g1,_⟩:=h.2 j e he;exact ⟨_,by simpa using g1,rfl⟩)
 refine ⟨fun hlt=>?_,fun hlt=>⟨?_,h2 hlt⟩⟩
 ·obtain ⟨m,g1,g2,g3⟩:=h1 hlt;obtain ⟨v,q1,q2⟩:=h.2 (EN es k) es[EN es k] (AV hlt);have g1':ents[EN es k]?=some m:=by simpa using g1
  rw [g1'] at q1;obtain rfl:=B3 q1;refine ⟨_,g1',g2,rfl,?_,by simpa using g3⟩;unfold HA NY;rw [AV hlt];exact q2.1
 ·unfold HA NY;rw [BF (by omega)];rfl
theorem EntRel.set (h:EntRel w O vk es ents) (hk:Keep O w w') (hO:∀ b,b < w.heap.size→O' b→O b) {i:Nat} {x:IV} {u:Value} (hu:Kd.Rel w' O' vk x u) (f:MapEntry→MapEntry) (hf:∀ m,ents[i]?=some m→(f m).key=m.key∧(f m).val=u∧(f m).born=m.born) :
  EntRel w' O' vk (KR es i x) (ents.modify i f):=by
 refine ⟨by rw [YV,Array.size_modify]; exact h.1,fun j e he=>?_⟩;rw [oJ] at he;cases hj:es[j]? with
 | none=>rw [hj] at he; cases he
 | some e0=>
  rw [hj] at he;obtain ⟨v,g1,g2⟩:=h.2 j e0 hj;simp only [vag,AB] at he;rw [Array.getElem?_modify,g1];by_cases e:j=i
  ·subst e;rw [A6 rfl] at he;subst he;obtain ⟨f1,f2,f3⟩:=hf _ g1;refine ⟨u,?_,hu,g2.2⟩;rw [A6 rfl,vag];congr 1;generalize f { key:=Value.int AC e0.fst,val:=v,born:=j }=m at f1 f2 f3;obtain ⟨a,b,c⟩:=m;simp only at f1 f2 f3;rw [f1,f2,f3]
  ·rw [AX e] at he;subst he;exact ⟨v,by rw [AX (fun h=>e h.symm)],KRel.mono hk hO g2⟩
theorem EntRel.same (h:EntRel w O vk es ents) (hk:Keep O w w') (hO:∀ b,b < w.heap.size→O' b→O b) {i:Nat} (f:MapEntry→MapEntry) (hf:∀ m,ents[i]?=some m→f m=m):EntRel w' O' vk es (ents.modify i f):=by
 refine ⟨by rw [Array.size_modify]; exact h.1,fun j e he=>?_⟩;obtain ⟨v,g1,g2⟩:=h.2 j e he;refine ⟨v,?_,KRel.mono hk hO g2⟩;rw [Array.getElem?_modify,g1];by_cases e:i=j
 ·subst e;rw [A6 rfl,vag,hf _ g1]
 ·rw [AX e]
theorem EntRel.push (h:EntRel w O vk es ents) (hk:Keep O w w') (hO:∀ b,b < w.heap.size→O' b→O b) {k:Int} {x:IV} {u:Value} (hu:Kd.Rel w' O' vk x u) (hkb:AC.min≤k∧k≤AC.max):EntRel w' O' vk (es++[(k,x)]) (ents.push ⟨.int .i64 k,u,es.length⟩):=by
 refine ⟨by rw [Array.size_push,AS,h.1]; rfl,fun j e he=>?_⟩;by_cases hj:j < es.length
 ·rw [List.getElem?_append_left hj] at he;obtain ⟨v,g1,g2⟩:=h.2 j e he;refine ⟨v,?_,KRel.mono hk hO g2⟩;rw [Array.getElem?_push,AX (by rw [h.1]; omega)];exact g1
 ·rw [vbk (by omega)] at he;have hj0:j - es.length=0:=by
   rcases Nat.eq_zero_or_pos (j - es.length) with e | e
   ·exact e
   ·rw [BF (by simp only [CT]; omega)] at he;cases he
  rw [hj0] at he;obtain rfl:(k,x)=e:=by simpa using he
  have e1:j=es.length:=by omega
  subst e1;refine ⟨u,?_,hu,hkb⟩;rw [Array.getElem?_push,A6 h.1.symm]
end
section
variable {B:BT} {nt:Nat} {w0:World} {X:Zone} {γ:Nat→Value} {st st':St} {a:Act} {w:World} {P:Program} {E:Env}
theorem YX (hT:TiOK P B E) {t e:Nat} {k:Kd} (hd:(E.tyd t).d = .map e k):∃ kt i z,P.underlying t=some (.map kt e)∧P.underlying kt=some (.int .i64)∧P.info? e=some i∧i.zero=some z∧PN k z:=by
 obtain ⟨d,h1,_,h2⟩:=(hT.desc (t:=t) (by rw [hd]; simp)).und;rw [hd] at h2;obtain ⟨kt,i,z,rfl,h3⟩:=h2;exact ⟨kt,i,z,h1,h3⟩
theorem c7 {b:Nat} (o:Obj):Keep (fun x=>x=b) w { w with heap:=w.heap.setIfInBounds b o }:=
 ⟨rfl,rfl,rfl,by simp,fun j _ hj=>Array.getElem?_setIfInBounds_ne (fun h:b=j=>hj h.symm)⟩
theorem Ln (h:Rel B nt w0 X γ st a w) (o:Oper) (hd9:∀ d,o.dst=some d→d≠900000) {t:Nat} {r:Option Operand} (ho:o.op = .makeMap t r) {v:V} {us:List Upd}
  (he:(DA E st.o (opd st) o.dst o.op).get=some (v,us)):OpWp P B nt w0 X a w o st v us:=by
 rw [ho] at he;simp only [DA] at he;split at he
 ·rename_i d e k hdst hd;split at he
  ·rename_i hk;simp only [T.get,AB,AM] at he;obtain ⟨rfl,rfl⟩:=he;have hn:=Rel.new h [] d (hd9 d hdst) (.map k []) (.map (some w.heap.size)) (w':=w.alloc (.map #[] 0)) (Keep.alloc _ w _)
    (by
     intro b hb;simp only [D3,Value.map.injEq,AB] at hb;subst hb;exact ⟨by simp,.inl (AO _)⟩)
    (by
     intro O' hO hcmp;simp only [ObRel];exact ⟨hk,w.heap.size,#[],rfl,vat w _,rfl,fun i e he=>by simp at he⟩)
   refine OpWp.value (x:=.map (some w.heap.size)) (w':=w.alloc (.map #[] 0)) ?_ hn ?_
   ·unfold execOp;simp only [ho];rfl
   ·simp only [St.ups,VRel,ES,B8]
  ·simp [T.get] at he
 ·simp [T.get] at he
theorem X6 (h:Rel B nt w0 X γ st a w) {x:Operand} {z:Int} (hx:opd st x = .int .i64 z):a.eval x = .int .i64 z:=by
 have:=EH h x
 rw [hx] at this;simp only [VRel] at this;exact this.1
theorem nL (h:Rel B nt w0 X γ st a w) {x:Operand} {z:Int} (hx:opd st x = .int .i64 z):AC.min≤z∧z≤AC.max:=by
 have:=EH h x
 rw [hx] at this;simp only [VRel] at this;exact this.2
theorem VY (h:Rel B nt w0 X γ st a w) {x:Operand} {n i c:Nat} (hx:opd st x = .ptr n i c) {vk:Kd} {es:List (Int × IV)} (ho:CY st.o n=some (.map vk es)) :
  QT vk=true∧∃ b ents,a.eval x = .map (some b)∧γ n = .map (some b)∧w.heap[b]?=some (.map ents es.length)∧EntRel w (CZ X γ st.o) vk es ents:=by
 have hv:=EH h x;rw [hx] at hv;simp only [VRel,ho] at hv;obtain ⟨h0,b,ents,hg,h1,h2⟩:=h.ob n _ ho;exact ⟨h0,b,ents,by rw [hv,hg],hg,h1,h2⟩
theorem pE (hT:TiOK P B E) (h:Rel B nt w0 X γ st a w) (o:Oper) {t:Nat} {m k x:Operand} (ho:o.op = .insert t m k x∨o.op = .mapUpdate t m k x) {v:V} {us:List Upd}
  (he:(DA E st.o (opd st) o.dst o.op).get=some (v,us)):OpWp P B nt w0 X a w o st v us:=by
 have hev:(match opd st m,opd st k,(E.tyd t).d with
  | .ptr n _ _,.int .i64 z,.map _ _=>match CY st.o n with
   | some (.map vk es)=>match JK st.o vk (opd st x) with
    | some x=>T.ok .any [.set n (.map vk (FJ es z x))]
    | none=>.no
   | _=>.no
  | _,_,_=>.no).get=some (v,us):=by
  rcases ho with ho | ho <;> (rw [ho] at he; exact he)
 clear he;split at hev
 ·rename_i n i c z e k' hm hz hd;split at hev
  ·rename_i vk es hob;split at hev
   ·rename_i y hy;simp only [T.get,AB,AM] at hev;obtain ⟨rfl,rfl⟩:=hev;obtain ⟨kt,_,_,hu,hku,_⟩:=YX hT hd;obtain ⟨hk,b,ents,hmv,hg,hb,hE⟩:=VY h hm hob;have hzv:=X6 h hz;have hkey:MapKept.IsKey (.int .i64) (.int .i64 z):=rfl;have hxr:∀ w' O',Kd.Rel w' O' vk y (a.eval x):=fun w' O'=>n4 hk hy (EH h x) w' O'
    obtain ⟨f1,f2⟩:=hE.find z;have hex:∃ ents',(Instr.mapUpdate t (.map (some b)) (.int .i64 z) (a.eval x)).run P w = .ok () { w with heap:=w.heap.setIfInBounds b (.map ents' (FJ es z y).length) } ∧
      ∀ O':Nat→Prop,(∀ b,b < w.heap.size→O' b→CZ X γ st.o b)→Keep (CZ X γ st.o) w { w with heap:=w.heap.setIfInBounds b (.map ents' (FJ es z y).length) }→EntRel { w with heap:=w.heap.setIfInBounds b (.map ents' (FJ es z y).length) } O' vk (FJ es z y) ents':=by
     unfold FJ;cases hlt:A8 (EN es z) es.length with
     | true=>
      obtain ⟨m0,g1,g2,g3,g4,g5⟩:=f1 (AL hlt);refine ⟨ents.modify (EN es z) fun e=>{ e with key:=.int .i64 z,val:=a.eval x },?_,fun O' hO hkp=>?_⟩
      ·simp [Instr.mapUpdate,AZ hu,MapKept.run_getObj_map hb,MapKept.run_checkKey hku hkey,MapKept.run_findKey hku g5,g1,g2,MapKept.run_keyThatStays hkey,MapKept.run_setObj_map _ hb,vaE,YV]
      ·exact hE.set hkp hO (hxr _ _) _ fun m1 hm1=>by
        rw [g1] at hm1;obtain rfl:=B3 hm1;exact ⟨g2.symm,rfl,rfl⟩
     | false=>
      obtain ⟨g1,g2⟩:=f2 (fun hh=>by
       have:A8 (EN es z) es.length=true:=BW hh
       rw [hlt] at this;cases this)
      refine ⟨ents.push ⟨.int .i64 z,a.eval x,es.length⟩,?_,fun O' hO hkp=>?_⟩
      ·simp [Instr.mapUpdate,AZ hu,MapKept.run_getObj_map hb,MapKept.run_checkKey hku hkey,MapKept.run_findKey hku g2,MapKept.run_setObj_map _ hb,vaE]
      ·exact hE.push hkp hO (hxr _ _) (nL h hz)
    obtain ⟨ents',hrun,hent⟩:=hex;have hkp:Keep (D3 (γ n) (.map vk es)) w { w with heap:=w.heap.setIfInBounds b (.map ents' (FJ es z y).length) }:=(c7 _).mono fun j _ hj=>by rw [hj]; exact hg
    refine OpWp.skip (w':={ w with heap:=w.heap.setIfInBounds b (.map ents' (FJ es z y).length) }) ?_ (Rel.set h (ob':=.map vk (FJ es z y)) hob rfl hkp (fun b hb=>hb) (fun hO hcmp=>?_))
    ·rcases ho with ho | ho <;> (unfold execOp; simp only [ho,hmv,hzv,BS,hrun,A9,BU])
    ·simp only [ObRel];refine ⟨hk,b,ents',hg,(MapKept.heap_set hb).1,hent _ (fun b _ hb=>hO b hb) (hkp.mono fun j _ hj=>.inl ⟨n,_,hob,hj⟩)⟩
   ·simp [T.get] at hev
  ·simp [T.get] at hev
 ·simp [T.get] at hev
theorem iE {w:World} {O:Nat→Prop}:∀ {k:Kd} {z:Value},PN k z→Kd.Rel w O k (I6 k) z
 | .int k,z,h=>by
  simp only [PN] at h;subst h;simp only [Kd.Rel,I6,IV.toInt];cases k <;> decide
 | .bool,z,h=>by
  simp only [PN] at h;subst h;simp only [Kd.Rel,I6,IV.toBool]
 | .str,z,h=>by
  simp only [PN] at h;subst h;simp only [Kd.Rel,I6,IV.toStr];exact ⟨trivial,B7 _⟩
 | .list _ _,z,h=>by simp only [PN] at h
theorem Ll (hT:TiOK P B E) (h:Rel B nt w0 X γ st a w) (o:Oper) {t:Nat} {m k:Operand} {ok:Bool} (ho:o.op = .lookup t m k ok) {v:V} {us:List Upd}
  (he:(DA E st.o (opd st) o.dst o.op).get=some (v,us)):OpWp P B nt w0 X a w o st v us:=by
 rw [ho] at he;simp only [DA] at he;split at he
 ·rename_i n i c z e vk' hm hz hd;split at he
  ·rename_i vk es hob;obtain ⟨kt,zi,zv,hu,hku,hi,hzi,hzk⟩:=YX hT hd;obtain ⟨hk,b,ents,hmv,hg,hb,hE⟩:=VY h hm hob;have hzv:=X6 h hz;have hkey:MapKept.IsKey (.int .i64) (.int .i64 z):=rfl;obtain ⟨f1,f2⟩:=hE.find z;have key:GE vk vk'=true→∃ u,(∀ ok,(Instr.lookup t (.map (some b)) (.int .i64 z) ok).run P w = .ok (if ok then .tuple #[u,.bool (A8 (EN es z) es.length)] else u) w)∧Kd.Rel w (CZ X γ st.o) vk (HA vk es z) u:=by
    intro hkk;obtain rfl:=QS hkk;cases hlt:A8 (EN es z) es.length with
    | true=>
     obtain ⟨m0,g1,g2,g3,g4,g5⟩:=f1 (AL hlt);refine ⟨m0.val,fun ok=>?_,g4⟩;cases ok <;> simp [Instr.lookup,AZ hu,MapKept.run_getObj_map hb,MapKept.run_checkKey hku hkey,MapKept.run_findKey hku g5,vaE]
    | false=>
     obtain ⟨g1,g2⟩:=f2 (fun hh=>by
      have:A8 (EN es z) es.length=true:=BW hh
      rw [hlt] at this;cases this)
     refine ⟨zv,fun ok=>?_,by rw [g1]; exact iE hzk⟩;cases ok <;> simp [Instr.lookup,AZ hu,MapKept.run_getObj_map hb,MapKept.run_checkKey hku hkey,MapKept.run_findKey hku g2,zeroValue,typeInfo,hi,hzi,vaE]
   split at he
   ·rename_i hkk;simp only [T.get,AB,AM] at he;obtain ⟨rfl,rfl⟩:=he;obtain ⟨u,hrun,hur⟩:=key hkk;refine OpWp.pure (x:=.tuple #[u,.bool (A8 (EN es z) es.length)]) h ?_ ?_
    ·unfold execOp;simp only [ho,hmv,hzv,BS,hrun,A9,BU,B8]
    ·simp only [VRel];exact ⟨_,rfl,by simp only [VRels,VRel]; exact ⟨SK hur,trivial,trivial⟩⟩
   ·rename_i hkk;simp only [T.get,AB,AM] at he;obtain ⟨rfl,rfl⟩:=he;obtain ⟨u,hrun,hur⟩:=key hkk;refine OpWp.pure (x:=u) h ?_ (SK hur);unfold execOp;simp only [ho,hmv,hzv,BS,hrun,A9,BU,Bool.false_eq_true,if_false]
   ·simp [T.get] at he
  ·simp [T.get] at he
 ·simp [T.get] at he
theorem Lq (hT:TiOK P B E) (h:Rel B nt w0 X γ st a w) (o:Oper) {t:Nat} {m k:Operand} (ho:o.op = .mapEntry t m k) {v:V} {us:List Upd}
  (he:(DA E st.o (opd st) o.dst o.op).get=some (v,us)):OpWp P B nt w0 X a w o st v us:=by
 rw [ho] at he;simp only [DA] at he;split at he
 ·rename_i n i c z e vk' hm hz hd;split at he
  ·rename_i vk es hob;split at he
   ·rename_i hkk;obtain ⟨hsz,he⟩:=T.get_when he;simp only [T.get,AB,AM] at he;obtain ⟨rfl,rfl⟩:=he;have hlen:es.length≤strMax:=BC hsz;obtain rfl:=QS hkk;obtain ⟨kt,zi,zv,hu,hku,hi,hzi,hzk⟩:=YX hT hd;obtain ⟨hk,b,ents,hmv,hg,hb,hE⟩:=VY h hm hob;have hzv:=X6 h hz;have hkey:MapKept.IsKey (.int .i64) (.int .i64 z):=rfl;obtain ⟨f1,f2⟩:=hE.find z;have hex:∃ ents' u,(Instr.mapEntry t (.map (some b)) (.int .i64 z)).run P w = .ok (.tuple #[u,.int .i64 ((EN es z:Nat):Int)]) { w with heap:=w.heap.setIfInBounds b (.map ents' (MW es z (I6 vk)).length) }∧Kd.Rel w (CZ X γ st.o) vk (HA vk es z) u ∧
      (∀ O':Nat→Prop,(∀ b,b < w.heap.size→O' b→CZ X γ st.o b)→Keep (CZ X γ st.o) w { w with heap:=w.heap.setIfInBounds b (.map ents' (MW es z (I6 vk)).length) }→EntRel { w with heap:=w.heap.setIfInBounds b (.map ents' (MW es z (I6 vk)).length) } O' vk (MW es z (I6 vk)) ents'):=by
     unfold MW;cases hlt:A8 (EN es z) es.length with
     | true=>
      obtain ⟨m0,g1,g2,g3,g4,g5⟩:=f1 (AL hlt);refine ⟨ents.modify (EN es z) fun e=>{ e with key:=.int .i64 z },m0.val,?_,g4,fun O' hO hkp=>?_⟩
      ·simp [Instr.mapEntry,AZ hu,MapKept.run_getObj_map hb,MapKept.run_checkKey hku hkey,MapKept.run_findKey hku g5,g1,g2,g3,MapKept.run_keyThatStays hkey,MapKept.run_setObj_map _ hb,vaE,goInt]
      ·exact hE.same hkp hO _ fun m1 hm1=>by
        rw [g1] at hm1;obtain rfl:=B3 hm1;rw [← g2]
     | false=>
      obtain ⟨g1,g2⟩:=f2 (fun hh=>by
       have:A8 (EN es z) es.length=true:=BW hh
       rw [hlt] at this;cases this)
      have hix:EN es z=es.length:=by
       have h1:=dL z es;have h2:¬ EN es z < es.length:=fun hh=>by
        have:A8 (EN es z) es.length=true:=BW hh
        rw [hlt] at this;cases this
       omega
      refine ⟨ents.push ⟨.int .i64 z,zv,es.length⟩,zv,?_,by rw [g1]; exact iE hzk,fun O' hO hkp=>?_⟩
      ·simp [Instr.mapEntry,AZ hu,MapKept.run_getObj_map hb,MapKept.run_checkKey hku hkey,MapKept.run_findKey hku g2,MapKept.run_setObj_map _ hb,zeroValue,typeInfo,hi,hzi,vaE,goInt,hix]
      ·exact hE.push hkp hO (iE hzk) (nL h hz)
    obtain ⟨ents',u,hrun,hur,hent⟩:=hex;have hkp:Keep (D3 (γ n) (.map vk es)) w { w with heap:=w.heap.setIfInBounds b (.map ents' (MW es z (I6 vk)).length) }:=(c7 _).mono fun j _ hj=>by rw [hj]; exact hg
    have hkO:Keep (CZ X γ st.o) w { w with heap:=w.heap.setIfInBounds b (.map ents' (MW es z (I6 vk)).length) }:=hkp.mono fun j _ hj=>.inl ⟨n,_,hob,hj⟩
    have hR:=Rel.set h (ob':=.map vk (MW es z (I6 vk))) hob rfl hkp (fun b hb=>hb) (fun hO hcmp=>by
     simp only [ObRel];exact ⟨hk,b,ents',hg,(MapKept.heap_set hb).1,hent _ (fun b _ hb=>hO b hb) hkO⟩)
    refine OpWp.value (x:=.tuple #[u,.int .i64 ((EN es z:Nat):Int)]) (w':={ w with heap:=w.heap.setIfInBounds b (.map ents' (MW es z (I6 vk)).length) }) ?_ hR ?_
    ·unfold execOp;simp only [ho,hmv,hzv,BS,hrun,A9,BU]
    ·simp only [St.ups,VRel];refine ⟨_,rfl,?_⟩;simp only [VRels,VRel];have h1:=dL z es;have h2:strMax≤9223372036854775807:=by decide
     refine ⟨SK (Kd.Rel.mono hkO (fun b' hb' hO'=>?_) hur),⟨trivial,?_,?_⟩,trivial⟩
     ·rcases hO' with ⟨n',ob1,q1,q2⟩ | hO'
      ·simp only [St.up,DF] at q1;split at q1
       ·rename_i e1;subst e1;obtain rfl:=B3 q1;exact .inl ⟨n,_,hob,q2⟩
       ·exact .inl ⟨n',ob1,q1,q2⟩
      ·exact .inr hO'
     ·show (-9223372036854775808:Int)≤_;omega
     ·show _≤(9223372036854775807:Int);omega
   ·simp [T.get] at he
  ·simp [T.get] at he
 ·simp [T.get] at he
theorem mV:∀ (l:List MapEntry) (z:Nat) (j:Nat),(∀ (i:Nat) (m:MapEntry),l[i]?=some m→m.born=j+i)→z < l.length→l.findIdx? (fun e=>(e.born:Int)==((j+z:Nat):Int))=some z
 | m :: l,z,j,h,hz=>by
  have h0:=h 0 m rfl;rw [List.findIdx?_cons];cases z with
  | zero=>simp [h0]
  | succ z=>
   have hne:((m.born:Int)==((j+(z+1):Nat):Int))=false:=by
    simp only [BN,ne_eq];omega
   rw [hne];have ih:=mV l z (j+1) (fun i m' hm'=>by rw [h (i+1) m' (by simpa using hm')]; omega) (by simpa using hz);rw [show j+(z+1)=j+1+z by omega,ih];rfl
theorem Le (h:Rel B nt w0 X γ st a w) (o:Oper) {t:Nat} {m s x:Operand} (ho:o.op = .entryStore t m s x) {v:V} {us:List Upd}
  (he:(DA E st.o (opd st) o.dst o.op).get=some (v,us)):OpWp P B nt w0 X a w o st v us:=by
 rw [ho] at he;simp only [DA] at he;split at he
 ·rename_i n i c z hm hz;split at he
  ·rename_i vk es hob;split at he
   ·rename_i y hy;obtain ⟨hc,he⟩:=T.get_when he;simp only [T.get,AB,AM] at he;obtain ⟨rfl,rfl⟩:=he;simp only [AG,AN] at hc;obtain ⟨hk,b,ents,hmv,hg,hb,hE⟩:=VY h hm hob;have hzv:=X6 h hz;have hzn:z=((0+z.toNat:Nat):Int):=by omega
    have hlt:z.toNat < es.length:=by omega
    have hfi:ents.findIdx? (fun e=>(e.born:Int)==z)=some z.toNat:=by
     rw [show ∀ (es:Array MapEntry) p,es.findIdx? p=es.toList.findIdx? p from fun es p=>by cases es; simp]
     have:=mV ents.toList z.toNat 0 (fun i m hm=>by
      have hi:i < es.length:=by
       have:=(A5.1 hm).1
       simpa [hE.1] using this
      obtain ⟨v,q1,_⟩:=hE.2 i es[i] (AV hi);have hm':ents[i]?=some m:=by simpa using hm
      rw [hm'] at q1;obtain rfl:=B3 q1;simp) (by simpa [hE.1] using hlt)
     rw [← hzn] at this;exact this
    have hrun:(Instr.entryStore t (.map (some b)) (.int .i64 z) (a.eval x)).run P w = .ok () { w with heap:=w.heap.setIfInBounds b (.map (ents.modify z.toNat fun e=>{ e with val:=a.eval x }) es.length) }:=by
     simp [Instr.entryStore,MapKept.run_getObj_map hb,asInt,asIntOf,hfi,MapKept.run_setObj_map _ hb,vaE]
    have hkp:Keep (D3 (γ n) (.map vk es)) w { w with heap:=w.heap.setIfInBounds b (.map (ents.modify z.toNat fun e=>{ e with val:=a.eval x }) es.length) }:=(c7 _).mono fun j _ hj=>by rw [hj]; exact hg
    refine OpWp.skip (w':={ w with heap:=w.heap.setIfInBounds b (.map (ents.modify z.toNat fun e=>{ e with val:=a.eval x }) es.length) }) ?_ (Rel.set h (ob':=.map vk (KR es z.toNat y)) hob rfl hkp (fun b hb=>hb) (fun hO hcmp=>?_))
    ·unfold execOp;simp only [ho,hmv,hzv,BS,hrun,A9,BU]
    ·simp only [ObRel];refine ⟨hk,b,ents.modify z.toNat fun e=>{ e with val:=a.eval x },hg,by rw [YV]; exact (MapKept.heap_set hb).1,hE.set (hkp.mono fun j _ hj=>.inl ⟨n,_,hob,hj⟩) (fun b _ hb=>hO b hb) (n4 hk hy (EH h x) _ _) _ fun m1 hm1=>⟨rfl,rfl,rfl⟩⟩
   ·simp [T.get] at he
  ·simp [T.get] at he
 ·simp [T.get] at he
theorem Lu (hT:TiOK P B E) (h:Rel B nt w0 X γ st a w) (o:Oper) (hd9:∀ d,o.dst=some d→d≠900000) {t:Nat} {x:Operand} (ho:o.op = .range t x) {v:V} {us:List Upd}
  (he:(DA E st.o (opd st) o.dst o.op).get=some (v,us)):OpWp P B nt w0 X a w o st v us:=by
 rw [ho] at he;simp only [DA] at he;split at he
 ·rename_i n i c d e k' hm hdst hd;split at he
  ·rename_i vk es hob;simp only [T.get,AB,AM] at he;obtain ⟨rfl,rfl⟩:=he;obtain ⟨kt,_,_,hu,hku,_⟩:=YX hT hd;obtain ⟨hk,b,ents,hmv,hg,hb,hE⟩:=VY h hm hob;have hbl:b < w.heap.size:=(vaY.1 hb).1;have hent:∀ (j:Nat) (m:MapEntry),ents.toList[j]?=some m→j < es.length∧m.born=j:=fun j m hj=>by
    have hi:j < es.length:=by
     have:=(A5.1 hj).1
     simpa [hE.1] using this
    obtain ⟨v,q1,_⟩:=hE.2 j es[j] (AV hi);have hj':ents[j]?=some m:=by simpa using hj
    rw [hj'] at q1;obtain rfl:=B3 q1;exact ⟨hi,rfl⟩
   have hleft:leftOf ents #[]=ents:=by
    unfold leftOf;simp
   have hn:=Rel.new h [n] d (hd9 d hdst) (.iter vk none es) (.tuple #[.pointer (some ⟨w.heap.size,0,none⟩),.map (some b)]) (w':=w.alloc (.mapIter (some b) es.length #[] es.length)) (Keep.alloc _ w _)
    (by
     rintro b' ⟨r,m',hb',hb''⟩;have h2:=congrArg Array.toList (Value.tuple.inj hb');simp only [vaI,B9,AB,CP,CE,Value.map.injEq] at h2;obtain ⟨rfl,rfl⟩:=h2;rcases hb'' with rfl | rfl
     ·exact ⟨by simp,.inl (AO _)⟩
     ·exact ⟨by simp; omega,.inr ⟨n,List.mem_singleton_self n,_,hob,hg⟩⟩)
    (by
     intro O' hO hcmp;simp only [ObRel];refine ⟨hk,w.heap.size,b,es.length,#[],ents,es.length,rfl,vat w _,by rw [@heap_alloc_old w _ b hbl]; exact hb,AO _,fun x hx=>?_,?_,⟨by rw [hleft]; simpa using hE.1,fun j e he=>?_⟩,fun e he=>by cases he⟩
     ·obtain ⟨j,hj⟩:=List.getElem?_of_mem hx;obtain ⟨h1,h2⟩:=hent j x hj;omega
     ·rw [List.nodup_iff_pairwise_ne,List.pairwise_iff_getElem];intro j j' hj hj' hlt;rw [List.getElem_map,List.getElem_map,(hent j _ (AV (by simpa using hj))).2,(hent j' _ (AV (by simpa using hj'))).2];omega
     ·obtain ⟨v,q1,q2⟩:=hE.2 j e he;rw [hleft];exact ⟨_,by simpa using q1,rfl,KRel.mono (Keep.alloc _ w _) hO q2⟩)
   refine OpWp.value (x:=.pointer (some ⟨w.heap.size,0,none⟩)) (w':=w.alloc (.mapIter (some b) es.length #[] es.length)) ?_ hn ?_
   ·unfold execOp;simp only [ho,hmv,BS,run_range_map w t kt e b ents es.length hu hb,A9,BU]
   ·simp only [St.ups,VRel,ES,B8];exact ⟨w.heap.size,_,rfl,rfl⟩
  ·simp [T.get] at he
 ·simp [T.get] at he
theorem nO (h:Rel B nt w0 X γ st a w) {x:Operand} {n i c:Nat} (hx:opd st x = .ptr n i c) {vk:Kd} {last:Option (Int × IV)} {rest:List (Int × IV)} (ho:CY st.o n=some (.iter vk last rest)) :
  QT vk=true∧∃ r b since seen ents clock,a.eval x = .pointer (some ⟨r,0,none⟩)∧γ n = .tuple #[.pointer (some ⟨r,0,none⟩),.map (some b)]∧w.heap[r]?=some (.mapIter (some b) since seen clock)∧w.heap[b]?=some (.map ents clock)∧IterRel w (CZ X γ st.o) vk last rest since seen ents clock:=by
 have hv:=EH h x;rw [hx] at hv;simp only [VRel,ho] at hv;obtain ⟨h0,r,b,since,seen,ents,clock,hg,h1,h2,h3⟩:=h.ob n _ ho;obtain ⟨r',y,hy,hv⟩:=hv;rw [hg] at hy;have h4:=congrArg Array.toList (Value.tuple.inj hy);simp only [vaI,B9,AB,CP,CE] at h4;obtain ⟨rfl,_⟩:=h4;exact ⟨h0,r,b,since,seen,ents,clock,hv,hg,h1,h2,h3⟩
theorem Ld (h:Rel B nt w0 X γ st a w) (o:Oper) {x:Operand} (ho:o.op = .entry x) {v:V} {us:List Upd}
  (he:(DA E st.o (opd st) o.dst o.op).get=some (v,us)):OpWp P B nt w0 X a w o st v us:=by
 rw [ho] at he;simp only [DA] at he;split at he
 ·rename_i n i c hm;split at he
  ·rename_i vk e rest hob;simp only [T.get,AB,AM] at he;obtain ⟨rfl,rfl⟩:=he;obtain ⟨hk,r,b,since,seen,ents,clock,hx,hg,hr,hb,h1,h2,h3,h4,h5⟩:=nO h hm hob;obtain ⟨m,s0,q1,rfl,q3,q4⟩:=h5 e rfl;refine OpWp.pure (x:=.tuple #[m.key,m.val]) h ?_ ?_
   ·unfold execOp;simp only [ho,hx,BS,run_entry_at w r b since s0 ents clock m hr hb q1 h3,A9,BU]
   ·simp only [VRel];refine ⟨_,rfl,?_⟩;simp only [VRels,VRel,q3];exact ⟨⟨trivial,q4.2⟩,SK q4.1,trivial⟩
  ·simp [T.get] at he
 ·simp [T.get] at he
end
open Go Go.RowKit
theorem Ks {j:Nat}:∀ {l:List (Int × IV)},j < l.length→l[j]?=some (FK l j):=by
 induction j with
 | zero=>intro l h; cases l with
  | nil=>simp at h
  | cons x l=>rfl
 | succ j ih=>intro l h; cases l with
  | nil=>simp at h
  | cons x l=>rw [CD,FK]; exact ih (by simpa using h)
theorem bV:∀ (l:List (Int × IV)) (j:Nat),G7 l j=l.eraseIdx j
 | [],j=>by simp [G7]
 | x :: l,0=>by simp [G7]
 | x :: l,j+1=>by rw [G7,bV l j,List.eraseIdx_cons_succ]
theorem mS:∀ (l:List MapEntry) (j:Nat) (e:MapEntry),(l.map (·.born)).Nodup→l[j]?=some e→l.filter (fun x=>!(x.born==e.born))=l.eraseIdx j
 | [],j,e,_,h=>by simp at h
 | x :: l,0,e,hn,h=>by
  obtain rfl:x=e:=by simpa using h
  have hn':x.born ∉ l.map (·.born)∧(l.map (·.born)).Nodup:=List.nodup_cons.1 hn;rw [vaU,CN];simp only [BB,Bool.false_eq_true,if_false,List.eraseIdx_cons_zero];rw [List.filter_eq_self];intro y hy
  have:y.born≠x.born:=fun e=>hn'.1 (List.mem_map.2 ⟨y,hy,e⟩)
  simpa using this
 | x :: l,j+1,e,hn,h=>by
  have hn':x.born ∉ l.map (·.born)∧(l.map (·.born)).Nodup:=List.nodup_cons.1 hn;have he:l[j]?=some e:=by simpa using h
  have hne:(x.born==e.born)=false:=by
   have:x.born≠e.born:=fun e'=>hn'.1 (List.mem_map.2 ⟨e,vaJ he,e'.symm⟩)
   simpa using this
  rw [vaU,hne];simp only [BX,B8,List.eraseIdx_cons_succ];rw [mS l j e hn'.2 he]
theorem n9 {ents:Array MapEntry} {seen:Array Nat} {j:Nat} {e:MapEntry} (hn:(ents.toList.map (·.born)).Nodup) (he:(leftOf ents seen).toList[j]?=some e) :
  (leftOf ents (seen.push e.born)).toList=(leftOf ents seen).toList.eraseIdx j:=by
 have hsub:((leftOf ents seen).toList.map (·.born)).Nodup:=by
  unfold leftOf;rw [Array.toList_filter];exact hn.sublist ((List.filter_sublist).map _)
 rw [← mS _ j e hsub he];unfold leftOf;rw [Array.toList_filter,Array.toList_filter,List.filter_filter];congr 1
 funext x
 rw [contains_push];cases seen.contains x.born <;> cases x.born==e.born <;> rfl
section
variable {B:BT} {nt:Nat} {w0:World} {X:Zone} {γ:Nat→Value} {st st':St} {a:Act} {w:World} {P:Program} {E:Env}
theorem Mb {n:Nat} {ob ob':Ob} (ho:CY st.o n=some ob) (hb:∀ b,D3 (γ n) ob' b→D3 (γ n) ob b) (b:Nat) (h:CZ X γ ((n,some ob') :: st.o) b):CZ X γ st.o b:=by
 rcases h with ⟨m,ob1,q1,q2⟩ | h
 ·rw [DF] at q1;split at q1
  ·rename_i e;subst e;obtain rfl:=B3 q1;exact .inl ⟨n,ob,ho,hb b q2⟩
  ·exact .inl ⟨m,ob1,q1,q2⟩
 ·exact .inr h
theorem Lr (h:Rel B nt w0 X γ st a w) (o:Oper) {x:Operand} (ho:o.op = .next x false) {n i c:Nat} (hm:opd st x = .ptr n i c) {vk:Kd} {last:Option (Int × IV)} {rest:List (Int × IV)} (hob:CY st.o n=some (.iter vk last rest)) :
  (rest.length=0→OpWp P B nt w0 X a w o st (.tup [.bool false]) []) ∧
  (rest.length≠0→∃ j,j < rest.length∧OpWp P B nt w0 X a w o st (.tup [.bool true,.int .i64 (FK rest j).1,J3 vk (FK rest j).2]) [.set n (.iter vk (some (FK rest j)) (G7 rest j))]):=by
 obtain ⟨hk,r,b,since,seen,ents,clock,hx,hg,hr,hb,h1,h2,h3,h4,h5⟩:=nO h hm hob;have hls:(leftOf ents seen).toList.length=(leftOf ents seen).size:=by simp
 rcases run_next_at (P:=P) w o.type r b since clock seen ents clock hr hb h2 h1 with ⟨q1,q2⟩ | ⟨e,q1,w1,q2,q3⟩
 ·have h0:rest.length=0:=by rw [← h4.1,hls,q1]
  refine ⟨fun _=>?_,fun hne=>absurd h0 hne⟩;refine OpWp.pure (x:=.tuple #[.bool false]) h ?_ ?_
  ·unfold execOp;simp only [ho,hx,BS,q2,A9,BU]
  ·simp only [VRel];exact ⟨_,rfl,by simp only [VRels,VRel]; exact ⟨trivial,trivial⟩⟩
 ·obtain ⟨j,hj⟩:=List.getElem?_of_mem q1;have hjl:j < rest.length:=by
   rw [← h4.1];exact (A5.1 hj).1
  refine ⟨fun h0=>by omega,fun _=>⟨j,hjl,?_⟩⟩;obtain ⟨m,p1,p2,p3⟩:=h4.2 j (FK rest j) (Ks hjl);rw [hj] at p1;obtain rfl:=B3 p1;have hw1:w1.heap=w.heap:=by rcases q2 with rfl | rfl <;> rfl
  have hk1:Keep (fun k=>k=r) w (ChangeMaps.setBlock w1 r (.mapIter (some b) since (seen.push e.born) clock)):=by
   have h6:Keep (fun k=>k=r) w w1:=by
    rcases q2 with rfl | rfl
    ·exact Keep.refl _ _
    ·exact Keep.drew _ _
   refine ⟨h6.os,h6.tape,h6.output,?_,fun k _ hne=>?_⟩
   ·simp [ChangeMaps.setBlock,hw1]
   ·simp only [ChangeMaps.setBlock,hw1];exact Array.getElem?_setIfInBounds_ne (fun h:r=k=>hne h.symm)
  have hkp:Keep (D3 (γ n) (.iter vk last rest)) w (ChangeMaps.setBlock w1 r (.mapIter (some b) since (seen.push e.born) clock)):=hk1.mono fun k _ hk=>⟨r,b,hg,.inl hk⟩
  have hkO:Keep (CZ X γ st.o) w (ChangeMaps.setBlock w1 r (.mapIter (some b) since (seen.push e.born) clock)):=hkp.mono fun k _ hk=>.inl ⟨n,_,hob,hk⟩
  have hrb:b≠r:=fun e'=>by
   rw [e',hr] at hb;cases hb
  have hOw:=Mb (X:=X) (γ:=γ) (st:=st) (n:=n) (ob':=.iter vk (some (FK rest j)) (G7 rest j)) hob (fun b h=>h);have hR:=Rel.set h (ob':=.iter vk (some (FK rest j)) (G7 rest j)) hob rfl hkp (fun b hb=>hb) (fun hO hcmp=>by
   simp only [ObRel];refine ⟨hk,r,b,since,seen.push e.born,ents,clock,hg,?_,?_,h1,h2,h3,⟨?_,fun i e' he'=>?_⟩,fun e' he'=>?_⟩
   ·simp only [ChangeMaps.setBlock,hw1];exact (MapKept.heap_set hr).1
   ·simp only [ChangeMaps.setBlock,hw1];rw [(MapKept.heap_set hr).2 b hrb];exact hb
   ·rw [n9 h3 hj,bV,List.length_eraseIdx,List.length_eraseIdx,h4.1]
   ·rw [n9 h3 hj,List.getElem?_eraseIdx];rw [bV,List.getElem?_eraseIdx] at he';split at he'
    ·rename_i hlt;obtain ⟨m,s1,s2,s3⟩:=h4.2 i e' he';exact ⟨m,by rw [A6 hlt]; exact s1,s2,KRel.mono hkO (fun b _ hb=>hOw b hb) s3⟩
    ·rename_i hlt;obtain ⟨m,s1,s2,s3⟩:=h4.2 (i+1) e' he';exact ⟨m,by rw [AX hlt]; exact s1,s2,KRel.mono hkO (fun b _ hb=>hOw b hb) s3⟩
   ·obtain rfl:=B3 he';exact ⟨e,seen,(mem_left q1).1,rfl,p2,KRel.mono hkO (fun b _ hb=>hOw b hb) p3⟩)
  refine OpWp.value (x:=.tuple #[.bool true,e.key,e.val]) ?_ hR ?_
  ·unfold execOp;simp only [ho,hx,BS,q3,A9,BU]
  ·simp only [St.ups,VRel];refine ⟨_,rfl,?_⟩;simp only [VRels,VRel,p2];exact ⟨trivial,⟨trivial,p3.2⟩,SK (KRel.mono hkO (fun b _ hb=>hOw b hb) p3).1,trivial⟩
end
open Go Go.RowKit
section
variable {B:BT} {nt:Nat} {w0:World} {X:Zone} {γ:Nat→Value} {st st':St} {a:Act} {w:World} {P:Program} {E:Env}
theorem kX (h:Rel B nt w0 X γ st a w) (hg:GX B w0 X) {f:FuncId} {sp:DB} (hS:Snd P B f (fun vs=>(sp vs).get)) {vs:List V} {xs:List Value} (hv:VRels γ st.o w (CZ X γ st.o) vs xs) {d:Nat} (hd9:d≠900000) {tks:List (List Kd)} {v:V} {us:List Upd} (he:(OU st.o d tks sp vs).get=some (v,us)) :
  Does P f xs w fun e w'=>∃ x,e = .returned x∧∃ γ',Rel B nt w0 X γ' (st.ups us) a w'∧VRel γ' (st.ups us).o w' (CZ X γ' (st.ups us).o) v x:=by
 unfold OU at he;split at he
 ·rename_i hl;obtain ⟨r,out,hsp,he⟩:=R.toT_get he;unfold UX at he;split at he
  ·split at he
   ·rename_i cs;split at he
    ·rename_i hc;simp only [T.get,AB,AM] at he;obtain ⟨rfl,rfl⟩:=he;exact xY h hg hS hv hl hsp d hd9 (AL hc)
    ·simp [T.get] at he
   ·simp only [T.get,AB,AM] at he;obtain ⟨rfl,rfl⟩:=he;exact yA h hg hS hv hl hsp d hd9
   ·rename_i hnb hnv;simp only [T.get,AB,AM] at he;obtain ⟨rfl,rfl⟩:=he;exact xZ h hg hS hv hl hsp hnb hnv
  ·simp [T.get] at he
 ·rename_i n hl;split at he
  ·rename_i cs ho;split at he
   ·rename_i hib;obtain ⟨r,outs,hsp,he⟩:=R.toT_get he;unfold UW at he;split at he
    ·split at he
     ·rename_i hc;simp only [T.get,AB,AM] at he;obtain ⟨rfl,rfl⟩:=he;simp only [AG,Bool.or_eq_true] at hc;refine xX h hg hS hv hl ho rfl hsp hib (EI.1 hc.1) (hc.2.1.imp (fun h=>AL h) (fun h=>AL h)) (AL hc.2.2)
     ·simp [T.get] at he
    ·simp [T.get] at he
   ·simp [T.get] at he
  ·rename_i s ho;split at he
   ·rename_i hib;obtain ⟨r,outs,hsp,he⟩:=R.toT_get he;unfold UV at he;split at he
    ·simp only [T.get,AB,AM] at he;obtain ⟨rfl,rfl⟩:=he;exact xW h hg hS hv hl ho hsp hib
    ·simp [T.get] at he
   ·simp [T.get] at he
  ·simp [T.get] at he
 ·obtain ⟨r,outs,hsp,he⟩:=R.toT_get he;unfold iL at he;split at he
  ·simp only [T.get,AB,AM] at he;obtain ⟨rfl,rfl⟩:=he;simp only [St.ups];exact yB h hg hS hv hsp
  ·simp [T.get] at he
def JD (l:LI):List Value:=l.map fun x=>Value.int .i64 x.toInt
def k8:V→Value
 | .int k n=>.int k n
 | _=>undef
def PC (w:World) (v:Value):List V→List Value→Prop
 | [],[]=>True
 | [.clo f [.bor cs]],[y]=>∃ b c T,y = .func (.func f) #[] #[.pointer (some ⟨b,0,none⟩)]∧w.heap[b]?=some (.cells c T (0,0))∧c.toList=cs.map k8∧v.ownBlock≠some b
 | _,_=>False
def NC (P:Program) (f:FuncId) (p:Ip):Prop:=
 ∀ (w:World) (v:Value) (l l':LI) (rs:List V) (ys:List Value),w.ownsRow 0 p.e 1 v l.length (JD l)→(∀ x∈l,AC.min≤x.toInt∧x.toInt≤AC.max)→l.length≤strMax →
  PC w v rs ys→p.g rs l=some l' →
  Does P f (v :: ys) w fun e w'=>∃ x,e = .returned x∧w.grownBy w' v.ownBlock∧(∀ x∈l',AC.min≤x.toInt∧x.toInt≤AC.max) ∧
   (p.ret=true→w'.ownsRow 0 p.e 1 x l'.length (JD l')∧∀ b,x.ownBlock=some b→v.ownBlock=some b∨w.heap.size≤b) ∧
   (p.ret=false→w'.ownsRow 0 p.e 1 v l'.length (JD l'))
theorem yL {w:World} {O:Nat→Prop} {l:LI} {xs:List Value} (hl:xs.length=l.length*1)
  (h:∀ i y,l[i]?=some y→Kd.RelAll w O [.z] (EW false y) 0 (fun j u=>xs[i*1+j]?=some u)):xs=JD l∧∀ x∈l,AC.min≤x.toInt∧x.toInt≤AC.max:=by
 have one:∀ (i:Nat) (y:IV),l[i]?=some y→xs[i]?=some (.int .i64 y.toInt)∧AC.min≤y.toInt∧y.toInt≤AC.max:=fun i y hy=>by
  have:=h i y hy
  simp only [Kd.RelAll,EW,CE,Nat.mul_one,vaa] at this;obtain ⟨u,hu,hk⟩:=this;simp only [Kd.Rel] at hk;rw [hu,hk.1];exact ⟨rfl,hk.2⟩
 constructor
 ·apply List.ext_getElem?;intro i;unfold JD;rw [B6];cases hy:l[i]? with
  | none=>
   rw [List.getElem?_eq_none_iff] at hy;rw [BF (by omega)];rfl
  | some y=>rw [(one i y hy).1]; rfl
 ·intro x hx;obtain ⟨i,hi⟩:=List.getElem?_of_mem hx;exact (one i x hi).2
theorem cV {w:World} {O:Nat→Prop} {l:LI} (h:∀ x∈l,AC.min≤x.toInt∧x.toInt≤AC.max) (i:Nat) (y:IV) (hy:l[i]?=some y) :
  Kd.RelAll w O [.z] (EW false y) 0 (fun j u=>(JD l)[i*1+j]?=some u):=by
 simp only [Kd.RelAll,EW,CE,Nat.mul_one,vaa];refine ⟨.int .i64 y.toInt,?_,?_⟩
 ·unfold JD;rw [B6,hy];rfl
 ·simp only [Kd.Rel];exact ⟨trivial,h y (vaJ hy)⟩
theorem nM {γ:Nat→Value} {o:Store} {w:World} {O:Nat→Prop}:∀ {cs:List V} {xs:List Value},X7 cs=true→VRels γ o w O cs xs→xs=cs.map k8
 | [],[],_,_=>rfl
 | [],_ :: _,_,h=>by simp only [VRels] at h
 | v :: cs,[],h,h'=>by simp only [VRels] at h'
 | v :: cs,x :: xs,h,h'=>by
  simp only [VRels] at h';unfold X7 at h;split at h
  ·rename_i h0; cases h0
  ·rename_i n r h0;injection h0 with h1 h2
   subst h1 h2;have h3:=h'.1;simp only [VRel] at h3;rw [A2,← nM h h'.2,h3.1];rfl
  ·cases h
theorem rB (h:Rel B nt w0 X γ st a w) {v:Value} (hv:∀ m cs b,CY st.o m=some (.box cs)→D3 (γ m) (.box cs) b→v.ownBlock≠some b) {rest rs:List V} {ys:List Value} (hr:VRels γ st.o w (CZ X γ st.o) rest ys) (he:QP st.o rest=some rs):PC w v rs ys:=by
 unfold QP at he;split at he
 ·simp only [AB] at he;subst he;cases ys with
  | nil=>trivial
  | cons y ys=>simp only [VRels] at hr
 ·rename_i f m i c;split at he
  ·rename_i cs hic ho;split at he
   ·rename_i hi;simp only [AB] at he;subst he;simp only [AG] at hic;obtain rfl:=EI.1 hic.1;obtain rfl:=EI.1 hic.2
    match ys,hr with
    | [y],hr=>
     simp only [VRels,CE] at hr;simp only [VRel] at hr;obtain ⟨cs',rfl,hc⟩:=hr;obtain ⟨b,c,T,hg,hh,hcs⟩:=h.ob m _ ho;have hc1:∃ x0,cs' = #[x0]∧x0 = .pointer (some ⟨b,0,none⟩):=by
      obtain ⟨l⟩:=cs'
      match l,hc with
      | [x0],hc=>
       simp only [VRels,CE,VRel,ho] at hc;obtain ⟨_,b',hb',rfl⟩:=hc;rw [hg] at hb';simp only [B9,AB,CP,CE] at hb';subst hb';exact ⟨_,rfl,rfl⟩
      | [],hc=>simp only [VRels] at hc
      | _ :: _ :: _,hc=>simp only [VRels,and_false] at hc
     obtain ⟨x0,rfl,rfl⟩:=hc1;exact ⟨b,c,T,rfl,hh,nM hi hcs,hv m cs b ho ⟨_,hg,rfl⟩⟩
    | [],hr=>simp only [VRels] at hr
    | _ :: _ :: _,hr=>simp only [VRels,and_false] at hr
   ·cases he
  ·cases he
 ·cases he
theorem Fu (h:Rel B nt w0 X γ st a w) {f:FuncId} {p:Ip} (hI:NC P f p) {vs:List V} {xs:List Value} (hv:VRels γ st.o w (CZ X γ st.o) vs xs) {d:Option Nat} (hd9:∀ d',d=some d'→d'≠900000) {v:V} {us:List Upd} (he:(SA st.o d p vs).get=some (v,us)) :
  Does P f xs w fun e w'=>∃ x,e = .returned x∧∃ γ',Rel B nt w0 X γ' (st.ups us) a w'∧VRel γ' (st.ups us).o w' (CZ X γ' (st.ups us).o) v x:=by
 unfold SA at he;split at he
 ·rename_i n lo hi rest;cases xs with
  | nil=>simp only [VRels] at hv
  | cons sv ys=>
  simp only [VRels] at hv;obtain ⟨hs,hrest⟩:=hv;split at he
  ·rename_i e l rs hob hra;split at he
   ·rename_i hc;simp only [AG] at hc;obtain ⟨hc1,hc3,hc4⟩:=hc;have he2:=T.get_when he;clear he;obtain ⟨hc2,he⟩:=he2;obtain rfl:=EI.1 hc1;obtain rfl:=EI.1 hc2;obtain rfl:=EI.1 hc3;have he6:p.e < 1000000:=AL hc4;simp only [VRel,hob] at hs;obtain ⟨hlen,q,len,cap,q',hg,hvv,_,h2,h3,hm,_,h5⟩:=hs;rw [h5 rfl,vam,vam] at hvv;have hor:=h.ob n _ hob;simp only [ObRel] at hor;obtain ⟨hkp,hstr,xs,hx,hrx⟩:=hor;have hx':=hx.plain he6;have hlen':len=l.length:=by
     rcases hx'.2 with ⟨h6,h7⟩ | ⟨g,cap',cur,h6,_⟩
     ·rw [hg] at h6; simp only [B4] at h6; omega
     ·rw [hg] at h6; simp only [B4] at h6; exact h6.2.1
    subst hlen';have hsv:sv=γ n:=by rw [hvv,hg]
    subst hsv;obtain ⟨rfl,hrng⟩:=yL hx.1 hrx;split at he
    ·rename_i l' hgl;have hrok:=rB h (v:=γ n) (fun m cs b hm hb hne=>by
      have hnm:n≠m:=fun e=>by subst e; rw [hob] at hm; cases hm
      exact h.dis n m _ _ b hnm hob hm (by simp only [D3]; exact hne) hb) hrest hra
     have hdoes:=hI w (γ n) l l' rs ys hx' hrng hstr hrok hgl;split at he
     ·rename_i d' hret;obtain ⟨hk,he⟩:=T.get_when he;simp only [T.get,AB,AM] at he;obtain ⟨rfl,rfl⟩:=he;have hk:=AL hk;refine hdoes.mono ?_;rintro e w' ⟨x,rfl,hgrow,hrng',hr1,_⟩;obtain ⟨hown,hblk⟩:=hr1 hret;refine ⟨x,rfl,fun m=>if d'=m then x else γ m,?_,?_⟩
      ·refine Rel.new h [n] d' (hd9 d' rfl) (.row true p.e false [.z] l') x (Keep.grown hgrow (fun g hg'=>⟨n,by simp,_,hob,hg'⟩)) (fun b hb=>⟨(hown.lt b hb).2,?_⟩) (fun O' hO hcmp=>?_)
       ·rcases hblk b hb with h1 | h1
        ·exact .inr ⟨n,by simp,_,hob,h1⟩
        ·exact .inl h1
       ·simp only [ObRel];exact ⟨by simp,by omega,JD l',OwnRow.of hown he6,fun i y hy=>cV hrng' i y hy⟩
      ·simp only [St.ups,St.up,VRel,DF,B8];refine ⟨AO _,?_⟩;rcases hown.2 with ⟨h6,h7⟩ | ⟨g,cap',cur,h6,_,_,h8,h9,_⟩
       ·refine ⟨none,0,0,none,h6,?_,B7 _,by omega,AO _,by simp [maxLen],.inr rfl,fun _=>rfl⟩;rw [h6,h7]
       ·refine ⟨some ⟨g,0,none⟩,l'.length,cap',some ⟨g,0,none⟩,h6,by rw [h6]; simp,B7 _,AO _,h8,h9,.inl ?_,fun _=>rfl⟩;simp [Addr.add]
     ·rename_i hret;obtain ⟨hk,he⟩:=T.get_when he;simp only [T.get,AB,AM] at he;obtain ⟨rfl,rfl⟩:=he;have hk:=EI.1 hk;refine hdoes.mono ?_;rintro e w' ⟨x,rfl,hgrow,hrng',_,hr2⟩;have hown:=hr2 hret;refine ⟨x,rfl,γ,?_,by simp only [VRel]⟩;refine Rel.set h (ob':=.row true p.e false [.z] l') hob ⟨rfl,hk.symm⟩ (Keep.grown hgrow (fun g hg'=>hg')) (fun b hb=>hb) (fun hO hcmp=>?_);simp only [ObRel];exact ⟨by simp,by omega,JD l',OwnRow.of hown he6,fun i y hy=>cV hrng' i y hy⟩
     ·simp [T.get] at he
    ·simp [T.get] at he
   ·simp [T.get] at he
  ·simp [T.get] at he
 ·rename_i rest;cases xs with
  | nil=>simp only [VRels] at hv
  | cons sv ys=>
  simp only [VRels] at hv;obtain ⟨hs,hrest⟩:=hv;simp only [VRel] at hs;subst hs;split at he
  ·rename_i rs hra;split at he
   ·rename_i hgl;have hrok:=rB h (v:=.slice none 0 0) (fun m cs b _ _ hne=>by simp [CA] at hne) hrest hra;have hdoes:=hI w (.slice none 0 0) [] [] rs ys (World.ownsRow_nil w 0 p.e _) (fun x hx=>by cases hx) (by simp) hrok hgl;split at he
    ·rename_i d' hret;obtain ⟨hk,he⟩:=T.get_when he;simp only [T.get,AB,AM] at he;obtain ⟨rfl,rfl⟩:=he;have he6:p.e < 1000000:=AL hk;refine hdoes.mono ?_;rintro e w' ⟨x,rfl,hgrow,hrng',hr1,_⟩;obtain ⟨hown,hblk⟩:=hr1 hret;refine ⟨x,rfl,fun m=>if d'=m then x else γ m,?_,?_⟩
     ·refine Rel.new h [] d' (hd9 d' rfl) (.row true p.e false [.z] []) x (Keep.grown hgrow (fun g hg'=>by simp [CA] at hg')) (fun b hb=>⟨(hown.lt b hb).2,?_⟩) (fun O' hO hcmp=>?_)
      ·rcases hblk b hb with h1 | h1
       ·simp [CA] at h1
       ·exact .inl h1
      ·simp only [ObRel];exact ⟨by simp,by simp,JD [],OwnRow.of hown he6,fun i y hy=>cV hrng' i y hy⟩
     ·simp only [St.ups,St.up,VRel,DF,B8];refine ⟨AO _,?_⟩;rcases hown.2 with ⟨h6,h7⟩ | ⟨g,cap',cur,h6,_,_,h8,h9,_⟩
      ·refine ⟨none,0,0,none,h6,?_,B7 _,by omega,AO _,by simp [maxLen],.inr rfl,fun _=>rfl⟩;rw [h6]
      ·refine ⟨some ⟨g,0,none⟩,0,cap',some ⟨g,0,none⟩,h6,by rw [h6]; simp,B7 _,AO _,B7 _,h9,.inl ?_,fun _=>rfl⟩;simp [Addr.add]
    ·rename_i hret;simp only [T.get,AB,AM] at he;obtain ⟨rfl,rfl⟩:=he;refine hdoes.mono ?_;rintro e w' ⟨x,rfl,hgrow,_,_,_⟩;refine ⟨x,rfl,γ,Rel.world h (Keep.grown hgrow (fun g hg'=>by simp [CA] at hg')),by simp only [VRel]⟩
    ·simp [T.get] at he
   ·simp [T.get] at he
  ·simp [T.get] at he
 ·simp [T.get] at he
def SpOK (P:Program) (B:BT) (E:Env) (w0:World) (X:Zone):Prop:=GX B w0 X∧(∀ f sp,lk E.sp f=some sp→Snd P B f (fun vs=>(sp vs).get))∧∀ f p,lk E.ip f=some p→NC P f p
theorem SpOK.get (h:SpOK P B E w0 X) (f:FuncId):Snd P B f (fun vs=>(D6 (fun _=>R.no) E.sp f vs).get):=by
 rw [SG];cases hf:lk E.sp f with
 | none=>
  intro w X γ vs xs r out hsp;simp [R.get] at hsp
 | some sp=>exact h.2.1 f sp hf
theorem Y7 (h:Rel B nt w0 X γ st a w):∀ l:List Operand,VRels γ st.o w (CZ X γ st.o) (HK (opd st) l) (l.map a.eval)
 | []=>by simp only [HK,vac,VRels]
 | x :: r=>by
  simp only [HK,A2,VRels];exact ⟨EH h x,Y7 h r⟩
theorem eG (o:Oper) {f:FuncId} {xs:List Value} {v:V} {us:List Upd} (hr:(execOp a.eval o).run P w=(callFunc f xs.toArray).run P w)
  (hd:Does P f xs w fun e w'=>∃ x,e = .returned x∧∃ γ',Rel B nt w0 X γ' (st.ups us) a w'∧VRel γ' (st.ups us).o w' (CZ X γ' (st.ups us).o) v x):OpWp P B nt w0 X a w o st v us:=by
 intro K Q hK;unfold Oper.wp;rw [hr];unfold Does at hd;split at hd
 ·rename_i g args w' hc;rw [hc,Oper.upon_enter];refine hd.mono ?_;rintro e w'' ⟨x,rfl,γ',h1,h2⟩;exact hK γ' x w'' h1 h2
 ·rename_i x w' hc;rw [hc,Oper.upon_value];obtain ⟨x',he,γ',h1,h2⟩:=hd;cases he;exact hK γ' x w' h1 h2
 ·rename_i row args w' hc;rw [hc,Oper.upon_row];refine Rows.mono hd ?_;rintro x w'' ⟨x',he,γ',h1,h2⟩;cases he;exact hK γ' x w'' h1 h2
 ·exact hd.elim
theorem La (hT:TiOK P B E) (hSp:SpOK P B E w0 X) (h:Rel B nt w0 X γ st a w) (o:Oper) (hd9:∀ d,o.dst=some d→d≠900000) {c:Call} (ho:o.op = .call c) {v:V} {us:List Upd}
  (he:(DA E st.o (opd st) o.dst o.op).get=some (v,us)):OpWp P B nt w0 X a w o st v us:=by
 obtain ⟨callee,args,ats⟩:=c;cases callee with
 | builtin b=>exact Kz hT h o hd9 ho he
 | invoke recv name=>
  rw [ho] at he;simp only [DA,NR] at he;simp [T.get] at he
 | value x=>
  rw [ho] at he;obtain ⟨args⟩:=args;have clo:∀ (x:Operand),o.op = .call ⟨.value x,⟨args⟩,ats⟩→∀ d,o.dst=some d→(match opd st x with
    | .clo f caps=>match QG caps with
     | true=>OU st.o d (aA E ats.toList) (D6 (fun _=>R.no) E.sp f) (HK (opd st) args++caps)
     | false=>.no
    | _=>.no).get=some (v,us)→OpWp P B nt w0 X a w o st v us:=by
   intro x ho d hd he;split at he
   ·rename_i f caps hclo;split at he
    case h_2=>simp [T.get] at he
    have hx:=EH h x;rw [hclo] at hx;simp only [VRel] at hx;obtain ⟨cs,hx1,hx2⟩:=hx;have hrel:=kX h hSp.1 (hSp.get f) ((Y7 h args).append hx2) (hd9 d hd) he;refine eG o (xs:=args.map a.eval++cs.toList) ?_ hrel;obtain ⟨dst,op,type,pos,after,guard⟩:=o;simp only at ho;subst ho
    have:execOp a.eval { dst,op:=.call { callee:=.value x,args:=⟨args⟩,argTypes:=ats },type,pos,after,guard }=(do let d ← Deferred.ofValue (a.eval x) ((⟨args⟩:Array Operand).map a.eval); invoke d.target d.args):=rfl
    rw [this,hx1];have hla:(args.map a.eval).toArray++cs=(args.map a.eval++cs.toList).toArray:=by
     apply Array.ext';simp
    simp [Deferred.ofValue,invoke,hla]
   ·simp [T.get] at he
  cases x with
  | func f=>
   simp only [DA,NR,bA] at he;have hrun:∀ {f:Nat},o.op = .call ⟨.value (.func f),⟨args⟩,ats⟩→(execOp a.eval o).run P w=(callFunc f (args.map a.eval).toArray).run P w:=fun {f} ho=>by
    obtain ⟨dst,op,type,pos,after,guard⟩:=o;simp only at ho;subst ho
    have:execOp a.eval { dst,op:=.call { callee:=.value (.func f),args:=⟨args⟩,argTypes:=ats },type,pos,after,guard }=callFunc f (#[]++(⟨args⟩:Array Operand).map a.eval++#[]):=rfl
    rw [this];simp
   split at he
   ·rename_i p hp;exact eG o (xs:=args.map a.eval) (hrun ho) (Fu h (hSp.2.2 f p hp) (Y7 h args) hd9 he)
   ·split at he
    ·rename_i d hd;exact eG o (xs:=args.map a.eval) (hrun ho) (kX h hSp.1 (hSp.get f) (Y7 h args) (hd9 d hd) he)
    ·simp [T.get] at he
  | tmp t=>
   simp only [DA,NR] at he;cases hd:o.dst with
   | none=>rw [hd] at he; simp [T.get] at he
   | some d=>rw [hd] at he; exact clo _ ho d hd he
  | const t=>
   simp only [DA,NR] at he;cases hd:o.dst with
   | none=>rw [hd] at he; simp [T.get] at he
   | some d=>rw [hd] at he; exact clo _ ho d hd he
  | global t=>
   simp only [DA,NR] at he;cases hd:o.dst with
   | none=>rw [hd] at he; simp [T.get] at he
   | some d=>rw [hd] at he; exact clo _ ho d hd he
theorem Lc (hT:TiOK P B E) (h:Rel B nt w0 X γ st a w) (o:Oper) (hd9:∀ d,o.dst=some d→d≠900000) {s t:Nat} {x:Operand} (ho:o.op = .convert s t x) {v:V} {u:Upd} {us:List Upd}
  (he:(DA E st.o (opd st) o.dst o.op).get=some (v,u :: us)):OpWp P B nt w0 X a w o st v (u :: us):=by
 have hx:=EH h x;rw [ho] at he;simp only [DA] at he;split at he
 ·split at he
  ·simp [T.get] at he
  ·simp [T.get] at he
 ·rename_i b hop;rw [hop] at hx;simp only [VRel] at hx;split at he
  ·simp [T.get] at he
  ·rename_i e k1 kss hd hks hkss;split at he
   ·rename_i d hdst hde hkse;simp only [T.get,AB,AM,vaI] at he;obtain ⟨rfl,rfl,rfl⟩:=he;have hu1:=PG hT hd;obtain ⟨d',hd1',_,_⟩:=(hT.kinds (t:=s) (by rw [hkss]; simp)).und;obtain ⟨d'',hd1'',_,hd2''⟩:=(hT.kinds (t:=e) (by rw [hkse]; simp)).und;rw [hde] at hd2'';obtain rfl:=hd2''.1 _ hkse;have hrun:(execOp a.eval o).run P w = .ok (.value (.slice (some ⟨w.heap.size,0,none⟩) b.size (grownCap w b.size 0 e))) (vaV w e b):=by
     unfold execOp;simp only [ho,hx.1,BS,Lib.run_convert_string_bytes w s t e b hd1' hu1 hd1'',A9,BU]
    have hsm:=Z2;have hcg:=grownCap_ge w b.size 0 e;have hcm:grownCap w b.size 0 e≤maxLen:=grownCap_le_maxLen w b.size 0 e (CR hx.2 hsm);have hcs:(Lib.bytesCells w e b).size=grownCap w b.size 0 e:=by
     have:b.data.size=b.size:=rfl
     simp only [Lib.bytesCells,Array.size_append,Array.size_map,Array.size_replicate,this];omega
    have hkp:Keep (fun _=>False) w (vaV w e b):=by
     refine ⟨?_,?_,?_,by rw [Lib.bytesWorld_size]; omega,fun j hj _=>Lib.bytesWorld_at_old w e b j hj⟩
     ·simp [vaV,World.freeze]; rfl
     ·simp [vaV,World.freeze]
     ·simp [vaV,World.freeze]; rfl
    have hn:=Rel.new h [] d (hd9 d hdst) (.row true (e+1000000) false [.int .u8] (b.data.toList.map fun b=>.int (b.toNat:Int))) (.slice (some ⟨w.heap.size,0,none⟩) b.size (grownCap w b.size 0 e)) (w':=vaV w e b) (hkp.mono (fun _ _ h=>h.elim))
     (by
      intro b1 hb;simp only [D3,CA,AB] at hb;subst hb;rw [Lib.bytesWorld_size];exact ⟨by omega,.inl (AO _)⟩)
     (by
      intro O' hO hcmp;simp only [ObRel];have hln:(b.data.toList.map fun b=>IV.int (b.toNat:Int)).length=b.size:=by simp
      refine ⟨by simp,by rw [hln]; exact hx.2,b.data.toList.map fun b=>.int .u8 b.toNat,?_,fun i y hy=>?_⟩
      ·rw [hln];refine ⟨by simp,.inr ⟨w.heap.size,grownCap w b.size 0 e,_,_,_,rfl,Lib.bytesWorld_at_new w e b,hcg,hcm,by rw [hcs]; simp,?_,.inr ⟨by omega,AO _⟩⟩⟩;simp only [Lib.bytesCells,vaC,AP,BZ];rw [List.take_append_of_le_length (by simp)];rw [vax (by simp)];simp
      ·rw [B6] at hy;cases hbi:b.data.toList[i]? with
       | none=>rw [hbi] at hy; cases hy
       | some c=>
        rw [hbi] at hy;simp only [vag,AB] at hy;subst hy;simp only [Kd.RelAll,EW,Kd.Rel,IV.toInt,AP,BZ];refine ⟨⟨.int .u8 c.toNat,by simp [hbi],rfl,?_,?_⟩,trivial⟩
        ·simp [IntKind.min,vai]
        ·have:=c.toNat_lt
         simp [IntKind.max,vai,AK];omega)
    refine OpWp.value hrun hn ?_;simp only [St.ups,VRel,ES,B8];refine ⟨by simp,some ⟨w.heap.size,0,none⟩,b.size,grownCap w b.size 0 e,some ⟨w.heap.size,0,none⟩,rfl,by simp,B7 _,AO _,hcg,hcm,.inl ?_,fun _=>rfl⟩;simp [Addr.add]
   ·simp [T.get] at he
  ·simp [T.get] at he
 ·split at he
  ·split at he
   ·simp [T.get] at he
   ·simp [T.get] at he
  ·simp [T.get] at he
def BldOK (P:Program) (B:BT) (E:Env):Prop:=(E.tyd B.T).d = .bld→∃ i,P.info? B.T=some i∧i.zero=some (.agg #[.pointer none,.slice none 0 0])
theorem pG (hT:TiOK P B E) (hE:∀ t,t∈E.eqs→EqSnd P t (E.tyd t).ks) (hSp:SpOK P B E w0 X) (hB:BldOK P B E) (h:Rel B nt w0 X γ st a w) (o:Oper) (hd9:∀ d,o.dst=some d→d≠900000) {v:V} {us:List Upd}
  (he:(DA E st.o (opd st) o.dst o.op).get=some (v,us)):OpWp P B nt w0 X a w o st v us:=by
 cases ho:o.op with
 | move x=>exact pF h o (.inl ho) he
 | assign x=>exact pF h o (.inr ho) he
 | pick c x y=>exact Lt h o ho he
 | alloc t=>exact Ku hT h o hd9 ho hB he
 | box t x=>exact Kw h o hd9 ho he
 | build t parts=>exact Kx hT h o ho he
 | buildSlice t len parts=>exact Ky hT h o hd9 ho he
 | load t x=>exact Lk hT h o ho he
 | store t p x=>exact Lw hT h o ho he
 | nilCheck x=>exact Ls h o ho he
 | binOp op t x y t'=>exact Kv hT hE h o ho he
 | unOp op t x=>exact Lx h o ho he
 | convert s t x=>
  cases us with
  | nil=>exact Lb hT h o ho he
  | cons u us=>exact Lc hT h o hd9 ho he
 | makeFunc f first caps=>exact Lm h o ho he
 | makeSlice t n m=>exact Lo hT h o hd9 ho he
 | slice t x lo hi mx=>exact Lv hT h o ho he
 | fieldAddr s x f=>exact Lh hT h o ho he
 | field t x f=>exact Lg hT h o ho he
 | indexAddr t x ix=>exact Lj hT h o ho he
 | index t x ix=>exact Li hT h o ho he
 | extract x i=>exact Lf h o ho he
 | call c=>exact La hT hSp h o hd9 ho he
 | makeMap t r=>exact Ln h o hd9 ho he
 | insert t m k x=>exact pE hT h o (.inl ho) he
 | mapUpdate t m k x=>exact pE hT h o (.inr ho) he
 | lookup t m k ok=>exact Ll hT h o ho he
 | mapEntry t m k=>exact Lq hT h o ho he
 | entryStore t m s x=>exact Le h o ho he
 | range t x=>exact Lu hT h o hd9 ho he
 | entry x=>exact Ld h o ho he
 | _=>rw [ho] at he; simp [DA,T.get] at he
theorem Nu (hT:TiOK P B E) (hE:∀ t,t∈E.eqs→EqSnd P t (E.tyd t).ks) (hSp:SpOK P B E w0 X) (hB:BldOK P B E) (h:Rel B nt w0 X γ st a w) (o:Oper) (hd9:∀ d,o.dst=some d→d≠900000) {k:V→List Upd→C0} {r:V × List (List V)}
  (he:SU E st.o (opd st) o.dst o.op k=some r):∃ v us,k v us=some r∧OpWp P B nt w0 X a w o st v us:=by
 unfold SU at he;split at he
 ·rename_i x hop;split at he
  ·rename_i n i c hm;split at he
   ·rename_i vk last rest hob;obtain ⟨h0,h1⟩:=Lr (P:=P) h o hop hm hob;split at he
    ·rename_i hl;exact ⟨_,_,he,h0 (EI.1 hl)⟩
    ·rename_i hl;obtain ⟨j,hj,hw⟩:=h1 (GD.1 hl);exact ⟨_,_,xE he j hj,hw⟩
   ·cases he
  ·cases he
 ·obtain ⟨v,us,h1,h2⟩:=T.run_some he;exact ⟨v,us,h2,pG hT hE hSp hB h o hd9 h1⟩
end
open Go Go.RowKit
theorem SO:∀ {l:List V} {n:Nat},n∈EC l→n∈DW.go l
 | v :: r,n,h=>by
  simp only [EC,AQ] at h;rcases h with h | h
  ·cases v <;> simp only [DN] at h <;> first | (cases h; done) | (simp only [DW.go,AQ]; exact .inl h)
  ·cases v <;> simp only [DW.go,AQ] <;> exact .inr (SO h)
def Agree (o o':Store) (l:List Nat):Prop:=∀ n∈l,CY o' n=CY o n
theorem Agree.left {o o':Store} {l l':List Nat} (h:Agree o o' (l++l')):Agree o o' l:=fun n hn=>h n (vaK _ hn)
theorem Agree.right {o o':Store} {l l':List Nat} (h:Agree o o' (l++l')):Agree o o' l':=fun n hn=>h n (vaG _ hn)
theorem pB {o o':Store} {v:V} (h:Agree o o' (DN v)):IH o' v=IH o v:=by
 cases v <;> simp only [IH]
 all_goals rw [h _ (by simp [DN])]
theorem d9 {o o':Store} {v:V} (h:Agree o o' (DN v)):M2 o' v=M2 o v:=by
 cases v <;> simp only [M2] <;> exact pB h
theorem d7 {o o':Store}:∀ {l:List V},Agree o o' (EC l)→N3 o' l=N3 o l
 | [],_=>rfl
 | v :: r,h=>by simp only [N3,pB h.left,d7 (l:=r) h.right]
theorem mD {o o':Store} {v:V} (h:Agree o o' (DN v)):NU o' v=NU o v:=by
 cases v <;> simp only [NU]
 rw [h _ (by simp [DN])]
theorem sB {o o':Store} {v:V} (h:Agree o o' (DN v)):MD o' v=MD o v:=by
 cases v <;> simp only [MD]
 rw [h _ (by simp [DN])]
theorem YL {o o':Store} {k:Kd} {v:V} (h:Agree o o' (DN v)):JK o' k v=JK o k v:=by
 cases k <;> cases v <;> simp only [JK]
 rw [h _ (by simp [DN])]
theorem VR {o o':Store}:∀ {ks:List Kd} {l:List V},Agree o o' (EC l)→HV o' ks l=HV o ks l
 | [],[],_=>rfl
 | [],_ :: _,_=>rfl
 | _ :: _,[],_=>rfl
 | k :: ks,v :: r,h=>by simp only [HV,YL h.left,VR (l:=r) h.right]
theorem KU {v:V} {n:Nat} (h:n∈DN v):n∈DW v:=by
 cases v <;> simp only [DN] at h <;> first | exact h | cases h
theorem zE {o o':Store} {ag:Bool} {ks:List Kd} {v:V} (h:Agree o o' (DW v)):LZ o' ag ks v=LZ o ag ks v:=by
 cases ag with
 | false=>
  simp only [LZ];rw [VR (o:=o) (o':=o') (fun n hn=>h n (KU (by simpa [EC] using hn)))]
 | true=>
  cases v <;> simp only [LZ]
  rw [VR h]
theorem qX:∀ (a b:List V),EC (a++b)=EC a++EC b
 | [],b=>rfl
 | v :: r,b=>by simp [EC,qX r b]
theorem qY {l:List V} {v:V} {n:Nat} (hv:v∈l) (hn:n∈DN v):n∈EC l:=by
 induction l with
 | nil=>cases hv
 | cons u r ih=>
  simp only [EC,AQ];rcases AT.1 hv with h | h
  ·subst h; exact .inl hn
  ·exact .inr (ih h)
theorem fF {l l':List V} (h:∀ v∈l,v∈l') {n:Nat} (hn:n∈EC l):n∈EC l':=by
 induction l with
 | nil=>simp [EC] at hn
 | cons u r ih=>
  simp only [EC,AQ] at hn;rcases hn with hn | hn
  ·exact qY (h u (AR ..)) hn
  ·exact ih (fun v hv=>h v (AW _ hv)) hn
theorem XG {o o':Store} {ag:Bool} {ks:List Kd} {sz:Nat}:∀ {n:Nat} {cs:List V},Agree o o' (EC cs)→JT ag ks o' cs sz n=JT ag ks o cs sz n
 | 0,cs,_=>rfl
 | n+1,cs,h=>by
  simp only [JT];rw [XG (n:=n) (cs:=JH cs sz) (fun m hm=>h m (by rw [MQ] at hm; exact fF (fun v hv=>List.mem_of_mem_drop hv) hm))];cases ag with
  | true=>
   rw [zE];intro m hm;simp only [DW,RC] at hm;exact h m (fF (fun v hv=>List.mem_of_mem_take hv) hm)
  | false=>
   simp only [LZ];rw [VR (o:=o) (o':=o')];intro m hm;rw [V1] at hm;cases hc:cs[0]? with
   | none=>rw [hc] at hm; simp [EC,DN] at hm
   | some u=>
    rw [hc] at hm;simp only [vaq,EC,va8] at hm;exact h m (qY (vaJ hc) hm)
theorem RA {l:List V} {n:Nat} (h:n∈D1 l):n∈EC l:=by
 induction l with
 | nil=>simp [D1] at h
 | cons v r ih=>
  simp only [EC,AQ];cases v <;> simp only [D1,AT] at h <;> first | exact .inr (ih h) | skip
  rcases h with h | h
  ·exact .inl (by simp [DN,h])
  ·exact .inr (ih h)
theorem VF {o o':Store}:∀ {l:List Nat},Agree o o' l→DP o' l=DP o l
 | [],_=>rfl
 | n :: r,h=>by
  simp only [DP];rw [h n (AR ..),VF (l:=r) (fun m hm=>h m (AW _ hm))]
theorem cK {o o':Store} {place:Nat→Option (Nat × Nat)}:∀ {cs:List V} {l:List (Nat × V)},(∀ i v,(i,v)∈l→Agree o o' (DW v))→IX o' place cs l=IX o place cs l
 | cs,[],_=>rfl
 | cs,(i,v) :: r,h=>by
  simp only [IX];have h1:M2 o' v=M2 o v:=d9 (fun n hn=>h i v (AR ..) n (KU hn));rw [h1];split
  ·split
   ·exact cK (fun i v hv=>h i v (AW _ hv))
   ·rfl
  ·rfl
theorem W9 {o o':Store} {d e:Nat} {ag:Bool} {ks:List Kd} {bytes:Nat} {s:V} {l:LI} (h:Agree o o' (DN s)):K5 o' d e ag ks bytes s l=K5 o d e ag ks bytes s l:=by
 cases s <;> simp only [K5]
 rw [h _ (by simp [DN])]
theorem QI {o:Store} {n m:Nat} {cs:List V}:∀ {l:List Nat},n∈l→CY o n=some (.box cs)→m∈EC cs→m∈H7 o l
 | x :: r,hn,ho,hm=>by
  simp only [H7];rcases AT.1 hn with h | h
  ·subst h;rw [ho];exact vaK _ hm
  ·have:=QI h ho hm
   split
   ·exact vaG _ this
   ·exact this
theorem xI {o o':Store} {d et:Nat} {e:TI} {tk:List Kd} {s x:V} (h:Agree o o' (DN s)):RQ o' d et e tk s x=RQ o d et e tk s x:=by
 unfold RQ;simp only [W9 h]
theorem xG {o o':Store} {d et:Nat} {e:TI} {s x:V} (h:Agree o o' (DN s)) (h':Agree o o' (DN x++H7 o (DN x))):QE o' d et e s x=QE o d et e s x:=by
 have gen:(match NU o' x,MD o' x with
   | some l,some (ag,ks)=>match GE (.list e.agg e.ks) (.list ag ks) with
    | true=>K5 o' d et e.agg e.ks e.bytes s l
    | false=>.no
   | _,_=>.no)=(match NU o x,MD o x with
   | some l,some (ag,ks)=>match GE (.list e.agg e.ks) (.list ag ks) with
    | true=>K5 o d et e.agg e.ks e.bytes s l
    | false=>.no
   | _,_=>.no):=by
  simp only [mD h'.left,sB h'.left,W9 h]
 cases x
 case bview n c cap sz len=>
  simp only [QE];rw [h' n (by simp [DN])];split
  ·rename_i cs ho;simp only [W9 h];split
   ·congr 1
    funext m
    rw [XG (o:=o) (o':=o')];intro k hk;rw [MQ] at hk;exact h' k (vaG _ (QI (by simp [DN]) ho (fF (fun v hv=>List.mem_of_mem_drop hv) hk)))
   ·rfl
  ·rfl
 case zs=>simp only [QE,W9 h]
 all_goals exact gen
theorem UZ {o o':Store} {bs:List V} {tk:Option Kd} {v:V} (h:Agree o o' (DN v)):DO o' bs tk v=DO o bs tk v:=by
 cases v <;> simp only [DO]
 all_goals rw [h _ (by simp [DN])]
theorem dN {o o':Store} {bs:List V}:∀ {l:List V} {ks:List Kd},Agree o o' (EC l)→I1 (fun k v=>F6 (DO o' bs k v)) ks l=I1 (fun k v=>F6 (DO o bs k v)) ks l
 | [],ks,_=>by cases ks <;> rfl
 | v :: l,[],h=>by simp only [I1,UZ h.left,dN (l:=l) h.right]
 | v :: l,k :: ks,h=>by simp only [I1,UZ h.left,dN (l:=l) h.right]
theorem oK {o o':Store} {bs:List V} {tk:Option Kd}:∀ {l:List V},Agree o o' (EC l)→l.map (DO o' bs tk)=l.map (DO o bs tk)
 | [],_=>rfl
 | v :: l,h=>by simp only [A2,UZ h.left,oK (l:=l) h.right]
theorem aT {o o':Store} {bs:List V} {ks:List Kd} {v:V} (h:Agree o o' (DW v)):G5 o' bs ks v=G5 o bs ks v:=by
 by_cases ha:∃ l,v = .agg l
 ·obtain ⟨l,rfl⟩:=ha;simp only [G5,dN (o:=o) (o':=o') h]
 by_cases hc:∃ f l,v = .clo f l
 ·obtain ⟨f,l,rfl⟩:=hc;simp only [G5,oK (o:=o) (o':=o') (l:=l) (fun n hn=>h n (SO hn))]
 have h1:∀ o,G5 o bs ks v=DO o bs ks.head? v:=by
  intro o;cases v <;> first | rfl | exact absurd ⟨_,rfl⟩ ha | exact absurd ⟨_,_,rfl⟩ hc
 rw [h1,h1];exact UZ (fun n hn=>h n (KU hn))
theorem aU {o o':Store} {bs:List V}:∀ {l:List V} {tks:List (List Kd)},Agree o o' (FC l)→ER o' bs tks l=ER o bs tks l
 | [],tks,_=>by cases tks <;> rfl
 | v :: l,[],h=>by simp only [ER,aT h.left,aU (l:=l) h.right]
 | v :: l,t :: ts,h=>by simp only [ER,aT h.left,aU (l:=l) h.right]
theorem yH {o o':Store} {all:List Nat} {v:V} (h:Agree o o' (DN v)):EE o' all v=EE o all v:=by
 cases v <;> simp only [EE]
 rw [h _ (by simp [DN])]
theorem oM {o o':Store} {all:List Nat}:∀ {l:List V},Agree o o' (EC l)→l.map (EE o' all)=l.map (EE o all)
 | [],_=>rfl
 | v :: l,h=>by simp only [A2,yH h.left,oM (l:=l) h.right]
theorem nD {o o':Store} {all:List Nat}:∀ {l:List V},Agree o o' (EC l)→E9 o' all l=E9 o all l
 | [],_=>rfl
 | v :: l,h=>by
  have ih:=nD (all:=all) (l:=l) h.right;cases v <;> simp only [E9,ih]
  rw [h.left _ (by simp [DN])]
theorem sC {o o':Store} {all:List Nat}:∀ {l:List V},Agree o o' (EC l)→F1 o' all l=F1 o all l
 | [],_=>rfl
 | v :: l,h=>by
  have ih:=sC (all:=all) (l:=l) h.right;cases v <;> simp only [F1,ih]
  rw [h.left _ (by simp [DN])]
theorem Sw {v:V} {n:Nat} (h:n∈H0 v):n∈DW v:=by
 cases v <;> simp only [H0] at h <;> try (cases h; done)
 case row=>simpa [DW,DN] using h
 case agg=>exact RA h
 case clo=>exact SO (RA h)
 case tup l=>
  simp only [DW]
  induction l with
  | nil=>simp [H0.go] at h
  | cons v r ih=>
   cases v <;> simp only [H0.go,DW.go,AT,AQ] at h ⊢ <;> first | exact .inr (ih h) | skip
   ·rcases h with h | h
    ·exact .inl (by simp [DN,h])
    ·exact .inr (ih h)
   ·rcases h with h | h
    ·exact .inl (RA h)
    ·exact .inr (ih h)
theorem g6:∀ {l:List V} {n:Nat},n∈DT l→n∈FC l
 | v :: l,n,h=>by
  simp only [DT,FC,AQ] at h ⊢;exact h.imp Sw g6
theorem VS:∀ {l:List V} {n:Nat},n∈D9 l→n∈FC l
 | v :: l,n,h=>by
  simp only [FC,AQ];cases v <;> simp only [D9,AT,AQ] at h <;> first | exact .inr (VS h) | skip
  ·rcases h with h | h
   ·exact .inl (by simp [DW,DN,h])
   ·exact .inr (VS h)
  ·rename_i f caps;rcases h with h | h
   ·refine .inl ?_;simp only [DW];refine SO ?_;clear VS
    induction caps with
    | nil=>simp [D9.lentC] at h
    | cons v r ih=>
     simp only [EC,AQ];cases v <;> simp only [D9.lentC,AT] at h <;> first | exact .inr (ih h) | skip
     rcases h with h | h
     ·exact .inl (by simp [DN,h])
     ·exact .inr (ih h)
   ·exact .inr (VS h)
theorem yE {o o':Store} {v:V} (h:Agree o o' (DN v)):IU o' v=IU o v:=by
 by_cases hp:∃ n i c,v = .ptr n i c
 ·obtain ⟨n,i,c,rfl⟩:=hp;simp only [IU];rw [h _ (by simp [DN])]
 ·have h1:∀ o,IU o v=F6 (DO o [] none v):=by
   intro o;cases v <;> first | rfl | exact absurd ⟨_,_,_,rfl⟩ hp
  rw [h1,h1,UZ h]
theorem oL {o o':Store}:∀ {l:List V},Agree o o' (EC l)→l.map (IU o')=l.map (IU o)
 | [],_=>rfl
 | v :: l,h=>by simp only [A2,yE h.left,oL (l:=l) h.right]
theorem iP {o o':Store} {ks:List Kd} {v:V} (h:Agree o o' (DW v)):I8 o' ks v=I8 o ks v:=by
 by_cases hc:(∃ f l,v = .clo f l)∨(∃ n i c,v = .ptr n i c)
 ·rcases hc with ⟨f,l,rfl⟩ | ⟨n,i,c,rfl⟩
  ·simp only [I8,oL (o:=o) (o':=o') (l:=l) (fun n hn=>h n (SO hn))]
  ·rfl
 ·have h1:∀ o,I8 o ks v=G5 o [] ks v:=by
   intro o;cases v <;> first | rfl | exact absurd (.inl ⟨_,_,rfl⟩) hc | exact absurd (.inr ⟨_,_,_,rfl⟩) hc
  rw [h1,h1,aT h]
theorem aQ {o o':Store}:∀ {l:List V} {tks:List (List Kd)},Agree o o' (FC l)→HR o' tks l=HR o tks l
 | [],tks,_=>by cases tks <;> rfl
 | v :: l,[],h=>by simp only [HR,iP h.left,aQ (l:=l) h.right]
 | v :: l,t :: ts,h=>by simp only [HR,iP h.left,aQ (l:=l) h.right]
theorem kW {o o':Store} {d:Nat} {tks:List (List Kd)} {sp:DB} {vs:List V} (h:Agree o o' (FC vs++H7 o (FC vs))):OU o' d tks sp vs=OU o d tks sp vs:=by
 have hA:∀ bs,ER o' bs tks vs=ER o bs tks vs:=fun bs=>aU h.left
 have hF:∀ l,(∀ n∈l,n∈FC vs++H7 o (FC vs))→DP o' l=DP o l:=fun l hl=>VF (fun n hn=>h n (hl n hn))
 have hFv:DP o' (DT vs)=DP o (DT vs):=hF _ (fun n hn=>vaK _ (g6 hn));have hF0:DP o' []=DP o []:=rfl;have hPl:UX o' d vs=UX o d vs:=by
  funext v out
  unfold UX;split
  ·split
   ·rename_i cs;cases F9 cs <;> simp only [hFv,hF0]
   ·simp only [hFv]
   ·cases GB v <;> simp only [hFv,hF0]
  ·rfl
 unfold OU;simp only [hA,hPl];split
 ·rfl
 ·rename_i n hl;have hn:n∈FC vs:=VS (by rw [hl]; exact AR ..);rw [h n (vaK _ hn)];split
  ·rename_i cs ho;have hcs:Agree o o' (EC cs):=fun m hm=>h m (vaG _ (QI hn ho hm))
   have hsh:∀ m∈F1 o (D1 cs++DT vs) cs,m∈FC vs++H7 o (FC vs):=by
    intro m hm;obtain ⟨lo,hi,_,_,_,_,_,h1,_⟩:=ZO hm;exact vaG _ (QI hn ho (RA (QV h1)))
   have hBx:UW o' d n cs vs=UW o d n cs vs:=by
    funext v outs
    unfold UW;rw [nD hcs,sC hcs];split
    ·rename_i out;have h1:DP o' (F1 o (D1 cs++DT vs) cs++DT vs)=DP o (F1 o (D1 cs++DT vs) cs++DT vs):=hF _ (fun m hm=>(AQ.1 hm).elim (hsh m) (fun hm=>vaK _ (g6 hm)));have h2:DP o' (F1 o (D1 cs++DT vs) cs++[])=DP o (F1 o (D1 cs++DT vs) cs++[]):=hF _ (fun m hm=>hsh m (by simpa using hm));cases (GB v||F9 out) <;> simp only [h1,h2]
    ·rfl
   rw [oM hcs,hBx]
  ·have hBd:UV o' n vs=UV o n vs:=by
    funext v outs
    unfold UV;split
    ·cases GB v <;> simp only [hFv,hF0]
    ·rfl
   rw [hBd]
  ·rfl
 ·rw [aQ h.left]
theorem nN {o o':Store} {l:List V} (h:Agree o o' (FC l)):QP o' l=QP o l:=by
 unfold QP;split
 ·rfl
 ·rename_i f m i c;rw [h m (by simp [FC,DW,DW.go,DN])]
 ·rfl
theorem Fs {o o':Store} {d:Option Nat} {p:Ip} {vs:List V} (h:Agree o o' (FC vs)):SA o' d p vs=SA o d p vs:=by
 unfold SA;split
 ·rename_i n lo hi rest;rw [h n (by simp [FC,DW,DN]),nN (fun k hk=>h k (by simp only [FC,AQ]; exact .inr hk))]
 ·rename_i rest;rw [nN (fun k hk=>h k (by simp only [FC,AQ]; exact .inr hk))]
 ·rfl
theorem fB:∀ (cs:List V) (n:Nat) (vs:List V) {m:Nat},m∈EC (E6 cs n vs)→m∈EC cs∨m∈EC vs
 | cs,n,[],m,h=>by cases cs <;> cases n <;> exact .inl h
 | [],n,v :: vs,m,h=>by cases n <;> simp [E6,EC] at h
 | c :: r,0,v :: vs,m,h=>by
  simp only [E6,EC,AQ] at h ⊢;rcases h with h | h
  ·exact .inr (.inl h)
  ·rcases fB r 0 vs h with h | h
   ·exact .inl (.inr h)
   ·exact .inr (.inr h)
 | c :: r,n+1,v :: vs,m,h=>by
  simp only [E6,EC,AQ] at h ⊢;rcases h with h | h
  ·exact .inl (.inl h)
  ·rcases fB r n (v :: vs) h with h | h
   ·exact .inl (.inr h)
   ·exact .inr (by simpa [EC] using h)
theorem lC {v:V} {m:Nat} (h:m∈EC (cells v)):m∈DW v:=by
 by_cases ha:∃ l,v = .agg l
 ·obtain ⟨l,rfl⟩:=ha;exact h
 ·have:cells v=[v]:=by cases v <;> first | rfl | exact absurd ⟨_,rfl⟩ ha
  rw [this] at h;exact KU (by simpa [EC] using h)
theorem SP {l:List V} {v:V} {n:Nat} (hv:v∈l) (hn:n∈DW v):n∈FC l:=by
 induction l with
 | nil=>cases hv
 | cons u r ih=>
  simp only [FC,AQ];rcases AT.1 hv with h | h
  ·subst h; exact .inl hn
  ·exact .inr (ih h)
theorem mR {o:Store} {place:Nat→Option (Nat × Nat)}:∀ {l:List (Nat × V)} {cs cs':List V},IX o place cs l=some cs'→∀ m∈EC cs',m∈EC cs∨∃ i v,(i,v)∈l∧m∈DW v
 | [],cs,cs',h,m,hm=>by
  simp only [IX,AB] at h;subst h;exact .inl hm
 | (i,v) :: r,cs,cs',h,m,hm=>by
  simp only [IX] at h;split at h
  ·split at h
   ·rcases mR h m hm with h1 | ⟨j,u,h1,h2⟩
    ·rcases fB _ _ _ h1 with h2 | h2
     ·exact .inl h2
     ·exact .inr ⟨i,v,AR ..,lC h2⟩
    ·exact .inr ⟨j,u,AW _ h1,h2⟩
   ·cases h
  ·cases h
theorem q9 {z:List V}:∀ {n m:Nat},m∈EC (MB z n)→m∈EC z
 | 0,m,h=>by simp [MB,EC] at h
 | n+1,m,h=>by
  simp only [MB,qX,AQ] at h;exact h.elim id (q9 (n:=n))
theorem eF (ρ:Operand→V):∀ {l:List (Nat × Operand)} {i:Nat} {v:V},(i,v)∈II ρ l→v∈(l.map (·.2)).map ρ
 | (j,x) :: r,i,v,h=>by
  simp only [II,AT,AM] at h;simp only [A2,AT];rcases h with ⟨_,rfl⟩ | h
  ·exact .inl rfl
  ·exact .inr (eF ρ h)
theorem qZ:∀ {l:List V} {n:Nat},n∈FC l→∃ v∈l,n∈DW v
 | v :: r,n,h=>by
  simp only [FC,AQ] at h;rcases h with h | h
  ·exact ⟨v,AR ..,h⟩
  ·obtain ⟨u,h1,h2⟩:=qZ h;exact ⟨u,AW _ h1,h2⟩
theorem bT {o:Store} {m:Nat}:∀ {l:List Nat},m∈H7 o l→∃ n∈l,∃ cs,CY o n=some (.box cs)∧m∈EC cs
 | n :: r,h=>by
  simp only [H7] at h;split at h
  ·rename_i cs ho;rcases AQ.1 h with h | h
   ·exact ⟨n,AR ..,cs,ho,h⟩
   ·obtain ⟨k,h1,h2⟩:=bT h;exact ⟨k,AW _ h1,h2⟩
  ·obtain ⟨k,h1,h2⟩:=bT h;exact ⟨k,AW _ h1,h2⟩
theorem l8 {o:Store} {l l':List Nat} (hs:∀ k∈l,k∈l') {n:Nat} (h:n∈H7 o l):n∈H7 o l':=by
 obtain ⟨k,h1,cs,h2,h3⟩:=bT h;exact QI (hs k h1) h2 h3
theorem kZ {v:V} {n:Nat}:∀ {l:List V},QG l=true→v∈l→n∈DW v→n∈DW.go l
 | u :: r,hok,hv,hn=>by
  rcases AT.1 hv with h | h
  ·subst h;cases v <;> simp only [QG] at hok <;> first | (cases hok; done) | (simp only [DW,DN] at hn; simp only [DW.go,DN,AQ]; first | exact .inl hn | (cases hn; done))
  ·have hr:QG r=true:=by cases u <;> simp only [QG] at hok <;> first | exact hok | (cases hok; done)
   have:=kZ hr h hn
   cases u <;> simp only [DW.go,AQ] <;> exact .inr this
theorem mM {E:Env} {o o':Store} {ρ:Operand→V} {d:Option Nat} {op:Op} (h:Agree o o' (J5 E o ρ op)):DA E o' ρ d op=DA E o ρ d op:=by
 cases hq:qO op with
 | true=>cases op <;> first | rfl | cases hq
 | false=>
 unfold J5 at h;rw [hq] at h;replace h:Agree o o' (ZE E o ρ op):=h;unfold ZE at h;have hz:=h.left.right;have hd:=h.right;have hv:=h.left.left;clear h;have one:∀ {x:Operand} {n:Nat},x∈op.operands.toList→n∈DW (ρ x)→CY o' n=CY o n:=fun hx hn=>hv _ (SP (vaP hx) hn)
 have two:∀ {x:Operand} {n:Nat} {cs:List V},x∈op.operands.toList→n∈DW (ρ x)→CY o n=some (.box cs)→Agree o o' (EC cs):=fun hx hn ho m hm=>hd _ (QI (SP (vaP hx) hn) ho hm)
 cases op
 case box t x=>
  simp only [DA];rw [d9 (fun n hn=>one (x:=x) (by simp [BR]) (KU hn))]
 case build t parts=>
  have hp:∀ i v,(i,v)∈II ρ parts.toList→Agree o o' (DW v):=fun i v hm n hn=>hv _ (SP (by have:=eF ρ hm; simpa [BR] using this) hn)
  simp only [DA,cK hp]
 case buildSlice t len parts=>
  have hp:∀ i v,(i,v)∈II ρ parts.toList→Agree o o' (DW v):=fun i v hm n hn=>hv _ (SP (by have:=eF ρ hm; simpa [BR] using this) hn)
  simp only [DA];split
  ·rename_i d e hd1;simp only [iF,hd1] at hz;rw [cK hp];split
   ·rename_i cs hf;have hcs:Agree o o' (EC cs):=by
     intro m hm;rcases mR hf m hm with h1 | ⟨i,v,h1,h2⟩
     ·exact hz m (q9 h1)
     ·exact hp i v h1 m h2
    rw [XG hcs,VF (fun m hm=>hcs m (RA hm))]
   ·rfl
  ·rfl
 case load t x=>
  simp only [DA];split
  ·rename_i n i c hx;rw [one (x:=x) (by simp [BR]) (by rw [hx]; simp [DW,DN])]
  ·rfl
  ·rfl
 case nilCheck x=>
  simp only [DA];split
  ·rename_i n i c hx;rw [one (x:=x) (by simp [BR]) (by rw [hx]; simp [DW,DN])]
  ·rfl
 case fieldAddr s x f=>
  simp only [DA];split
  ·split
   ·split
    ·rename_i n i c hx;rw [one (x:=x) (by simp [BR]) (by rw [hx]; simp [DW,DN])]
    ·rfl
    ·rfl
   ·rfl
  ·rfl
 case binOp op t x y t'=>
  simp only [DA];unfold XC;split <;> try rfl
  rename_i n i c hx hy;rw [one (x:=x) (by simp [BR]) (by rw [hx]; simp [DW,DN])]
 case convert s t x=>
  simp only [DA];split <;> try rfl
  rw [mD (fun n hn=>one (x:=x) (by simp [BR]) (KU hn)),sB (fun n hn=>one (x:=x) (by simp [BR]) (KU hn))]
 case slice t x lo hi mx=>
  simp only [DA];split <;> try rfl
  ·rename_i n a b hx;rw [one (x:=x) (by simp [BR]) (by rw [hx]; simp [DW,DN])]
  ·rename_i n a c hx;rw [one (x:=x) (by simp [BR]) (by rw [hx]; simp [DW,DN])]
 case indexAddr t x ix=>
  simp only [DA];split
  ·split
   ·rfl
   ·rename_i n lo hi hx;rw [one (x:=x) (by simp [BR]) (by rw [hx]; simp [DW,DN])]
   ·rename_i n c cap sz len hx;rw [one (x:=x) (by simp [BR]) (by rw [hx]; simp [DW,DN])]
   ·rfl
  ·split
   ·rename_i n i0 c hx;rw [one (x:=x) (by simp [BR]) (by rw [hx]; simp [DW,DN])]
   ·rfl
   ·rfl
  ·rfl
 case store t p x=>
  simp only [DA];have hx:Agree o o' (DW (ρ x)):=fun n hn=>one (x:=x) (by simp [BR]) hn
  have hc:Agree o o' (EC (cells (ρ x))):=fun n hn=>hx n (lC hn)
  unfold MG;split
  ·rename_i n i c hp;rw [one (x:=p) (by simp [BR]) (by rw [hp]; simp [DW,DN]),d9 (fun n hn=>hx n (KU hn)),d7 hc,VF (fun m hm=>hc m (RA hm))];simp only [VR hc]
  ·rfl
 case makeSlice t n m=>
  simp only [DA];split
  ·rename_i d e k1 n1 k2 m1 hd1 _ _;simp only [iF,hd1] at hz;rw [XG hz];split
   ·rw [VF (fun m hm=>hz m (RA hm))]
   ·rfl
  ·rfl
 case makeMap t r=>rfl
 case insert t m k x=>
  simp only [DA];split <;> try rfl
  rename_i n i c z e k' hm _ _;rw [one (x:=m) (by simp [BR]) (by rw [hm]; simp [DW,DN])];simp only [YL (fun n hn=>one (x:=x) (by simp [BR]) (KU hn))]
 case mapUpdate t m k x=>
  simp only [DA];split <;> try rfl
  rename_i n i c z e k' hm _ _;rw [one (x:=m) (by simp [BR]) (by rw [hm]; simp [DW,DN])];simp only [YL (fun n hn=>one (x:=x) (by simp [BR]) (KU hn))]
 case lookup t m k ok=>
  simp only [DA];split <;> try rfl
  rename_i n i c z e k' hm _ _;rw [one (x:=m) (by simp [BR]) (by rw [hm]; simp [DW,DN])]
 case mapEntry t m k=>
  simp only [DA];split <;> try rfl
  rename_i n i c z e k' hm _ _;rw [one (x:=m) (by simp [BR]) (by rw [hm]; simp [DW,DN])]
 case entryStore t m k x=>
  simp only [DA];split <;> try rfl
  rename_i n i c z hm _;rw [one (x:=m) (by simp [BR]) (by rw [hm]; simp [DW,DN])];simp only [YL (fun n hn=>one (x:=x) (by simp [BR]) (KU hn))]
 case range t x=>
  simp only [DA];split <;> try rfl
  rename_i n i c d e k' hm _;rw [one (x:=x) (by simp [BR]) (by rw [hm]; simp [DW,DN])]
 case entry x=>
  simp only [DA];split <;> try rfl
  rename_i n i c hm;rw [one (x:=x) (by simp [BR]) (by rw [hm]; simp [DW,DN])]
 case call c=>
  obtain ⟨callee,args,ats⟩:=c;simp only [DA,NR];have hmem:∀ {x:Operand},x∈args.toList→x∈(Op.call ⟨callee,args,ats⟩).operands.toList:=fun {x} hx=>by
   simp only [BR,Call.operands,vaC,AQ];exact .inr hx
  have harg:∀ {x:Operand},x∈args.toList→Agree o o' (DW (ρ x)):=fun {x} hx n hn=>one (x:=x) (hmem hx) hn
  have hdp:∀ {x:Operand},x∈args.toList→Agree o o' (DN (ρ x)++H7 o (DN (ρ x))):=fun {x} hx n hn=>by
   rcases AQ.1 hn with hn | hn
   ·exact harg hx n (KU hn)
   ·refine hd n (l8 (fun k hk=>SP (vaP (hmem hx)) (KU hk)) hn)
  have hsub:∀ (l:List V),(∀ v∈l,∃ y∈(Op.call ⟨callee,args,ats⟩).operands.toList,∀ n∈DW v,n∈DW (ρ y))→Agree o o' (FC l++H7 o (FC l)):=by
   intro l hl n hn;have h1:∀ k∈FC l,k∈FC ((Op.call ⟨callee,args,ats⟩).operands.toList.map ρ):=by
    intro k hk;obtain ⟨v,hv1,hv2⟩:=qZ hk;obtain ⟨y,hy1,hy2⟩:=hl v hv1;exact SP (vaP hy1) (hy2 k hv2)
   rcases AQ.1 hn with hn | hn
   ·exact hv n (h1 n hn)
   ·exact hd n (l8 h1 hn)
  split
  ·split
   ·rename_i x t hx _;have hxm:x∈args.toList:=by rw [hx]; simp
    have:=hdp hxm
    unfold YP;split <;> try rfl
    ·rename_i n lo hi hr;rw [this.left n (by rw [hr]; simp [DN])]
    ·rename_i n c cap sz len hr;rw [this.left n (by rw [hr]; simp [DN])]
   ·rfl
  ·split
   ·rename_i s x t t' hx _;have hsm:s∈args.toList:=by rw [hx]; simp
    have hxm:x∈args.toList:=by rw [hx]; simp
    simp only [xG (hdp hsm).left (hdp hxm),xI (hdp hsm).left]
   ·rfl
  ·split
   ·rename_i x y t t' hx _;have hxm:x∈args.toList:=by rw [hx]; simp
    have hym:y∈args.toList:=by rw [hx]; simp
    unfold XM;split
    ·rename_i n c cap sz len n' c' cap' sz' len' h1 h2;rw [(hdp hxm).left n (by rw [h1]; simp [DN]),(hdp hym).left n' (by rw [h2]; simp [DN])];split
     ·rename_i cs cs' e ho ho' hde;rw [d7 (o:=o) (o':=o') (l:=cs') (fun m hm=>(hdp hym).right m (QI (by rw [h2]; simp [DN]) ho' hm))]
     ·rfl
    ·rfl
   ·rfl
  ·rfl
  ·rfl
  ·rename_i f d hcal;have hs:=hsub (args.toList.map ρ) (fun v hv=>by
    obtain ⟨y,hy,rfl⟩:=List.mem_map.1 hv;exact ⟨y,hmem hy,fun n hn=>hn⟩)
   unfold bA;rw [VX];split
   ·rw [Fs hs.left]
   ·split
    ·rw [kW hs]
    ·rfl
  ·split
   ·rename_i f caps hx;split
    ·rename_i hok;rw [VX,kW (hsub _ (fun v hv=>by
      rcases AQ.1 hv with hv | hv
      ·obtain ⟨y,hy,rfl⟩:=List.mem_map.1 hv;exact ⟨y,hmem hy,fun n hn=>hn⟩
      ·refine ⟨_,by simp only [BR,Call.operands,vaC,AQ]; exact .inl (AR ..),fun n hn=>?_⟩;rw [hx];simp only [DW];exact kZ hok hv hn))]
    ·rfl
   ·rfl
  ·rfl
 case makeFunc f a b=>cases f <;> rfl
 all_goals rfl
open Go Go.RowKit
theorem eD {ρ ρ':Operand→V}:∀ {l:List (Nat × Operand)},(∀ x∈l.map (·.2),ρ x=ρ' x)→II ρ l=II ρ' l
 | [],_=>rfl
 | (i,x) :: r,h=>by
  simp only [II,h x (by simp),eD (l:=r) (fun y hy=>h y (AW _ hy))]
theorem dQ {ρ ρ':Operand→V}:∀ {l:List Operand},(∀ x∈l,ρ x=ρ' x)→HK ρ l=HK ρ' l
 | [],_=>rfl
 | x :: r,h=>by simp only [HK,h x (AR ..),dQ (l:=r) (fun y hy=>h y (AW _ hy))]
theorem pI {ρ ρ':Operand→V} {x:Option Operand} (h:∀ y∈x.toArray.toList,ρ y=ρ' y):x.map ρ=x.map ρ':=by
 cases x with
 | none=>rfl
 | some x=>simp only [vag,h x (by simp)]
theorem zI {E:Env} {o:Store} {ρ ρ':Operand→V} {d:Option Nat} {op:Op} (h:∀ x∈op.operands.toList,ρ x=ρ' x):DA E o ρ d op=DA E o ρ' d op:=by
 cases op
 case build t ps=>simp only [DA,eD (l:=ps.toList) (fun x hx=>h x (by simpa [BR] using hx))]
 case buildSlice t n ps=>simp only [DA,eD (l:=ps.toList) (fun x hx=>h x (by simpa [BR] using hx))]
 case makeFunc f first caps=>
  cases f <;> simp only [DA]
  rw [dQ (l:=caps.toList) (fun x hx=>h x (by simp only [BR,vaC,AQ]; exact .inr hx))]
 case slice t x lo hi mx=>
  have h1:ρ x=ρ' x:=h x (by simp [BR]);have h2:lo.map ρ=lo.map ρ':=pI (fun y hy=>h y (by simp only [BR,vaC,AQ]; exact .inl (.inl (.inr hy))));have h3:hi.map ρ=hi.map ρ':=pI (fun y hy=>h y (by simp only [BR,vaC,AQ]; exact .inl (.inr hy)));simp only [DA,h1,h2,h3]
 case call c=>
  obtain ⟨callee,args,ats⟩:=c;have ha:∀ x∈args.toList,ρ x=ρ' x:=fun x hx=>h x (by simp only [BR,Call.operands,vaC,AQ]; exact .inr hx)
  have hm:HK ρ args.toList=HK ρ' args.toList:=dQ ha;simp only [DA,NR];split
  ·split
   ·rename_i x t hx _;rw [ha x (by rw [hx]; simp)]
   ·rfl
  ·split
   ·rename_i s x t t' hx _;rw [ha s (by rw [hx]; simp),ha x (by rw [hx]; simp)]
   ·rfl
  ·split
   ·rename_i x y t t' hx _;rw [ha x (by rw [hx]; simp),ha y (by rw [hx]; simp)]
   ·rfl
  ·simp only [hm]
  ·simp only [hm]
  ·simp only [hm]
  ·rename_i x _ _;have hxx:ρ x=ρ' x:=h x (by simp [BR,Call.operands]);simp only [hm,hxx]
  ·rfl
 all_goals first
  | rfl
  | (simp only [BR] at h; simp only [DA]; simp (config:={decide:=false}) only [AT,List.not_mem_nil,or_false,forall_eq_or_imp,forall_eq] at h; simp only [h])
structure SEq (s s':St):Prop where
 t:∀ i,s.get i=s'.get i
 o:∀ n,CY s.o n=CY s'.o n
theorem SEq.refl (s:St):SEq s s:=⟨fun _=>rfl,fun _=>rfl⟩
theorem SEq.symm {s s':St} (h:SEq s s'):SEq s' s:=⟨fun i=>(h.t i).symm,fun n=>(h.o n).symm⟩
theorem SEq.trans {a b c:St} (h:SEq a b) (k:SEq b c):SEq a c:=⟨fun i=>(h.t i).trans (k.t i),fun n=>(h.o n).trans (k.o n)⟩
theorem SEq.opd {s s':St} (h:SEq s s'):opd s=opd s':=by
 funext x
 cases x <;> simp only [FM.opd,h.t]
theorem SEq.put {s s':St} (h:SEq s s') (d:Option Nat) (v:V):SEq (s.put d v) (s'.put d v):=by
 cases d with
 | none=>exact h
 | some d=>exact ⟨fun i=>by simp only [St.put,St.get,MU]; split <;> first | rfl | exact h.t i,h.o⟩
theorem Bs (s:St) (d:Nat) (v:V) (i:Nat):(s.put (some d) v).get i=if d=i then v else s.get i:=by simp only [St.put,St.get,MU]
theorem SEq.up {s s':St} (h:SEq s s') (u:Upd):SEq (s.up u) (s'.up u):=by
 cases u with
 | new n ob=>exact ⟨fun i=>by rw [VI,VI,h.t],fun m=>by rw [ES,ES,h.o]⟩
 | set n ob=>exact ⟨h.t,fun m=>by simp only [St.up,DF,h.o]⟩
 | kill n=>exact ⟨h.t,fun m=>by simp only [St.up,DF,h.o]⟩
theorem SEq.ups:∀ {us:List Upd} {s s':St},SEq s s'→SEq (s.ups us) (s'.ups us)
 | [],_,_,h=>h
 | u :: r,_,_,h=>SEq.ups (us:=r) (h.up u)
theorem SEq.lit {s:St} {j:Nat} {b:Bool} (h:s.get j = .bool b):SEq s (J0 s j b):=
 ⟨fun i=>by
  simp only [J0,St.get,MU];split
  ·rename_i e; subst e; exact h
  ·rfl,fun _=>rfl⟩
theorem aC:∀ {us:List Upd} {o o':Store},(∀ n,CY o n=CY o' n)→∀ n,CY (HC us o) n=CY (HC us o') n
 | [],_,_,h=>h
 | .set m ob :: r,o,o',h=>aC (us:=r) (fun n=>by rw [DF,DF,h])
 | .new m ob :: r,o,o',h=>aC (us:=r) (fun n=>by rw [DF,DF,h])
 | .kill m :: r,o,o',h=>aC (us:=r) (fun n=>by rw [DF,DF,h])
theorem PK:∀ {us:List Upd} {o:Store} {n:Nat},n ∉ GL us→CY (HC us o) n=CY o n
 | [],_,_,_=>rfl
 | .set m ob :: r,o,n,h=>by
  simp only [GL,AT,not_or] at h;rw [HC,PK h.2,DF,AX (fun e=>h.1 e.symm)]
 | .new m ob :: r,o,n,h=>by
  simp only [GL,AT,not_or] at h;rw [HC,PK h.2,DF,AX (fun e=>h.1 e.symm)]
 | .kill m :: r,o,n,h=>by
  simp only [GL,AT,not_or] at h;rw [HC,PK h.2,DF,AX (fun e=>h.1 e.symm)]
theorem gV:∀ {us:List Upd} {o o':Store} {n:Nat},n∈GL us→CY (HC us o) n=CY (HC us o') n
 | [],_,_,_,h=>by simp [GL] at h
 | u :: r,o,o',n,h=>by
  by_cases hr:n∈GL r
  ·cases u <;> simp only [HC] <;> exact gV hr
  ·cases u <;> simp only [GL,AT,hr,or_false] at h <;> subst h <;> simp only [HC] <;> rw [PK hr,PK hr,DF,DF,A6 rfl,A6 rfl]
theorem SEq.apD {s s':St} (h:SEq s s') (x:Dn):SEq (apD s x) (apD s' x):=⟨(h.put x.dst x.v).t,aC h.o⟩
theorem SEq.apDs:∀ {l:List Dn} {s s':St},SEq s s'→SEq (apDs s l) (apDs s' l)
 | [],_,_,h=>h
 | x :: r,_,_,h=>SEq.apDs (l:=r) (h.apD x)
theorem aO:∀ (l l':List Dn) (s:St),apDs s (l++l')=apDs (apDs s l) l'
 | [],_,_=>rfl
 | x :: r,l',s=>aO r l' (apD s x)
theorem n7 {n:Nat} {v:V} (hc:RW v=true) (hn:n ∉ DN v):EM.leaf n v=v:=by
 cases v <;> simp only [RW] at hc <;> first | (cases hc; done) | rfl | skip
 ·simp only [DN,BJ] at hn;simp only [EM.leaf,GD.2 (fun e=>hn e.symm)]
 ·simp only [DN,BJ] at hn;simp only [EM.leaf,GD.2 (fun e=>hn e.symm)]
theorem YN {n:Nat}:∀ {l:List V},RX l=true→n ∉ EC l→l.map (EM.leaf n)=l
 | [],_,_=>rfl
 | v :: r,hc,hn=>by
  simp only [RX] at hc;split at hc
  ·rename_i h1;simp only [EC,AQ,not_or] at hn;simp only [A2,n7 h1 hn.1,YN hc hn.2]
  ·cases hc
theorem dH {n:Nat}:∀ {l:List V},LY.go l=true→n ∉ DW.go l→l.map (EM.leaf2 n)=l
 | [],_,_=>rfl
 | v :: r,hc,hn=>by
  by_cases ha:∃ l,v = .agg l
  ·obtain ⟨l,rfl⟩:=ha;simp only [LY.go] at hc;split at hc
   ·rename_i h1;simp only [DW.go,AQ,not_or] at hn;simp only [A2,EM.leaf2,YN h1 hn.1,dH hc hn.2]
   ·cases hc
  ·have h0:EM.leaf2 n v=EM.leaf n v:=by cases v <;> first | rfl | exact absurd ⟨_,rfl⟩ ha
   have h1:RW v=true∧LY.go r=true:=by
    cases v <;> simp only [LY.go,RW] at hc ⊢ <;> first | (simp at hc; done) | (simpa using hc) | (cases hc; done) | exact absurd ⟨_,rfl⟩ ha
   have h2:n ∉ DN v∧n ∉ DW.go r:=by
    cases v <;> simp only [DW.go,AQ,not_or] at hn <;> first | exact hn | exact absurd ⟨_,rfl⟩ ha
   simp only [A2,h0,n7 h1.1 h2.1,dH h1.2 h2.2]
theorem rX {n:Nat} {v:V} (hc:LY v=true) (hn:n ∉ DW v):EM n v=v:=by
 cases v <;> simp only [LY] at hc <;> first | rfl | skip
 case row a b c=>simp only [DW,DN,BJ] at hn; simp only [EM,GD.2 (fun e=>hn e.symm)]
 case ptr a b c=>simp only [DW,DN,BJ] at hn; simp only [EM,GD.2 (fun e=>hn e.symm)]
 case bview a b c d e=>simp only [DW,DN,BJ] at hn; simp only [EM,GD.2 (fun e=>hn e.symm)]
 case agg l=>simp only [EM,YN hc hn]
 case tup l=>simp only [EM,dH hc hn]
 case clo f l=>
  have:n ∉ EC l:=fun h=>hn (SO h)
  simp only [EM,YN hc this]
theorem rY {n:Nat}:∀ {l:List V},XH l=true→n ∉ FC l→l.map (EM n)=l
 | [],_,_=>rfl
 | v :: r,hc,hn=>by
  simp only [XH] at hc;split at hc
  ·rename_i h1;simp only [FC,AQ,not_or] at hn;simp only [A2,rX h1 hn.1,rY hc hn.2]
  ·cases hc
theorem ZM {n:Nat} {ob:Ob} (hc:bH ob=true) (hn:n ∉ WD ob):FD n (some ob)=some ob:=by
 cases ob with
 | box cs=>simp only [FD,rY hc hn]
 | row _ _ _ _ _=>rfl
 | bld _=>rfl
 | map _ _=>rfl
 | iter _ _ _=>rfl
theorem pM {p:Nat→Bool} {n:Nat} (hp:p n=true) (v:V):EM.leaf n (E2.leaf p v)=E2.leaf p v:=by
 cases v <;> simp only [E2.leaf] <;> first | rfl | skip
 all_goals
  rename_i m _ _;cases hm:p m with
  | true=>rfl
  | false=>
   simp only [EM.leaf];rw [GD.2 (fun e=>by subst e; rw [hp] at hm; cases hm)]
theorem ZA {p:Nat→Bool} {n:Nat} (hp:p n=true):∀ (l:List V),(E2.go p l).map (EM.leaf n)=E2.go p l
 | []=>rfl
 | v :: r=>by simp only [E2.go,A2,pM hp,ZA hp r]
theorem Me {p:Nat→Bool} {n:Nat} (hp:p n=true) (v:V):EM.leaf2 n (E2.leaf2 p v)=E2.leaf2 p v:=by
 by_cases ha:∃ l,v = .agg l
 ·obtain ⟨l,rfl⟩:=ha;simp only [E2.leaf2,EM.leaf2,ZA hp]
 ·have h0:E2.leaf2 p v=E2.leaf p v:=by cases v <;> first | rfl | exact absurd ⟨_,rfl⟩ ha
  rw [h0]
  have:=pM hp v
  cases hx:E2.leaf p v <;> rw [hx] at this <;> first | exact this | skip
  exfalso;cases v <;> simp only [E2.leaf] at hx <;> try (cases hx; done)
  all_goals (split at hx <;> cases hx)
theorem pO {p:Nat→Bool} {n:Nat} (hp:p n=true):∀ (l:List V),(E2.go2 p l).map (EM.leaf2 n)=E2.go2 p l
 | []=>rfl
 | v :: r=>by simp only [E2.go2,A2,Me hp,pO hp r]
theorem pQ {p:Nat→Bool} {n:Nat} (hp:p n=true) (v:V):EM n (E2 p v)=E2 p v:=by
 have key:∀ m,p m=false→A4 m n=false:=fun m hm=>GD.2 (fun e=>by subst e; rw [hp] at hm; cases hm)
 cases v <;> simp only [E2] <;> try rfl
 case row m _ _=>cases hm:p m <;> simp only [EM,key m,hm]
 case ptr m _ _=>cases hm:p m <;> simp only [EM,key m,hm]
 case bview m _ _ _ _=>cases hm:p m <;> simp only [EM,key m,hm]
 case agg l=>simp only [EM,ZA hp]
 case tup l=>simp only [EM,pO hp]
 case clo f l=>simp only [EM,ZA hp]
theorem YW (f:V→V):∀ l,IC.mapV f l=l.map f
 | []=>rfl
 | v :: r=>by simp only [IC.mapV,A2,YW f r]
theorem Mg {p:Nat→Bool} {n:Nat} (hp:p n=true) (x:Option Ob):FD n (IC p x)=IC p x:=by
 match x with
 | none=>rfl
 | some (.row _ _ _ _ _)=>rfl
 | some (.bld _)=>rfl
 | some (.map _ _)=>rfl
 | some (.iter _ _ _)=>rfl
 | some (.box cs)=>
  simp only [IC,FD,YW,List.map_map];congr 2;exact List.map_congr_left (fun v _=>pQ hp v)
structure Fr (n:Nat) (s:St):Prop where
 t:∀ i,EM n (s.get i)=s.get i
 o:∀ m,FD n (CY s.o m)=CY s.o m
theorem Fr.congr {n:Nat} {s s':St} (h:Fr n s) (e:SEq s s'):Fr n s':=⟨fun i=>by rw [← e.t]; exact h.t i,fun m=>by rw [← e.o]; exact h.o m⟩
theorem V0 {n:Nat} {l:List Nat}:HW n l=false↔n ∉ l:=by
 rw [← VZ]; simp
theorem R5:∀ {l l':List Nat},NS l l'=true↔∀ n∈l,n ∉ l'
 | [],l'=>by simp [NS]
 | m :: r,l'=>by
  simp only [NS];cases hb:HW m l' with
  | true=>simp [VZ.1 hb]
  | false=>simp [V0.1 hb,R5 (l:=r)]
theorem aD:∀ {us:List Upd} {s:St},(∀ n∈LL us,Fr n s)→LQ us=true→SEq (s.ups us) ⟨s.t,HC us s.o⟩
 | [],s,_,_=>SEq.refl s
 | .kill m :: r,s,hf,ho=>by
  simp only [St.ups,HC];exact aD (us:=r) (s:=s.up (.kill m)) (fun n hn=>⟨(hf n hn).t,fun k=>by
   simp only [St.up,DF];split
   ·rfl
   ·exact (hf n hn).o k⟩) ho
 | .set m ob :: r,s,hf,ho=>by
  simp only [LQ,AG] at ho;simp only [St.ups,HC];exact aD (us:=r) (s:=s.up (.set m ob)) (fun n hn=>⟨(hf n hn).t,fun k=>by
   simp only [St.up,DF];split
   ·exact ZM ho.1 (R5.1 ho.2.1 n hn)
   ·exact (hf n hn).o k⟩) ho.2.2
 | .new m ob :: r,s,hf,ho=>by
  simp only [LQ,AG] at ho;simp only [St.ups,HC];have hm:Fr m s:=hf m (by simp [LL]);have e:SEq (s.up (.new m ob)) (s.up (.set m ob)):=⟨fun i=>by rw [VI,hm.t]; rfl,fun k=>by rw [ES,hm.o]; simp only [St.up,DF]⟩;refine (e.ups (us:=r)).trans ?_;exact aD (us:=r) (s:=s.up (.set m ob)) (fun n hn=>⟨(hf n (by simp [LL,hn])).t,fun k=>by
   simp only [St.up,DF];split
   ·exact ZM ho.1 (R5.1 ho.2.1 n hn)
   ·exact (hf n (by simp [LL,hn])).o k⟩) ho.2.2
open Go Go.RowKit
def CmpP (p:Nat→Bool) (γ:Nat→Value) (o:Store) (γ':Nat→Value) (o':Store):Prop:=
 ∀ n ob',p n=false→CY o' n=some ob'→γ' n=γ n∧∃ ob,CY o n=some ob∧ob.fits ob'
section
variable {γ γ':Nat→Value} {o o':Store} {w:World} {O:Nat→Prop} {p:Nat→Bool}
theorem CmpP.but (hc:CmpP p γ o γ' o') {n:Nat} (hn:p n=false) {v:V} (hv:v = .any∨(∃ lo hi,v = .row n lo hi)∨(∃ i c,v = .ptr n i c)∨∃ c cap sz len,v = .bview n c cap sz len) {x:Value} (h:VRel γ o w O v x):VRel γ' o' w O v x:=by
 let f:Nat→Value:=fun m=>if m=n then γ' n else γ m
 rcases hv with rfl | ⟨lo,hi,rfl⟩ | ⟨i,c,rfl⟩ | ⟨c,cap,sz,len,rfl⟩
 ·simp only [VRel]
 ·simp only [VRel] at h ⊢;cases h':CY o' n with
  | none=>trivial
  | some ob'=>
   obtain ⟨hg,ob,ho,hf⟩:=hc n ob' hn h';rw [ho] at h;rw [hg];cases ob <;> cases ob' <;> simp only [Ob.fits] at hf <;> try trivial
   obtain ⟨rfl,hl⟩:=hf;exact ⟨by rw [← hl]; exact h.1,h.2⟩
 ·simp only [VRel] at h ⊢;cases h':CY o' n with
  | none=>trivial
  | some ob'=>
   obtain ⟨hg,ob,ho,hf⟩:=hc n ob' hn h';rw [ho] at h;rw [hg];cases ob <;> cases ob' <;> simp only [Ob.fits] at hf
   ·exact h
   ·obtain ⟨rfl,hl⟩:=hf;exact ⟨by rw [← hl]; exact h.1,h.2⟩
   ·exact h
   ·exact h
   ·exact h
 ·simp only [VRel] at h ⊢;cases h':CY o' n with
  | none=>trivial
  | some ob'=>
   obtain ⟨hg,ob,ho,hf⟩:=hc n ob' hn h';rw [ho] at h;rw [hg];cases ob <;> cases ob' <;> simp only [Ob.fits] at hf <;> try trivial
   exact ⟨h.1,h.2.1,by rw [← hf]; exact h.2.2.1,h.2.2.2⟩
theorem pN (hc:CmpP p γ o γ' o') {v:V} {x:Value} (h:VRel γ o w O v x):VRel γ' o' w O (E2.leaf p v) x:=by
 cases v <;> simp only [E2.leaf]
 case row n lo hi=>
  cases hb:p n with
  | true=>simp only [VRel]
  | false=>exact hc.but hb (.inr (.inl ⟨_,_,rfl⟩)) h
 case ptr n i c=>
  cases hb:p n with
  | true=>simp only [VRel]
  | false=>exact hc.but hb (.inr (.inr (.inl ⟨_,_,rfl⟩))) h
 all_goals first
  | (simp only [VRel] at h ⊢; exact h)
  | simp only [VRel]
theorem ZB (hc:CmpP p γ o γ' o'):∀ {l:List V} {xs:List Value},VRels γ o w O l xs→VRels γ' o' w O (E2.go p l) xs
 | [],[],_=>by simp only [E2.go,VRels]
 | [],_ :: _,h=>by simp only [VRels] at h
 | _ :: _,[],h=>by simp only [VRels] at h
 | v :: vs,x :: xs,h=>by
  simp only [VRels,E2.go] at h ⊢;exact ⟨pN hc h.1,ZB hc h.2⟩
theorem Mf (hc:CmpP p γ o γ' o') {v:V} {x:Value} (h:VRel γ o w O v x):VRel γ' o' w O (E2.leaf2 p v) x:=by
 cases v <;> simp only [E2.leaf2] <;> try exact pN hc h
 simp only [VRel] at h ⊢;obtain ⟨cs,hx,hr⟩:=h;exact ⟨cs,hx,ZB hc hr⟩
theorem pP (hc:CmpP p γ o γ' o'):∀ {l:List V} {xs:List Value},VRels γ o w O l xs→VRels γ' o' w O (E2.go2 p l) xs
 | [],[],_=>by simp only [E2.go2,VRels]
 | [],_ :: _,h=>by simp only [VRels] at h
 | _ :: _,[],h=>by simp only [VRels] at h
 | v :: vs,x :: xs,h=>by
  simp only [VRels,E2.go2] at h ⊢;exact ⟨Mf hc h.1,pP hc h.2⟩
theorem pR (hc:CmpP p γ o γ' o') {v:V} {x:Value} (h:VRel γ o w O v x):VRel γ' o' w O (E2 p v) x:=by
 cases v <;> simp only [E2]
 case row n lo hi=>
  cases hb:p n with
  | true=>simp only [VRel]
  | false=>exact hc.but hb (.inr (.inl ⟨_,_,rfl⟩)) h
 case ptr n i c=>
  cases hb:p n with
  | true=>simp only [VRel]
  | false=>exact hc.but hb (.inr (.inr (.inl ⟨_,_,rfl⟩))) h
 case bview n c cap sz len=>
  cases hb:p n with
  | true=>simp only [VRel]
  | false=>exact hc.but hb (.inr (.inr (.inr ⟨_,_,_,_,rfl⟩))) h
 case agg l=>
  simp only [VRel] at h ⊢;obtain ⟨cs,hx,hr⟩:=h;exact ⟨cs,hx,ZB hc hr⟩
 case tup l=>
  simp only [VRel] at h ⊢;obtain ⟨cs,hx,hr⟩:=h;exact ⟨cs,hx,pP hc hr⟩
 case clo f l=>
  simp only [VRel] at h ⊢;obtain ⟨cs,hx,hr⟩:=h;exact ⟨cs,hx,ZB hc hr⟩
 all_goals (simp only [VRel] at h ⊢; try exact h)
theorem pS (hc:CmpP p γ o γ' o'):∀ {l:List V} {xs:List Value},VRels γ o w O l xs→VRels γ' o' w O (l.map (E2 p)) xs
 | [],[],_=>by simp only [vac,VRels]
 | [],_ :: _,h=>by simp only [VRels] at h
 | _ :: _,[],h=>by simp only [VRels] at h
 | v :: vs,x :: xs,h=>by
  simp only [VRels,A2] at h ⊢;exact ⟨pR hc h.1,pS hc h.2⟩
end
theorem bI (p:Nat→Bool):∀ (o:Store) (n:Nat),CY (RY p o) n=match p n with | true=>none | false=>IC p (CY o n)
 | [],n=>by simp only [RY,CY,D6]; cases p n <;> rfl
 | (m,x) :: r,n=>by
  simp only [RY];by_cases e:m=n
  ·subst e;cases hp:p m <;> simp only [DF,B8]
  ·cases hp:p m <;> simp only [DF,AX e,bI p r n]
theorem Oh {p:Nat→Bool} {x:Option Ob} {ob:Ob} (h:IC p x=some ob):∃ ob0,x=some ob0∧IC p (some ob0)=some ob:=by
 cases x with
 | none=>simp [IC] at h
 | some ob0=>exact ⟨ob0,rfl,h⟩
theorem WI {p:Nat→Bool} {ob0 ob:Ob} (h:IC p (some ob0)=some ob):ob0.fits ob∧∀ g b,D3 g ob b↔D3 g ob0 b:=by
 cases ob0 <;> simp only [IC,AB] at h <;> subst h
 ·exact ⟨by simp [Ob.fits,YW],fun _ _=>Iff.rfl⟩
 ·exact ⟨⟨rfl,rfl⟩,fun _ _=>Iff.rfl⟩
 ·exact ⟨trivial,fun _ _=>Iff.rfl⟩
 ·exact ⟨rfl,fun _ _=>Iff.rfl⟩
 ·exact ⟨rfl,fun _ _=>Iff.rfl⟩
section
variable {B:BT} {nt:Nat} {w0:World} {X:Zone} {γ:Nat→Value} {st st':St} {a:Act} {w:World} {P:Program} {E:Env}
theorem Rel.less (h:Rel B nt w0 X γ st a w) {st':St} (ht:∀ i,st'.get i=st.get i∨st'.get i = .any) (ho:∀ n ob,CY st'.o n=some ob→CY st.o n=some ob):Rel B nt w0 X γ st' a w:=by
 have hP:∀ b,ED γ st'.o b→ED γ st.o b:=fun b ⟨n,ob,h1,h2⟩=>⟨n,ob,ho n ob h1,h2⟩
 have hO:∀ b,b < w.heap.size→CZ X γ st'.o b→CZ X γ st.o b:=fun b _ hb=>hb.imp_left (hP b)
 have hc:Cmp γ st.o γ st'.o:=fun n ob hn=>⟨rfl,ob,ho n ob hn,ob.fits_refl⟩
 refine ⟨h.sz,h.df,fun i=>?_,fun n ob hn=>(h.ob n ob (ho n ob hn)).later (fun _ _=>rfl) (Keep.refl _ w) hO hc,fun b hb=>h.lt b (hP b hb),fun n m ob ob' b hne h1 h2=>h.dis n m ob ob' b hne (ho n ob h1) (ho m ob' h2),h.keep,fun b hb=>h.nr b (hP b hb),h.fl,fun p hp ob h1=>h.pn p hp ob (ho _ ob h1)⟩;rcases ht i with h1 | h1
 ·rw [h1];exact VRel.mono (Keep.refl _ w) hO (VRel.cmp hc (h.tm i))
 ·rw [h1];simp only [VRel]
theorem Rel.lit (h:Rel B nt w0 X γ st a w) {i:Nat} {v:V} (hv:st.get i=v):Rel B nt w0 X γ ⟨(i,v) :: st.t,st.o⟩ a w:=by
 refine h.less (fun j=>?_) (fun _ _ h=>h);simp only [St.get,MU];by_cases e:i=j
 ·subst e;simp only [B8];exact .inl hv.symm
 ·simp only [AX e];exact .inl trivial
theorem VB:∀ (ops:List Oper) (j d:Nat),LA ops j=some d→(ops[j]?).bind (·.dst)=some d
 | [],j,d,h=>by simp [LA] at h
 | o :: r,0,d,h=>by simpa [LA] using h
 | o :: r,j+1,d,h=>by simpa [LA] using VB r j d (by simpa [LA] using h)
theorem i5 (h:Rel B nt w0 X γ st a w) {i:Nat} {c:Bool} (hv:st.get i = .bool c):a.tmps[i]?=some (.bool c):=by
 have:=h.tm i
 rw [hv] at this;simp only [VRel,vbh] at this;cases ht:a.tmps[i]? with
 | none=>rw [ht] at this; simp [undef] at this
 | some u=>rw [ht] at this; simp only [vaq] at this; rw [this]
theorem uT (h:Rel B nt w0 X γ st a w) {i:Nat} (hv:st.get i = .tup []):a.tmps[i]?=none∨a.tmps[i]?=some (.tuple #[]):=by
 have:=h.tm i
 rw [hv] at this;simp only [VRel,vbh] at this;obtain ⟨cs,h1,h2⟩:=this;cases hl:cs.toList with
 | nil=>
  have e:cs = #[]:=by simpa using hl
  rw [e] at h1;cases ht:a.tmps[i]? with
  | none=>exact .inl rfl
  | some u=>rw [ht] at h1; simp only [vaq] at h1; rw [h1]; exact .inr rfl
 | cons x l=>rw [hl] at h2; simp only [VRels] at h2
theorem Rel.clear (h:Rel B nt w0 X γ st a w) (ds:List Nat):Rel B nt w0 X γ (JU ds st) a w:=by
 have hget:∀ n ob,CY (JU ds st).o n=some ob→LF ds n=false∧∃ ob0,CY st.o n=some ob0∧IC (LF ds) (some ob0)=some ob:=by
  intro n ob hn;simp only [JU,bI] at hn;split at hn
  ·cases hn
  ·rename_i hp;exact ⟨hp,Oh hn⟩
 have hP:∀ b,ED γ (JU ds st).o b→ED γ st.o b:=by
  rintro b ⟨n,ob,h1,h2⟩;obtain ⟨_,ob0,h3,h4⟩:=hget n ob h1;exact ⟨n,ob0,h3,((WI h4).2 _ _).1 h2⟩
 have hO:∀ b,b < w.heap.size→CZ X γ (JU ds st).o b→CZ X γ st.o b:=fun b _ hb=>hb.imp_left (hP b)
 have hc:CmpP (LF ds) γ st.o γ (JU ds st).o:=by
  intro n ob' _ hn;obtain ⟨_,ob0,h3,h4⟩:=hget n ob' hn;exact ⟨rfl,ob0,h3,(WI h4).1⟩
 refine ⟨h.sz,h.df,fun i=>?_,fun n ob hn=>?_,fun b hb=>h.lt b (hP b hb),fun n m ob ob' b hne h1 h2 hb1 hb2=>?_,h.keep,fun b hb=>h.nr b (hP b hb),h.fl,fun p hp ob h1=>?_⟩
 ·have:(JU ds st).get i=E2 (LF ds) (st.get i):=by
   simp only [JU,St.get];exact VT _ _ rfl _ _
  rw [this];exact VRel.mono (Keep.refl _ w) hO (pR hc (h.tm i))
 ·obtain ⟨_,ob0,h3,h4⟩:=hget n ob hn;have hor:=h.ob n ob0 h3;cases ob0 with
  | box l=>
   simp only [IC,AB] at h4;subst h4;simp only [ObRel] at hor ⊢;obtain ⟨b,c,T,hg,hh,hr⟩:=hor;rw [YW];exact ⟨b,c,T,hg,hh,VRels.mono (Keep.refl _ w) hO (pS hc hr)⟩
  | row own e ag ks l=>
   simp only [IC,AB] at h4;subst h4;exact hor.later (fun _ _=>rfl) (Keep.refl _ w) hO (fun m ob1 hm=>by
    obtain ⟨_,ob0,h5,h6⟩:=hget m ob1 hm;exact ⟨rfl,ob0,h5,(WI h6).1⟩)
  | bld s=>
   simp only [IC,AB] at h4;subst h4;simpa only [ObRel] using hor
  | map vk es=>
   simp only [IC,AB] at h4;subst h4;simp only [ObRel] at hor ⊢;obtain ⟨h0,b,ents,hg,q1,q2⟩:=hor;exact ⟨h0,b,ents,hg,q1,EntRel.mono (Keep.refl _ w) hO q2⟩
  | iter vk last rest=>
   simp only [IC,AB] at h4;subst h4;simp only [ObRel] at hor ⊢;obtain ⟨h0,r,b,since,seen,ents,clock,hg,q1,q2,q3⟩:=hor;exact ⟨h0,r,b,since,seen,ents,clock,hg,q1,q2,IterRel.mono (Keep.refl _ w) hO q3⟩
 ·obtain ⟨_,ob0,h3,h4⟩:=hget n ob h1;obtain ⟨_,ob1,h5,h6⟩:=hget m ob' h2;exact h.dis n m ob0 ob1 b hne h3 h5 (((WI h4).2 _ _).1 hb1) (((WI h6).2 _ _).1 hb2)
 ·obtain ⟨_,ob0,h3,_⟩:=hget _ ob h1;exact h.pn p hp ob0 h3
theorem Rel.seq (h:Rel B nt w0 X γ st a w) (e:SEq st st'):Rel B nt w0 X γ st' a w:=
 h.less (fun i=>.inl (e.t i).symm) (fun n ob hn=>by rw [e.o]; exact hn)
end
theorem yM {ds:List Nat} {n:Nat} (hn:LF ds n=true) (s:St):Fr n (JU ds s):=by
 refine ⟨fun i=>?_,fun m=>?_⟩
 ·have:(JU ds s).get i=E2 (LF ds) (s.get i):=by
   simp only [JU,St.get];exact VT _ _ rfl _ _
  rw [this];exact pQ hn _
 ·simp only [JU,bI];split
  ·rfl
  ·exact Mg hn _
def StepOK (E:Env) (all:List Oper) (o:Oper) (s:St) (D:Dn):Prop:=
 L6 E o.dst=true∧D.dst=o.dst∧D.tm=I5 all o ∧
 match o.guard with
 | none=>(DA E s.o (opd s) o.dst o.op).get=some (D.v,D.us)∧D.rd=J5 E s.o (opd s) o.op
 | some (j,b)=>(∃ dj c,LA all j=some dj∧s.get dj = .bool c ∧
  ((c=b∧(DA E s.o (opd s) o.dst o.op).get=some (D.v,D.us)∧D.rd=J5 E s.o (opd s) o.op)∨(c≠b∧D.v = .tup []∧D.us=[]))) ∨
  (∃ dj,LA all j=some dj∧s.get dj = .tup []∧D.v = .tup []∧D.us=[])
def Steps (E:Env) (all:List Oper):List Oper→St→List Dn→Prop
 | [],_,[]=>True
 | o :: r,s,D :: Ds=>StepOK E all o s D∧Steps E all r (apD s D) Ds
 | _,_,_=>False
theorem StepOK.congr {E:Env} {all:List Oper} {o:Oper} {s s':St} {D:Dn} (h:StepOK E all o s D) (e:SEq s s'):StepOK E all o s' D:=by
 have hag:∀ (ρ:Operand→V) d op,DA E s'.o ρ d op=DA E s.o ρ d op:=fun ρ d op=>mM (fun n _=>(e.o n).symm)
 have hdp:∀ l,H7 s'.o l=H7 s.o l:=by
  intro l
  induction l with
  | nil=>rfl
  | cons n r ih=>simp only [H7,ih,e.o]
 have hrd:∀ (ρ:Operand→V) op,J5 E s'.o ρ op=J5 E s.o ρ op:=fun ρ op=>by unfold J5 ZE; rw [hdp]
 unfold StepOK at h ⊢;refine ⟨h.1,h.2.1,h.2.2.1,?_⟩;have h3:=h.2.2.2;rw [← e.opd];simp only [hag,hrd];split at h3
 ·exact h3
 ·rcases h3 with ⟨dj,c,h4,h5,h6⟩ | ⟨dj,h4,h5,h6⟩
  ·exact .inl ⟨dj,c,h4,by rw [← e.t]; exact h5,h6⟩
  ·exact .inr ⟨dj,h4,by rw [← e.t]; exact h5,h6⟩
theorem Steps.congr {E:Env} {all:List Oper}:∀ {l:List Oper} {s s':St} {Ds:List Dn},Steps E all l s Ds→SEq s s'→Steps E all l s' Ds
 | [],_,_,[],_,_=>trivial
 | [],_,_,_ :: _,h,_=>by simp [Steps] at h
 | _ :: _,_,_,[],h,_=>by simp [Steps] at h
 | o :: r,s,s',D :: Ds,h,e=>by
  simp only [Steps] at h ⊢;exact ⟨h.1.congr e,Steps.congr h.2 (e.apD D)⟩
theorem mL {E:Env} {all:List Oper} {res:V × List (List V)}:∀ (l:List Oper) {s:St} {acc:List Dn} {k:List Dn→St→C0},L4 E all l s acc k=some res →
  ∃ Ds s',Steps E all l s Ds∧SEq s' (apDs s Ds)∧k (Ds.reverse++acc) s'=some res
 | [],s,acc,k,h=>⟨[],s,trivial,SEq.refl s,by simpa [L4] using h⟩
 | o :: r,s,acc,k,h=>by
  simp only [L4] at h;have hd:L6 E o.dst=true:=by
   cases hd:L6 E o.dst with
   | true=>rfl
   | false=>rw [hd] at h; cases h
  rw [hd] at h;simp only at h;have fin:∀ (s1:St) (D:Dn),SEq s s1→StepOK E all o s1 D→L4 E all r (apD s1 D) (D :: acc) k=some res →
    ∃ Ds s',Steps E all (o :: r) s Ds∧SEq s' (apDs s Ds)∧k (Ds.reverse++acc) s'=some res:=by
   intro s1 D e hs he;obtain ⟨Ds,s',h1,h2,h3⟩:=mL r he;refine ⟨D :: Ds,s',⟨hs.congr e.symm,h1.congr (e.symm.apD D)⟩,h2.trans ((e.symm.apD D).apDs),?_⟩;simpa using h3
  split at h
  ·rename_i hg;obtain ⟨v,us,h1,h2⟩:=T.run_some h;exact fin s _ (SEq.refl s) ⟨hd,rfl,rfl,by rw [hg]; exact ⟨h1,rfl⟩⟩ h2
  ·rename_i j b hg;split at h
   ·rename_i dj hdj;split at h
    ·rename_i c hc;have hl:∀ c',(J0 s dj c').get dj = .bool c':=fun c'=>by simp [J0,St.get,MU]
     cases c with
     | true=>
      have e:=SEq.lit hc;cases b with
      | true=>
       simp only at h;obtain ⟨v,us,h1,h2⟩:=T.run_some h;exact fin _ _ e ⟨hd,rfl,rfl,by rw [hg]; exact .inl ⟨dj,true,hdj,hl _,.inl ⟨rfl,h1,rfl⟩⟩⟩ h2
      | false=>exact fin _ _ e ⟨hd,rfl,rfl,by rw [hg]; exact .inl ⟨dj,true,hdj,hl _,.inr ⟨by simp,rfl,rfl⟩⟩⟩ h
     | false=>
      have e:=SEq.lit hc;cases b with
      | false=>
       simp only at h;obtain ⟨v,us,h1,h2⟩:=T.run_some h;exact fin _ _ e ⟨hd,rfl,rfl,by rw [hg]; exact .inl ⟨dj,false,hdj,hl _,.inl ⟨rfl,h1,rfl⟩⟩⟩ h2
      | true=>exact fin _ _ e ⟨hd,rfl,rfl,by rw [hg]; exact .inl ⟨dj,false,hdj,hl _,.inr ⟨by simp,rfl,rfl⟩⟩⟩ h
    ·rename_i hc;exact fin _ _ (SEq.refl s) ⟨hd,rfl,rfl,by rw [hg]; exact .inr ⟨dj,hdj,hc,rfl,rfl⟩⟩ h
    ·cases h
   ·cases h
theorem Steps.length {E:Env} {all:List Oper}:∀ {l:List Oper} {s:St} {Ds:List Dn},Steps E all l s Ds→Ds.length=l.length
 | [],_,[],_=>rfl
 | [],_,_ :: _,h=>by simp [Steps] at h
 | _ :: _,_,[],h=>by simp [Steps] at h
 | _ :: _,_,_ :: _,h=>by simp only [AP,Steps.length h.2]
theorem Steps.get {E:Env} {all:List Oper}:∀ {l:List Oper} {s:St} {Ds:List Dn} {i:Nat} {o:Oper} {D:Dn},Steps E all l s Ds→l[i]?=some o→Ds[i]?=some D→StepOK E all o (apDs s (Ds.take i)) D
 | [],_,_,_,_,_,_,h,_=>by simp at h
 | _ :: _,_,[],_,_,_,_,_,h=>by simp at h
 | o :: r,s,D :: Ds,0,_,_,h,h1,h2=>by
  simp only [BE,AB] at h1 h2;subst h1; subst h2;exact h.1
 | o :: r,s,D :: Ds,i+1,_,_,h,h1,h2=>by
  simp only [CD] at h1 h2;simp only [List.take_succ_cons,apDs];exact Steps.get h.2 h1 h2
def DU (L:Nat→Bool):Nat→List Dn→List Dn
 | _,[]=>[]
 | i,D :: r=>match L i with | true=>D :: DU L (i+1) r | false=>DU L (i+1) r
theorem SW {L L':Nat→Bool}:∀ (l:List Dn) (i:Nat),(∀ j,i≤j→j < i+l.length→L j=L' j)→DU L i l=DU L' i l
 | [],_,_=>rfl
 | D :: r,i,h=>by
  simp only [DU];rw [h i (AO i) (by simp),SW r (i+1) (fun j h1 h2=>h j (by omega) (by simp only [AP]; omega))]
theorem WJ:∀ (l:List Dn) (i:Nat),DU (fun _=>false) i l=[]
 | [],_=>rfl
 | D :: r,i=>by simp only [DU,WJ r]
theorem r9:∀ (l:List Dn) (i:Nat),DU (fun _=>true) i l=l
 | [],_=>rfl
 | D :: r,i=>by simp only [DU,r9 r]
theorem sA (k:Nat):∀ (l:List Dn) (i:Nat),DU (fun j=>decide (j < i+k)) i l=l.take k
 | [],i=>by simp [DU]
 | D :: r,i=>by
  cases k with
  | zero=>
   rw [SW (L':=fun _=>false) _ _ (fun j h1 h2=>by simp; omega),WJ];rfl
  | succ k=>
   simp only [DU];rw [show decide (i < i+(k+1))=true by simp];simp only [List.take_succ_cons,vaI,true_and]
   have:=sA k r (i+1)
   rw [show i+(k+1)=i+1+k by omega];exact this
theorem N8 {L L':Nat→Bool} {n:Nat}:∀ (l:List Dn) (i:Nat) {s s':St},CY s.o n=CY s'.o n→(∀ j D,l[j]?=some D→n∈GL D.us→L (i+j)=L' (i+j))→CY (apDs s (DU L i l)).o n=CY (apDs s' (DU L' i l)).o n
 | [],_,_,_,h,_=>h
 | D :: r,i,s,s',h,hl=>by
  have hr:∀ j E,r[j]?=some E→n∈GL E.us→L (i+1+j)=L' (i+1+j):=fun j E hj hn=>by
   have:=hl (j+1) E (by simpa using hj) hn
   rwa [show i+(j+1)=i+1+j by omega] at this
  have one:∀ {s:St},n ∉ GL D.us→CY (apD s D).o n=CY s.o n:=fun h=>PK h
  by_cases hn:n∈GL D.us
  ·have h0:=hl 0 D rfl hn;simp only [vaa] at h0;simp only [DU,h0];cases L' i with
   | true=>exact N8 r (i+1) (gV hn) hr
   | false=>exact N8 r (i+1) h hr
  ·simp only [DU];cases L i <;> cases L' i <;> simp only [apDs]
   ·exact N8 r (i+1) h hr
   ·exact N8 r (i+1) (h.trans (one hn).symm) hr
   ·exact N8 r (i+1) ((one hn).trans h) hr
   ·exact N8 r (i+1) ((one hn).trans (h.trans (one hn).symm)) hr
theorem LW (s:St) (D:Dn) (t:Nat):(apD s D).get t=if D.dst=some t then D.v else s.get t:=by
 unfold apD;cases hd:D.dst with
 | none=>simp [St.put,St.get]
 | some d=>
  have:=Bs s d D.v t
  simp only [AB];exact this
theorem N7 {L L':Nat→Bool} {t:Nat}:∀ (l:List Dn) (i:Nat) {s s':St},s.get t=s'.get t→(∀ j D,l[j]?=some D→D.dst=some t→L (i+j)=L' (i+j))→(apDs s (DU L i l)).get t=(apDs s' (DU L' i l)).get t
 | [],_,_,_,h,_=>h
 | D :: r,i,s,s',h,hl=>by
  have hr:∀ j E,r[j]?=some E→E.dst=some t→L (i+1+j)=L' (i+1+j):=fun j E hj hn=>by
   have:=hl (j+1) E (by simpa using hj) hn
   rwa [show i+(j+1)=i+1+j by omega] at this
  by_cases hn:D.dst=some t
  ·have h0:=hl 0 D rfl hn;simp only [vaa] at h0;simp only [DU,h0];cases L' i with
   | true=>exact N7 r (i+1) (by rw [LW,LW,A6 hn,A6 hn]) hr
   | false=>exact N7 r (i+1) h hr
  ·simp only [DU];cases L i <;> cases L' i <;> simp only [apDs]
   ·exact N7 r (i+1) h hr
   ·exact N7 r (i+1) (by rw [LW,AX hn]; exact h) hr
   ·exact N7 r (i+1) (by rw [LW,AX hn]; exact h) hr
   ·exact N7 r (i+1) (by rw [LW,LW,AX hn,AX hn]; exact h) hr
theorem fV {L:Nat→Bool} {n:Nat}:∀ (l:List Dn) (i:Nat) {s:St},Fr n s→(∀ j D,l[j]?=some D→L (i+j)=true→LY D.v=true∧n ∉ DW D.v∧∀ u∈D.us,∀ m ob,(u = .new m ob∨u = .set m ob)→FD n (some ob)=some ob)→Fr n (apDs s (DU L i l))
 | [],_,_,h,_=>h
 | D :: r,i,s,h,hl=>by
  have hr:∀ j E,r[j]?=some E→L (i+1+j)=true→LY E.v=true∧n ∉ DW E.v∧∀ u∈E.us,∀ m ob,(u = .new m ob∨u = .set m ob)→FD n (some ob)=some ob:=fun j E hj hn=>by
   refine hl (j+1) E (by simpa using hj) ?_
   rwa [show i+(j+1)=i+1+j by omega]
  simp only [DU];cases hL:L i with
  | false=>exact fV r (i+1) h hr
  | true=>
   refine fV r (i+1) ?_ hr;obtain ⟨h1,h2,h3⟩:=hl 0 D rfl hL;refine ⟨fun t=>?_,?_⟩
   ·rw [LW];split
    ·exact rX h1 h2
    ·exact h.t t
   ·have key:∀ (us:List Upd) (o:Store),(∀ u∈us,∀ m ob,(u = .new m ob∨u = .set m ob)→FD n (some ob)=some ob)→(∀ m,FD n (CY o m)=CY o m)→∀ m,FD n (CY (HC us o) m)=CY (HC us o) m:=by
     intro us
     induction us with
     | nil=>intro o _ h; exact h
     | cons u us ih=>
      intro o hu ho;have hu':=fun u' hu'=>hu u' (AW _ hu')
      cases u with
      | kill k=>exact ih _ hu' (fun m=>by rw [DF]; split <;> first | rfl | exact ho m)
      | set k ob=>exact ih _ hu' (fun m=>by rw [DF]; split <;> first | exact hu _ (AR ..) k ob (.inr rfl) | exact ho m)
      | new k ob=>exact ih _ hu' (fun m=>by rw [DF]; split <;> first | exact hu _ (AR ..) k ob (.inl rfl) | exact ho m)
    exact key D.us s.o h3 h.o
theorem fW {L:Nat→Bool}:∀ (l l':List Dn) (i:Nat),DU L i (l++l')=DU L i l++DU L (i+l.length) l'
 | [],l',i=>by simp [DU]
 | D :: r,l',i=>by
  simp only [vap,DU,AP];rw [show i+(r.length+1)=i+1+r.length by omega];cases L i <;> simp [fW r l' (i+1)]
open Go Go.RowKit
theorem SJ:∀ (l:List (List Nat)) (i:Nat),FX l i=(l[i]?).getD []
 | [],i=>by simp [FX]
 | x :: r,0=>rfl
 | x :: r,i+1=>by simp only [FX,SJ r i,CD]
theorem YY {acc:List (List Nat)} {j:Nat}:∀ {es:List Edge},j∈O9 acc es→∃ e∈es,vaW .any e=true∧(j=e.on∨j∈FX acc e.on)
 | [],h=>by simp [O9] at h
 | e :: r,h=>by
  simp only [O9] at h;split at h
  ·rename_i hb;simp only [AT,AQ] at h;rcases h with h | h | h
   ·exact ⟨e,AR ..,hb,.inl h⟩
   ·exact ⟨e,AR ..,hb,.inr h⟩
   ·obtain ⟨e',h1,h2⟩:=YY h;exact ⟨e',AW _ h1,h2⟩
  ·obtain ⟨e',h1,h2⟩:=YY h;exact ⟨e',AW _ h1,h2⟩
def N2 (acc:List Nat):List Nat→List Nat
 | []=>acc
 | n :: r=>match HW n acc with
  | true=>N2 acc r
  | false=>N2 (n :: acc) r
theorem QY (k:List Nat→List (List Nat)):∀ (l acc:List Nat),V2 acc l k=k (N2 acc l)
 | [],_=>rfl
 | n :: r,acc=>by
  simp only [V2,N2];cases HW n acc with
  | true=>exact QY k r acc
  | false=>exact QY k r (n :: acc)
theorem dU {j:Nat}:∀ {l acc:List Nat},j∈N2 acc l→j∈acc∨j∈l
 | [],_,h=>.inl h
 | n :: r,acc,h=>by
  simp only [N2] at h;cases hb:HW n acc with
  | true=>
   rw [hb] at h;exact (dU h).imp_right (AW _)
  | false=>
   rw [hb] at h;rcases dU h with h1 | h1
   ·rcases AT.1 h1 with rfl | h1
    ·exact .inr (AR ..)
    ·exact .inl h1
   ·exact .inr (AW _ h1)
theorem oR {j:Nat} {l:List Nat} (h:j∈N2 [] l):j∈l:=(dU h).resolve_left (by simp)
theorem e9:∀ (l:List Oper) (acc:List (List Nat)) (i:Nat),i < acc.length→FX (GR acc l) i=FX acc i
 | [],_,_,_=>rfl
 | o :: r,acc,i,h=>by
  simp only [GR,QY];rw [e9 r _ i (by simp; omega),SJ,SJ,List.getElem?_append_left h]
theorem e8:∀ (l:List Oper) (acc:List (List Nat)) (i:Nat) (o:Oper),l[i]?=some o →
  ∃ acc',acc'.length=acc.length+i∧FX (GR acc l) (acc.length+i)=N2 [] (O9 acc' o.after.toList)∧∀ k,k < acc'.length→FX acc' k=FX (GR acc l) k
 | [],_,_,_,h=>by simp at h
 | o :: r,acc,0,o',h=>by
  simp only [BE,AB] at h;subst h;refine ⟨acc,rfl,?_,fun k hk=>?_⟩
  ·simp only [GR,QY,vaa];rw [e9 r _ acc.length (by simp),SJ];simp
  ·simp only [GR,QY];rw [e9 r _ k (by simp; omega),SJ,SJ,List.getElem?_append_left hk]
 | o :: r,acc,i+1,o',h=>by
  simp only [CD] at h;obtain ⟨acc',h1,h2,h3⟩:=e8 r (acc++[N2 [] (O9 acc o.after.toList)]) i o' h;simp only [AS,AP,BZ] at h1 h2;refine ⟨acc',by omega,?_,fun k hk=>by rw [GR,QY]; exact h3 k hk⟩;rw [show acc.length+(i+1)=acc.length+(0+1)+i by omega,GR,QY];exact h2
theorem XT:∀ {l:List Oper} {k i:Nat} {o:Oper} {e:Edge},NT k l=true→l[i]?=some o→e∈o.after.toList→vaW .any e=true→e.on < k+i
 | [],_,_,_,_,_,h,_,_=>by simp at h
 | o :: r,k,0,o',e,hu,h,he,hb=>by
  simp only [BE,AB] at h;subst h;simp only [NT,AG] at hu;have key:∀ (es:List Edge),NT.go k es=true→e∈es→e.on < k:=by
   intro es
   induction es with
   | nil=>intro _ h; cases h
   | cons x es ih=>
    intro hg hm;simp only [NT.go] at hg;rcases AT.1 hm with h1 | h1
    ·subst h1;rw [hb] at hg;simp only [AG] at hg;exact AL hg.1
    ·split at hg
     ·simp only [AG] at hg;exact ih hg.2 h1
     ·exact ih hg h1
  exact key _ hu.1 he
 | o :: r,k,i+1,o',e,hu,h,he,hb=>by
  simp only [CD] at h;simp only [NT,AG] at hu
  have:=XT hu.2 h he hb
  omega
section
variable {ops:List Oper}
def iG (ops:List Oper) (L:Nat→Bool):Prop:=∀ i o,ops[i]?=some o→L i=true→∀ e∈o.after.toList,vaW .any e=true→L e.on=true
theorem p9 (hu:NT 0 ops=true):∀ (i:Nat) {o:Oper},ops[i]?=some o→∀ j∈FX (GR [] ops) i,j < i:=by
 intro i
 induction i using Nat.strongRecOn with
 | _ i ih=>
  intro o ho j hj;obtain ⟨acc',h1,h2,h3⟩:=e8 ops [] i o ho;simp only [BZ,A3] at h1 h2;rw [h2] at hj;obtain ⟨e,he,hb,h4⟩:=YY (oR hj);have hlt:=XT hu ho he hb;rw [A3] at hlt;rcases h4 with h4 | h4
  ·omega
  ·have hk:e.on < acc'.length:=by omega
   rw [h3 _ hk] at h4;have hlen:i < ops.length:=(A5.1 ho).1
   have:=ih e.on hlt (o:=ops[e.on]'(by omega)) (by simp [Nat.lt_trans hlt hlen]) j h4
   omega
theorem qA {L:Nat→Bool} (hu:NT 0 ops=true) (hL:iG ops L):∀ (i:Nat) {o:Oper},ops[i]?=some o→(∀ e∈o.after.toList,vaW .any e=true→L e.on=true)→∀ j∈FX (GR [] ops) i,L j=true:=by
 intro i
 induction i using Nat.strongRecOn with
 | _ i ih=>
  intro o ho hr j hj;obtain ⟨acc',h1,h2,h3⟩:=e8 ops [] i o ho;simp only [BZ,A3] at h1 h2;rw [h2] at hj;obtain ⟨e,he,hb,h4⟩:=YY (oR hj);have hlt:=XT hu ho he hb;rw [A3] at hlt;rcases h4 with h4 | h4
  ·subst h4;exact hr e he hb
  ·have hk:e.on < acc'.length:=by omega
   rw [h3 _ hk] at h4;have hlen:i < ops.length:=(A5.1 ho).1;have hg:ops[e.on]?=some (ops[e.on]'(by omega)):=by simp [Nat.lt_trans hlt hlen]
   exact ih e.on hlt hg (hL e.on _ hg (hr e he hb)) j h4
end
theorem Lz {d:Option Nat} {l:List Nat} (h:pH d l=false):∀ t,d=some t→t ∉ l:=by
 rintro t rfl;exact V0.1 h
theorem Ly {d e:Option Nat} (h:eI d e=false):∀ t,d=some t→e≠some t:=by
 rintro t rfl h';subst h';simp only [eI] at h;exact GD.1 h rfl
theorem pV {ps:List (List Nat)} {pi:List Nat} {i:Nat} {x:Dn}:∀ {l:List Dn} {k j:Nat} {y:Dn},SN ps pi i x k l=true→l[j]?=some y→i≠k+j→V6 pi (FX ps (k+j)) i (k+j) x y=true
 | [],_,_,_,_,h,_=>by simp at h
 | z :: r,k,0,y,h,hy,hne=>by
  simp only [BE,AB] at hy;subst hy;simp only [SN,AG,Bool.or_eq_true] at h;rcases h.1 with h1 | h1
  ·exact absurd (EI.1 h1) hne
  ·exact h1
 | z :: r,k,j+1,y,h,hy,hne=>by
  simp only [CD] at hy;simp only [SN,AG] at h
  have:=pV (k:=k+1) h.2 hy (by omega)
  rw [show k+(j+1)=k+1+j by omega];exact this
theorem pU {ps:List (List Nat)} {all:List Dn}:∀ {l:List Dn} {k i:Nat} {x:Dn},V7 ps all k l=true→l[i]?=some x→SN ps (FX ps (k+i)) (k+i) x 0 all=true
 | [],_,_,_,_,h=>by simp at h
 | z :: r,k,0,x,h,hx=>by
  simp only [BE,AB] at hx;subst hx;simp only [V7,AG] at h;exact h.1
 | z :: r,k,i+1,x,h,hx=>by
  simp only [CD] at hx;simp only [V7,AG] at h
  have:=pU (k:=k+1) h.2 hx
  rw [show k+(i+1)=k+1+i by omega];exact this
theorem iM {ds:List Nat}:∀ {l:List Nat},W7 ds l=true→∀ n∈l,LF ds n=true
 | [],_,n,h=>by cases h
 | m :: r,h,n,hn=>by
  simp only [W7,AG] at h;rcases AT.1 hn with e | e
  ·subst e; exact h.1
  ·exact iM h.2 n e
theorem eC {ds:List Nat}:∀ {l:List Dn} {i:Nat} {x:Dn},V3 ds l=true→l[i]?=some x→LY x.v=true∧LQ x.us=true∧∀ n∈LL x.us,LF ds n=true
 | [],_,_,_,h=>by simp at h
 | z :: r,0,x,h,hx=>by
  simp only [BE,AB] at hx;subst hx;simp only [V3,AG] at h;exact ⟨h.1,h.2.1,iM h.2.2.1⟩
 | z :: r,i+1,x,h,hx=>by
  simp only [CD] at hx;simp only [V3,AG] at h;exact eC h.2.2.2 hx
theorem uV {n:Nat}:∀ {us:List Upd},LQ us=true→n ∉ O5 us→∀ u∈us,∀ m ob,(u = .new m ob∨u = .set m ob)→FD n (some ob)=some ob
 | [],_,_,u,hu,_,_,_=>by cases hu
 | u :: r,ho,hn,u',hu',m,ob,he=>by
  have h1:LQ r=true∧n ∉ O5 r∧(∀ m ob,(u = .new m ob∨u = .set m ob)→FD n (some ob)=some ob):=by
   cases u with
   | kill k=>exact ⟨ho,hn,fun m ob h=>by rcases h with h | h <;> cases h⟩
   | set k ob'=>
    simp only [LQ,AG] at ho;simp only [O5,AQ,not_or] at hn;refine ⟨ho.2.2,hn.2,fun m ob h=>?_⟩;rcases h with h | h <;> cases h
    exact ZM ho.1 hn.1
   | new k ob'=>
    simp only [LQ,AG] at ho;simp only [O5,AQ,not_or] at hn;refine ⟨ho.2.2,hn.2,fun m ob h=>?_⟩;rcases h with h | h <;> cases h
    exact ZM ho.1 hn.1
  rcases AT.1 hu' with h | h
  ·subst h;exact h1.2.2 m ob he
  ·exact uV h1.1 h1.2.1 u' h m ob he
theorem gR {t:Nat}:∀ {l:List Operand},Operand.tmp t∈l→t∈RD l
 | x :: r,h=>by
  rcases AT.1 h with h1 | h1
  ·subst h1; exact AR ..
  ·cases x <;> simp only [RD,AT] <;> first | exact .inr (gR h1) | exact gR h1
theorem lQ {α:Type} {p q:α→Bool}:∀ {l:List α},(∀ x∈l,q x=true→p x=true)→(∃ x∈l,p x=true∧q x=false)→l.countP q < l.countP p
 | [],_,⟨_,h,_⟩=>by cases h
 | y :: r,h,⟨x,hx,h1,h2⟩=>by
  have hr:r.countP q≤r.countP p:=by
   clear hx;have h':∀ x∈r,q x=true→p x=true:=fun x hx=>h x (AW _ hx)
   exact List.countP_mono_left h'
  rcases AT.1 hx with e | e
  ·subst e;rw [vaO h1,vbc (by simp [h2])];omega
  ·have:=lQ (l:=r) (fun x hx=>h x (AW _ hx)) ⟨x,e,h1,h2⟩
   by_cases hq:q y=true
   ·rw [vaO (h y (AR ..) hq),vaO hq];omega
   ·rw [vbc hq];by_cases hp:p y=true
    ·rw [vaO hp]; omega
    ·rw [vbc hp]; omega
section
variable {B:BT} {nt:Nat} {w0:World} {X:Zone} {γ:Nat→Value} {st st':St} {a:Act} {w:World} {P:Program} {E:Env}
variable (hT:TiOK P B E) (hE:∀ t,t∈E.eqs→EqSnd P t (E.tyd t).ks) (hSp:SpOK P B E w0 X) (hB:BldOK P B E) (hnt:E.nt=nt) (hn9:nt≤900000)
include hT hE hSp hB hnt hn9
theorem y9 {Q:Exit→Act→World→Prop} {ops:Array Oper} {s0:St} {Ds:List Dn} (hs:Steps E ops.toList ops.toList s0 Ds) (hfree:cM ops.toList Ds=true)
  (hfr:∀ n,LF (QJ ops.toList) n=true→Fr n s0) (hQ:∀ γ' a' w',Rel B nt w0 X γ' (apDs s0 Ds) a' w'→Q .normal a' w') :
  ∀ (fuel:Nat) (listed:Array Bool) {γ:Nat→Value} {a:Act} {w:World},listed.size=ops.size→iG ops.toList (fun i=>listed.getD i false) →
   (List.range ops.size).countP (fun i=>!listed.getD i false)≤fuel→Rel B nt w0 X γ (apDs s0 (DU (fun i=>listed.getD i false) 0 Ds)) a w→wpAny P .any ops Q fuel listed a w:=by
 have hlen:Ds.length=ops.size:=by simpa using hs.length
 simp only [cM,AG] at hfree;obtain ⟨hup,hone,hpairs⟩:=hfree;have hgd:∀ (listed:Array Bool) (i:Nat),listed.size=ops.size→i < ops.size→listed.getD i true=listed.getD i false:=fun listed i h1 h2=>by
  simp [Array.getD,h1,h2]
 have hready:∀ (listed:Array Bool) (i:Nat),listed.size=ops.size→(i∈vbr .any ops listed↔∃ o,ops.toList[i]?=some o∧listed.getD i false=false∧∀ e∈o.after.toList,vaW .any e=true→listed.getD e.on false=true):=by
  intro listed i hsz;simp only [vbr,List.mem_filter,List.mem_range,AG,BO];constructor
  ·rintro ⟨h1,h2,h3⟩;refine ⟨ops[i],by simp [h1],by rw [← hgd listed i hsz h1]; exact h2,fun e he hb=>?_⟩;simp only [Array.getElem?_eq_getElem h1,vag,vaq,vbt,Bool.or_eq_true,BO] at h3;rcases h3 e (by simpa using he) with h4 | h4
   ·rw [hb] at h4; cases h4
   ·exact h4
  ·rintro ⟨o,ho,h2,h3⟩;obtain ⟨h1,rfl⟩:=A5.1 ho;simp only [CS] at h1;refine ⟨h1,by rw [hgd listed i hsz h1]; exact h2,?_⟩;simp only [Array.getElem?_eq_getElem h1,vag,vaq,vbt,Bool.or_eq_true,BO];intro e he;cases hb:vaW .any e with
   | false=>exact .inl rfl
   | true=>exact .inr (h3 e (by simpa using he) hb)
 have hend:∀ (listed:Array Bool) {γ:Nat→Value} {a:Act} {w:World},(∀ i,i < ops.size→listed.getD i false=true)→Rel B nt w0 X γ (apDs s0 (DU (fun i=>listed.getD i false) 0 Ds)) a w→Q .normal a w:=by
  intro listed γ a w hall h;rw [SW (L':=fun _=>true) _ _ (fun j _ h2=>hall j (by omega)),r9] at h;exact hQ γ a w h
 have hnil:∀ (listed:Array Bool),listed.size=ops.size→vbr .any ops listed=[]→∀ i,i < ops.size→listed.getD i false=true:=by
  intro listed hsz hr i
  induction i using Nat.strongRecOn with
  | _ i ih=>
   intro hi;cases hL:listed.getD i false with
   | true=>rfl
   | false=>
    exfalso;have hm:i∈vbr .any ops listed:=by
     refine (hready listed i hsz).2 ⟨ops[i],by simp [hi],hL,fun e he hb=>?_⟩
     have:=XT (i:=i) hup (by simp [hi]:ops.toList[i]?=some ops[i]) he hb
     exact ih e.on (by omega) (by omega)
    rw [hr] at hm;cases hm
 intro fuel
 induction fuel with
 | zero=>
  intro listed γ a w hsz hcl hcount h;have hall:∀ i,i < ops.size→listed.getD i false=true:=by
   intro i hi;have h0:(List.range ops.size).countP (fun i=>!listed.getD i false)=0:=by omega
   have:=(List.countP_eq_zero.1 h0) i (List.mem_range.2 hi)
   simpa using this
  refine ⟨?_,hend listed hall h⟩;refine List.eq_nil_iff_forall_not_mem.2 (fun i hi=>?_);obtain ⟨o,ho,h2,_⟩:=(hready listed i hsz).1 hi;have h1:i < ops.size:=by simpa using (A5.1 ho).1
  rw [hall i h1] at h2;cases h2
 | succ fuel ih=>
  intro listed γ a w hsz hcl hcount h;refine ⟨fun hr=>hend listed (hnil listed hsz hr) h,fun i hi=>?_⟩;obtain ⟨o,ho,hLi,hedges⟩:=(hready listed i hsz).1 hi;have hi':i < ops.size:=by simpa using (A5.1 ho).1
  have hoi:ops[i]?=some o:=by simpa using ho
  obtain ⟨D,hD⟩:∃ D,Ds[i]?=some D:=⟨Ds[i]'(by omega),by simp [hlen,hi']⟩;generalize hLdef:(fun i=>listed.getD i false)=L at *;have hL:∀ j,listed.getD j false=L j:=fun j=>congrFun hLdef j
  simp only [hL] at hLi hedges;have hin:∀ j∈FX (GR [] ops.toList) i,L j=true:=qA hup hcl i ho hedges;have hout:∀ j D',Ds[j]?=some D'→L j=true→i ∉ FX (GR [] ops.toList) j:=by
   intro j D' hj hLj hm;have hj':j < ops.size:=by have:=(A5.1 hj).1; omega
   have hoj:ops.toList[j]?=some ops[j]:=by simp [hj']
   have:=qA hup hcl j hoj (hcl j _ hoj hLj) i hm
   rw [hLi] at this;cases this
  have hlt:∀ j,j∈FX (GR [] ops.toList) i→j < i:=p9 hup i ho;have hltj:∀ j D',Ds[j]?=some D'→i∈FX (GR [] ops.toList) j→i < j:=by
   intro j D' hj hm;have hj':j < ops.size:=by have:=(A5.1 hj).1; omega
   exact p9 hup j (by simp [hj']:ops.toList[j]?=some ops[j]) i hm
  have hpair:∀ j D',Ds[j]?=some D'→i≠j→V6 (FX (GR [] ops.toList) i) (FX (GR [] ops.toList) j) i j D D'=true:=by
   intro j D' hj hne;have h1:=pU (k:=0) hpairs hD;rw [A3] at h1;have h2:=pV (k:=0) h1 hj (by omega)
   rwa [A3] at h2
  have hunord:∀ j D',Ds[j]?=some D'→i≠j→i ∉ FX (GR [] ops.toList) j→j ∉ FX (GR [] ops.toList) i →
    (∀ t,D'.dst=some t→t ∉ D.tm)∧(∀ t,D.dst=some t→D'.dst≠some t)∧(∀ n∈GL D'.us,n ∉ D.rd)∧(∀ n∈GL D.us,n ∉ GL D'.us):=by
   intro j D' hj hne h1 h2;have hp:=hpair j D' hj hne;simp only [V6,V0.2 h1,V0.2 h2,AG,BO] at hp;exact ⟨Lz hp.2.1,Ly hp.2.2.1,R5.1 hp.2.2.2.1,R5.1 hp.2.2.2.2⟩
  have hdiff:∀ j D',Ds[j]?=some D'→L j≠decide (j < i)→i≠j∧i ∉ FX (GR [] ops.toList) j∧j ∉ FX (GR [] ops.toList) i:=by
   intro j D' hj hne;cases hLj:L j with
   | true=>
    rw [hLj] at hne;have hji:¬ j < i:=fun h=>hne (by simp [h])
    have hij:i≠j:=fun e=>by subst e; rw [hLi] at hLj; cases hLj
    exact ⟨hij,hout j D' hj hLj,fun hm=>hji (hlt j hm)⟩
   | false=>
    rw [hLj] at hne;have hji:j < i:=by
     rcases vae j i with h | h
     ·exact h
     ·exact absurd (by simp; omega) hne
    refine ⟨by omega,fun hm=>?_,fun hm=>?_⟩
    ·have:=hltj j D' hj hm; omega
    ·have:=hin j hm; rw [hLj] at this; cases this
  have hstep:=Steps.get hs ho hD;have htake:apDs s0 (Ds.take i)=apDs s0 (DU (fun j=>decide (j < i)) 0 Ds):=by
   have:=sA i Ds 0
   rw [A3] at this;rw [this]
  rw [htake] at hstep;have hobj:∀ n∈D.rd,CY (apDs s0 (DU L 0 Ds)).o n=CY (apDs s0 (DU (fun j=>decide (j < i)) 0 Ds)).o n:=by
   intro n hn;refine N8 Ds 0 rfl (fun j D' hj hnm=>?_);rw [A3];refine vby (fun hne=>?_);obtain ⟨h1,h2,h3⟩:=hdiff j D' hj hne;exact (hunord j D' hj h1 h2 h3).2.2.1 n hnm hn
  have htm:∀ t∈D.tm,(apDs s0 (DU L 0 Ds)).get t=(apDs s0 (DU (fun j=>decide (j < i)) 0 Ds)).get t:=by
   intro t ht;refine N7 Ds 0 rfl (fun j D' hj hnm=>?_);rw [A3];refine vby (fun hne=>?_);obtain ⟨h1,h2,h3⟩:=hdiff j D' hj hne;exact (hunord j D' hj h1 h2 h3).1 t hnm ht
  have hafter:SEq (apD (apDs s0 (DU L 0 Ds)) D) (apDs s0 (DU (fun j=>(listed.setIfInBounds i true).getD j false) 0 Ds)):=by
   have hset:∀ j,(listed.setIfInBounds i true).getD j false=(L j||A4 j i):=by
    intro j;rw [← hL j];simp only [vbh,Array.getElem?_setIfInBounds,hsz];by_cases e:i=j
    ·subst e;simp [hi',vbd]
    ·rw [AX e,GD.2 (fun h=>e h.symm),va9]
   rw [show (fun j=>(listed.setIfInBounds i true).getD j false)=(fun j=>L j||A4 j i) from funext hset];have hsplit:Ds=Ds.take i++D :: Ds.drop (i+1):=by
    have hi2:i < Ds.length:=by omega
    have h1:Ds[i]=D:=by have:=A5.1 hD; exact this.2
    rw [← h1];simp
   have hlate:∀ j D',(Ds.drop (i+1))[j]?=some D'→L (i+1+j)=true→(∀ t,D.dst=some t→D'.dst≠some t)∧∀ n∈GL D.us,n ∉ GL D'.us:=by
    intro j D' hj hLj;have hj':Ds[i+1+j]?=some D':=by rw [← hj,vaB]
    have h2:=hout _ D' hj' hLj;have h3:i+1+j ∉ FX (GR [] ops.toList) i:=fun hm=>by have:=hlt _ hm; omega
    exact ⟨(hunord _ D' hj' (by omega) h2 h3).2.1,(hunord _ D' hj' (by omega) h2 h3).2.2.2⟩
   have hli:(Ds.take i).length=i:=by simp; omega
   have hR:∀ s,apDs s (DU (fun j=>L j||A4 j i) 0 Ds)=apDs (apD (apDs s (DU L 0 (Ds.take i))) D) (DU L (i+1) (Ds.drop (i+1))):=by
    intro s;rw [show DU (fun j=>L j||A4 j i) 0 Ds=DU (fun j=>L j||A4 j i) 0 (Ds.take i++D :: Ds.drop (i+1)) by rw [← hsplit]];rw [fW,aO,hli,A3];simp only [DU,vbd,Bool.or_true,apDs];rw [SW (L':=L) (Ds.take i) 0 (fun j _ h2=>by rw [GD.2 (by omega),va9]),SW (L':=L) (Ds.drop (i+1)) (i+1) (fun j h1 _=>by rw [GD.2 (by omega),va9])]
   have hLs:∀ s,apDs s (DU L 0 Ds)=apDs (apDs s (DU L 0 (Ds.take i))) (DU L (i+1) (Ds.drop (i+1))):=by
    intro s;rw [show DU L 0 Ds=DU L 0 (Ds.take i++D :: Ds.drop (i+1)) by rw [← hsplit]];rw [fW,aO,hli,A3];simp only [DU,hLi]
   rw [hR,hLs];generalize apDs s0 (DU L 0 (Ds.take i))=s1;refine ⟨fun t=>?_,fun n=>?_⟩
   ·by_cases e:D.dst=some t
    ·rw [LW,A6 e]
     have:(apDs (apD s1 D) (DU L (i+1) (Ds.drop (i+1)))).get t=(apDs (apD s1 D) (DU (fun _=>false) (i+1) (Ds.drop (i+1)))).get t:=by
      refine N7 _ _ rfl (fun j D' hj hd=>?_);cases hLj:L (i+1+j) with
      | false=>rfl
      | true=>exact absurd hd ((hlate j D' hj hLj).1 t e)
     rw [this,WJ];simp only [apDs];rw [LW,A6 e]
    ·rw [LW,AX e];exact N7 _ _ (by rw [LW,AX e]) (fun _ _ _ _=>rfl)
   ·by_cases e:n∈GL D.us
    ·have:CY (apDs (apD s1 D) (DU L (i+1) (Ds.drop (i+1)))).o n=CY (apDs (apD s1 D) (DU (fun _=>false) (i+1) (Ds.drop (i+1)))).o n:=by
      refine N8 _ _ rfl (fun j D' hj hd=>?_);cases hLj:L (i+1+j) with
      | false=>rfl
      | true=>exact absurd hd ((hlate j D' hj hLj).2 n e)
     rw [this,WJ];exact gV e
    ·have h1:CY (apD (apDs s1 (DU L (i+1) (Ds.drop (i+1)))) D).o n=CY (apDs s1 (DU L (i+1) (Ds.drop (i+1)))).o n:=PK e;rw [h1];exact N8 _ _ (PK e).symm (fun _ _ _ _=>rfl)
  have hnext:∀ γ' a' w',Rel B nt w0 X γ' (apD (apDs s0 (DU L 0 Ds)) D) a' w'→wpAny P .any ops Q fuel (listed.setIfInBounds i true) a' w':=by
   intro γ' a' w' h';have hset:∀ j,(listed.setIfInBounds i true).getD j false=(L j||A4 j i):=by
    intro j;rw [← hL j];simp only [vbh,Array.getElem?_setIfInBounds,hsz];by_cases e:i=j
    ·subst e;simp [hi',vbd]
    ·rw [AX e,GD.2 (fun h=>e h.symm),va9]
   refine ih (listed.setIfInBounds i true) (by simpa using hsz) ?_ ?_ (h'.seq hafter)
   ·intro j o' ho' hLj e he hb;simp only [hset] at hLj ⊢;by_cases e':j=i
    ·subst e';rw [ho] at ho';simp only [AB] at ho';subst ho';rw [hedges e he hb];rfl
    ·rw [GD.2 e',va9] at hLj;rw [hcl j o' ho' hLj e he hb];rfl
   ·have:(List.range ops.size).countP (fun j=>!(listed.setIfInBounds i true).getD j false) < (List.range ops.size).countP (fun j=>!listed.getD j false):=by
     refine lQ (fun j _ hj=>?_) ⟨i,List.mem_range.2 hi',by rw [hL,hLi]; rfl,by rw [hset,vbd,Bool.or_true]; rfl⟩;rw [hset] at hj;rw [hL];cases hLj:L j <;> simp_all
    simp only [hL] at this hcount;omega
  obtain ⟨hok,hdst,htms,hguard⟩:=hstep;have hclean:=eC hone hD;have run:(DA E (apDs s0 (DU (fun j=>decide (j < i)) 0 Ds)).o (opd (apDs s0 (DU (fun j=>decide (j < i)) 0 Ds))) o.dst o.op).get=some (D.v,D.us)→D.rd=J5 E (apDs s0 (DU (fun j=>decide (j < i)) 0 Ds)).o (opd (apDs s0 (DU (fun j=>decide (j < i)) 0 Ds))) o.op →
    (∀ x∈o.op.operands.toList,∀ t,x = .tmp t→t∈D.tm)→o.wp P a w (wpAny P .any ops Q fuel (listed.setIfInBounds i true)) Q:=by
   intro he hrd htmo;have h1:DA E (apDs s0 (DU L 0 Ds)).o (opd (apDs s0 (DU L 0 Ds))) o.dst o.op=DA E (apDs s0 (DU (fun j=>decide (j < i)) 0 Ds)).o (opd (apDs s0 (DU (fun j=>decide (j < i)) 0 Ds))) o.dst o.op:=by
    rw [zI (ρ:=opd (apDs s0 (DU L 0 Ds))) (ρ':=opd (apDs s0 (DU (fun j=>decide (j < i)) 0 Ds))) (fun x hx=>?_)]
    ·exact mM (fun n hn=>hobj n (by rw [hrd]; exact hn))
    ·cases x with
     | tmp t=>exact htm t (htmo _ hx t rfl)
     | _=>rfl
   rw [← h1] at he;have hn9':∀ d,o.dst=some d→d≠900000:=fun d hdd e=>by
    subst e;rw [hdd] at hok;simp only [L6] at hok;have h8:900000+1≤E.nt:=AL hok;omega
   refine pG hT hE hSp hB h o hn9' he _ _ (fun γ' x w' h3 h4=>hnext γ' _ w' ?_);refine (h3.put hnt hok h4).seq ?_;have hfr':∀ n∈LL D.us,Fr n (apDs s0 (DU L 0 Ds)):=by
    intro n hn;refine fV Ds 0 (hfr n (hclean.2.2 n hn)) (fun j D' hj hLj=>?_);rw [A3] at hLj;have hne:i≠j:=fun e=>by subst e; rw [hLi] at hLj; cases hLj
    have hp:=hpair j D' hj hne;simp only [V6,V0.2 (hout j D' hj hLj),AG] at hp;have hdj:=R5.1 hp.1 n hn;simp only [AQ,not_or] at hdj;have hc':=eC hone hj;exact ⟨hc'.1,hdj.1,uV hc'.2.1 hdj.2⟩
   have:=(aD hfr' hclean.2.1).put o.dst D.v
   refine this.trans ?_;rw [← hdst];cases hdd:D.dst <;> exact ⟨fun t=>by simp only [apD,hdd,St.put]; try rfl,fun n=>by simp only [apD,St.put]⟩
  unfold wpOp;rw [hoi];simp only;have htmo:∀ x∈o.op.operands.toList,∀ t,x = .tmp t→t∈D.tm:=by
   rintro x hx t rfl
   have:=gR hx
   rw [htms];unfold I5;split
   ·split
    ·exact AW _ this
    ·exact this
   ·exact this
  split at hguard
  ·rename_i hg;rw [A6 (by simp [CO,hg])];exact .inl (run hguard.1 hguard.2 htmo)
  ·rename_i j b hg;have skip:D.v = .tup []→D.us=[]→CO o (yielded ops a.tmps)=false→(if CO o (yielded ops a.tmps)=true then o.wp P a w (wpAny P .any ops Q fuel (listed.setIfInBounds i true)) Q∨(o.asks P a w∧LetsOut Q) else wpAny P .any ops Q fuel (listed.setIfInBounds i true) (a.put o.dst undef) w):=by
    intro h1 h2 h3;rw [AX (by rw [h3]; simp)];refine hnext γ _ w ?_;refine (h.put hnt hok (v:=.tup []) (x:=undef) (by simp only [VRel]; exact ⟨#[],rfl,by simp only [VRels]⟩)).seq ?_;rw [← hdst,← h1];cases hdd:D.dst <;> exact ⟨fun t=>by simp only [apD,hdd,St.put]; try rfl,fun n=>by simp only [apD,St.put,h2,HC]⟩
   have hdjm0:∀ dj,LA ops.toList j=some dj→dj∈D.tm:=by
    intro dj hdj;rw [htms];unfold I5;rw [hg];simp only [hdj];exact AR ..
   rcases hguard with ⟨dj,c,hdj,hc,hcase⟩ | ⟨dj,hdj,hc,h1,h2⟩
   case inr=>
    rw [← htm dj (hdjm0 dj hdj)] at hc;have hy:yielded ops a.tmps j=none:=by
     unfold yielded;rw [show ops[j]?=ops.toList[j]? by simp,VB _ _ _ hdj];rcases uT h hc with h0 | h0 <;> simp [h0]
    exact skip h1 h2 (by simp [CO,hg,hy])
   have hdjm:dj∈D.tm:=by
    rw [htms];unfold I5;rw [hg];simp only [hdj];exact AR ..
   rw [← htm dj hdjm] at hc;have hy:yielded ops a.tmps j=some c:=by
    unfold yielded;rw [show ops[j]?=ops.toList[j]? by simp,VB _ _ _ hdj];simp [i5 h hc]
   rcases hcase with ⟨rfl,h1,h2⟩ | ⟨hne,h1,h2⟩
   ·rw [A6 (by simp [CO,hg,hy])];exact .inl (run h1 h2 htmo)
   ·exact skip h1 h2 (by simp [CO,hg,hy,hne])
theorem zG {Q:Exit→Act→World→Prop} (hm:P.follows .mixedOrders=true) {r:V × List (List V)} {id:Nat} {ops:Array Oper} {k:St→C0} {γ:Nat→Value} {st:St} {a:Act} {w:World}
  (he:cC E ops.toList st k=some r) (h:Rel B nt w0 X γ st a w) (hk:∀ γ' st' a' w',Rel B nt w0 X γ' st' a' w'→k st'=some r→Q .normal a' w'):(Code.region id ops true).wp P Q a w:=by
 refine wp_region_any hm ?_;unfold cC at he;obtain ⟨Ds,s',h1,h2,h3⟩:=mL ops.toList he;split at h3
 ·rename_i hf;simp only [va8,List.reverse_reverse] at hf;have h0:Rel B nt w0 X γ (JU (QJ ops.toList) st) a { w with drawn:=w.drawn+1 }:=(h.clear (QJ ops.toList)).world (Keep.drew _ w);refine y9 hT hE hSp hB hnt hn9 h1 hf (fun n hn=>yM hn st) (fun γ' a' w' h'=>hk γ' s' a' w' (h'.seq h2.symm) h3) ops.size (Array.replicate ops.size false) (by simp) ?_ ?_ (γ:=γ) ?_
  ·intro i o ho hL;have hi:i < ops.size:=by simpa using (A5.1 ho).1
   simp [Array.getD,hi] at hL
  ·refine CR (List.countP_le_length) ?_;simp
  ·rw [SW (L':=fun _=>false) _ _ (fun j _ _=>by simp [Array.getD]),WJ];exact h0
 ·cases h3
end
open Go Go.RowKit
section
variable {B:BT} {nt:Nat} {w0:World} {X:Zone} {γ:Nat→Value} {st st':St} {a:Act} {w:World} {P:Program} {E:Env}
theorem YH (s:St):∀ (l:List Nat) (i:Nat),D6 .any (O3 s l) i=s.get i∨D6 .any (O3 s l) i = .any
 | [],i=>.inr rfl
 | j :: r,i=>by
  simp only [O3,MU];by_cases e:j=i
  ·subst e; simp
  ·simp only [AX e];exact YH s r i
theorem nS (s:St):∀ (l:List Nat) (n:Nat) (ob:Ob),CY (VM s l) n=some ob→CY s.o n=some ob
 | [],n,ob,h=>by simp [VM,CY,D6] at h
 | j :: r,n,ob,h=>by
  simp only [VM,DF] at h;split at h
  ·rename_i e;subst e;exact h
  ·exact nS s r n ob h
theorem Rel.prune (h:Rel B nt w0 X γ st a w) (kp:Option (List Nat)):Rel B nt w0 X γ (prune kp st) a w:=by
 cases kp with
 | none=>exact h
 | some l=>exact h.less (fun i=>YH st l i) (fun _ _ h=>h)
theorem VRels.putOne {γ:Nat→Value} {o:Store} {w:World} {O:Nat→Prop} {v:V} {x:Value} (hv:VRel γ o w O v x):∀ {cs:List V} {xs:List Value} {c:Nat},VRels γ o w O cs xs→xs[c]?=some x→VRels γ o w O (E6 cs c [v]) xs
 | [],[],_,_,h=>by simp at h
 | [],_ :: _,_,h,_=>by simp only [VRels] at h
 | _ :: _,[],_,h,_=>by simp only [VRels] at h
 | u :: cs,y :: xs,0,h,hx=>by
  simp only [VRels] at h;simp only [BE,AB] at hx;subst hx
  have:E6 cs 0 []=cs:=by cases cs <;> rfl
  simp only [E6,this,VRels];exact ⟨hv,h.2⟩
 | u :: cs,y :: xs,c+1,h,hx=>by
  simp only [VRels] at h;simp only [CD] at hx;simp only [E6,VRels];exact ⟨h.1,VRels.putOne hv h.2 hx⟩
def wY (γ:Nat→Value) (o:Store) (w:World) (a:Act) (x:Value):Loc→Prop
 | .tmp t=>x=a.tmps.getD t undef
 | .cell b c=>∃ cs bb T cc,CY o b=some (.box cs)∧γ b = .pointer (some ⟨bb,0,none⟩)∧w.heap[bb]?=some (.cells cc T (0,0))∧cc.toList[c]?=some x
def aK (γ:Nat→Value) (o:Store) (w:World) (a:Act) (x:Value):Loc→Prop
 | .tmp t=>x=a.tmps.getD t undef
 | .cell b c=>∀ cs,CY o b=some (.box cs)→∃ bb T cc,γ b = .pointer (some ⟨bb,0,none⟩)∧w.heap[bb]?=some (.cells cc T (0,0))∧cc.toList[c]?=some x
theorem Rel.at (h:Rel B nt w0 X γ st a w) (l:Loc) {v:V} (hv:dK st l=v) (hne:v≠.any):∃ x,VRel γ st.o w (CZ X γ st.o) v x ∧
  wY γ st.o w a x l:=by
 subst hv;cases l with
 | tmp t=>exact ⟨_,h.tm t,rfl⟩
 | cell b c=>
  simp only [dK] at hne ⊢;split at hne
  ·rename_i cs hob;have hor:=h.ob b _ hob;simp only [ObRel] at hor;obtain ⟨bb,cc,T,hg,hh,hr⟩:=hor;rw [V1] at hne ⊢;cases hc:cs[c]? with
   | none=>rw [hc] at hne; exact absurd rfl hne
   | some u=>
    obtain ⟨x,hx,hrx⟩:=hr.get hc;exact ⟨x,hrx,cs,bb,T,cc,hob,hg,hh,hx⟩
  ·exact absurd rfl hne
theorem Rel.putLoc {γ2:Nat→Value} {st2:St} (h2:Rel B nt w0 X γ2 st2 a w) (l:Loc) {v:V} {x:Value} (hv:VRel γ2 st2.o w (CZ X γ2 st2.o) v x)
  (hx:aK γ2 st2.o w a x l):Rel B nt w0 X γ2 (putLoc st2 v l) a w:=by
 cases l with
 | tmp t=>
  simp only [aK] at hx;subst hx;refine ⟨h2.sz,h2.df,fun i=>?_,h2.ob,h2.lt,h2.dis,h2.keep,h2.nr,h2.fl,h2.pn⟩;simp only [FM.putLoc,St.get,MU];split
  ·rename_i e;subst e;exact hv
  ·exact h2.tm i
 | cell b c=>
  simp only [FM.putLoc];split
  ·rename_i cs hob;simp only [aK] at hx;obtain ⟨bb,T,cc,hg,hh,hcx⟩:=hx cs hob;have hob':∀ m,CY ((b,some (.box (E6 cs c [v]))) :: st2.o) m=if b=m then some (.box (E6 cs c [v])) else CY st2.o m:=fun m=>DF ..
   have hlen:(E6 cs c [v]).length=cs.length:=by
    have key:∀ (cs:List V) (c:Nat),(E6 cs c [v]).length=cs.length:=by
     intro cs
     induction cs with
     | nil=>intro c; cases c <;> rfl
     | cons u r ih=>
      intro c;cases c with
      | zero=>
       have:E6 r 0 []=r:=by cases r <;> rfl
       simp [E6,this]
      | succ c=>simp [E6,ih]
    exact key cs c
   have hP:∀ b',ED γ2 ((b,some (.box (E6 cs c [v]))) :: st2.o) b'→ED γ2 st2.o b':=by
    rintro b' ⟨m,ob,hm,hb⟩;rw [hob'] at hm;split at hm
    ·rename_i e;subst e;simp only [AB] at hm;subst hm;exact ⟨_,_,hob,hb⟩
    ·exact ⟨m,ob,hm,hb⟩
   have hO:∀ b',b' < w.heap.size→CZ X γ2 ((b,some (.box (E6 cs c [v]))) :: st2.o) b'→CZ X γ2 st2.o b':=fun b' _ hb=>hb.imp_left (hP b')
   have hc:Cmp γ2 st2.o γ2 ((b,some (.box (E6 cs c [v]))) :: st2.o):=by
    intro m ob' hm;rw [hob'] at hm;split at hm
    ·rename_i e;subst e;simp only [AB] at hm;subst hm;exact ⟨rfl,_,hob,hlen.symm⟩
    ·exact ⟨rfl,ob',hm,ob'.fits_refl⟩
   refine ⟨h2.sz,h2.df,fun i=>VRel.mono (Keep.refl _ w) hO (VRel.cmp hc (h2.tm i)),fun m ob hm=>?_,fun b' hb=>h2.lt b' (hP b' hb),fun m1 m2 ob1 ob2 b' hne h3 h4 hb1 hb2=>?_,h2.keep,fun b' hb=>h2.nr b' (hP b' hb),h2.fl,fun p hp ob hm=>?_⟩
   ·simp only at hm ⊢;rw [hob'] at hm;split at hm
    ·rename_i e;subst e;simp only [AB] at hm;subst hm;have hor:=h2.ob _ _ hob;simp only [ObRel] at hor ⊢;obtain ⟨bb',cc',T',hg',hh',hr'⟩:=hor;rw [hg] at hg';simp only [B9,AB,CP,CE] at hg';subst hg';rw [hh] at hh';simp only [AB,Obj.cells.injEq] at hh';obtain ⟨rfl,rfl,_⟩:=hh';exact ⟨bb,cc,T,hg,hh,VRels.mono (Keep.refl _ w) hO (VRels.cmp hc (VRels.putOne hv hr' hcx))⟩
    ·exact (h2.ob m ob hm).later (fun _ _=>rfl) (Keep.refl _ w) hO hc
   ·have key:∀ m ob,CY ((b,some (.box (E6 cs c [v]))) :: st2.o) m=some ob→D3 (γ2 m) ob b'→∃ ob0,CY st2.o m=some ob0∧D3 (γ2 m) ob0 b':=by
     intro m ob hm hb;rw [hob'] at hm;split at hm
     ·rename_i e;subst e;simp only [AB] at hm;subst hm;exact ⟨_,hob,hb⟩
     ·exact ⟨ob,hm,hb⟩
    obtain ⟨o1,q1,q2⟩:=key m1 ob1 h3 hb1;obtain ⟨o2,q3,q4⟩:=key m2 ob2 h4 hb2;exact h2.dis m1 m2 o1 o2 b' hne q1 q3 q2 q4
   ·simp only at hm;rw [hob'] at hm;split at hm
    ·rename_i e;exact h2.pn p hp _ (e ▸ hob)
    ·exact h2.pn p hp ob hm
  ·exact h2
theorem Rel.canon1 (h:Rel B nt w0 X γ st a w) (c:Can):∃ γ',Rel B nt w0 X γ' (canon1 c st) a w:=by
 unfold FM.canon1;split
 ·exact ⟨γ,h⟩
 rename_i h9;have h9:=GD.1 h9;split
 ·rename_i hv;split
  ·rename_i hks;have hks':0 < c.ks.length:=AL hks;obtain ⟨x,hx,hat⟩:=h.at c.loc hv (by simp);simp only [VRel] at hx;have hadd:=h.add c.nm h9 (.row true c.e c.ag c.ks []) (.slice none 0 0) (fun b hb=>by simp [D3,CA] at hb) (fun O' hO'=>by
    simp only [ObRel];exact ⟨hks',by simp [strMax],[],⟨by simp,.inl ⟨rfl,rfl⟩⟩,fun i y hy=>by simp at hy⟩)
   have hadd:=hadd.shrink (F:=X.far) (fun b hb=>⟨hb,fun hb'=>by simp [D3,CA] at hb'⟩);refine ⟨_,hadd.putLoc c.loc (x:=x) ?_ ?_⟩
   ·simp only [VRel,ES,B8];subst hx;exact ⟨AO _,none,0,0,none,rfl,rfl,AO _,AO _,AO _,by simp [maxLen],.inl rfl,fun _=>rfl⟩
   ·revert hat;cases c.loc with
    | tmp t=>exact fun hat=>hat
    | cell b k=>
     intro hat;obtain ⟨cs,bb,T,cc,q1,q2,q3,q4⟩:=hat;intro cs2 hcs2;rw [ES] at hcs2;split at hcs2
     ·cases hcs2
     ·rename_i hne;exact ⟨bb,T,cc,by simp only [AX hne]; exact q2,q3,q4⟩
  ·exact ⟨γ,h⟩
 ·rename_i n lo hi hv;split
  ·rename_i e ag ks l hn hlo hob;have hn':=GD.1 hn;obtain rfl:=EI.1 hlo;obtain ⟨x,hx,hat⟩:=h.at c.loc hv (by simp);simp only [VRel,hob] at hx;have hk:=h.kill n;have hor:=h.ob n _ hob;have hkb:∀ b,D3 (γ n) (.row true e ag ks l) b→DY γ st.o n b:=fun b hb=>⟨_,hob,hb⟩
   have hadd:=hk.add c.nm h9 (.row true e ag ks l) (γ n) (fun b hb=>⟨.inr (hkb b hb),(h.lt b ⟨n,_,hob,hb⟩).2⟩) (fun O' hO'=>by
    simp only [ObRel] at hor ⊢;obtain ⟨k1,k2,xs,k3,k4⟩:=hor;refine ⟨k1,k2,xs,k3,fun i y hy=>Kd.RelAll.mono (Keep.refl _ w) (fun b _ hb=>?_) (fun _ _ hu=>hu) (k4 i y hy)⟩;rcases hO' b hb with h1 | h1 | h1
    ·obtain ⟨m,ob1,q1,q2⟩:=h1;simp only [St.up] at q1;rw [DF] at q1;split at q1
     ·cases q1
     ·exact .inl ⟨m,ob1,q1,q2⟩
    ·exact .inr h1
    ·obtain ⟨ob1,q1,q2⟩:=h1;exact .inl ⟨n,ob1,q1,q2⟩)
   have hadd:=hadd.shrink (F:=X.far) (fun b hb=>⟨.inl hb,fun hb'=>h.nr b ⟨n,_,hob,hb'⟩ hb⟩);refine ⟨_,hadd.putLoc c.loc (x:=x) ?_ ?_⟩
   ·simp only [VRel,ES,B8];exact hx
   ·revert hat;cases c.loc with
    | tmp t=>exact fun hat=>hat
    | cell b k=>
     intro hat;obtain ⟨cs,bb,T,cc,q1,q2,q3,q4⟩:=hat;intro cs2 hcs2;rw [ES] at hcs2;split at hcs2
     ·cases hcs2
     ·rename_i hne;exact ⟨bb,T,cc,by simp only [AX hne]; exact q2,q3,q4⟩
  ·exact ⟨γ,h⟩
 ·exact ⟨γ,h⟩
theorem Rel.canons:∀ (l:List Can) {γ:Nat→Value} {st:St},Rel B nt w0 X γ st a w→∃ γ',Rel B nt w0 X γ' (canons l st) a w
 | [],γ,st,h=>⟨γ,h⟩
 | c :: r,γ,st,h=>by
  obtain ⟨γ1,h1⟩:=h.canon1 c;exact Rel.canons r h1
theorem Rel.restrict (h:Rel B nt w0 X γ st a w) (kp:KP):∃ γ',Rel B nt w0 X γ' (restrict kp st) a w:=by
 have h1:Rel B nt w0 X γ ⟨O3 st kp.t,st.o⟩ a w:=h.less (fun i=>YH st kp.t i) (fun _ _ h=>h);obtain ⟨γ',h2⟩:=h1.canons kp.c;exact ⟨γ',h2.less (fun i=>YH _ kp.t i) (fun n ob=>nS _ kp.o n ob)⟩
variable (hT:TiOK P B E) (hE:∀ t,t∈E.eqs→EqSnd P t (E.tyd t).ks) (hSp:SpOK P B E w0 X) (hB:BldOK P B E) (hnt:E.nt=nt) (hn9:nt≤900000)
include hT hE hSp hB hnt hn9
theorem cD {Q:Exit→Act→World→Prop} {r:V × List (List V)} {ops:Array Oper} {k:St→C0} :
  ∀ (l:List Oper) (i:Nat) {γ:Nat→Value} {st:St} {a:Act} {w:World},ops.toList.drop i=l→LB E ops.toList l st k=some r→Rel B nt w0 X γ st a w →
   (∀ γ' st' a' w',Rel B nt w0 X γ' st' a' w'→k st'=some r→Q .normal a' w')→wpOps P ops Q (vbb i l.length) a w
 | [],i,γ,st,a,w,hl,he,h,hk=>by
  simp only [LB] at he;exact hk _ _ _ _ h he
 | o :: l,i,γ,st,a,w,hl,he,h,hk=>by
  have hoi:ops[i]?=some o:=by
   rw [← vaw]
   have:=congrArg (·[0]?) hl
   simpa using this
  have hl':ops.toList.drop (i+1)=l:=by
   have:=congrArg (CB 1) hl
   simpa using this
  simp only [AP,List.range'_succ,wpOps,hoi];simp only [LB] at he;have hd:L6 E o.dst=true:=by
   cases hd:L6 E o.dst with
   | true=>rfl
   | false=>rw [hd] at he; cases he
  rw [hd] at he;simp only at he;have go:∀ {st:St},Rel B nt w0 X γ st a w→CO o (yielded ops a.tmps)=true→(SU E st.o (opd st) o.dst o.op fun v us=>LB E ops.toList l ((st.ups us).put o.dst v) k)=some r →
    (if CO o (yielded ops a.tmps)=true then o.wp P a w (wpOps P ops Q (vbb (i+1) l.length)) Q∨(o.asks P a w∧LetsOut Q) else wpOps P ops Q (vbb (i+1) l.length) (a.put o.dst undef) w):=by
   intro st h hw he;rw [A6 hw];obtain ⟨v,us,h2,h1⟩:=Nu hT hE hSp hB h o (fun d hdd e=>by subst e; rw [hdd] at hd; simp only [L6] at hd; have h8:900000+1≤E.nt:=AL hd; omega) he;refine .inl (h1 _ _ (fun γ' x w' h3 h4=>?_));exact cD l (i+1) hl' h2 (h3.put hnt hd h4) hk
  have no:∀ {st:St},Rel B nt w0 X γ st a w→CO o (yielded ops a.tmps)=false→LB E ops.toList l (st.put o.dst (.tup [])) k=some r →
    (if CO o (yielded ops a.tmps)=true then o.wp P a w (wpOps P ops Q (vbb (i+1) l.length)) Q∨(o.asks P a w∧LetsOut Q) else wpOps P ops Q (vbb (i+1) l.length) (a.put o.dst undef) w):=by
   intro st h hw he;rw [AX (by rw [hw]; simp)];exact cD l (i+1) hl' he (h.put hnt hd (by simp only [VRel]; exact ⟨#[],rfl,by simp only [VRels]⟩)) hk
  split at he
  ·rename_i hg;exact go h (by simp [CO,hg]) he
  ·rename_i j b hg;split at he
   ·rename_i dj hdj;split at he
    ·rename_i c hc;have hy:yielded ops a.tmps j=some c:=by
      unfold yielded;rw [show ops[j]?=ops.toList[j]? by simp,VB _ _ _ hdj];simp [i5 h hc]
     have hlit:=h.lit hc;cases c with
     | true=>
      simp only at he;cases b with
      | true=>exact go (st:=st.put (some dj) (.bool true)) hlit (by simp [CO,hg,hy]) he
      | false=>exact no (st:=st.put (some dj) (.bool true)) hlit (by simp [CO,hg,hy]) he
     | false=>
      simp only at he;cases b with
      | false=>exact go (st:=st.put (some dj) (.bool false)) hlit (by simp [CO,hg,hy]) he
      | true=>exact no (st:=st.put (some dj) (.bool false)) hlit (by simp [CO,hg,hy]) he
    ·rename_i hc;have hy:yielded ops a.tmps j=none:=by
      unfold yielded;rw [show ops[j]?=ops.toList[j]? by simp,VB _ _ _ hdj];rcases uT h hc with h0 | h0 <;> simp [h0]
     exact no h (by simp [CO,hg,hy]) he
    ·cases he
   ·cases he
def cH:Out→Exit
 | .normal=>.normal
 | .exit i=>.exit i
 | .ret=>.ret
omit hT hE hSp hB hnt hn9 in
theorem n8 (J:Nat→Prop) (h:∃ n,J n):∃ n,J n∧∀ m,J m→n≤m:=by
 obtain ⟨n,hn⟩:=h
 induction n using Nat.strongRecOn with
 | _ n ih=>
  by_cases hm:∃ m,m < n∧J m
  ·obtain ⟨m,h1,h2⟩:=hm;exact ih m h1 h2
  ·exact ⟨n,hn,fun m hJ=>Nat.le_of_not_lt (fun hlt=>hm ⟨m,hlt,hJ⟩)⟩
theorem QL (hm:P.follows .mixedOrders=true) {r:V × List (List V)}:∀ (c:Code) {k:Out→St→C0} {Q:Exit→Act→World→Prop} {γ:Nat→Value} {st:St} {a:Act} {w:World},L3 E c st k=some r→Rel B nt w0 X γ st a w →
  (∀ o γ' st' a' w',Rel B nt w0 X γ' st' a' w'→k o st'=some r→Q (cH o) a' w')→c.wp P Q a w
 | .skip,k,Q,γ,st,a,w,he,h,hk=>wp_skip (hk .normal γ st a w h he)
 | .exit id,k,Q,γ,st,a,w,he,h,hk=>wp_exit (hk (.exit id) γ st a w h he)
 | .ret,k,Q,γ,st,a,w,he,h,hk=>wp_ret (hk .ret γ st a w h he)
 | .label _,k,Q,γ,st,a,w,he,h,hk=>by simp [L3,HI] at he
 | .goto _,k,Q,γ,st,a,w,he,h,hk=>by simp [L3,HI] at he
 | .scope _,k,Q,γ,st,a,w,he,h,hk=>by simp [L3,HI] at he
 | .rangeFunc _ _ _ _,k,Q,γ,st,a,w,he,h,hk=>by simp [L3,HI] at he
 | .region id ops draw,k,Q,γ,st,a,w,he,h,hk=>by
  simp only [L3,HI] at he;cases draw with
  | true=>
   simp only at he;exact zG hT hE hSp hB hnt hn9 hm he h (fun γ' st' a' w' h' hk'=>hk .normal γ' _ a' w' (h'.prune _) hk')
  | false=>
   simp only at he;refine wp_region ?_;rw [show ops.size=ops.toList.length by simp,List.range_eq_range'];exact cD hT hE hSp hB hnt hn9 ops.toList 0 rfl he h (fun γ' st' a' w' h' hk'=>hk .normal γ' _ a' w' (h'.prune _) hk')
 | .seq x y,k,Q,γ,st,a,w,he,h,hk=>by
  simp only [L3,HI] at he;refine wp_seq (QL hm x he h (fun o γ' st' a' w' h' hk'=>?_));cases o with
  | normal=>exact QL hm y hk' h' hk
  | exit i=>exact hk (.exit i) γ' st' a' w' h' hk'
  | ret=>exact hk .ret γ' st' a' w' h' hk'
 | .cond c x y,k,Q,γ,st,a,w,he,h,hk=>by
  simp only [L3,HI] at he;split at he
  ·rename_i b hc;have hcr:=EH h c;rw [hc] at hcr;simp only [VRel] at hcr;have hlit:Rel B nt w0 X γ (YS st c b) a w:=by
    unfold YS;split
    ·exact h.lit hc
    ·exact h
   cases b with
   | true=>exact wp_cond_true hcr (QL hm x he hlit hk)
   | false=>exact wp_cond_false hcr (QL hm y he hlit hk)
  ·cases he
 | .block id c,k,Q,γ,st,a,w,he,h,hk=>by
  simp only [L3,HI] at he;refine wp_block (QL hm c he h (fun o γ' st' a' w' h' hk'=>?_));cases o with
  | normal=>exact hk .normal γ' st' a' w' h' hk'
  | ret=>exact hk .ret γ' st' a' w' h' hk'
  | exit i=>
   simp only [cH,Exit.inBlock];simp only [C4] at hk';cases hb:A4 i id with
   | true=>
    rw [hb] at hk';rw [A6 (EI.1 hb)];exact hk .normal γ' st' a' w' h' hk'
   | false=>
    rw [hb] at hk';rw [AX (GD.1 hb)];exact hk (.exit i) γ' st' a' w' h' hk'
 | .loop c,k,Q,γ,st,a,w,he,h,hk=>by
  simp only [L3,HI] at he;generalize D6 ⟨[],[],[]⟩ E.lp (R7 c)=kp at he
  let J:Act→World→Nat→Prop:=fun a w n=>∃ γ st,Rel B nt w0 X γ st a w∧MV c (HI MV E c) kp n st k=some r
  obtain ⟨γr,hr⟩:=h.restrict kp;refine wp_loop (fun a w=>∃ n,J a w n) (fun a w=>(Classical.epsilon fun n=>J a w n∧∀ m,J a w m→n≤m)) ⟨_,γr,_,hr,he⟩ ?_;intro a w hI;have hleast:=Classical.epsilon_spec (n8 (J a w) hI);generalize (Classical.epsilon fun n=>J a w n∧∀ m,J a w m→n≤m)=n at hleast;obtain ⟨⟨γ1,st1,h1,he1⟩,_⟩:=hleast;cases n with
  | zero=>simp [MV] at he1
  | succ n=>
   simp only [MV] at he1;refine QL hm c he1 h1 (fun o γ' st' a' w' h' hk'=>?_);obtain ⟨γr,hr⟩:=h'.restrict kp;cases o with
   | normal=>
    simp only [cH,Exit.then];have hJ:J a' w' n:=⟨γr,_,hr,hk'⟩;refine ⟨⟨n,hJ⟩,?_⟩
    have:=Classical.epsilon_spec (n8 (J a' w') ⟨n,hJ⟩)
    exact Nat.lt_succ_of_le (this.2 n hJ)
   | exit i=>exact hk (.exit i) γr _ a' w' hr hk'
   | ret=>exact hk .ret γr _ a' w' hr hk'
end
open Go Go.RowKit
theorem dY (o:Store) (bs:List V) (tk:Option Kd) (v:V):F5 (F6 (DO o bs tk v))=true:=by
 cases v <;> simp only [DO] <;> repeat' split
 all_goals rfl
theorem dO (o:Store) (bs:List V):∀ (l:List V) (ks:List Kd),(I1 (fun k v=>F6 (DO o bs k v)) ks l).all F5=true
 | [],ks=>by cases ks <;> rfl
 | v :: l,[]=>by simp [I1,dY,dO o bs l []]
 | v :: l,k :: ks=>by simp [I1,dY,dO o bs l ks]
theorem fH (o:Store) (ks:List Kd) (v:V):(match JN o ks v with | .agg l=>l.all F5 | v=>F5 v)=true∧∀ l,JN o ks v≠.tup l:=by
 by_cases hc:∃ l,v = .agg l
 ·obtain ⟨l,rfl⟩:=hc;simp only [JN];exact ⟨dO o [] l ks,fun l' h=>by cases h⟩
 ·have h1:JN o ks v=F6 (DO o [] ks.head? v):=by cases v <;> first | rfl | exact absurd ⟨_,rfl⟩ hc
  have h2:=dY o [] ks.head? v;rw [h1];cases hx:F6 (DO o [] ks.head? v) <;> rw [hx] at h2 <;> simp only [F5] at h2 ⊢ <;> first | (cases h2; done) | (refine ⟨trivial,fun l h=>?_⟩; cases h)
theorem fJ (o:Store) (ks:List (List Kd)) (v:V):LD (FN o ks v)=true:=by
 by_cases hc:∃ l,v = .tup l
 ·obtain ⟨l,rfl⟩:=hc;simp only [FN,LD];have key:∀ (l:List V) (ks:List (List Kd)),((FN.go o ks l).all fun v=>match v with | .agg l=>l.all F5 | v=>F5 v)=true:=by
   intro l
   induction l with
   | nil=>intro ks; cases ks <;> rfl
   | cons v l ih=>
    intro ks;cases ks with
    | nil=>simp only [FN.go,List.all_cons,AG]; exact ⟨(fH o [] v).1,ih []⟩
    | cons k ks=>simp only [FN.go,List.all_cons,AG]; exact ⟨(fH o k v).1,ih ks⟩
  exact key l ks
 ·have h1:FN o ks v=JN o (ks.headD []) v:=by cases v <;> first | rfl | exact absurd ⟨_,rfl⟩ hc
  rw [h1];obtain ⟨h2,h3⟩:=fH o (ks.headD []) v;cases hx:JN o (ks.headD []) v <;> rw [hx] at h2 <;> simp only [LD] at h2 ⊢ <;> first | exact h2 | exact absurd hx (h3 _)
theorem bC (o:Store) (all:List Nat) (cs:List V):(cs.map (EE o all)).all M1=true:=by
 refine vah.2 (fun v hv=>?_);obtain ⟨u,_,rfl⟩:=List.mem_map.1 hv;rcases U4 o all u with ⟨_,_,_,_,_,_,_,_,_,h1⟩ | ⟨h1,_⟩
 ·rw [h1]; rfl
 ·cases hcc:EE o all u <;> first | rfl | (rw [hcc] at h1; cases h1)
section
variable {B:BT} {nt:Nat} {w0:World} {X:Zone} {γ:Nat→Value} {st st':St} {a:Act} {w:World} {P:Program} {E:Env}
theorem Ko (h:Rel B nt w0 X γ st a w) {n:Nat} {cs:List V} (ho:CY st.o n=some (.box cs)) {extra:List Nat} {m:Nat} (hm:m∈extra) {b:Nat} (hr:RowOf γ st.o m b) :
  ¬ (DY γ st.o n b∨∃ m∈E9 st.o (D1 cs++extra) cs,DY γ st.o m b):=by
 intro hLb;obtain ⟨e,ag,ks,l,h5,h6⟩:=hr;rcases hLb with ⟨ob,h7,h8⟩ | ⟨m2,h9,ob,h7,h8⟩
 ·have hne:n≠m:=by
   rintro rfl;rw [ho] at h5;cases h5
  exact h.dis n m ob _ b hne h7 h5 h8 h6
 ·by_cases hne:m2=m
  ·subst hne;obtain ⟨hi2,e2,ag2,ks2,l2,k1,k2,k3⟩:=NW.1 h9;rw [O6] at k3;have q1:=O7 (QV k1);have q2:=O7 hm;omega
  ·exact h.dis m2 m ob _ b hne h7 h5 h8 h6
theorem Bf {p:Value} (h:Rel ⟨B.T,B.e,some p,B.ng,B.F⟩ nt w0 X γ st a w) {v:V} {x:Value} (hv:VRel γ st.o w (CZ X γ st.o) v x) {ks:List (List Kd)} {vs:List V} {r:V} {out:List (List V)} (he:XZ st.o ks (EL vs) v=some (r,out)) {g0:Value} (hp:p=NL g0) :
  ∃ γ',Rel B.base 0 w0 X γ' ⟨[],FT r out⟩ IG w∧VRel γ' (FT r out) w (CZ X γ' (FT r out)) (J6 r) x∧JR vs r out g0 (γ' 900000):=by
 have hfar:∀ b,X.far b→CZ X γ st.o b∧∀ b',b'=b→¬ ED γ st.o b':=fun b hb=>⟨.inr hb,fun b' e hP=>h.nr b' hP (e ▸ hb)⟩
 have hbd:∀ {n:Nat} {cs:List V} (ho:CY st.o n=some (.box cs)) (extra:List Nat),∃ γb,Rel B.base 0 w0 X γb ⟨[],D7 (cs.map (EE st.o (D1 cs++extra)))⟩ IG w∧γb 900000=γ n ∧
   ∀ b,ED γb (D7 (cs.map (EE st.o (D1 cs++extra)))) b→DY γ st.o n b∨∃ m∈E9 st.o (D1 cs++extra) cs,DY γ st.o m b:=by
  intro n cs ho extra;exact h.bound ho extra (w1:=w0) (own1:=X.own) (F:=X.far) h.keep (fun b hb=>⟨.inr hb,fun ⟨ob,h1,h2⟩=>h.nr b ⟨n,ob,h1,h2⟩ hb,fun m _ ⟨ob,h1,h2⟩=>h.nr b ⟨m,ob,h1,h2⟩ hb,fun m _ ⟨ob,h1,h2⟩=>h.nr b ⟨m,ob,h1,h2⟩ hb⟩)
   (fun b hb=>by
    rcases hb with ⟨ob,h1,h2⟩ | ⟨m,_,ob,h1,h2⟩
    ·exact (h.lt b ⟨n,ob,h1,h2⟩).2
    ·exact (h.lt b ⟨m,ob,h1,h2⟩).2)
 have hbP:∀ {n b:Nat} {hs:List Nat},(DY γ st.o n b∨∃ m∈hs,DY γ st.o m b)→ED γ st.o b:=by
  rintro n b hs (⟨ob,h1,h2⟩ | ⟨m,_,ob,h1,h2⟩)
  ·exact ⟨n,ob,h1,h2⟩
  ·exact ⟨m,ob,h1,h2⟩
 unfold XZ at he;split at he
 ·rename_i s0 hb;split at he
  ·rename_i s hob;simp only [AB,AM] at he;obtain ⟨rfl,rfl⟩:=he;obtain ⟨hR,hP⟩:=h.boundB hob (w1:=w0) (own1:=X.own) (F:=X.far) h.keep (fun b hb=>⟨.inr hb,fun ⟨ob,h1,h2⟩=>h.nr b ⟨_,ob,h1,h2⟩ hb⟩) (fun b ⟨ob,h1,h2⟩=>(h.lt b ⟨_,ob,h1,h2⟩).2);have hmo:FT (FN st.o ks v) [[.bld s]]=D7 [.bld s]:=by cases FN st.o ks v <;> rfl
   have hf:=fJ st.o ks v;refine ⟨_,by rw [hmo]; exact hR,?_,?_⟩
   ·rw [hmo,SR hf];refine fK h hv (fun b _ hb=>?_) (fun m hm b hr hb=>?_) ks
    ·exact hb.imp_left (fun hb=>by obtain ⟨ob,h1,h2⟩:=hP b hb; exact ⟨_,ob,h1,h2⟩)
    ·obtain ⟨e,ag,ks',l,q1,q2⟩:=hr;rcases hb with hb | hb
     ·obtain ⟨ob,h1,h2⟩:=hP b hb;refine h.dis 900000 m ob _ b ?_ h1 q1 h2 q2;rintro rfl;rw [hob] at q1;cases q1
     ·exact h.nr b ⟨m,_,q1,q2⟩ hb
   ·simp only [JR,hb];exact ⟨hf,rfl,(h.pn p rfl _ hob).trans hp⟩
  ·cases he
 ·rename_i cs0 hnb hb;split at he
  ·rename_i cs hob;simp only [AB,AM] at he;obtain ⟨rfl,rfl⟩:=he;obtain ⟨γb,hR,hg,hP⟩:=hbd hob (H0 v);have hmo:FT (FN st.o ks v) [cs.map (EE st.o (D1 cs++H0 v))]=D7 (cs.map (EE st.o (D1 cs++H0 v))):=by cases FN st.o ks v <;> rfl
   have hf:=fJ st.o ks v;refine ⟨γb,by rw [hmo]; exact hR,?_,?_⟩
   ·rw [hmo,SR hf];refine fK h hv (fun b _ hb=>hb.imp_left (fun hb=>hbP (hP b hb))) (fun m hm b hr hb=>?_) ks;rcases hb with hb | hb
    ·exact Ko h hob hm hr (hP b hb)
    ·obtain ⟨e,ag,ks',l,q1,q2⟩:=hr;exact h.nr b ⟨m,_,q1,q2⟩ hb
   ·simp only [JR,hb];refine ⟨hf,?_,?_⟩
    ·unfold fT;split
     ·exact absurd rfl (hnb _)
     ·exact absurd rfl (hnb _)
     ·exact bC _ _ _
    ·rw [hg];exact (h.pn p rfl _ hob).trans hp
  ·cases he
 ·rename_i hb;have fin9:∀ v,VRel γ st.o w (CZ X γ st.o) v x→∃ γ',Rel B.base 0 w0 X γ' ⟨[],FT (FN st.o ks v) []⟩ IG w∧VRel γ' (FT (FN st.o ks v) []) w (CZ X γ' (FT (FN st.o ks v) [])) (J6 (FN st.o ks v)) x∧JR vs (FN st.o ks v) [] g0 (γ' 900000):=by
   intro v hv;have hf:=fJ st.o ks v;have hmo:FT (FN st.o ks v) []=[]:=by
    cases hx:FN st.o ks v <;> first | rfl | (rw [hx] at hf; simp only [LD,F5] at hf; cases hf)
   refine ⟨γ,?_,?_,?_⟩
   ·rw [hmo];refine ⟨rfl,rfl,fun i=>by simp only [St.get,D6,VRel],fun n ob hn=>?_,?_,?_,h.keep,?_,h.fl,fun p hp=>by cases hp⟩
    ·simp only [CY,D6] at hn; cases hn
    ·rintro b ⟨n,ob,hn,_⟩; simp only [CY,D6] at hn; cases hn
    ·intro n m ob ob' b _ hn; simp only [CY,D6] at hn; cases hn
    ·rintro b ⟨n,ob,hn,_⟩; simp only [CY,D6] at hn; cases hn
   ·rw [hmo,SR hf];refine fK h hv (fun b _ hb=>?_) (fun m hm b hr hb=>?_) ks
    ·rcases hb with ⟨n,ob,hn,_⟩ | hb
     ·simp only [CY,D6] at hn; cases hn
     ·exact .inr hb
    ·rcases hb with ⟨n,ob,hn,_⟩ | hb
     ·simp only [CY,D6] at hn; cases hn
     ·obtain ⟨e,ag,ks',l,q1,q2⟩:=hr;exact h.nr b ⟨m,_,q1,q2⟩ hb
   ·simp only [JR,hb];cases hx:FN st.o ks v <;> first | (rw [hx] at hf; exact hf) | (rw [hx] at hf; simp only [LD,F5] at hf; cases hf)
  split at he
  ·rename_i n i c;split at he
   ·rename_i cs hob hc;simp only [AB,AM] at he;obtain ⟨rfl,rfl⟩:=he;obtain rfl:=EI.1 hc;obtain ⟨γb,hR,hg,hP⟩:=hbd hob [];refine ⟨γb,hR,?_,?_⟩
    ·simp only [VRel,hob] at hv;simp only [FT,J6,D4,VRel];rw [R6 (bC _ _ _),DF,A6 rfl,hg];exact ⟨trivial,hv.2⟩
    ·simp only [JR,hb,SM];exact bC _ _ _
   ·cases he
  ·rename_i n lo hi;split at he
   ·rename_i e ag ks' l hob;split at he
    ·rename_i hlo;simp only [AB,AM] at he;obtain ⟨rfl,rfl⟩:=he;obtain rfl:=EI.1 hlo;obtain ⟨hpr,hpb⟩:=e6 (γ':=fun m=>if m=900000 then x else γ m) (o':=[(900000,some (Ob.row true e ag ks' (l.take hi)))]) h hob hv;have hmo:FT (.vec e ag ks' (l.take hi)) []=[(900000,some (.row true e ag ks' (l.take hi)))]:=rfl;have obs:∀ m ob,CY [(900000,some (Ob.row true e ag ks' (l.take hi)))] m=some ob→m=900000∧ob = .row true e ag ks' (l.take hi):=fun m ob hn=>by
      rw [DF] at hn;split at hn
      ·rename_i h9;simp only [AB] at hn;exact ⟨h9.symm,hn.symm⟩
      ·simp [CY,D6] at hn
     have ownP:∀ b,ED (fun m=>if m=900000 then x else γ m) [(900000,some (Ob.row true e ag ks' (l.take hi)))] b→DY γ st.o n b:=by
      rintro b ⟨m,ob,hn,hb⟩;obtain ⟨rfl,rfl⟩:=obs m ob hn;exact hpb b (by simpa only [B8] using hb)
     have hlt:∀ b,DY γ st.o n b→ED γ st.o b:=fun b ⟨ob,h1,h2⟩=>⟨n,ob,h1,h2⟩
     have hO:∀ b,b < w.heap.size→CZ X (fun m=>if m=900000 then x else γ m) [(900000,some (Ob.row true e ag ks' (l.take hi)))] b→CZ X γ st.o b:=fun b _ hb=>hb.imp_left (fun hb=>hlt b (ownP b hb))
     rw [hmo];refine ⟨fun m=>if m=900000 then x else γ m,⟨rfl,rfl,fun i=>by simp only [St.get,D6,VRel],fun m ob hn=>?_,fun b hb=>h.lt b (hlt b (ownP b hb)),fun m m' ob ob' b hnm h1 h2=>?_,h.keep,fun b hb=>h.nr b (hlt b (ownP b hb)),h.fl,fun p hp=>by cases hp⟩,?_,?_⟩
     ·obtain ⟨rfl,rfl⟩:=obs m ob hn;simp only [ObRel,B8] at hpr ⊢;obtain ⟨k1,k2,xs,k3,k4⟩:=hpr;exact ⟨k1,k2,xs,k3,fun i y hy=>Kd.RelAll.mono (Keep.refl _ w) hO (fun _ _ hu=>hu) (k4 i y hy)⟩
     ·obtain ⟨rfl,rfl⟩:=obs m ob h1;obtain ⟨rfl,rfl⟩:=obs m' ob' h2;exact absurd rfl hnm
     ·simp only [J6,VRel,DF,B8];refine ⟨AO _,?_⟩;simp only [VRel,hob] at hv;obtain ⟨hl,p,len,cap,p',hgm,hxx,_,h22,h33,hm4,_,h5⟩:=hv;have htl:(l.take hi).length=hi:=by rw [A7,vaz hl]
      rw [htl];rw [vam,vam] at hxx;refine ⟨p',hi,cap,p',hxx,by rw [hxx]; simp,B7 _,AO _,by omega,hm4,.inl ?_,fun _=>rfl⟩;cases p' <;> simp [Addr.add]
     ·simp only [JR,hb,SM]
    ·cases he
   ·simp only [AB,AM] at he;obtain ⟨rfl,rfl⟩:=he;exact fin9 _ hv
  ·rename_i hnp;simp only [AB,AM] at he;obtain ⟨rfl,rfl⟩:=he;exact fin9 _ hv
theorem mF:∀ (vs:List V) (i j:Nat),D6 .any (VD i vs) j=if i≤j∧j < i+vs.length then D4 (vs.getD (j - i) .any) else .any
 | [],i,j=>by
  rw [AX (by simp only [BZ]; omega)];rfl
 | v :: r,i,j=>by
  simp only [VD,MU,mF r (i+1) j,AP];by_cases e:i=j
  ·subst e;simp
  ·rw [AX e];by_cases h:i+1≤j∧j < i+1+r.length
   ·rw [A6 h,A6 (by omega),show j - i=(j - (i+1))+1 by omega];simp
   ·rw [AX h,AX (by omega)]
theorem fI (hT:TiOK P B E) {w:World}:∀ {rs:List ResultVar} {l:List V},PB E st rs=some l→Rel B nt w0 X γ st a w →
  ∃ xs:List Value,(rs.mapM fun r=>match r with | .tmp t=>pure (a.tmps.getD t undef) | .cell ad t=>do loadVar t (← asAddr (a.tmps.getD ad undef)):Sem (List Value)).run P w = .ok xs w∧VRels γ st.o w (CZ X γ st.o) l xs
 | [],l,h,hR=>by
  simp only [PB,AB] at h;subst h;exact ⟨[],by simp,by simp only [VRels]⟩
 | .tmp t :: r,l,h,hR=>by
  simp only [PB] at h;split at h
  ·rename_i l' hl';simp only [AB] at h;subst h;obtain ⟨xs,h1,h2⟩:=fI hT hl' hR;refine ⟨a.tmps.getD t undef :: xs,?_,?_⟩
   ·simp only [List.mapM_cons,BS,BU,A9,h1]
   ·simp only [VRels];exact ⟨hR.tm t,h2⟩
  ·cases h
 | .cell ad t :: r,l,h,hR=>by
  simp only [PB] at h;split at h
  ·rename_i n i c hop;split at h
   ·rename_i cs hob;split at h
    ·rename_i v l' hv hl';simp only [AB] at h;subst h;obtain ⟨xs,h1,h2⟩:=fI hT hl' hR;have hx:=hR.tm ad;rw [hop] at hx;simp only [VRel,hob] at hx;obtain ⟨_,b,hg,hx⟩:=hx;have hor:=hR.ob n _ hob;simp only [ObRel] at hor;obtain ⟨b',cs',T,hg',hh,hr⟩:=hor;rw [hg] at hg';simp only [B9,AB,CP,CE] at hg';subst hg';obtain ⟨y,hy,hr'⟩:=n0 (hT.known (nZ hv)) hv hh hr;refine ⟨y :: xs,?_,?_⟩
     ·have hy':(do loadVar t (← asAddr (a.tmps.getD ad undef)):Sem Value).run P w = .ok y w:=by
       rw [hx];exact hy
      simp only [BS] at hy';simp only [List.mapM_cons,BS,hy',BU,A9,h1]
     ·simp only [VRels];exact ⟨hr',h2⟩
    ·cases h
   ·cases h
  ·cases h
theorem zH {f:FuncId} {fn:Func} {code:Code} (hf:P.funcs[f]?=some fn) (hn:(fn.name == "runtime.NumGoroutine")=false) (hb:fn.body=some code) (hnt:E.nt=fn.ntmps) (hn9:BM fn.ntmps 900000=true) {rs:List ResultVar} (hrs:fn.results.toList=rs)
  (rks:List (List Kd)) (hm:P.follows .mixedOrders=true) (hT:TiOK P B E) (hE:∀ t,t∈E.eqs→EqSnd P t (E.tyd t).ks) (hSp:∀ f sp,lk E.sp f=some sp→Snd P B f (fun vs=>(sp vs).get)) (hIp:∀ f p,lk E.ip f=some p→NC P f p) (hB:BldOK P B E):Snd P B f (DE E code rs rks):=by
 intro w X γ vs xs r out hsp hgl hxo hR hV;unfold DE at hsp;split at hsp
 case h_2=>cases hsp
 rename_i hle;have hle':=AL hle;have hlen:xs.length=vs.length:=by rw [← hV.length,CL]
 refine Does.enter hf hn (by rw [hb]; rfl) (calls_of_wp hf hb ?_)
 let B':BT:=⟨B.T,B.e,some (NL (γ 900000)),B.ng,B.F⟩
 have hT':TiOK P B' E:=fun t x ht=>⟨(hT t x ht).info,(hT t x ht).ks,(hT t x ht).by1,(hT t x ht).one,(hT t x ht).und⟩
 have hSp':SpOK P B' E w X:=⟨⟨hgl,hxo⟩,fun f sp hfs=>hSp f sp hfs,hIp⟩;have hB':BldOK P B' E:=hB;have hstart:Rel B' fn.ntmps w X γ ⟨VD 0 vs,HL vs⟩ { tmps:=xs.toArray++Array.replicate (fn.ntmps - xs.toArray.size) undef,defers:=[] } w:=by
  refine ⟨?_,rfl,fun i=>?_,fun n ob hnob=>?_,hR.lt,hR.dis,hR.keep,hR.nr,hR.fl,fun p hp ob _=>?_⟩
  ·simp;omega
  ·simp only [St.get,mF];split
   ·rename_i hi;have hi':i < vs.length:=by omega
    have h1:(vs.map D4)[i]?=some (D4 vs[i]):=by simp [hi']
    obtain ⟨x,hx,hvx⟩:=hV.get h1;have h2:vs.getD (i - 0) .any=vs[i]:=by simp [hi']
    rw [h2];have h3:(xs.toArray++Array.replicate (fn.ntmps - xs.toArray.size) undef).getD i undef=x:=by
     rw [vbh,Array.getElem?_append_left (by simp; omega)];simp [hx]
    simp only [h3];exact hvx
   ·simp only [VRel]
  ·have:=hR.ob n ob hnob
   cases ob with
   | box l=>simpa only [ObRel] using this
   | row own e ag ks l=>cases own <;> simpa only [ObRel] using this
   | bld s=>simpa only [ObRel,BT.base] using this
   | map _ _=>simpa only [ObRel,BT.base] using this
   | iter _ _ _=>simpa only [ObRel,BT.base] using this
  ·simp only [B',AB] at hp;exact hp
 refine QL hT' hE hSp' hB' hnt (AL hn9) hm code hsp hstart (fun o γ' st' a' w' h' hk'=>?_);have fin:∀ l,PB E st' rs=some l→XZ st'.o rks (EL vs) (SQ l)=some (r,out)→bodyPost P fn (fun e w'=>∃ x,e = .returned x∧∃ γ',Rel B.base 0 w X γ' ⟨[],FT r out⟩ IG w'∧VRel γ' (FT r out) w' (CZ X γ' (FT r out)) (J6 r) x∧JR vs r out (γ 900000) (γ' 900000)) .ret a' w':=by
  intro l hl he;obtain ⟨ys,hy1,hy2⟩:=fI (P:=P) hT' hl h';have hval:(results fn a'.tmps).run P w' = .ok (if h:ys.toArray.size=1 then ys.toArray[0] else .tuple ys.toArray) w':=by
   unfold results;rw [show fn.results=rs.toArray by rw [← hrs]];rw [Array.mapM_eq_mapM_toList];simp only [BS,Sem.run_map]
   erw [hy1]
   rfl
  have hrel:VRel γ' st'.o w' (CZ X γ' st'.o) (SQ l) (if h:ys.toArray.size=1 then ys.toArray[0] else .tuple ys.toArray):=by
   match l,ys,hy2 with
   | [],[],_=>simp only [SQ,VRel]; exact ⟨#[],by simp,by simp only [VRels]⟩
   | [v],[y],h2=>simp only [VRels] at h2; simpa [SQ] using h2.1
   | v :: v' :: l,y :: y' :: ys,h2=>simp only [SQ,VRel]; exact ⟨(y :: y' :: ys).toArray,by simp,by simpa using h2⟩
  obtain ⟨γ2,q1,q2,q3⟩:=Bf (B:=B) h' hrel he rfl;exact ⟨h'.df,_,hval,_,rfl,γ2,q1,q2,q3⟩
 cases o with
 | exit i=>simp [C8] at hk'
 | normal=>
  simp only [C8] at hk';split at hk'
  ·rename_i l hl;exact fin l hl hk'
  ·cases hk'
 | ret=>
  simp only [C8] at hk';split at hk'
  ·rename_i l hl;exact fin l hl hk'
  ·cases hk'
end
open Go Go.RowKit
def zB:V→Value→Bool
 | .int k n,.int k' n'=>k==k'&&(n==n'&&R9 k n)
 | .bool b,.bool c=>b==c
 | .str s,.string s'=>s.size==0&&s'.size==0
 | .zs,.slice none 0 0=>true
 | .nilp,.pointer none=>true
 | .err true,.nilIface=>true
 | .any,_=>true
 | _,_=>false
def S2:List V→List Value→Bool
 | [],[]=>true
 | v :: vs,x :: xs=>zB v x&&S2 vs xs
 | _,_=>false
def iD:Kd→Value→Bool
 | .int k,.int k' n=>k==k'&&n==0
 | .bool,.bool b=>!b
 | .str,.string s=>s.size==0
 | _,_=>false
theorem Tu {k:Kd} {z:Value} (h:iD k z=true):PN k z:=by
 cases k <;> cases z <;> simp only [iD] at h <;> try (cases h; done)
 ·simp only [AG,BP] at h;obtain ⟨rfl,rfl⟩:=h;rfl
 ·simp only [BO] at h;subst h;rfl
 ·rename_i s;have e:s=vba:=by
   obtain ⟨⟨l⟩⟩:=s;cases l with
   | nil=>rfl
   | cons a l=>simp [ByteArray.size] at h
  subst e;rfl
def dB (P:Program) (T t:Nat) (ks:List Kd):TD→TypeDesc→Bool
 | .slice e,.slice e'=>e==e'
 | .struct fs,.struct fields=>fs==fields.toList.map (fun f=>(f.offset,f.type))&&fields.toList.all (fun f=>(P.info? f.type).isSome)
 | .array n e,.array n' e'=>n==n'&&e==e'
 | .ptr e,.pointer e'=>e==e'
 | .bld,_=>t==T
 | .map e k,.map kt e'=>e==e'&&((match P.underlying kt with | some (.int .i64)=>true | _=>false)&&(match P.info? e with | some i=>(match i.zero with | some z=>iD k z | none=>false) | none=>false))
 | .iface,.interface _=>true
 | .leaf,d=>match ks with
  | [.int k]=>(match d with | .int k'=>k==k' | _=>false)
  | [.str]=>(match d with | .string=>true | _=>false)
  | [.bool]=>(match d with | .bool=>true | _=>false)
  | _=>true
 | _,_=>false
def Z6 (P:Program) (T t:Nat) (x:TI):Bool:=
 match P.info? t,P.underlying t with
 | some i,some d=>match i.zero with
  | some z=>i.size==x.size&&(i.bytes==x.bytes&&(z.cells.size==x.size&&(S2 x.zero z.cells.toList&&(x.ks.length==x.size&&(BM 1 x.bytes&&((x.agg||x.size==1)&&(d.isRow==x.agg&&dB P T t x.ks x.d d)))))))
  | none=>false
 | _,_=>false
def WP (P:Program) (T:Nat):List (Nat × TI)→Bool
 | []=>true
 | (t,x) :: r=>Z6 P T t x&&WP P T r
theorem Tt {γ:Nat→Value} {o:Store} {w:World} {O:Nat→Prop} {v:V} {x:Value} (h:zB v x=true):VRel γ o w O v x:=by
 unfold zB at h;split at h
 ·simp only [AG,BP,R9,AN] at h;obtain ⟨rfl,rfl,h1,h2⟩:=h;simp only [VRel];exact ⟨trivial,h1,h2⟩
 ·simp only [BP] at h;subst h;simp only [VRel]
 ·rename_i s s';simp only [AG,BP] at h;have e:∀ s:BA,s.size=0→s=vba:=fun s hs=>by
   obtain ⟨⟨l⟩⟩:=s;cases l with
   | nil=>rfl
   | cons a l=>simp [ByteArray.size] at hs
  simp only [VRel];rw [e s h.1,e s' h.2];exact ⟨rfl,by simp [ByteArray.size_empty]⟩
 ·simp only [VRel]
 ·simp only [VRel]
 ·simp only [VRel]
 ·simp only [VRel]
 ·cases h
theorem u9 {γ:Nat→Value} {o:Store} {w:World} {O:Nat→Prop}:∀ {l:List V} {xs:List Value},S2 l xs=true→VRels γ o w O l xs
 | [],[],_=>by simp only [VRels]
 | [],_ :: _,h=>by simp [S2] at h
 | _ :: _,[],h=>by simp [S2] at h
 | v :: vs,x :: xs,h=>by
  simp only [S2,AG] at h;simp only [VRels];exact ⟨Tt h.1,u9 h.2⟩
theorem Se {P:Program} {B:BT} {t:Nat} {x:TI} (h:Z6 P B.T t x=true):TISnd P B t x:=by
 unfold Z6 at h;split at h
 ·rename_i i d hi hd;split at h
  ·rename_i z hz;simp only [AG,BP,Bool.or_eq_true] at h;obtain ⟨h1,h2,h3,h4,h5,h6,h7,h8,h9⟩:=h;refine ⟨⟨i,z,hi,h1,h2,hz,h3,fun γ o w O=>u9 h4⟩,h5,AL h6,fun ha=>by rw [ha] at h7; simpa using h7,⟨d,hd,h8,?_⟩⟩;cases hx:x.d with
   | slice e=>rw [hx] at h9; cases d <;> simp only [dB] at h9 <;> first | (cases h9; done) | (simp only [BP] at h9; subst h9; rfl)
   | struct fs=>
    rw [hx] at h9;cases d <;> simp only [dB] at h9 <;> first | (cases h9; done) | skip
    rename_i fields;simp only [AG,BP,vah] at h9;exact ⟨fields,rfl,h9.1,h9.2⟩
   | array n e=>
    rw [hx] at h9;cases d <;> simp only [dB] at h9 <;> first | (cases h9; done) | skip
    simp only [AG,BP] at h9;obtain ⟨rfl,rfl⟩:=h9;rfl
   | ptr e=>rw [hx] at h9; cases d <;> simp only [dB] at h9 <;> first | (cases h9; done) | (simp only [BP] at h9; subst h9; rfl)
   | bld=>rw [hx] at h9; simp only [dB,BP] at h9; exact h9
   | map e k=>
    rw [hx] at h9;cases d <;> simp only [dB] at h9 <;> first | (cases h9; done) | skip
    rename_i kt e';simp only [AG,BP] at h9;obtain ⟨rfl,h10,h11⟩:=h9;split at h10
    ·rename_i hu;split at h11
     ·rename_i i' hi';split at h11
      ·rename_i z' hz';exact ⟨kt,i',z',rfl,hu,hi',hz',Tu h11⟩
      ·cases h11
     ·cases h11
    ·cases h10
   | iface=>rw [hx] at h9; cases d <;> simp only [dB] at h9 <;> first | (cases h9; done) | exact ⟨_,rfl⟩
   | leaf=>
    rw [hx] at h9;refine ⟨fun k hk=>?_,fun hk=>?_,fun hk=>?_⟩ <;> rw [hk] at h9 <;> cases d <;> simp only [dB] at h9 <;> first | (cases h9; done) | (simp only [BP] at h9; subst h9; rfl) | rfl
  ·cases h
 ·cases h
theorem uM {P:Program} {B:BT} {E:Env} {ti:List (Nat × TI)} (he:E.ti=ti) (h:WP P B.T ti=true):TiOK P B E:=by
 subst he;have key:∀ (l:List (Nat × TI)),WP P B.T l=true→∀ t x,lk l t=some x→Z6 P B.T t x=true:=by
  intro l
  induction l with
  | nil=>intro _ t x hx; simp [lk] at hx
  | cons p r ih=>
   obtain ⟨j,y⟩:=p;intro hl t x hx;simp only [WP,AG] at hl;simp only [lk] at hx;split at hx
   ·rename_i hb;simp only [AB] at hx;subst hx;rw [← EI.1 hb];exact hl.1
   ·exact ih hl.2 t x hx
 exact fun t x ht=>Se (key E.ti h t x ht)
def SX (P:Program) (t w:Nat):Bool:=match P.info? t with | some _=>P.cellsOf t==w | none=>false
def Q8 (ks:List Kd):Nat→List Kd
 | 0=>[]
 | n+1=>ks++Q8 ks n
def VE (P:Program) (g:Nat→Option (List Kd)):List Field→Nat→Option (List Kd)
 | [],_=>some []
 | f :: r,o=>match g f.type with
  | some ks=>match f.name != "_"&&(f.offset==o&&SX P f.type ks.length) with
   | true=>match VE P g r (o+ks.length) with
    | some ks'=>some (ks++ks')
    | none=>none
   | false=>none
  | none=>none
def NV (P:Program):Nat→Nat→Option (List Kd)
 | 0,_=>none
 | d+1,t=>match P.underlying t with
  | some (.int k)=>some [.int k]
  | some .bool=>some [.bool]
  | some (.struct fs)=>match P.stoodInHeld t with
   | true=>none
   | false=>VE P (NV P d) fs.toList 0
  | some (.array n e)=>match NV P d e with
   | some ks=>match SX P e ks.length with
    | true=>some (Q8 ks n)
    | false=>none
   | none=>none
  | _=>none
def XY (P:Program) (ti:List (Nat × TI)):List Nat→Bool
 | []=>true
 | t :: r=>(!(P.eqGuardType P.depth t))&&((match P.underlying t with | some d=>d.isRow | none=>false)&&(match NV P 10 t with | some ks=>GE.kdsEq (D6 TI.none ti t).ks ks | none=>false))&&XY P ti r
theorem VK:∀ {ks:List Kd} {l:List V},G9 ks l=true→l.length=ks.length
 | [],[],_=>rfl
 | [],_ :: _,h=>by simp [G9] at h
 | k :: _,[],h=>by cases k <;> simp [G9] at h
 | k :: ks,v :: l,h=>by
  cases k <;> cases v <;> simp only [G9] at h <;> try (cases h; done)
  ·split at h
   ·simp [VK h]
   ·cases h
  ·simp [VK h]
theorem YF:∀ {ks ks':List Kd} {l:List V},G9 (ks++ks') l=true→G9 ks (l.take ks.length)=true∧G9 ks' (l.drop ks.length)=true
 | [],_,_,h=>⟨rfl,h⟩
 | k :: ks,ks',[],h=>by cases k <;> simp [G9] at h
 | k :: ks,ks',v :: l,h=>by
  cases k <;> cases v <;> simp only [vap,G9] at h <;> try (cases h; done)
  ·split at h
   ·rename_i hk;obtain ⟨h1,h2⟩:=YF h;simp only [AP,List.take_succ_cons,List.drop_succ_cons,G9,hk];exact ⟨h1,h2⟩
   ·cases h
  ·obtain ⟨h1,h2⟩:=YF h;simp only [AP,List.take_succ_cons,List.drop_succ_cons,G9];exact ⟨h1,h2⟩
theorem XX:∀ {a a':List V} {b b':List V} {c:Bool},a.length=a'.length→HH (a++b) (a'++b')=some c→∃ c1 c2,HH a a'=some c1∧HH b b'=some c2∧c=(c1&&c2)
 | [],[],b,b',c,_,h=>⟨true,c,rfl,h,by simp⟩
 | [],_ :: _,_,_,_,hl,_=>by simp at hl
 | _ :: _,[],_,_,_,hl,_=>by simp at hl
 | x :: a,y :: a',b,b',c,hl,h=>by
  have hl':a.length=a'.length:=by simpa using hl
  cases x <;> cases y <;> simp only [vap,HH] at h ⊢ <;> try (cases h; done)
  ·split at h
   ·rename_i hk;split at h
    ·rename_i c0 h0;simp only [AB] at h;obtain ⟨c1,c2,h1,h2,h3⟩:=XX hl' h0;rw [h1];exact ⟨_,c2,rfl,h2,by rw [← h,h3,Bool.and_assoc]⟩
    ·cases h
   ·cases h
  ·split at h
   ·rename_i c0 h0;simp only [AB] at h;obtain ⟨c1,c2,h1,h2,h3⟩:=XX hl' h0;rw [h1];exact ⟨_,c2,rfl,h2,by rw [← h,h3,Bool.and_assoc]⟩
   ·cases h
theorem XW:∀ {a a':List V} {c:Bool},HH a a'=some c→a.length=a'.length
 | [],[],_,_=>rfl
 | [],_ :: _,_,h=>by simp [HH] at h
 | x :: _,[],_,h=>by cases x <;> simp [HH] at h
 | x :: a,y :: a',c,h=>by
  cases x <;> cases y <;> simp only [HH] at h <;> try (cases h; done)
  ·split at h
   ·split at h
    ·rename_i h0;simp [XW h0]
    ·cases h
   ·cases h
  ·split at h
   ·rename_i h0;simp [XW h0]
   ·cases h
section
variable {P:Program} {γ:Nat→Value} {o:Store} {w:World} {O:Nat→Prop}
def OI (P:Program) (γ:Nat→Value) (o:Store) (w:World) (O:Nat→Prop) (t:Nat) (l:List V) (x:Value):Prop:=
 match P.underlying t with
 | some d=>match d.isRow with
  | true=>∃ xs,x = .agg xs∧VRels γ o w O l xs.toList
  | false=>∃ v,l=[v]∧VRel γ o w O v x
 | none=>False
theorem mI {d t:Nat} {ks:List Kd} (h:NV P d t=some ks):∃ k,P.underlying t=some k∧(k.isRow=false→ks.length=1):=by
 cases d with
 | zero=>simp [NV] at h
 | succ d=>
  simp only [NV] at h;split at h
  ·rename_i hu; simp only [AB] at h; exact ⟨_,hu,fun _=>by rw [← h]; rfl⟩
  ·rename_i hu; simp only [AB] at h; exact ⟨_,hu,fun _=>by rw [← h]; rfl⟩
  ·rename_i hu; exact ⟨_,hu,fun h=>by simp [vbg] at h⟩
  ·rename_i hu; exact ⟨_,hu,fun h=>by simp [vbg] at h⟩
  ·cases h
theorem XF {t n off:Nat} {l:List V} {xs:Array Value} (hu:∃ k,P.underlying t=some k∧(k.isRow=false→n=1)) (hs:SX P t n=true) (hr:VRels γ o w O l xs.toList) (hl:off+n≤l.length) (W:World) :
  ∃ y,(part t xs off).run P W = .ok y W∧OI P γ o w O t ((l.drop off).take n) y:=by
 obtain ⟨k,hu,hn⟩:=hu;unfold SX at hs;split at hs
 ·rename_i i hi;simp only [BP] at hs;cases hrow:k.isRow with
  | true=>
   refine ⟨.agg (xs.extract off (off+n)),?_,?_⟩
   ·cases k <;> simp [vbg] at hrow <;> simp [part,isAgg,AZ hu,run_sizeOf W hi,hs]
   ·unfold OI;rw [hu];simp only [hrow];refine ⟨_,rfl,?_⟩
    have:(xs.extract off (off+n)).toList=(xs.toList.drop off).take n:=by
     simp [List.extract_eq_take_drop]
    rw [this];exact (hr.drop off).take n
  | false=>
   obtain rfl:=hn hrow;obtain ⟨v,hv⟩:∃ v,l[off]?=some v:=⟨l[off]'(by omega),AV _⟩;obtain ⟨y,hy,hyr⟩:=hr.get hv;have hy':xs[off]?=some y:=by simpa using hy
   refine ⟨y,?_,?_⟩
   ·cases k <;> simp [vbg] at hrow <;> simp [part,isAgg,AZ hu,hy']
   ·unfold OI;rw [hu];simp only [hrow];refine ⟨v,?_,hyr⟩;rw [List.take_one,List.head?_drop,hv];rfl
 ·cases hs
def aJ (P:Program) (γ:Nat→Value) (o:Store) (w:World) (O:Nat→Prop) (dd t:Nat) (ks:List Kd):Prop:=∀ (W:World) (x y:Value) (l l':List V) (c:Bool),G9 ks l=true→OI P γ o w O t l x→OI P γ o w O t l' y→HH l l'=some c→(vbi dd t x y).run P W = .ok c W
theorem Z4 (l:List V) (off n:Nat):l.drop off=(l.drop off).take n++l.drop (off+n):=by
 rw [← List.drop_drop]; exact (List.take_append_drop n (l.drop off)).symm
theorem mG {dd:Nat} {g:Nat→Option (List Kd)} (hg:∀ t ks,g t=some ks→aJ P γ o w O dd t ks∧∃ k,P.underlying t=some k∧(k.isRow=false→ks.length=1)) {xs ys:Array Value} {l l':List V} (hx:VRels γ o w O l xs.toList) (hy:VRels γ o w O l' ys.toList) (hll:l.length=l'.length) (W:World) :
  ∀ (fs:List Field) (off:Nat) {ks:List Kd} {c:Bool},off≤l.length→VE P g fs off=some ks→G9 ks (l.drop off)=true→HH (l.drop off) (l'.drop off)=some c→(Op.eqFields dd xs ys fs).run P W = .ok c W
 | [],off,ks,c,hoff,hf,hk,he=>by
  simp only [VE,AB] at hf;subst hf;have h0:=VK hk;have h1:l.drop off=[]:=List.length_eq_zero_iff.1 h0;have h2:l'.drop off=[]:=by
   have:=XW he
   rw [h1] at this;exact List.length_eq_zero_iff.1 this.symm
  rw [h1,h2] at he;simp only [HH,AB] at he;subst he;simp [Op.eqFields]
 | f :: r,off,ks,c,hoff,hf,hk,he=>by
  simp only [VE] at hf;split at hf
  ·rename_i ks1 hw;split at hf
   ·rename_i hb;split at hf
    ·rename_i ks2 hf2;simp only [AB] at hf;subst hf;simp only [AG,BP,bne_iff_ne,ne_eq] at hb;obtain ⟨hn,ho,hs⟩:=hb;obtain ⟨hrun,hu⟩:=hg _ _ hw;obtain ⟨hk1,hk2⟩:=YF hk;rw [List.drop_drop] at hk2;have hkl:=VK hk;simp only [vab,AS] at hkl;have hle:off+ks1.length≤l.length:=by omega
     rw [Z4 l off ks1.length,Z4 l' off ks1.length] at he;obtain ⟨c1,c2,h1,h2,h3⟩:=XX (by simp; omega) he;obtain ⟨a,ha,hac⟩:=XF (off:=off) hu hs hx hle W;obtain ⟨b,hb,hbc⟩:=XF (off:=off) hu hs hy (by omega) W;have he1:=hrun W a b _ _ c1 hk1 hac hbc h1;have ih:=mG hg hx hy hll W r (off+ks1.length) hle hf2 hk2 h2;simp only [Op.eqFields,hn,ne_eq,not_false_eq_true,B8,BS,ho,ha,hb,he1,A9];subst h3;cases c1
     ·simp
     ·simpa using ih
    ·cases hf
   ·cases hf
  ·cases hf
theorem mH {dd e:Nat} {ks:List Kd} (hrun:aJ P γ o w O dd e ks) (hu:∃ k,P.underlying e=some k∧(k.isRow=false→ks.length=1)) (hs:SX P e ks.length=true) {xs ys:Array Value} {l l':List V} (hx:VRels γ o w O l xs.toList) (hy:VRels γ o w O l' ys.toList) (hll:l.length=l'.length) (W:World) :
  ∀ (m i:Nat) {c:Bool},i*ks.length+m*ks.length=l.length→G9 (Q8 ks m) (l.drop (i*ks.length))=true→HH (l.drop (i*ks.length)) (l'.drop (i*ks.length))=some c→(Op.eqItems dd e ks.length xs ys (vbb i m)).run P W = .ok c W
 | 0,i,c,hl,hk,he=>by
  rw [List.drop_of_length_le (by omega),List.drop_of_length_le (by omega)] at he;simp only [HH,AB] at he;subst he;simp [Op.eqItems]
 | m+1,i,c,hl,hk,he=>by
  rw [vaf,vbm] at hl;obtain ⟨hk1,hk2⟩:=YF (ks:=ks) (ks':=Q8 ks m) hk;rw [List.drop_drop] at hk2;rw [Z4 l (i*ks.length) ks.length,Z4 l' (i*ks.length) ks.length] at he;obtain ⟨c1,c2,h1,h2,h3⟩:=XX (by simp; omega) he;obtain ⟨a,ha,hac⟩:=XF (off:=i*ks.length) hu hs hx (by omega) W;obtain ⟨b,hb,hbc⟩:=XF (off:=i*ks.length) hu hs hy (by omega) W;have he1:=hrun W a b _ _ c1 hk1 hac hbc h1;have ih:=mH hrun hu hs hx hy hll W m (i+1) (by rw [vaf,vbm]; omega) (by rw [vaf,vbm]; exact hk2) (by rw [vaf,vbm]; exact h2);simp only [List.range'_succ,Op.eqItems,BS,ha,hb,he1,A9];subst h3;cases c1
  ·simp
  ·simpa using ih
theorem q7 (ks:List Kd):∀ n,(Q8 ks n).length=n*ks.length
 | 0=>by simp [Q8]
 | n+1=>by simp only [Q8,AS,q7 ks n,vaf,vbm]; omega
theorem cB (dd:Nat):∀ (d t:Nat) (ks:List Kd),NV P d t=some ks→aJ P γ o w O (dd+d) t ks
 | 0,t,ks,h=>by simp [NV] at h
 | d+1,t,ks,h=>by
  intro W x y l l' c hk hx hy he;have hll:=XW he;simp only [NV] at h;unfold OI at hx hy;split at h
  ·rename_i k hu;simp only [AB] at h;subst h;rw [hu] at hx hy;simp only at hx hy;obtain ⟨v,rfl,hx⟩:=hx;obtain ⟨v',rfl,hy⟩:=hy;cases v <;> simp only [G9] at hk <;> try (cases hk; done)
   cases v' <;> simp only [HH] at he <;> try (cases he; done)
   simp only [VRel] at hx hy;obtain ⟨rfl,_⟩:=hx;obtain ⟨rfl,_⟩:=hy;split at he
   ·rename_i hkk;simp only [AB,vay] at he;have hkk:=eq_of_beq hkk;subst hkk;rw [show dd+(d+1)=(dd+d)+1 from rfl,run_equalIn_int W _ t _ k _ _ hu,he]
   ·cases he
  ·rename_i hu;simp only [AB] at h;subst h;rw [hu] at hx hy;simp only at hx hy;obtain ⟨v,rfl,hx⟩:=hx;obtain ⟨v',rfl,hy⟩:=hy;cases v <;> simp only [G9] at hk <;> try (cases hk; done)
   cases v' <;> simp only [HH] at he <;> try (cases he; done)
   simp only [VRel] at hx hy;subst hx; subst hy;simp only [AB,vay] at he;rw [show dd+(d+1)=(dd+d)+1 from rfl,run_equalIn_bool W _ t _ _ hu,he]
  ·rename_i fs hu;rw [hu] at hx hy;simp only at hx hy;obtain ⟨xs,rfl,hx⟩:=hx;obtain ⟨ys,rfl,hy⟩:=hy;split at h
   ·cases h
   ·rename_i hst;have hfs:P.fieldsOf t=fs:=by simp [Program.fieldsOf,hu]
    rw [show dd+(d+1)=(dd+d)+1 from rfl,run_equalIn_struct W (dd+d) t xs ys (by rw [hfs]; exact hu) hst,hfs];exact mG (fun t ks ht=>⟨cB dd d t ks ht,mI ht⟩) hx hy hll W fs.toList 0 (B7 _) h hk he
  ·rename_i m e hu;rw [hu] at hx hy;simp only at hx hy;obtain ⟨xs,rfl,hx⟩:=hx;obtain ⟨ys,rfl,hy⟩:=hy;split at h
   ·rename_i ks1 hw;split at h
    ·rename_i hs;simp only [AB] at h;subst h;have hs':=hs;unfold SX at hs';split at hs'
     ·rename_i i hi;simp only [BP] at hs';have hkl:=VK hk;rw [q7] at hkl;rw [show dd+(d+1)=(dd+d)+1 from rfl,run_equalIn_array W (dd+d) xs ys hu hi,hs',List.range_eq_range'];exact mH (cB dd d e ks1 hw) (mI hw) hs hx hy hll W m 0 (by omega) (by simpa using hk) (by simpa using he)
     ·cases hs'
    ·cases h
   ·cases h
  ·cases h
end
theorem mK {P:Program} {E:Env} {ti:List (Nat × TI)} (hti:E.ti=ti) {l:List Nat} (h:XY P ti l=true):∀ t,t∈l→EqSnd P t (E.tyd t).ks:=by
 induction l with
 | nil=>intro t ht; cases ht
 | cons t r ih=>
  intro t' ht';simp only [XY,AG,BO] at h;rcases AT.1 ht' with e | e
  ·subst e;refine ⟨h.1.1,fun γ o w w' O l l' xs ys c hk hc hx hy=>?_⟩;obtain ⟨⟨_,h2,h3⟩,_⟩:=h;split at h3
   ·rename_i ks hn;have hks:(E.tyd t').ks=ks:=by
     unfold Env.tyd;rw [hti];exact c6 h3
    rw [hks] at hk;split at h2
    ·rename_i k hk2;have hcx:∀ {l:List V} {xs:Array Value},VRels γ o w O l xs.toList→OI P γ o w O t' l (.agg xs):=fun hx=>by
      unfold OI;rw [hk2];simp only [h2];exact ⟨_,rfl,hx⟩
     exact cB (P:=P) (γ:=γ) (o:=o) (w:=w) (O:=O) 9990 10 t' ks hn w' (.agg xs) (.agg ys) l l' c hk (hcx hx) (hcx hy) hc
    ·cases h2
   ·cases h3
  ·exact ih h.2 t' e
open Go Go.RowKit
theorem Snd.mono {P:Program} {B:BT} {f:FuncId} {sp sp':NK} (h:Snd P B f sp) (hs:∀ vs r,sp' vs=some r→sp vs=some r):Snd P B f sp':=
 fun w X γ vs xs r out hsp=>h w X γ vs xs r out (hs vs _ hsp)
def DD (P:Program) (B:BT) (f:FuncId) (sp:DB):Prop:=Snd P B f (fun vs=>(sp vs).get)
mutual
def RG:Kd→IV→Prop
 | .int k,x=>k.min≤x.toInt∧x.toInt≤k.max
 | .bool,_=>True
 | .str,x=>x.toStr.size≤strMax
 | .list ag ks,x=>x.toList.length≤strMax∧∀ y∈x.toList,RH ks (EW ag y) 0
def RH:List Kd→(Nat→IV)→Nat→Prop
 | [],_,_=>True
 | k :: ks,f,j=>RG k (f j)∧RH ks f (j+1)
end
def wfL:V→Prop
 | .int k n=>k.min≤n∧n≤k.max
 | .str s=>s.size≤strMax
 | .list ag ks l=>l.length≤strMax∧∀ y∈l,RH ks (EW ag y) 0
 | .vec _ ag ks l=>l.length≤strMax∧∀ y∈l,RH ks (EW ag y) 0
 | .bld s=>s.size≤strMax
 | _=>True
def wfLs:List V→Prop
 | []=>True
 | v :: r=>wfL v∧wfLs r
def RI:V→Prop
 | .agg l=>wfLs l
 | .bor l=>wfLs l
 | v=>wfL v
def PL:List V→Prop
 | []=>True
 | v :: r=>RI v∧PL r
mutual
theorem Kd.Rel.wf {w:World} {O:Nat→Prop}:∀ {k:Kd} {x:IV} {v:Value},Kd.Rel w O k x v→RG k x
 | .int k,x,v,h=>by simp only [Kd.Rel] at h; simp only [RG]; exact h.2
 | .bool,x,v,h=>by simp only [RG]
 | .str,x,v,h=>by simp only [Kd.Rel] at h; simp only [RG]; exact h.2
 | .list ag ks,x,v,h=>by
  simp only [Kd.Rel] at h;obtain ⟨p,c,_,_,_,hl,hi⟩:=h;simp only [RG];refine ⟨hl,fun y hy=>?_⟩;obtain ⟨i,hi'⟩:=List.getElem?_of_mem hy;obtain ⟨b,o,_,_,_,hr⟩:=hi i y hi';exact Kd.RelAll.wf hr
theorem Kd.RelAll.wf {w:World} {O:Nat→Prop}:∀ {ks:List Kd} {f:Nat→IV} {j:Nat} {R:Nat→Value→Prop},Kd.RelAll w O ks f j R→RH ks f j
 | [],_,_,_,_=>by simp only [RH]
 | k :: ks,f,j,R,h=>by
  simp only [Kd.RelAll] at h;obtain ⟨⟨u,_,hr⟩,h2⟩:=h;simp only [RH];exact ⟨Kd.Rel.wf hr,Kd.RelAll.wf h2⟩
end
theorem VRel.wfL {γ:Nat→Value} {o:Store} {w:World} {O:Nat→Prop} {v:V} {x:Value} (h:VRel γ o w O v x):wfL v:=by
 cases v <;> simp only [FM.wfL] <;> simp only [VRel] at h
 ·exact h.2
 ·exact h.2
 ·have:=Kd.Rel.wf h
  simp only [RG,IV.toList] at this;exact this
theorem VRels.wfLs {γ:Nat→Value} {o:Store} {w:World} {O:Nat→Prop}:∀ {l:List V} {xs:List Value},VRels γ o w O l xs→wfLs l
 | [],[],_=>by simp only [FM.wfLs]
 | [],_ :: _,h=>by simp only [VRels] at h
 | _ :: _,[],h=>by simp only [VRels] at h
 | v :: vs,x :: xs,h=>by
  simp only [VRels] at h;simp only [FM.wfLs];exact ⟨h.1.wfL,VRels.wfLs h.2⟩
theorem No {B:BT} {γ:Nat→Value} {o:Store} {w:World} {O:Nat→Prop} {g:Value} {e:Nat} {ag:Bool} {ks:List Kd} {l:LI} (h:ObRel B γ o w O g (.row true e ag ks l)):wfL (.vec e ag ks l):=by
 simp only [ObRel] at h;obtain ⟨_,hl,xs,_,hr⟩:=h;simp only [FM.wfL];refine ⟨hl,fun y hy=>?_⟩;obtain ⟨i,hi⟩:=List.getElem?_of_mem hy;exact Kd.RelAll.wf (hr i y hi)
theorem Gj {B:BT} {nt:Nat} {w0:World} {X:Zone} {γ:Nat→Value} {a:Act} {w:World} {cs:List V} (h:Rel B nt w0 X γ ⟨[],D7 cs⟩ a w):wfLs cs:=by
 by_cases hb:∃ s,cs=[.bld s]
 ·obtain ⟨s,rfl⟩:=hb
  have:=h.ob 900000 (.bld s) (by simp [D7,DF])
  simp only [ObRel] at this;obtain ⟨b,v,p,_,_,_,_,_,hs⟩:=this;simp only [FM.wfLs,FM.wfL,CE];exact hs
 ·have he:D7 cs=(900000,some (.box (EV 900001 cs))) :: IB 900001 cs:=bZ (fun s e=>hb ⟨s,e⟩);have hbox:=h.ob 900000 (.box (EV 900001 cs)) (by rw [he,DF,A6 rfl]);simp only [ObRel] at hbox;obtain ⟨b,c,T,_,_,hr⟩:=hbox;have hall:∀ (j:Nat) (v:V),cs[j]?=some v→FM.wfL v:=by
   intro j v hj;by_cases hv:∃ e ag ks l,v = .vec e ag ks l
   ·obtain ⟨e,ag,ks,l,rfl⟩:=hv;have hat:=WF (nr:=900001) hj
    have:=h.ob (900001+j) _ (show CY (D7 cs) (900001+j)=_ by rw [he,DF,AX (by omega)]; exact hat)
    exact No this
   ·have hbk:(EV 900001 cs)[j]?=some v:=by
     rw [U0,hj];cases v <;> first | rfl | exact absurd ⟨_,_,_,_,rfl⟩ hv
    obtain ⟨x,_,hx⟩:=hr.get hbk;exact hx.wfL
  clear hr he hb h
  induction cs with
  | nil=>simp only [FM.wfLs]
  | cons v r ih=>
   simp only [FM.wfLs];exact ⟨hall 0 v rfl,ih (fun j u hj=>hall (j+1) u (by simpa using hj))⟩
theorem iW {B:BT} {nt:Nat} {w0:World} {X:Zone} {γ:Nat→Value} {a:Act} {w:World} {O:Nat→Prop} {o:Store} {cs:Option (List V)} (hcs:∀ l,cs=some l→wfLs l):∀ {vs:List V} {xs:List Value},(∀ l,.bor l∈vs→cs=some l)→VRels γ o w O (vs.map D4) xs→PL vs
 | [],_,_,_=>by simp only [PL]
 | v :: r,[],_,h=>by simp only [A2,VRels] at h
 | v :: r,x :: xs,hb,h=>by
  simp only [A2,VRels] at h;simp only [PL];refine ⟨?_,iW (B:=B) (nt:=nt) (w0:=w0) (X:=X) (a:=a) hcs (fun l hl=>hb l (AW _ hl)) h.2⟩;have h1:=h.1;by_cases hbor:∃ l,v = .bor l
  ·obtain ⟨l,rfl⟩:=hbor;simp only [RI];exact hcs l (hb l (AR ..))
  ·by_cases hagg:∃ l,v = .agg l
   ·obtain ⟨l,rfl⟩:=hagg;simp only [D4,VRel] at h1;obtain ⟨cs',_,hr⟩:=h1;simp only [RI];exact hr.wfLs
   ·have:RI v=FM.wfL v:=by cases v <;> first | rfl | exact absurd ⟨_,rfl⟩ hbor | exact absurd ⟨_,rfl⟩ hagg
    rw [this];cases v <;> first | exact h1.wfL | exact absurd ⟨_,rfl⟩ hbor | exact absurd ⟨_,rfl⟩ hagg | (simp only [FM.wfL])
def L7:List V→Option (List V)→Prop
 | [],_=>True
 | .bor l :: r,c=>c=some l∧L7 r c
 | _ :: r,c=>L7 r c
theorem eB:∀ {vs:List V} {c:Option (List V)},L7 vs c→∀ l,.bor l∈vs→c=some l
 | [],_,_,l,h=>by cases h
 | v :: r,c,ho,l,h=>by
  rcases AT.1 h with e | e
  ·subst e;exact ho.1
  ·cases v <;> simp only [L7] at ho <;> first | exact eB ho l e | exact eB ho.2 l e
theorem sJ {P:Program} {B:BT} {f:FuncId} {fn:Func} (E:Nat→Env) (sp:DB) (rks:List (List Kd)) (hf:P.funcs[f]?=some fn) {code:Code} {rs:List ResultVar} {nt:Nat}
  (hc:(fn.name == "runtime.NumGoroutine")=false∧fn.body=some code∧fn.ntmps=nt∧BM nt 900000=true∧fn.results.toList=rs) (hnt:∀ N,(E N).nt=nt) (hm:P.follows .mixedOrders=true)
  (hT:∀ N,TiOK P B (E N)) (hE:∀ N t,t∈(E N).eqs→EqSnd P t ((E N).tyd t).ks) (hSp:∀ N f sp,lk (E N).sp f=some sp→DD P B f sp) (hIp:∀ N f p,lk (E N).ip f=some p→NC P f p) (hB:∀ N,BldOK P B (E N))
  (h:∀ vs r,(L7 vs (EL vs)→PL vs)→(sp vs).get=some r→∃ N,DE (E N) code rs rks vs=some r):DD P B f sp:=by
 intro w X γ vs xs r out hsp hg hx hR hV;have hwf:L7 vs (EL vs)→PL vs:=fun ho=>by
  refine iW (B:=B.base) (nt:=0) (w0:=w) (X:=X) (a:=IG) (cs:=EL vs) (fun l hl=>?_) (eB ho) hV;have hm:HL vs=D7 l:=by simp only [HL,hl]
  rw [hm] at hR;exact Gj hR
 obtain ⟨N,hN⟩:=h vs _ hwf hsp;exact zH hf hc.1 hc.2.1 ((hnt N).trans hc.2.2.1.symm) (by rw [hc.2.2.1]; exact hc.2.2.2.1) hc.2.2.2.2 rks hm (hT N) (hE N) (hSp N) (hIp N) (hB N) w X γ vs xs r out hN hg hx hR hV
abbrev ic (n:Nat):Int:=n
noncomputable abbrev DC (E:Env) (c:Code) (kp:KP) (n:Nat) (s:St) (k:Out→St→C0):C0:=MV c (HI MV E c) kp n s k
noncomputable abbrev C5 (E:Env) (c:Code) (k:Out→St→C0):Out→St→C0:=nR c (HI MV E c) k
noncomputable abbrev EK (E:Env) (c:Code) (s:St) (k:Out→St→C0):C0:=HI MV E c s k
theorem DI (E:Env) (c:Code) (kp:KP) (n:Nat) (s:St) (k:Out→St→C0):DC E c kp (n+1) s k=EK E c s (EF (fun s'=>DC E c kp n s' k) kp k):=rfl
def DG (fn:Func):Code:=match fn.body with | some c=>c | none=>.skip
def CX:Code→List Nat→Code
 | c,[]=>c
 | .seq a _,0 :: r=>CX a r
 | .seq _ b,_ :: r=>CX b r
 | .cond _ a _,0 :: r=>CX a r
 | .cond _ _ b,_ :: r=>CX b r
 | .block _ c,_ :: r=>CX c r
 | .loop c,_ :: r=>CX c r
 | .scope c,_ :: r=>CX c r
 | _,_=>.skip
open Go Go.RowKit
section
variable {P:Program} {B:BT} {f:FuncId}
theorem Does.of_calls {fn:Func} (hf:P.funcs[f]?=some fn) (hn:(fn.name == "runtime.NumGoroutine")=false) (hb:fn.body.isNone=false) {xs:List Value} {w:World} {R:Ending→World→Prop} (h:Calls P f xs.toArray w R):Does P f xs w R:=Does.enter hf hn hb h
theorem Pz {w:World} {X:Zone} {γ:Nat→Value} {vs:List V} {xs:List Value} {e:Nat} {ag:Bool} {ks:List Kd} {l:LI} (hR:Rel B.base 0 w X γ ⟨[],HL vs⟩ IG w) (hb:EL vs=none) (he:e < 1000000) (hks:0 < ks.length) (hl:l.length≤strMax)
  (h:Does P f xs w fun e' w'=>∃ v ys,e' = .returned v∧Keep (fun _=>False) w w'∧w'.ownsRow w.heap.size e ks.length v l.length ys∧∀ (O:Nat→Prop) i y,l[i]?=some y→Kd.RelAll w' O ks (EW ag y) 0 (fun j u=>ys[i*ks.length+j]?=some u)) :
  Does P f xs w fun e' w'=>∃ x,e' = .returned x∧∃ γ',Rel B.base 0 w X γ' ⟨[],FT (.vec e ag ks l) []⟩ IG w'∧VRel γ' (FT (.vec e ag ks l) []) w' (CZ X γ' (FT (.vec e ag ks l) [])) (J6 (.vec e ag ks l)) x∧JR vs (.vec e ag ks l) [] (γ 900000) (γ' 900000):=by
 have hm:HL vs=[]:=by simp only [HL,hb]
 rw [hm] at hR;have hmo:FT (.vec e ag ks l) []=[(900000,some (.row true e ag ks l))]:=rfl;rw [hmo];refine h.mono ?_;rintro e' w' ⟨v,ys,rfl,hk,hown,hel⟩;have hown0:w'.ownsRow 0 e ks.length v l.length ys:=by
  refine ⟨hown.1,?_⟩;rcases hown.2 with h1 | ⟨g,cap,cur,h1,_,h2,h3,h4,h5,h6⟩
  ·exact .inl h1
  ·exact .inr ⟨g,cap,cur,h1,B7 _,h2,h3,h4,h5,h6⟩
 have obs:∀ n ob,CY [(900000,some (Ob.row true e ag ks l))] n=some ob→n=900000∧ob = .row true e ag ks l:=fun n ob hn=>by
  rw [DF] at hn;split at hn
  ·rename_i h9;simp only [AB] at hn;exact ⟨h9.symm,hn.symm⟩
  ·simp [CY,D6] at hn
 have hfresh:∀ b,v.ownBlock=some b→w.heap.size≤b∧b < w'.heap.size:=fun b hb=>hown.lt b hb
 have ownP:∀ b,ED (fun n=>if n=900000 then v else γ n) [(900000,some (Ob.row true e ag ks l))] b→v.ownBlock=some b:=by
  rintro b ⟨n,ob,hn,hb⟩;obtain ⟨rfl,rfl⟩:=obs n ob hn;simpa only [D3,B8] using hb
 refine ⟨v,rfl,fun n=>if n=900000 then v else γ n,⟨hR.sz,hR.df,fun i=>by simp only [St.get,D6,VRel],fun n ob hn=>?_,fun b hb=>?_,fun n m ob ob' b hnm h1 h2=>?_,hk.mono (fun _ _ h=>h.elim),fun b hb hf=>?_,fun b hf=>CC (hR.fl b hf) hk.size,fun p hp=>by cases hp⟩,?_,?_⟩
 ·obtain ⟨rfl,rfl⟩:=obs n ob hn;simp only [ObRel,B8];exact ⟨hks,hl,ys,OwnRow.of hown0 he,hel _⟩
 ·have:=hfresh b (ownP b hb)
  exact ⟨this.2,.inl this.1⟩
 ·obtain ⟨rfl,rfl⟩:=obs n ob h1;obtain ⟨rfl,rfl⟩:=obs m ob' h2;exact absurd rfl hnm
 ·have:=hfresh b (ownP b hb)
  have:=hR.fl b hf
  omega
 ·simp only [J6,VRel,DF,B8];refine ⟨AO _,?_⟩;rcases hown.2 with ⟨rfl,h0⟩ | ⟨g,cap,cur,rfl,_,h2,h3,h4,h5,h6⟩
  ·exact ⟨none,0,0,none,rfl,by rw [h0],B7 _,by rw [h0]; exact AO _,AO _,B7 _,.inl rfl,fun _=>rfl⟩
  ·refine ⟨some ⟨g,0,none⟩,l.length,cap,some ⟨g,0,none⟩,rfl,by simp,B7 _,AO _,h3,h4,.inl ?_,fun _=>rfl⟩;simp [Addr.add]
 ·simp only [JR,hb,SM]
end
open Go Go.RowKit
theorem R.get_br (b:Bool) (x y:R):(R.br b x y).get=cond b x.get y.get:=by cases b <;> rfl
theorem R.get_ok (v:V) (o:List (List V)):(R.ok v o).get=some (v,o):=rfl
theorem R.get_no:R.no.get=none:=rfl
def cutL (s sep:BA):BA:=⟨(Lib.cut s.data.toList sep.data.toList).1.toArray⟩
open Go Go.Proofs
def WU:List (Nat × TI):=[
 (2,⟨1,8,false,[.z],[.int .i64 0],.leaf⟩),
 (3,⟨1,8,false,[.z],[.int .i64 0],.leaf⟩),
 (4,⟨1,1,false,[.bool],[.bool false],.leaf⟩),
 (5,⟨1,1,false,[.int .u8],[.int .u8 0],.leaf⟩),
 (6,⟨1,1,false,[.int .u8],[.int .u8 0],.leaf⟩),
 (7,⟨4,24,true,[.z,.z,.bool,.int .u8],[.int .i64 0,.int .i64 0,.bool false,.int .u8 0],.struct [(0,2),(1,3),(2,4),(3,6)]⟩),
 (22,⟨1,24,false,[.list false [.z]],[.zs],.slice 3⟩),
 (23,⟨1,24,false,[.list true [.z,.list false [.z],.list false [.z],.list false [.z],.list false [.z]]],[.zs],.slice 61⟩),
 (25,⟨4,64,true,[.z,.z,.list false [.z],.list true [.z,.list false [.z],.list false [.z],.list false [.z],.list false [.z]]],[.int .i64 0,.int .i64 0,.zs,.zs],.struct [(0,3),(1,3),(2,22),(3,23)]⟩),
 (27,⟨8,80,true,[.z,.z,.z,.z,.z,.z,.bool,.list false [.z]],[.int .i64 0,.int .i64 0,.int .i64 0,.int .i64 0,.int .i64 0,.int .i64 0,.bool false,.zs],.struct [(0,3),(1,3),(2,3),(3,3),(4,3),(5,3),(6,4),(7,22)]⟩),
 (29,⟨2,16,true,[.z,.z],[.int .i64 0,.int .i64 0],.struct [(0,3),(1,3)]⟩),
 (31,⟨10,80,true,[.z,.z,.z,.z,.z,.z,.z,.z,.z,.z],[.int .i64 0,.int .i64 0,.int .i64 0,.int .i64 0,.int .i64 0,.int .i64 0,.int .i64 0,.int .i64 0,.int .i64 0,.int .i64 0],.array 5 29⟩),
 (33,⟨17,136,true,[.z,.z,.z,.z,.z,.z,.z,.z,.z,.z,.z,.z,.z,.z,.z,.bool,.z],[.int .i64 0,.int .i64 0,.int .i64 0,.int .i64 0,.int .i64 0,.int .i64 0,.int .i64 0,.int .i64 0,.int .i64 0,.int .i64 0,.int .i64 0,.int .i64 0,.int .i64 0,.int .i64 0,.int .i64 0,.bool false,.int .i64 0],.struct [(0,3),(1,3),(2,31),(12,3),(13,3),(14,3),(15,4),(16,3)]⟩),
 (34,⟨3,24,true,[.z,.z,.z],[.int .i64 0,.int .i64 0,.int .i64 0],.array 3 3⟩),
 (35,⟨1,24,false,[.list true [.z,.list false [.int .u64]]],[.zs],.slice 65⟩),
 (37,⟨6,64,true,[.z,.z,.z,.z,.z,.list true [.z,.list false [.int .u64]]],[.int .i64 0,.int .i64 0,.int .i64 0,.int .i64 0,.int .i64 0,.zs],.struct [(0,3),(1,3),(2,34),(5,35)]⟩),
 (41,⟨1,24,false,[.list true [.bool,.z,.z]],[.zs],.slice 71⟩),
 (43,⟨4,32,true,[.z,.z,.z,.z],[.int .i64 0,.int .i64 0,.int .i64 0,.int .i64 0],.array 4 3⟩),
 (45,⟨8,80,true,[.z,.list true [.bool,.z,.z],.z,.z,.z,.z,.z,.z],[.int .i64 0,.zs,.int .i64 0,.int .i64 0,.int .i64 0,.int .i64 0,.int .i64 0,.int .i64 0],.struct [(0,3),(1,41),(2,43),(6,3),(7,3)]⟩),
 (48,⟨1,8,false,[.list false []],[.nilp],.ptr 80⟩),
 (61,⟨5,104,true,[.z,.list false [.z],.list false [.z],.list false [.z],.list false [.z]],[.int .i64 0,.zs,.zs,.zs,.zs],.struct [(0,3),(1,22),(2,22),(3,22),(4,22)]⟩),
 (62,⟨1,24,false,[.list false [.int .u64]],[.zs],.slice 91⟩),
 (65,⟨2,32,true,[.z,.list false [.int .u64]],[.int .i64 0,.zs],.struct [(0,3),(1,62)]⟩),
 (68,⟨1,24,false,[.list true [.z,.z,.z,.z,.z,.z,.z,.z,.z,.z]],[.zs],.slice 31⟩),
 (71,⟨3,24,true,[.bool,.z,.z],[.bool false,.int .i64 0,.int .i64 0],.struct [(0,4),(1,3),(2,3)]⟩),
 (80,⟨34,336,true,[.z,.z,.z,.z,.z,.list true [.z,.list false [.int .u64]],.z,.z,.z,.z,.z,.z,.z,.z,.z,.z,.z,.z,.z,.z,.z,.bool,.z,.list true [.z,.z,.z,.z,.z,.z,.z,.z,.z,.z],.list true [.bool,.z,.z],.z,.list true [.bool,.z,.z],.z,.z,.z,.z,.z,.z,.z],[.int .i64 0,.int .i64 0,.int .i64 0,.int .i64 0,.int .i64 0,.zs,.int .i64 0,.int .i64 0,.int .i64 0,.int .i64 0,.int .i64 0,.int .i64 0,.int .i64 0,.int .i64 0,.int .i64 0,.int .i64 0,.int .i64 0,.int .i64 0,.int .i64 0,.int .i64 0,.int .i64 0,.bool false,.int .i64 0,.zs,.zs,.int .i64 0,.zs,.int .i64 0,.int .i64 0,.int .i64 0,.int .i64 0,.int .i64 0,.int .i64 0,.int .i64 0],.struct [(0,37),(6,33),(23,68),(24,41),(25,45),(33,3)]⟩),
 (89,⟨6,48,true,[.bool,.z,.z,.z,.z,.z],[.bool false,.int .i64 0,.int .i64 0,.int .i64 0,.int .i64 0,.int .i64 0],.struct [(0,4),(1,3),(2,3),(3,3),(4,3),(5,3)]⟩),
 (90,⟨1,24,false,[.list true [.bool,.z,.z,.z,.z,.z]],[.zs],.slice 89⟩),
 (91,⟨1,8,false,[.int .u64],[.int .u64 0],.leaf⟩),
 (112,⟨1,8,false,[.int .u64],[.int .u64 0],.leaf⟩),
 (116,⟨1,8,false,[.list false []],[.any],.map 4 (.bool)⟩),
 (127,⟨1,8,false,[.list false []],[.any],.map 3 .z⟩),
 (128,⟨1,24,false,[.list true [.z,.z,.z,.z,.z,.z,.z,.z,.z,.z,.z]],[.zs],.slice 131⟩),
 (131,⟨11,88,true,[.z,.z,.z,.z,.z,.z,.z,.z,.z,.z,.z],[.int .i64 0,.int .i64 0,.int .i64 0,.int .i64 0,.int .i64 0,.int .i64 0,.int .i64 0,.int .i64 0,.int .i64 0,.int .i64 0,.int .i64 0],.struct [(0,31),(10,3)]⟩)]
def cA:List Nat:=[29,43,71,89]
noncomputable abbrev PR:Program:=Tryz.prog
theorem uL:WP PR 999999 WU=true:=by kernel_rfl
theorem mJ:XY PR WU cA=true:=by kernel_rfl
theorem oV:PR.follows .mixedOrders=true:=by kernel_rfl
theorem i4 (h:(D6 TI.none WU 999999).d = .bld):∃ i,PR.info? 999999=some i∧i.zero=some (.agg #[.pointer none,.slice none 0 0]):=by
 have h':TD.leaf = .bld:=h;cases h'
def DJ (sp:List (Nat × DB)) (lp:List (Nat × KP)) (nt N:Nat):Env:=⟨WU,sp,[],lp,nt,N,cA,[]⟩
def YZ (sp:List (Nat × DB)) (ip:List (Nat × Ip)) (lp:List (Nat × KP)) (nt N:Nat):Env:=⟨WU,sp,[],lp,nt,N,cA,ip⟩
abbrev HF (fn:Func) (c:Code) (nt:Nat) (rs:List ResultVar):Prop:=(fn.name == "runtime.NumGoroutine")=false∧fn.body=some c∧fn.ntmps=nt∧BM nt 900000=true∧fn.results.toList=rs
theorem DH {fn:Func} {nt:Nat} {rs:List ResultVar} (h:(!(fn.name == "runtime.NumGoroutine")&&(fn.body.isSome&&(fn.ntmps==nt&&BM nt 900000)))=true:=by kernel_rfl) (h2:fn.results.toList=rs:=by kernel_rfl):HF fn (DG fn) nt rs:=by
 simp only [AG,BO,BP] at h;refine ⟨h.1,?_,h.2.2.1,h.2.2.2,h2⟩;unfold DG;cases hb:fn.body with
 | none=>rw [hb] at h; exact absurd h.2.1 (by decide)
 | some c=>rfl
noncomputable def jP:Code:=DG Tryz.f4
theorem Ct:HF Tryz.f4 jP 111 [.tmp 8]:=DH
noncomputable def JS:Code:=DG Tryz.f5
theorem Cn:HF Tryz.f5 JS 63 [.cell 2 37]:=DH
noncomputable def jL:Code:=DG Tryz.f6
theorem Cm:HF Tryz.f6 jL 58 [.cell 4 33]:=DH
noncomputable def jK:Code:=DG Tryz.f7
theorem Cl:HF Tryz.f7 jK 24 [.tmp 6]:=DH
noncomputable def jN:Code:=DG Tryz.f9
theorem Cr:HF Tryz.f9 jN 38 [.tmp 4]:=DH
noncomputable def OT:Code:=DG Tryz.f10
theorem Ew:HF Tryz.f10 OT 13 [.cell 4 45]:=DH
noncomputable def kO:Code:=DG Tryz.f11
theorem Ev:HF Tryz.f11 kO 26 [.tmp 4]:=DH
noncomputable def U3:Code:=DG Tryz.f12
theorem Ey:HF Tryz.f12 U3 22 [.cell 2 45]:=DH
noncomputable def U2:Code:=DG Tryz.f13
theorem Ex:HF Tryz.f13 U2 165 [.tmp 2]:=DH
noncomputable def jQ:Code:=DG Tryz.f14
theorem Cu:HF Tryz.f14 jQ 60 [.tmp 0]:=DH
noncomputable def QF:Code:=DG Tryz.f15
theorem Dy:HF Tryz.f15 QF 29 [.tmp 8,.tmp 9]:=DH
noncomputable def kJ:Code:=DG Tryz.f16
theorem Er:HF Tryz.f16 kJ 16 [.cell 2 31]:=DH
noncomputable def NO:Code:=DG Tryz.f17
theorem Db:HF Tryz.f17 NO 38 [.tmp 6,.tmp 7]:=DH
noncomputable def jO:Code:=DG Tryz.f18
theorem Cs:HF Tryz.f18 jO 15 [.tmp 4]:=DH
noncomputable def JA:Code:=DG Tryz.f19
theorem Cq:HF Tryz.f19 JA 113 [.tmp 4]:=DH
noncomputable def OQ:Code:=DG Tryz.f20
theorem Co:HF Tryz.f20 OQ 32 [.cell 4 31]:=DH
noncomputable def OR:Code:=DG Tryz.f21
theorem Cz:HF Tryz.f21 OR 139 [.tmp 4]:=DH
noncomputable def jS:Code:=DG Tryz.f22
theorem Da:HF Tryz.f22 jS 28 [.cell 2 31]:=DH
noncomputable def KI:Code:=DG Tryz.f24
theorem Cv:HF Tryz.f24 KI 87 [.tmp 8]:=DH
noncomputable def jR:Code:=DG Tryz.f25
theorem Cy:HF Tryz.f25 jR 16 [.cell 2 43]:=DH
noncomputable def OP:Code:=DG Tryz.f28
theorem Ck:HF Tryz.f28 OP 26 [.tmp 4]:=DH
noncomputable def kH:Code:=DG Tryz.f29
theorem Eo:HF Tryz.f29 kH 41 [.tmp 4]:=DH
noncomputable def j7:Code:=DG Tryz.f31
theorem Dv:HF Tryz.f31 j7 86 [.tmp 6]:=DH
noncomputable def j8:Code:=DG Tryz.f32
theorem Dw:HF Tryz.f32 j8 9 [.cell 2 43,.tmp 3]:=DH
noncomputable def KK:Code:=DG Tryz.f33
theorem Em:HF Tryz.f33 KK 75 [.tmp 8]:=DH
noncomputable def NP:Code:=DG Tryz.f34
theorem Dx:HF Tryz.f34 NP 31 [.tmp 6,.tmp 7,.tmp 8]:=DH
noncomputable def xV:Code:=DG Tryz.f35
theorem Ch:HF Tryz.f35 xV 32 [.cell 6 31,.cell 7 31]:=DH
noncomputable def jM:Code:=DG Tryz.f36
theorem Cp:HF Tryz.f36 jM 14 [.cell 0 37]:=DH
noncomputable def a9:Code:=DG Tryz.f37
theorem Dz:HF Tryz.f37 a9 24 [.tmp 8]:=DH
noncomputable def kL:Code:=DG Tryz.f38
theorem Et:HF Tryz.f38 kL 16 [.tmp 2]:=DH
noncomputable def HG:Code:=DG Tryz.f39
theorem Cw:HF Tryz.f39 HG 89 [.tmp 8,.tmp 9]:=DH
noncomputable def jV:Code:=DG Tryz.f40
theorem Dg:HF Tryz.f40 jV 32 [.tmp 2]:=DH
noncomputable def JB:Code:=DG Tryz.f41
theorem Dh:HF Tryz.f41 JB 77 [.tmp 2]:=DH
noncomputable def jT:Code:=DG Tryz.f42
theorem Dd:HF Tryz.f42 jT 27 [.tmp 4]:=DH
noncomputable def K6:Code:=DG Tryz.f46
theorem Df:HF Tryz.f46 K6 46 [.tmp 6]:=DH
noncomputable def G6:Code:=DG Tryz.f47
theorem Cx:HF Tryz.f47 G6 133 [.tmp 8]:=DH
noncomputable def MO:Code:=DG Tryz.f49
theorem Ed:HF Tryz.f49 MO 54 [.tmp 2]:=DH
noncomputable def kM:Code:=DG Tryz.f50
theorem Eu:HF Tryz.f50 kM 35 [.tmp 4]:=DH
noncomputable def kK:Code:=DG Tryz.f51
theorem Es:HF Tryz.f51 kK 71 [.tmp 4]:=DH
noncomputable def jI:Code:=DG Tryz.f52
theorem Ci:HF Tryz.f52 jI 12 [.tmp 2]:=DH
noncomputable def GJ:Code:=DG Tryz.f53
theorem Cf:HF Tryz.f53 GJ 69 [.tmp 6,.tmp 7,.tmp 8]:=DH
noncomputable def ON:Code:=DG Tryz.f54
theorem Ce:HF Tryz.f54 ON 62 [.tmp 6,.tmp 7]:=DH
noncomputable def j4:Code:=DG Tryz.f55
theorem Dr:HF Tryz.f55 j4 23 [.tmp 4]:=DH
noncomputable def jZ:Code:=DG Tryz.f56
theorem Dp:HF Tryz.f56 jZ 54 [.tmp 6,.tmp 7,.tmp 8]:=DH
noncomputable def jJ:Code:=DG Tryz.f57
theorem Cj:HF Tryz.f57 jJ 16 [.cell 2 43]:=DH
noncomputable def kA:Code:=DG Tryz.f58
theorem Ec:HF Tryz.f58 kA 24 [.tmp 6]:=DH
noncomputable def kS:Code:=DG Tryz.f59
theorem Fd:HF Tryz.f59 kS 15 [.tmp 4]:=DH
noncomputable def kI:Code:=DG Tryz.f60
theorem Ep:HF Tryz.f60 kI 14 [.cell 6 43]:=DH
noncomputable def kQ:Code:=DG Tryz.f61
theorem Fb:HF Tryz.f61 kQ 29 [.cell 4 29,.cell 5 29]:=DH
noncomputable def j9:Code:=DG Tryz.f62
theorem Ea:HF Tryz.f62 j9 23 [.tmp 4]:=DH
noncomputable def K7:Code:=DG Tryz.f64
theorem Ef:HF Tryz.f64 K7 54 [.tmp 4]:=DH
noncomputable def jW:Code:=DG Tryz.f66
theorem Di:HF Tryz.f66 jW 66 [.tmp 2]:=DH
noncomputable def JC:Code:=DG Tryz.f67
theorem Dj:HF Tryz.f67 JC 94 [.tmp 4]:=DH
noncomputable def jY:Code:=DG Tryz.f69
theorem Dl:HF Tryz.f69 jY 23 [.tmp 4]:=DH
noncomputable def jX:Code:=DG Tryz.f70
theorem Dk:HF Tryz.f70 jX 42 [.cell 2 89,.tmp 3]:=DH
noncomputable def jB:Code:=DG Tryz.f71
theorem Bv:HF Tryz.f71 jB 25 [.tmp 4]:=DH
noncomputable def kP:Code:=DG Tryz.f72
theorem Ez:HF Tryz.f72 kP 9 [.tmp 4]:=DH
noncomputable def kB:Code:=DG Tryz.f73
theorem Ee:HF Tryz.f73 kB 22 [.tmp 3]:=DH
noncomputable def IT:Code:=DG Tryz.f74
theorem Fg:HF Tryz.f74 IT 94 [.tmp 4]:=DH
noncomputable def kR:Code:=DG Tryz.f75
theorem Fc:HF Tryz.f75 kR 8 [.tmp 2]:=DH
noncomputable def OO:Code:=DG Tryz.f76
theorem Cg:HF Tryz.f76 OO 43 [.tmp 4,.tmp 5,.tmp 6]:=DH
noncomputable def j6:Code:=DG Tryz.f77
theorem Du:HF Tryz.f77 j6 16 [.tmp 2]:=DH
noncomputable def j3:Code:=DG Tryz.f78
theorem Dq:HF Tryz.f78 j3 10 [.cell 4 31]:=DH
noncomputable def j5:Code:=DG Tryz.f79
theorem Dt:HF Tryz.f79 j5 15 [.cell 4 31]:=DH
noncomputable def K8:Code:=DG Tryz.f80
theorem Eg:HF Tryz.f80 K8 33 [.tmp 6]:=DH
noncomputable def kU:Code:=DG Tryz.f81
theorem Ff:HF Tryz.f81 kU 12 [.cell 4 29]:=DH
noncomputable def kT:Code:=DG Tryz.f82
theorem Fe:HF Tryz.f82 kT 2 [.cell 0 29]:=DH
noncomputable def kE:Code:=DG Tryz.f84
theorem Ej:HF Tryz.f84 kE 33 [.cell 2 89,.tmp 3]:=DH
noncomputable def KJ:Code:=DG Tryz.f88
theorem Dm:HF Tryz.f88 KJ 41 [.tmp 4]:=DH
noncomputable def jU:Code:=DG Tryz.f89
theorem De:HF Tryz.f89 jU 31 [.tmp 4]:=DH
noncomputable def NQ:Code:=DG Tryz.f90
theorem Fa:HF Tryz.f90 NQ 19 [.tmp 4]:=DH
noncomputable def OS:Code:=DG Tryz.f91
theorem Eb:HF Tryz.f91 OS 79 [.tmp 4]:=DH
noncomputable def kV:Code:=DG Tryz.f92
theorem Fh:HF Tryz.f92 kV 15 [.tmp 4]:=DH
noncomputable def jE:Code:=DG Tryz.f93
theorem Ca:HF Tryz.f93 jE 14 [.tmp 6]:=DH
noncomputable def jC:Code:=DG Tryz.f94
theorem Bw:HF Tryz.f94 jC 18 [.tmp 6]:=DH
noncomputable def kF:Code:=DG Tryz.f95
theorem Ek:HF Tryz.f95 kF 11 [.tmp 5]:=DH
noncomputable def kC:Code:=DG Tryz.f96
theorem Eh:HF Tryz.f96 kC 32 [.tmp 2]:=DH
noncomputable def KL:Code:=DG Tryz.f99
theorem Fi:HF Tryz.f99 KL 46 [.tmp 4,.cell 5 89]:=DH
noncomputable def jF:Code:=DG Tryz.f100
theorem Cb:HF Tryz.f100 jF 21 [.tmp 4]:=DH
noncomputable def jG:Code:=DG Tryz.f101
theorem Cc:HF Tryz.f101 jG 21 [.tmp 4]:=DH
noncomputable def jH:Code:=DG Tryz.f102
theorem Cd:HF Tryz.f102 jH 7 [.tmp 2]:=DH
noncomputable def kD:Code:=DG Tryz.f103
theorem Ei:HF Tryz.f103 kD 43 [.tmp 2]:=DH
noncomputable def jD:Code:=DG Tryz.f104
theorem Bz:HF Tryz.f104 jD 30 [.tmp 8]:=DH
noncomputable def kG:Code:=DG Tryz.f116
theorem El:HF Tryz.f116 kG 9 [.tmp 2]:=DH
open Go Go.Proofs Go.RowKit
theorem Keep.freeze {O:Nat→Prop} (w:World) (a:Addr) (n:Nat) (h:O a.block):Keep O w (w.freeze a n):=by
 unfold World.freeze;split
 ·exact Keep.refl _ _
 ·exact ⟨rfl,rfl,rfl,by simp,fun b _ hn=>by simp only [Array.getElem?_modify]; rw [AX (fun e:a.block=b=>hn (e ▸ h))]⟩
end Go.FM
namespace Go.Proofs
open Go.Shelf
def Tryz.lays189_ren:Go.Shelf.Ren:=⟨fun | 189=>85 | 125=>98 | 257=>97 | 128=>114 | 129=>115 | 294=>105 | 295=>106 | 296=>107 | 297=>108 | 298=>109 | 299=>110 | 216=>111 | 300=>112 | 301=>113 | 328=>117 | 329=>118 | 330=>119 | 331=>120 | 332=>121 | 215=>122 | 343=>123 | n=>n,fun | 28=>22 | 3=>3 | 46=>112 | 0=>0 | 51=>150 | 53=>91 | 4=>4 | 183=>144 | 182=>143 | 131=>53 | 5=>5 | 9=>9 | 218=>152 | 222=>156 | 228=>158 | 229=>159 | n=>n,fun | n=>n⟩
theorem Tryz.lays189:Go.Proofs.Lays.n189 Tryz.prog Tryz.lays189_ren:= by constructor <;> first | kernel_rfl | (intro _; kernel_rfl)
open Go.Sort Go.RowKit in
theorem Tryz.slices_Sort_int (blk off cap:Nat) (zs:List Int) (w:World) (hH:Holds (Value.int .i64) w blk off zs.toArray) (hblk:blk < w.heap.size) (hsz:zs.length < 4611686018427387904) :
 Calls Tryz.prog 85 #[.slice (some ⟨blk,off,none⟩) zs.length cap] w fun e w'=>
  e = .returned (.tuple #[])∧∃ n os,w'=grow (putRow (Value.int .i64) (Sort.ahead w n) blk off (zs.mergeSort fun x y=>decide (x≤y)).toArray) os:=Any.slices_Sort_int Tryz.lays189 blk off cap zs w hH hblk hsz
def Tryz.laysNm220_ren:Go.Shelf.Ren:=⟨fun | 20=>86 | n=>n,fun | 22=>22 | 3=>3 | 4=>4 | 0=>0 | n=>n,fun | n=>n⟩
theorem Tryz.laysNm220:Go.Proofs.Lays2.n20 Tryz.prog Tryz.laysNm220_ren:={
 mixed:=by kernel_rfl
 f20:=Tryz.func86.trans (congrArg some (by kernel_rfl))
 t0:=Tryz.underlying0
 a0:=Tryz.isAgg0
 z0:=Tryz.sizeOf0
 v0:=Tryz.zeroValue0
 t3:=Tryz.underlying3
 a3:=Tryz.isAgg3
 z3:=Tryz.sizeOf3
 v3:=Tryz.zeroValue3
 t4:=Tryz.underlying4
 a4:=Tryz.isAgg4
 z4:=Tryz.sizeOf4
 v4:=Tryz.zeroValue4
 t22:=Tryz.underlying22
 a22:=Tryz.isAgg22
 z22:=Tryz.sizeOf22
 v22:=Tryz.zeroValue22
 i3:=by kernel_rfl }
open Go.RowKit Go.Lib Go.Sort in
theorem Tryz.slices_Compact_int (blk off cap:Nat) (zs:List Int) (w:World) (hH:Holds (Value.int .i64) w blk off zs.toArray) (hsz:zs.length≤9223372036854775807) (hcap:zs.length≤cap) :
 Calls Tryz.prog 86 #[.slice (some ⟨blk,off,none⟩) zs.length cap] w fun e w'=>e = .returned (.slice (some ⟨blk,off,none⟩) (Lib.compact zs).length cap)∧∃ q,w'=putRow (Value.int .i64) (Sort.ahead w q) blk off (Lib.compact zs++List.replicate (zs.length - (Lib.compact zs).length) 0).toArray:=Any.slices_Compact_int Tryz.laysNm220 blk off cap zs w hH hsz hcap
open Go.RowKit Go.Lib Go.Sort in
theorem Tryz.slices_Compact_int_empty (a:Option Addr) (cap:Nat) (w:World) :
 Calls Tryz.prog 86 #[.slice a 0 cap] w fun e w'=>e = .returned (.slice a 0 cap)∧w'=w:=Any.slices_Compact_int_empty Tryz.laysNm220 a cap w
open Go.RowKit Go.Sort in
theorem Tryz.slices_Sort_int_none (p:Option Addr) (cap:Nat) (w:World) :
 Calls Tryz.prog 85 #[.slice p 0 cap] w fun e w'=>e = .returned (.tuple #[])∧w'=w:=Any.slices_Sort_int_none Tryz.lays189 p cap w
def Tryz.laysSlH6_f83_ren:Go.Shelf.Ren:=⟨fun | 6=>83 | n=>n,fun | 22=>22 | 23=>3 | 25=>110 | 3=>3 | 0=>0 | 4=>4 | n=>n,fun | n=>n⟩
theorem Tryz.laysSlH6_f83:Go.Proofs.SlLaysH.n6 Tryz.prog Tryz.laysSlH6_f83_ren:={
 mixed:=by kernel_rfl
 f6:=⟨Tryz.f83.name,by decide,Tryz.func83.trans (congrArg some (by kernel_rfl))⟩
 t0:=Tryz.underlying0
 a0:=Tryz.isAgg0
 z0:=Tryz.sizeOf0
 v0:=Tryz.zeroValue0
 t3:=Tryz.underlying3
 a3:=Tryz.isAgg3
 z3:=Tryz.sizeOf3
 v3:=Tryz.zeroValue3
 t4:=Tryz.underlying4
 a4:=Tryz.isAgg4
 z4:=Tryz.sizeOf4
 v4:=Tryz.zeroValue4
 t22:=Tryz.underlying22
 a22:=Tryz.isAgg22
 z22:=Tryz.sizeOf22
 v22:=Tryz.zeroValue22
 a23:=Tryz.isAgg3
 z23:=Tryz.sizeOf3
 t25:=Tryz.underlying110
 a25:=Tryz.isAgg110
 z25:=Tryz.sizeOf110
 v25:=Tryz.zeroValue110 }
open Go.RowKit Go.Lib in
theorem Tryz.slices_IndexFunc_empty {α:Type} [Inhabited α] (a:Option Addr) (c:Nat) (fv:Value) (w:World) :
 Calls Tryz.prog 83 #[.slice a 0 c,fv] w fun e w'=>e = .returned (.int .i64 (-1))∧w'=w:=AnyE.slices_IndexFunc_empty Tryz.laysSlH6_f83 a c fv w
def Tryz.laysSlH10_f63_ren:Go.Shelf.Ren:=⟨fun | 10=>63 | 6=>83 | n=>n,fun | 22=>22 | 23=>3 | 25=>110 | 3=>3 | 4=>4 | 0=>0 | n=>n,fun | n=>n⟩
theorem Tryz.laysSlH10_f63:Go.Proofs.SlLaysH.n10 Tryz.prog Tryz.laysSlH10_f63_ren:={
 mixed:=by kernel_rfl
 f6:=⟨Tryz.f83.name,by decide,Tryz.func83.trans (congrArg some (by kernel_rfl))⟩
 f10:=⟨Tryz.f63.name,by decide,Tryz.func63.trans (congrArg some (by kernel_rfl))⟩
 t0:=Tryz.underlying0
 a0:=Tryz.isAgg0
 z0:=Tryz.sizeOf0
 v0:=Tryz.zeroValue0
 t3:=Tryz.underlying3
 a3:=Tryz.isAgg3
 z3:=Tryz.sizeOf3
 v3:=Tryz.zeroValue3
 t4:=Tryz.underlying4
 a4:=Tryz.isAgg4
 z4:=Tryz.sizeOf4
 v4:=Tryz.zeroValue4
 t22:=Tryz.underlying22
 a22:=Tryz.isAgg22
 z22:=Tryz.sizeOf22
 v22:=Tryz.zeroValue22
 a23:=Tryz.isAgg3
 z23:=Tryz.sizeOf3
 t25:=Tryz.underlying110
 a25:=Tryz.isAgg110
 z25:=Tryz.sizeOf110
 v25:=Tryz.zeroValue110 }
open Go.RowKit Go.Lib Go.Sort in
theorem Tryz.slices_DeleteFunc {α:Type} [Inhabited α] (enc:α→Value) (hO:OneCell enc) (p:α→Bool) (g:Nat) (lb:Array Value) (eg:∀ args w,(callFunc g args).run Tryz.prog w = .ok (.enter g args) w) (zr:α) (v23:∀ w,(zeroValue 3).run Tryz.prog w = .ok (enc zr) w) (blk off cap:Nat) (d:Array α) (w:World) (hp:PredAt Tryz.prog g lb enc p w) (hpo:PredOver Tryz.prog g lb enc p blk off d.size w) (hH:Holds enc w blk off d) (hsz:d.size≤9223372036854775807) (hcap:d.size≤cap) :
 Calls Tryz.prog 63 #[.slice (some ⟨blk,off,none⟩) d.size cap,.func (.func g) #[] lb] w fun e w'=>e = .returned (.slice (some ⟨blk,off,none⟩) (d.toList.filter fun x=>!p x).length cap)∧∃ q,w'=putRow enc (Sort.ahead w q) blk off ((d.toList.filter fun x=>!p x)++List.replicate (d.size - (d.toList.filter fun x=>!p x).length) zr).toArray:=AnyE.slices_DeleteFunc Tryz.laysSlH10_f63 enc hO p g lb eg zr v23 blk off cap d w hp hpo hH hsz hcap
end Go.Proofs
namespace Go.FM
open Go Go.Proofs Go.RowKit Go.Sort Go.Lib
open Go Go.RowKit
open Go Go.Proofs Go.RowKit
structure GF (h:Nat→Option Obj):Prop where
 unit:True
def B0:BT:={ T:=999999,e:=5,ng:=0,F:=GF }
theorem Keep.below {w w':World} (h:Below w.heap.size w w'):Keep (fun _=>False) w w':=⟨h.os,h.tape,h.output,h.size,fun b hb _=>h.block b hb⟩
theorem Keep.drewN {O:Nat→Prop} (w:World):∀ n,Keep O w (w.drewN n):=fun _=>⟨rfl,rfl,rfl,AO _,fun _ _ _=>rfl⟩
theorem Keep.grow (w:World) (os:Array Obj):Keep (fun _=>False) w (Go.Sort.grow w os):=⟨rfl,rfl,rfl,by simp [Go.Sort.grow],fun b hb _=>by simp [Go.Sort.grow,Array.getElem?_append_left hb]⟩
def SpsOK:List (Nat × DB)→Prop
 | []=>True
 | (f,sp) :: r=>DD PR B0 f sp∧SpsOK r
theorem SpsOK.get:∀ {l:List (Nat × DB)},SpsOK l→∀ f sp,lk l f=some sp→DD PR B0 f sp
 | [],_,f,sp,h=>by simp [lk] at h
 | (g,sg) :: r,hs,f,sp,h=>by
  simp only [lk] at h;split at h
  ·rename_i hb;simp only [AB] at h;subst h;rw [← EI.1 hb];exact hs.1
  ·exact SpsOK.get hs.2 f sp h
theorem DK {f:Nat} {fn:Func} {code:Code} {rs:List ResultVar} {nt:Nat} (sps:List (Nat × DB)) (lp:List (Nat × KP)) (sp:DB) (rks:List (List Kd)) (hf:PR.funcs[f]?=some fn)
  (hc:(fn.name == "runtime.NumGoroutine")=false∧fn.body=some code∧fn.ntmps=nt∧BM nt 900000=true∧fn.results.toList=rs) (hs:SpsOK sps)
  (h:∀ vs r,(L7 vs (EL vs)→PL vs)→(sp vs).get=some r→∃ N,DE (DJ sps lp nt N) code rs rks vs=some r):DD PR B0 f sp:=
 sJ (DJ sps lp nt) sp rks hf hc (fun _=>rfl) oV (fun _=>uM rfl uL) (fun _=>mK rfl mJ) (fun _=>hs.get) (fun _ f p hp=>by cases hp) (fun _ h=>i4 h) h
def IpsOK:List (Nat × Ip)→Prop
 | []=>True
 | (f,p) :: r=>NC PR f p∧IpsOK r
theorem IpsOK.get:∀ {l:List (Nat × Ip)},IpsOK l→∀ f p,lk l f=some p→NC PR f p
 | [],_,f,p,h=>by simp [lk] at h
 | (g,pg) :: r,hs,f,p,h=>by
  simp only [lk] at h;split at h
  ·rename_i hb;simp only [AB] at h;subst h;rw [← EI.1 hb];exact hs.1
  ·exact IpsOK.get hs.2 f p h
theorem sL {f:Nat} {fn:Func} {code:Code} {rs:List ResultVar} {nt:Nat} (sps:List (Nat × DB)) (ips:List (Nat × Ip)) (lp:List (Nat × KP)) (sp:DB) (rks:List (List Kd)) (hf:PR.funcs[f]?=some fn)
  (hc:(fn.name == "runtime.NumGoroutine")=false∧fn.body=some code∧fn.ntmps=nt∧BM nt 900000=true∧fn.results.toList=rs) (hs:SpsOK sps) (hi:IpsOK ips)
  (h:∀ vs r,(L7 vs (EL vs)→PL vs)→(sp vs).get=some r→∃ N,DE (YZ sps ips lp nt N) code rs rks vs=some r):DD PR B0 f sp:=
 sJ (YZ sps ips lp nt) sp rks hf hc (fun _=>rfl) oV (fun _=>uM rfl uL) (fun _=>mK rfl mJ) (fun _=>hs.get) (fun _=>hi.get) (fun _ h=>i4 h) h
open Go Go.RowKit
theorem DX {n:Int} (h0 : -9223372036854775808≤n) (h1:n≤9223372036854775807):AA .i64 n=n:=by
 have e:AA .i64 n=(n+9223372036854775808) % 18446744073709551616 - 9223372036854775808:=by
  simp [AA,AK,vai];omega
 rw [e];omega
theorem IY {α:Type} {l:List α} {i:Nat} (h:i < l.length):decide ((i:Int) < ic l.length)=true:=by simp [ic]; omega
theorem JY {α:Type} {l:List α} {i:Nat} (h:l.length≤i):decide ((i:Int) < ic l.length)=false:=by simp [ic]; omega
theorem JI {i:Nat}:decide (0≤(i:Int))=true:=by simp
theorem F2 {i:Nat} (h:i < 9223372036854775807):AA .i64 ((i:Int)+1)=((i+1:Nat):Int):=by rw [DX (by omega) (by omega)]; rfl
theorem JX {α:Type} [Inhabited α] {l:List α} {i:Nat} (h:i < l.length):l.getD (i:Int).toNat default=l[i]:=by simp [h]
theorem aV (a b:Int):(a==b)=decide (a=b):=rfl
theorem CU {α:Type _} (a b:α):cond true a b=a:=Eq.trans (Eq.refl a) (Eq.refl a)
theorem CV {α:Type _} (a b:α):cond false a b=b:=Eq.trans (Eq.refl b) (Eq.refl b)
open Go
def C6 (n:Int):Int:=AA .i64 n
def FE (n:Int):Int:=AA .u64 n
def IO (lo hi:Int):Int:=C6 (C6 (hi - lo)+1)
def C2 (n lo hi:Int):Int:=cond (decide (n.tmod (IO lo hi) < 0)) (C6 (lo+C6 (C6 (C6 (n.tmod (IO lo hi)+hi) - lo)+1))) (C6 (lo+n.tmod (IO lo hi)))
def KF:DB
 | [.int .i64 n,.int .i64 lo,.int .i64 hi]=>.br (decide (IO lo hi=0)) .no (.ok (.int .i64 (C2 n lo hi)) [])
 | _=>.no
open Go Go.Proofs
def vK (N:Nat):Env:=DJ [] [] 24 N
theorem Hi (N:Nat) (n lo hi:Int):DE (vK N) jK [.tmp 6] [[.z]] [.i n,.i lo,.i hi] =
 (cond (decide (AA AC (AA AC (hi - lo)+1)=0))
 none
 (cond (decide (Int.tmod n (AA AC (AA AC (hi - lo)+1)) < 0))
 (some ((.i (AA AC (lo+AA AC (AA AC (AA AC (Int.tmod n (AA AC (AA AC (hi - lo)+1))+hi) - lo)+1)))),[]))
 (some ((.i (AA AC (lo+Int.tmod n (AA AC (AA AC (hi - lo)+1))))),[])))):=by kernel_rfl
open Go Go.Proofs
theorem WK:DD PR B0 7 KF:=by
 refine DK [] [] KF [[.z]] Tryz.func7 Cl trivial ?_;intro vs r hwf h;unfold KF at h;split at h
 ·rename_i n lo hi;refine ⟨0,?_⟩;rw [← h];refine (Hi 0 n lo hi).trans ?_;simp only [R.get_br,R.get_ok,R.get_no];unfold C2 IO C6;cases decide (AA AC (AA AC (hi - lo)+1)=0) <;> cases decide (Int.tmod n (AA AC (AA AC (hi - lo)+1)) < 0) <;> rfl
 ·simp [R.get] at h
open Go
open Go
theorem Sh {n m:Int} (h:0 < m) : -m < n.tmod m∧n.tmod m < m:=by
 constructor
 ·rcases Int.lt_or_le n 0 with hn | hn
  ·have e:n.tmod m = -((-n).tmod m):=by rw [Int.neg_tmod,Int.neg_neg]
   have:=Int.tmod_lt_of_pos (-n) h
   omega
  ·have:=Int.tmod_nonneg m hn
   omega
 ·exact Int.tmod_lt_of_pos n h
theorem H1 {n lo hi:Int} (h:lo≤hi) (h0 : -2000000000000000000≤lo) (h1:hi≤2000000000000000000):IO lo hi=hi - lo+1∧lo≤C2 n lo hi∧C2 n lo hi≤hi:=by
 have e1:C6 (hi - lo)=hi - lo:=DX (by omega) (by omega);have e2:IO lo hi=hi - lo+1:=by
  unfold IO;rw [e1];exact DX (by omega) (by omega)
 refine ⟨e2,?_⟩;unfold C2;rw [e2];obtain ⟨t0,t1⟩:=Sh (n:=n) (m:=hi - lo+1) (by omega);generalize n.tmod (hi - lo+1)=q at t0 t1 ⊢;cases hq:decide (q < 0) with
 | true=>
  have hq:=BC hq;simp only [CF];have a1:C6 (q+hi)=q+hi:=DX (by omega) (by omega);have a2:C6 (q+hi - lo)=q+hi - lo:=DX (by omega) (by omega);have a3:C6 (q+hi - lo+1)=q+hi - lo+1:=DX (by omega) (by omega);have a4:C6 (lo+(q+hi - lo+1))=lo+(q+hi - lo+1):=DX (by omega) (by omega);rw [a1,a2,a3,a4];omega
 | false=>
  have hq:=A1 hq;simp only [BQ];have a1:C6 (lo+q)=lo+q:=DX (by omega) (by omega);rw [a1];omega
theorem PJ (n:Int):AA .u64 n=n % 18446744073709551616:=by simp [AA,AK,vai]
open Go
structure Qy where
 k:Int
 c:Int
 a0:Int
 b0:Int
 a1:Int
 b1:Int
 a2:Int
 b2:Int
 a3:Int
 b3:Int
 a4:Int
 b4:Int
 lo:Int
 hi:Int
 ft:Int
 fl:Bool
 bu:Int
def Qy.V (q:Qy):V:=.agg [.int .i64 q.k,.int .i64 q.c,.int .i64 q.a0,.int .i64 q.b0,.int .i64 q.a1,.int .i64 q.b1,.int .i64 q.a2,.int .i64 q.b2,.int .i64 q.a3,.int .i64 q.b3,.int .i64 q.a4,.int .i64 q.b4,.int .i64 q.lo,.int .i64 q.hi,.int .i64 q.ft,.bool q.fl,.int .i64 q.bu]
def Qy.none:Qy:=⟨0,0,0,0,0,0,0,0,0,0,0,0,0,0,0,false,0⟩
def Qy.eq (p q:Qy):Bool:=
 (p.k==q.k)&&((p.c==q.c)&&((p.a0==q.a0)&&((p.b0==q.b0)&&((p.a1==q.a1)&&((p.b1==q.b1)&&((p.a2==q.a2)&&((p.b2==q.b2)&&((p.a3==q.a3)&&((p.b3==q.b3)&&((p.a4==q.a4)&&((p.b4==q.b4)&&((p.lo==q.lo)&&((p.hi==q.hi)&&((p.ft==q.ft)&&((p.fl==q.fl)&&((p.bu==q.bu)&&true))))))))))))))))
open Go
def DS (l:LI) (i:Int):Int:=cond (ic l.length==0) 0 (l.getD (i.tmod (ic l.length)).toNat default).toInt
def NG:DB
 | [.list false [.z] l,.int .i64 i]=>.br (decide (0≤i)) (.ok (.int .i64 (DS l i)) []) .no
 | _=>.no
def DZ (n:Int):Bool:=decide (-2147483648≤n)&&decide (n≤2147483647)
def NH:DB
 | [.int .i64 n,.int .i64 w]=>.br (decide (w=32)) (.ok (.bool (DZ n)) []) .no
 | _=>.no
def MC (lf:Bool) (v f a l r:Int):Bool:=
 cond lf (DZ v&&((f==0)&&((a==0)&&((l==0)&&(r==0)))))
  ((v==0)&&(decide (0≤f)&&(decide (f < 4)&&(DZ a&&(decide (1≤l)&&(decide (l < 31)&&(decide (1≤r)&&decide (r < 31))))))))
def P4:DB
 | [.agg [.bool lf,.int .i64 v,.int .i64 f,.int .i64 a,.int .i64 l,.int .i64 r]]=>.ok (.bool (MC lf v f a l r)) []
 | _=>.no
def EP (a b:Int):Int:=FE (ic (B1 (AU (AK AI) a &&& AU (AK AI) b)))
def Q2 (a b:Int):Int:=FE (ic (B1 (AU (AK AI) a ||| AU (AK AI) b)))
def J8 (a:Int) (k:Nat):Int:=FE (a*2 ^ k)
def FB (lf:Bool) (v f a l r:Int):Int:=
 cond (MC lf v f a l r)
  (cond lf (Q2 9223372036854775808 (EP (FE v) 4294967295))
   (Q2 (Q2 (Q2 (EP (FE a) 4294967295) (J8 (FE f) 32)) (J8 (FE l) 40)) (J8 (FE r) 48)))
  0
def NI:DB
 | [.agg [.bool lf,.int .i64 v,.int .i64 f,.int .i64 a,.int .i64 l,.int .i64 r]]=>.ok (.int .u64 (FB lf v f a l r)) []
 | _=>.no
def N0 (lf:Bool) (v f a l r:Int):IV:=.agg [.bool lf,.int v,.int f,.int a,.int l,.int r]
def I0 (v:Int):IV:=N0 true v 0 0 0 0
def N5 (x:IV):IV:=.int (FB (x.cell 0).toBool (x.cell 1).toInt (x.cell 2).toInt (x.cell 3).toInt (x.cell 4).toInt (x.cell 5).toInt)
structure Ns where
 nodes:LI
 leaves:LI
def F7 (part:LI) (i:Nat) (s:Ns):Int:=C2 (part.getD i default).toInt 0 (ic s.leaves.length - 1)
def MY (part:LI) (i:Nat) (s:Ns):Int:=(s.leaves.getD (F7 part i s).toNat default).toInt
def HX (part byl atl val:LI) (dim:Int) (i:Nat) (s:Ns):Ns:=
 ⟨s.nodes.set (MY part i s).toNat (N0 false 0 (C2 (DS byl (i:Int)) 0 (dim - 1)) (C2 (DS atl (i:Int)) 0 9) (ic s.nodes.length) (ic s.nodes.length+1)) ++
   [I0 (C2 (DS val (2*(i:Int)+1)) (-3000) 3000),I0 (C2 (DS val (2*(i:Int)+2)) (-3000) 3000)],
  s.leaves.take (F7 part i s).toNat++s.leaves.drop ((F7 part i s).toNat+1)++[.int (ic s.nodes.length),.int (ic s.nodes.length+1)]⟩
def SI (part byl atl val:LI) (dim:Int):Nat→Nat→Ns→Ns
 | 0,_,s=>s
 | d+1,i,s=>SI part byl atl val dim d (i+1) (HX part byl atl val dim i s)
def LM (part byl atl val:LI) (dim:Int):Ns:=SI part byl atl val dim (min part.length 7) 0 ⟨[I0 (C2 (DS val 0) (-3000) 3000)],[.int 0]⟩
def J2 (part byl atl val:LI) (dim:Int):LI:=(LM part byl atl val dim).nodes.map N5
def TJ:DB
 | [.agg [.int .i64 _,.list false [.z] part,.list false [.z] byl,.list false [.z] atl,.list false [.z] val],.int .i64 dim]=>
  .br (decide (1≤dim)&&decide (dim≤4)) (.ok (.list false [.int .u64] (J2 part byl atl val dim)) []) .no
 | _=>.no
def KM (d:Int):Int:=C2 d 1 3
def H6 (c:Int):Int:=C2 c 1 3
def NN (c:Int) (bias:LI) (j:Int):Int:=cond (decide (j < H6 c)) (C2 (DS bias j) (-500) 500) 0
def SZ (d c:Int) (t:IV):IV:=.agg [.int (C2 (t.cell 0).toInt 0 (H6 c - 1)),.list (J2 (t.cell 1).toList (t.cell 2).toList (t.cell 3).toList (t.cell 4).toList (KM d))]
def PI (d c:Int) (ts:LI):LI:=(ts.take 4).map (SZ d c)
def W3:DB
 | [.agg [.int .i64 d,.int .i64 c,.list false [.z] bias,.list true [.z,.list false [.z],.list false [.z],.list false [.z],.list false [.z]] ts]]=>
  .ok (.agg [.int .i64 (KM d),.int .i64 (H6 c),.int .i64 (NN c bias 0),.int .i64 (NN c bias 1),.int .i64 (NN c bias 2),.list true [.z,.list false [.int .u64]] (PI d c ts)]) []
 | _=>.no
def ET (d:Int) (l:LI) (i:Int):Int:=cond (decide (i < d)) (C2 (DS l (2*i)) (-2) 9) 0
def EU (d:Int) (l:LI) (i:Int):Int:=cond (decide (i < d)) (C2 (DS l (2*i)) (-2) 9+C2 (DS l (2*i+1)) 0 11) 0
def TG:DB
 | [.agg [.int .i64 d,.int .i64 _,.int .i64 _,.int .i64 _,.int .i64 _,.list true [.z,.list false [.int .u64]] _],.list false [.z] l]=>
  .br (decide (0≤d)&&decide (d≤4)) (.ok (.agg [.int .i64 (ET d l 0),.int .i64 (EU d l 0),.int .i64 (ET d l 1),.int .i64 (EU d l 1),.int .i64 (ET d l 2),.int .i64 (EU d l 2),.int .i64 (ET d l 3),.int .i64 (EU d l 3),.int .i64 0,.int .i64 0]) []) .no
 | _=>.no
structure Ak where
 k:Int
 c:Int
 lo:Int
 size:Int
 ft:Int
 bu:Int
 fl:Bool
 sp:LI
def GG (a:Ak) (cls:Int):Int:=cond (C2 a.k 1 3==2&&decide (cls < 2)) 1 (C2 a.k 1 3)
def L5 (a:Ak):Int:=C2 a.lo (-9000) 9000
def HZ (a:Ak) (dim cls:Int):Qy:=
 ⟨GG a cls,C2 a.c 0 (cls - 1),ET dim a.sp 0,EU dim a.sp 0,ET dim a.sp 1,EU dim a.sp 1,ET dim a.sp 2,EU dim a.sp 2,ET dim a.sp 3,EU dim a.sp 3,0,0,
  cond (GG a cls==1) (L5 a) 0,cond (GG a cls==1) (L5 a+C2 a.size 0 18000) 0,cond (GG a cls==3) (C2 a.ft 0 (dim - 1)) 0,cond (GG a cls==3) a.fl false,C2 a.bu 0 65536⟩
def W2:DB
 | [.agg [.int .i64 k,.int .i64 c,.int .i64 lo,.int .i64 size,.int .i64 ft,.int .i64 bu,.bool fl,.list false [.z] sp],.agg [.int .i64 dim,.int .i64 cls,.int .i64 _,.int .i64 _,.int .i64 _,.list true [.z,.list false [.int .u64]] _]]=>
  .br ((decide (1≤dim)&&decide (dim≤4))&&(decide (1≤cls)&&decide (cls≤3)))
   (.ok (.agg [.int .i64 (HZ ⟨k,c,lo,size,ft,bu,fl,sp⟩ dim cls).k,.int .i64 (HZ ⟨k,c,lo,size,ft,bu,fl,sp⟩ dim cls).c,
    .int .i64 (HZ ⟨k,c,lo,size,ft,bu,fl,sp⟩ dim cls).a0,.int .i64 (HZ ⟨k,c,lo,size,ft,bu,fl,sp⟩ dim cls).b0,.int .i64 (HZ ⟨k,c,lo,size,ft,bu,fl,sp⟩ dim cls).a1,.int .i64 (HZ ⟨k,c,lo,size,ft,bu,fl,sp⟩ dim cls).b1,
    .int .i64 (HZ ⟨k,c,lo,size,ft,bu,fl,sp⟩ dim cls).a2,.int .i64 (HZ ⟨k,c,lo,size,ft,bu,fl,sp⟩ dim cls).b2,.int .i64 (HZ ⟨k,c,lo,size,ft,bu,fl,sp⟩ dim cls).a3,.int .i64 (HZ ⟨k,c,lo,size,ft,bu,fl,sp⟩ dim cls).b3,
    .int .i64 (HZ ⟨k,c,lo,size,ft,bu,fl,sp⟩ dim cls).a4,.int .i64 (HZ ⟨k,c,lo,size,ft,bu,fl,sp⟩ dim cls).b4,.int .i64 (HZ ⟨k,c,lo,size,ft,bu,fl,sp⟩ dim cls).lo,.int .i64 (HZ ⟨k,c,lo,size,ft,bu,fl,sp⟩ dim cls).hi,
    .int .i64 (HZ ⟨k,c,lo,size,ft,bu,fl,sp⟩ dim cls).ft,.bool (HZ ⟨k,c,lo,size,ft,bu,fl,sp⟩ dim cls).fl,.int .i64 (HZ ⟨k,c,lo,size,ft,bu,fl,sp⟩ dim cls).bu]) []) .no
 | _=>.no
end Go.FM
