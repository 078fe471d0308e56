/-
  A small machine that reckons what a call comes to; the functions of the program, one by one. (THE SMALL MACHINE (22): what comes back from a call., THE SMALL MACHINE (23): what a function is said to do; a cal, THE SMALL MACHINE (24): a call., and so on.)
-/
import Derived.Test.YtihliihljmfhlaaGreatTa
import Derived.Lib.ConvBytes
import Derived.Lib.AtoiAll
import Derived.Lib.ItoaLen
import Derived.Lib.SplitLaws
import Derived.Lib.TrimByte
import Derived.Lib.Repeat
import Derived.Lib.Join
import Derived.Test.YtihliihljmfhlaaGreatProg
import Derived.Shelf.Strings.BuilderK
import Derived.Shelf.Sort.Plain
import Derived.Shelf.Slices.Cells
import Derived.Shelf.Slices.In.SortNone
import Derived.Shelf.SlicesE.DeleteFunc
import Derived.Lib.AppendIntMem
set_option linter.all false
set_option maxRecDepth 100000
open Array renaming length_toList→CN,getElem?_toList→vau,toList_append→vaA,getElem?_eq_some_iff→vaX,getD_eq_getD_getElem?→vbf,all_eq_true_iff_forall_mem→vbs
open BitVec renaming ofInt→AN,toNat→BS
open Bool renaming and_eq_true→AI,not_true→A5,not_false→BJ,not_eq_true'→CF,and_true→vaI,or_false→va9
open ByteArray renaming empty→vba
open Decidable renaming byContradiction→vbw
open Go.Addr.mk renaming injEq→CL
open Go.IntKind renaming wrap→AA,i64→AC,u64→AH,bits→AJ,signed→vag
open Go.Lib renaming bytesWorld→vaU
open Go.Op renaming operands→BK,equalIn→vbh
open Go.Region renaming wanted→CJ,binds→vaV,ready→vbq
open Go.Result renaming andThen_ok→A3,andThen→vaB
open Go.Sem renaming run_bind→BM,run_pure→BN
open Go.TypeDesc renaming isRow→vbe
open Go.Value renaming ownBlock→B6
open Go.Value.pointer renaming injEq→B4
open Go.Value.slice renaming injEq→BW
open List renaming length_append→AQ,mem_cons→AR,mem_cons_self→AS,length_cons→AT,getElem?_eq_getElem→AV,mem_append→AW,mem_cons_of_mem→AY,length_take→A1,map_cons→A6,getElem?_eq_none→BF,getElem?_cons_zero→BQ,getElem?_eq_some_iff→BV,getElem?_map→BZ,drop→B5,length_nil→B8,getElem?_cons_succ→CA,length_singleton→CK,map_nil→vab,length_drop→vaf,take_of_length_le→vav,getElem?_drop→vay,mem_singleton→vaz,length_map→vaC,mem_append_right→vaD,mem_of_getElem?→vaG,mem_append_left→vaJ,cons_append→vaL,countP_cons_of_pos→vaN,mem_map_of_mem→vaO,range'→va1,countP_cons_of_neg→vbb
open List.cons renaming injEq→vaF
open Nat renaming le_of_ble_eq_true→AK,le_refl→AP,beq→AZ,zero_add→A0,blt→A2,ble→BI,ble_eq_true_of_le→BX,zero_le→B3,lt_of_lt_of_le→B7,add_zero→vaa,add_mul→vah,le_trans→vaj,lt_or_ge→vak,min_eq_left→vao,sub_zero→vaq,beq_refl→vbc,one_mul→vbk
open Option renaming map_some→vae,getD_some→vap
open Option.some renaming injEq→AB,inj→CM
open Prod.mk renaming injEq→AL
namespace Go.FM
open Go Go.RowKit
theorem QS:∀ l:List V,JQ l=l.map fun _=>.any
 | []=>rfl
 | _ :: r=>by simp [JQ,QS r]
section
variable {B:BT} {nt:Nat} {w0:World} {X:Zone} {γ:Nat→Value} {st st':St} {a:Act} {w:World} {P:Program} {E:Env}
theorem V9 {B':BT} {own:Nat→Prop} {O1:Nat→Prop} {g:Nat→Value} (nm:Nat):∀ (r:List V) (j0:Nat) {γ:Nat→Value} {st:St} {F:Nat→Prop},nm+j0+r.length≤900000→Rel B nt w0 ⟨own,F⟩ γ st a w →
  (∀ b,CV ⟨own,F⟩ γ st.o b→O1 b) →
  (∀ j e ag ks l,r[j]?=some (.vec e ag ks l)→ObRel B' γ [] w O1 (g (j0+j)) (.row true e ag ks l)∧∀ b,(g (j0+j)).ownBlock=some b→F b∧(w0.heap.size≤b∨own b)) →
  (∀ i j e ag ks l e' ag' ks' l' b,i≠j→r[i]?=some (.vec e ag ks l)→r[j]?=some (.vec e' ag' ks' l')→(g (j0+i)).ownBlock=some b→(g (j0+j)).ownBlock=some b→False) →
  ∃ γd F',Rel B nt w0 ⟨own,F'⟩ γd (st.ups (G5 (nm+j0) r)) a w∧(∀ b,F' b→F b)∧(∀ b,F b→(∀ j e ag ks l,r[j]?=some (.vec e ag ks l)→(g (j0+j)).ownBlock≠some b)→F' b) ∧
   (∀ b,CV ⟨own,F'⟩ γd (st.ups (G5 (nm+j0) r)).o b→CV ⟨own,F⟩ γ st.o b) ∧
   (∀ j e ag ks l,r[j]?=some (.vec e ag ks l)→γd (nm+j0+j)=g (j0+j)∧CT (st.ups (G5 (nm+j0) r)).o (nm+j0+j)=some (.row true e ag ks l)) ∧
   (∀ m,(m < nm+j0∨nm+j0+r.length≤m)→γd m=γ m∧(∀ cs:List V,CT st.o m=some (.box (JQ cs))→CT (st.ups (G5 (nm+j0) r)).o m=some (.box (JQ cs))) ∧
    (∀ e ag ks l,CT st.o m=some (.row true e ag ks l)→CT (st.ups (G5 (nm+j0) r)).o m=some (.row true e ag ks l)))
 | [],j0,γ,st,F,_,h,hO,hr,hd=>⟨γ,F,h,fun _ h=>h,fun _ h _=>h,fun _ h=>h,fun j e ag ks l hj=>by simp at hj,fun m _=>⟨rfl,fun _ h=>h,fun _ _ _ _ h=>h⟩⟩
 | v :: r,j0,γ,st,F,h9,h,hO,hr,hd=>by
  rw [AT] at h9;by_cases hv:∃ e ag ks l,v = .vec e ag ks l
  ·obtain ⟨e,ag,ks,l,rfl⟩:=hv;obtain ⟨hr0,hb0⟩:=hr 0 e ag ks l (by simp);rw [vaa] at hr0 hb0;have h1:=h.add (nm+j0) (by omega) (.row true e ag ks l) (g j0) (fun b hb=>hb0 b hb) (fun O' hO'=>by
    simp only [ObRel] at hr0 ⊢;obtain ⟨k1,k2,xs,k3,k4⟩:=hr0;exact ⟨k1,k2,xs,k3,fun i y hy=>Kd.RelAll.mono (Keep.refl _ w) (fun b _ hb=>hO b (hO' b hb)) (fun _ _ hu=>hu) (k4 i y hy)⟩)
   have hO2:∀ b,CV ⟨own,fun b=>F b∧¬ DR (g j0) (.row true e ag ks l) b⟩ (fun m=>if nm+j0=m then g j0 else γ m) (st.up (.new (nm+j0) (.row true e ag ks l))).o b→CV ⟨own,F⟩ γ st.o b:=by
    rintro b (⟨m,ob1,hm,hb1⟩ | hb)
    ·rw [EK] at hm;split at hm
     ·rename_i e1;subst e1;simp only [AB] at hm;subst hm;simp only [B2] at hb1;exact .inr (hb0 b hb1).1
     ·rename_i e1;obtain ⟨ob0,h0,hs⟩:=KM hm;simp only [A7 e1] at hb1;exact .inl ⟨m,ob0,h0,((N7 hs).2 _ _).1 hb1⟩
    ·exact .inr hb.1
   obtain ⟨γd,F',r1,r2,r3,r4,r5,r6⟩:=V9 (B':=B') nm r (j0+1) (by omega) h1 (fun b hb=>hO b (hO2 b hb)) (fun j e' ag' ks' l' hj=>by
     obtain ⟨q1,q2⟩:=hr (j+1) e' ag' ks' l' (by simpa using hj);rw [show j0+(j+1)=j0+1+j by omega] at q1 q2;refine ⟨Im q1,fun b hb=>⟨⟨(q2 b hb).1,fun hb'=>?_⟩,(q2 b hb).2⟩⟩;exact hd 0 (j+1) e ag ks l e' ag' ks' l' b (by omega) (by simp) (by simpa using hj) hb' (by rw [show j0+(j+1)=j0+1+j by omega]; exact hb))
    (fun i j e1 ag1 ks1 l1 e2 ag2 ks2 l2 b hij h1 h2 hb1 hb2=>hd (i+1) (j+1) e1 ag1 ks1 l1 e2 ag2 ks2 l2 b (by omega) (by simpa using h1) (by simpa using h2) (by rw [show j0+(i+1)=j0+1+i by omega]; exact hb1) (by rw [show j0+(j+1)=j0+1+j by omega]; exact hb2))
   refine ⟨γd,F',r1,fun b hb=>(r2 b hb).1,fun b hb hn=>r3 b ⟨hb,fun hb'=>hn 0 e ag ks l (by simp) hb'⟩ (fun j e' ag' ks' l' hj=>by
     have:=hn (j+1) e' ag' ks' l' (by simpa using hj)
     rwa [show j0+(j+1)=j0+1+j by omega] at this),fun b hb=>hO2 b (r4 b hb),?_,?_⟩
   ·intro j e' ag' ks' l' hj;cases j with
    | zero=>
     simp only [BQ,AB,V.vec.injEq] at hj;obtain ⟨rfl,rfl,rfl,rfl⟩:=hj;obtain ⟨p1,_,p3⟩:=r6 (nm+j0) (.inl (by omega));refine ⟨by rw [vaa,vaa,p1]; simp,?_⟩;rw [vaa];exact p3 e ag ks l (by rw [EK,B1 rfl])
    | succ j=>
     obtain ⟨p1,p2⟩:=r5 j e' ag' ks' l' (by simpa using hj);rw [show nm+(j0+1)+j=nm+j0+(j+1) by omega] at p1 p2;exact ⟨by rw [p1]; congr 1; omega,p2⟩
   ·intro m hm;have hne:nm+j0≠m:=by
     simp only [AT] at hm;omega
    obtain ⟨p1,p2,p3⟩:=r6 m (by simp only [AT] at hm; omega);refine ⟨by rw [p1,A7 hne],fun cs hc=>p2 cs ?_,fun e' ag' ks' l' hc=>p3 e' ag' ks' l' ?_⟩
    ·rw [EK,A7 hne,hc];simp only [E0,QS,List.map_map,AB,Ob.box.injEq];rfl
    ·rw [EK,A7 hne,hc];rfl
  ·have hu:G5 (nm+j0) (v :: r)=G5 (nm+(j0+1)) r:=by
    cases v <;> first | rfl | exact absurd ⟨_,_,_,_,rfl⟩ hv
   rw [hu];obtain ⟨γd,F',r1,r2,r3,r4,r5,r6⟩:=V9 (B':=B') nm r (j0+1) (by omega) h hO (fun j e' ag' ks' l' hj=>by
     obtain ⟨q1,q2⟩:=hr (j+1) e' ag' ks' l' (by simpa using hj);rw [show j0+(j+1)=j0+1+j by omega] at q1 q2;exact ⟨q1,q2⟩)
    (fun i j e1 ag1 ks1 l1 e2 ag2 ks2 l2 b hij h1 h2 hb1 hb2=>hd (i+1) (j+1) e1 ag1 ks1 l1 e2 ag2 ks2 l2 b (by omega) (by simpa using h1) (by simpa using h2) (by rw [show j0+(i+1)=j0+1+i by omega]; exact hb1) (by rw [show j0+(j+1)=j0+1+j by omega]; exact hb2))
   refine ⟨γd,F',r1,r2,fun b hb hn=>r3 b hb (fun j e' ag' ks' l' hj=>by
     have:=hn (j+1) e' ag' ks' l' (by simpa using hj)
     rwa [show j0+(j+1)=j0+1+j by omega] at this),r4,?_,?_⟩
   ·intro j e' ag' ks' l' hj;cases j with
    | zero=>
     simp only [BQ,AB] at hj;exact absurd ⟨_,_,_,_,hj⟩ hv
    | succ j=>
     obtain ⟨p1,p2⟩:=r5 j e' ag' ks' l' (by simpa using hj);rw [show nm+(j0+1)+j=nm+j0+(j+1) by omega] at p1 p2;exact ⟨by rw [p1]; congr 1; omega,p2⟩
   ·intro m hm;exact r6 m (by simp only [AT] at hm; omega)
end
open Go Go.RowKit
def KI:V→Bool
 | .agg l=>l.all FJ
 | .tup l=>l.all fun v=>match v with | .agg l=>l.all FJ | v=>FJ v
 | v=>FJ v
def RL:V→Bool
 | .bor cs=>cs.all LV
 | .vec _ _ _ _=>true
 | v=>KI v
def dI:List V→List V→Bool
 | [.bld _],[.bld _]=>true
 | [.bld _],_=>false
 | _,cs=>cs.all LV
def I5 (vs:List V) (r:V) (out:List (List V)) (g g':Value):Prop:=
 match EC vs,out with
 | none,[]=>RL r=true
 | some cs,[cs']=>KI r=true∧dI cs cs'=true∧MP g'=MP g
 | _,_=>False
def Does (P:Program) (f:FuncId) (xs:List Value) (w:World) (R:Ending→World→Prop):Prop:=
 match (callFunc f xs.toArray).run P w with
 | .ok (.enter g args) w'=>Calls P g args w' R
 | .ok (.value x) w'=>R (.returned x) w'
 | .ok (.row row args) w'=>Rows P row args w' fun x w''=>R (.returned x) w''
 | _=>False
theorem Does.mono {P:Program} {f:FuncId} {xs:List Value} {w:World} {R R':Ending→World→Prop} (h:Does P f xs w R) (hr:∀ e w',R e w'→R' e w'):Does P f xs w R':=by
 unfold Does at h ⊢;split at h
 ·exact Calls.mono h hr
 ·exact hr _ _ h
 ·exact Rows.mono h (fun v w'=>hr _ _)
 ·exact h.elim
theorem Does.enter {P:Program} {f:FuncId} {fn:Func} (hf:P.funcs[f]?=some fn) (hn:(fn.name == "runtime.NumGoroutine")=false) (hb:fn.body.isNone=false) {xs:List Value} {w:World} {R:Ending→World→Prop} (h:Calls P f xs.toArray w R):Does P f xs w R:=by
 have:(callFunc f xs.toArray).run P w = .ok (.enter f xs.toArray) w:=by
  unfold callFunc;have hn':¬ fn.name = "runtime.NumGoroutine":=by simpa using hn
  have hb':¬ fn.body=none:=fun h=>by rw [h] at hb; cases hb
  simp [hf,hn',hb']
 unfold Does;rw [this];exact h
def Snd (P:Program) (B:BT) (f:FuncId) (sp:MO):Prop:=
 ∀ (w:World) (X:Zone) (γ:Nat→Value) (vs:List V) (xs:List Value) (r:V) (out:List (List V)),sp vs=some (r,out)→Glob B w→(∀ b,X.own b→B.ng≤b) →
  Rel B.base 0 w X γ ⟨[],G1 vs⟩ HT w→VRels γ (G1 vs) w (CV X γ (G1 vs)) (vs.map DS) xs →
  Does P f xs w fun e w'=>∃ x,e = .returned x∧∃ γ',Rel B.base 0 w X γ' ⟨[],FB r out⟩ HT w'∧VRel γ' (FB r out) w' (CV X γ' (FB r out)) (JG r) x∧I5 vs r out (γ 900000) (γ' 900000)
theorem WW {γ γ':Nat→Value} {o o':Store} {w:World} {O O':Nat→Prop} {v:V} (hf:FJ v=true) (hO:PS v=true→∀ b,b < w.heap.size→O' b→O b) {x:Value} (h:VRel γ o w O v x):VRel γ' o' w O' v x:=by
 cases v <;> simp only [FJ] at hf <;> first | (cases hf; done) | (exact NV rfl (VRel.mono (Keep.refl _ w) (hO rfl) h)) | (simp only [VRel] at h ⊢; try exact h)
theorem WB:∀ {l:List V} {v:V},v∈l→PS v=true→FQ l=true
 | u :: r,v,hm,hv=>by
  simp only [FQ];cases hu:PS u with
  | true=>rfl
  | false=>
   rcases AR.1 hm with h1 | h1
   ·subst h1;rw [hv] at hu;cases hu
   ·exact WB h1 hv
theorem aJ {γ γ':Nat→Value} {o o':Store} {w:World} {O O':Nat→Prop}:∀ {l:List V} {xs:List Value},l.all FJ=true→(FQ l=true→∀ b,b < w.heap.size→O' b→O b)→VRels γ o w O l xs→VRels γ' o' w O' l xs
 | [],[],_,_,_=>by simp only [VRels]
 | [],_ :: _,_,_,h=>by simp only [VRels] at h
 | _ :: _,[],_,_,h=>by simp only [VRels] at h
 | v :: l,x :: xs,hf,hO,h=>by
  simp only [VRels] at h ⊢;simp only [List.all_cons,AI] at hf;exact ⟨WW hf.1 (fun hv=>hO (WB (AS ..) hv)) h.1,aJ hf.2 (fun hl=>hO (by simp only [FQ]; split <;> first | rfl | exact hl)) h.2⟩
theorem aK {γ γ':Nat→Value} {o o':Store} {w:World} {O O':Nat→Prop} {v:V} (hf:KI v=true) (hO:FS v=true→∀ b,b < w.heap.size→O' b→O b) {x:Value} (h:VRel γ o w O v x):VRel γ' o' w O' v x:=by
 by_cases ha:∃ l,v = .agg l
 ·obtain ⟨l,rfl⟩:=ha;simp only [VRel] at h ⊢;obtain ⟨cs,hx,hr⟩:=h;exact ⟨cs,hx,aJ hf hO hr⟩
 by_cases ht:∃ l,v = .tup l
 ·obtain ⟨l,rfl⟩:=ht;simp only [VRel] at h ⊢;obtain ⟨cs,hx,hr⟩:=h;refine ⟨cs,hx,?_⟩;simp only [KI] at hf;have key:∀ (l:List V) (xs:List Value),(l.all fun v=>match v with | .agg l=>l.all FJ | v=>FJ v)=true→(FS.go l=true→∀ b,b < w.heap.size→O' b→O b)→VRels γ o w O l xs→VRels γ' o' w O' l xs:=by
   intro l
   induction l with
   | nil=>
    intro xs _ _ h;cases xs with
    | nil=>simp only [VRels]
    | cons _ _=>simp only [VRels] at h
   | cons v l ih=>
    intro xs hf hO h;cases xs with
    | nil=>simp only [VRels] at h
    | cons x xs=>
     simp only [VRels] at h ⊢;simp only [List.all_cons,AI] at hf;have h2:FS.go l=true→FS.go (v :: l)=true:=fun hl=>by cases v <;> simp only [FS.go] <;> first | exact hl | (split <;> first | rfl | exact hl)
     refine ⟨?_,ih xs hf.2 (fun hl=>hO (h2 hl)) h.2⟩;by_cases hv:∃ l',v = .agg l'
     ·obtain ⟨l',rfl⟩:=hv;have h1:=h.1;simp only [VRel] at h1 ⊢;obtain ⟨cs,hx,hr⟩:=h1;exact ⟨cs,hx,aJ hf.1 (fun hl=>hO (by simp only [FS.go,hl])) hr⟩
     ·have hf1:FJ v=true:=by
       have:=hf.1
       split at this
       ·exact absurd ⟨_,rfl⟩ hv
       ·exact this
      exact WW hf1 (fun hl=>hO (by cases v <;> simp_all [FS.go])) h.1
  exact key l _ hf hO hr
 have h1:FJ v=true:=by cases v <;> first | exact hf | exact absurd ⟨_,rfl⟩ ha | exact absurd ⟨_,rfl⟩ ht
 exact WW h1 (fun hl=>hO (by cases v <;> first | exact hl | (simp only [PS] at hl; cases hl))) h
theorem RW {v:V} (h:KI v=true):JG v=v:=by
 cases v <;> first | rfl | (simp only [KI,FJ] at h; cases h)
theorem fK {o:Store} {bs:List V} {tk:Option Kd} {v:V} (h:DW.lentC [v]=[]):∀ cs,DH o bs tk v≠.bor cs:=by
 intro cs hc;cases v
 case ptr n i c=>simp [DW.lentC] at h
 all_goals simp only [DH] at hc
 all_goals (repeat' split at hc)
 all_goals (cases hc)
theorem fL {o:Store} {bs:List V} {tk:Option Kd} {v:V} {cs:List V} (h:DH o bs tk v = .bor cs):cs=bs:=by
 cases v <;> simp only [DH] at h <;> try (cases h; done)
 all_goals (repeat' split at h)
 all_goals first | (cases h; done) | (cases h; rfl)
theorem fV {o:Store} {bs:List V}:∀ {l:List V},(EC.borC (l.map (DH o bs none))=none∨EC.borC (l.map (DH o bs none))=some bs)∧(DW.lentC l=[]→EC.borC (l.map (DH o bs none))=none)
 | []=>by simp [EC.borC]
 | v :: r=>by
  have ih:=fV (o:=o) (bs:=bs) (l:=r);have hl:DW.lentC (v :: r)=[]→DW.lentC [v]=[]∧DW.lentC r=[]:=by cases v <;> simp [DW.lentC]
  simp only [A6];cases hv:DH o bs none v
  case bor cs=>
   simp only [EC.borC];refine ⟨.inr (by rw [fL hv]),fun h=>absurd hv (fK (hl h).1 cs)⟩
  all_goals (simp only [EC.borC]; exact ⟨ih.1,fun h=>ih.2 (hl h).2⟩)
theorem UG {o:Store} {bs:List V}:∀ {l:List V} {tks:List (List Kd)},(EC (EH o bs tks l)=none∨EC (EH o bs tks l)=some bs)∧(DW l=[]→EC (EH o bs tks l)=none)
 | [],tks=>by cases tks <;> simp [EH,EC]
 | v :: r,tks=>by
  obtain ⟨ks,tks',he⟩:∃ ks tks',EH o bs tks (v :: r)=GL o bs ks v :: EH o bs tks' r:=by
   cases tks with
   | nil=>exact ⟨[],[],rfl⟩
   | cons k ks=>exact ⟨k,ks,rfl⟩
  have ih:=UG (o:=o) (bs:=bs) (l:=r) (tks:=tks');rw [he];have hl:DW (v :: r)=[]→DW [v]=[]∧DW r=[]:=by cases v <;> simp [DW]
  by_cases hc:∃ f l,v = .clo f l
  ·obtain ⟨f,l,rfl⟩:=hc;have hb:=fV (o:=o) (bs:=bs) (l:=l);simp only [GL,EC];cases hx:EC.borC (l.map (DH o bs none)) with
   | none=>exact ⟨ih.1,fun h=>ih.2 (hl h).2⟩
   | some cs=>
    simp only;refine ⟨.inr ?_,fun h=>?_⟩
    ·rcases hb.1 with h1 | h1 <;> rw [hx] at h1
     ·cases h1
     ·exact h1
    ·have:=hb.2 (by have:=(hl h).1; simpa [DW] using this)
     rw [hx] at this;cases this
  ·by_cases ha:∃ l,v = .agg l
   ·obtain ⟨l,rfl⟩:=ha;simp only [GL,EC];exact ⟨ih.1,fun h=>ih.2 (hl h).2⟩
   ·have h1:GL o bs ks v=DH o bs ks.head? v:=by
     cases v <;> first | rfl | exact absurd ⟨_,rfl⟩ ha | exact absurd ⟨_,_,rfl⟩ hc
    rw [h1];cases hv:DH o bs ks.head? v
    case bor cs=>
     simp only [EC];refine ⟨.inr (by rw [fL hv]),fun h=>absurd hv (fK (v:=v) ?_ cs)⟩
     have:=(hl h).1
     cases v <;> simp_all [DW,DW.lentC]
    case clo f l=>
     exfalso;cases v <;> simp only [DH] at hv <;> try (cases hv; done)
     all_goals (repeat' split at hv)
     all_goals (cases hv)
    all_goals (simp only [EC]; exact ⟨ih.1,fun h=>ih.2 (hl h).2⟩)
open Go Go.RowKit
section
variable {B:BT} {nt:Nat} {w0:World} {X:Zone} {γ:Nat→Value} {st st':St} {a:Act} {w:World} {P:Program} {E:Env}
theorem UR (h:Rel B nt w0 X γ st a w) (ns:List Nat) {b:Nat} (hb:CV X γ (st.ups (DI st.o ns)).o b):CV X γ st.o b∧∀ m∈ns,¬ RowOf γ st.o m b:=by
 obtain ⟨h1,h2,h3,h4,h5⟩:=JA st.o ns (FrzLe.refl _) h;refine ⟨h2.owned hb,?_⟩;rintro m hm ⟨e,ag,ks,l,ho,hob⟩;rcases hb with ⟨m',ob',hm',hb'⟩ | hb
 ·by_cases e1:m=m'
  ·subst e1;rcases h2 m with h6 | ⟨e',ag',ks',l',h6,h7⟩
   ·rw [h6,ho] at hm'
    have:=h4 m hm true e ag ks l (by rw [h6,ho])
    cases this
   ·rw [h7,AB] at hm';subst hm';exact hb'.elim
  ·rcases h2 m' with h6 | ⟨e',ag',ks',l',h6,h7⟩
   ·rw [h6] at hm';exact h.dis m m' _ ob' b e1 ho hm' hob hb'
   ·rw [h7,AB] at hm';subst hm';exact hb'.elim
 ·exact h.near ⟨m,_,ho,hob⟩ hb
theorem ZQ (h:Rel B nt w0 X γ st a w) (hg:GX B w0 X) {f:FuncId} {sp:MO} (hS:Snd P B f sp) {vs:List V} {xs:List Value} (hv:VRels γ st.o w (CV X γ st.o) vs xs) (hl:DW vs=[]) {tks:List (List Kd)} {v:V} {out:List (List V)}
  (hsp:sp (EH st.o [] tks vs)=some (v,out)) :
  Does P f xs w fun e w'=>∃ x,e = .returned x∧∃ γ',Rel B.base 0 w ⟨fun _=>False,fun b=>CV X γ st.o b∧∀ m∈DK vs,¬ RowOf γ st.o m b⟩ γ' ⟨[],FB v out⟩ HT w' ∧
   VRel γ' (FB v out) w' (CV ⟨fun _=>False,fun b=>CV X γ st.o b∧∀ m∈DK vs,¬ RowOf γ st.o m b⟩ γ' (FB v out)) (JG v) x∧RL v=true∧out=[]:=by
 have hb:EC (EH st.o [] tks vs)=none:=UG.2 hl;have hm:G1 (EH st.o [] tks vs)=[]:=by simp only [G1,hb]
 have hR:Rel B.base 0 w ⟨fun _=>False,fun b=>CV X γ st.o b∧∀ m∈DK vs,¬ RowOf γ st.o m b⟩ γ ⟨[],[]⟩ HT w:=by
  refine ⟨rfl,rfl,fun i=>by simp only [St.get,DT,VRel],fun n ob hn=>?_,?_,?_,Keep.refl _ w,?_,?_,fun p hp=>by cases hp⟩
  ·simp only [CT,DT] at hn; cases hn
  ·rintro b ⟨n,ob,hn,_⟩; simp only [CT,DT] at hn; cases hn
  ·intro n m ob ob' b _ hn; simp only [CT,DT] at hn; cases hn
  ·rintro b ⟨n,ob,hn,_⟩; simp only [CT,DT] at hn; cases hn
  ·rintro b ⟨hb | hb,_⟩
   ·exact (h.lt b hb).1
   ·exact h.fl b hb
 have:=hS w ⟨fun _=>False,fun b=>CV X γ st.o b∧∀ m∈DK vs,¬ RowOf γ st.o m b⟩ γ (EH st.o [] tks vs) xs v out hsp (h.glob hg) (fun _ hf=>hf.elim) (by rw [hm]; exact hR) (by
  rw [hm];refine WD h (fun b _ hb=>?_) [] hv (fun m hm b hr hb=>?_) (fun m hm=>by rw [hl] at hm; cases hm)
  ·rcases hb with ⟨n,ob,hn,_⟩ | hb
   ·simp only [CT,DT] at hn; cases hn
   ·exact hb.1
  ·rcases hb with ⟨n,ob,hn,_⟩ | hb
   ·simp only [CT,DT] at hn; cases hn
   ·exact hb.2 m hm hr)
 refine this.mono ?_;rintro e w' ⟨x,he,γ',h1,h2,h3⟩;refine ⟨x,he,γ',h1,h2,?_⟩;simp only [I5,hb] at h3;cases out with
 | nil=>exact ⟨h3,rfl⟩
 | cons _ _=>exact h3.elim
theorem X8 (h:Rel B nt w0 X γ st a w) {w':World} {X':Zone} (hX:∀ b,¬ X'.own b) {γ':Nat→Value} {st':St} {a':Act} (hc:Rel B.base 0 w X' γ' st' a' w') (F:Nat→Prop) (hF:∀ b,F b→X.far b∨(w.heap.size≤b∧b < w'.heap.size)):Rel B nt w0 ⟨X.own,F⟩ γ st a w':=
 (h.fresh (hc.keep) (fun b _ hb=>(hX b hb).elim)).shrink hF
theorem Q6 {cs:List V} (h:cs.all LV=true):DU cs=(900000,some (.box (EM 900001 cs))) :: HP 900001 cs:=by
 refine Z7 (fun s he=>?_);subst he;simp [LV,FJ] at h
theorem jA {w':World} {X':Zone} {γ':Nat→Value} {cs:List V} (hok:cs.all LV=true) (_:Rel B.base 0 w X' γ' ⟨[],DU cs⟩ HT w') {c:Array Value}
  (hr:VRels γ' (DU cs) w' (CV X' γ' (DU cs)) (EM 900001 cs) c.toList) {γf:Nat→Value} {of:Store} {nm:Nat}
  (hrow:∀ j e ag ks l,cs[j]?=some (.vec e ag ks l)→γf (nm+j)=γ' (900001+j)∧CT of (nm+j)=some (.row true e ag ks l)) {O':Nat→Prop} (hO:FQ cs=true→∀ b,b < w'.heap.size→O' b→CV X' γ' (DU cs) b) :
  VRels γf of w' O' (EM nm cs) c.toList:=by
 have hl:=hr.length;rw [QU] at hl;refine VRels.of_get (by rw [QU,hl]) (fun j v x hv hx=>?_);rw [UE] at hv;cases hcj:cs[j]? with
 | none=>rw [hcj] at hv; cases hv
 | some u=>
  rw [hcj] at hv;simp only [vae,AB] at hv;have hb:(EM 900001 cs)[j]?=some (match (generalizing:=false) u with | .vec _ _ _ l=>.row (900001+j) 0 l.length | v=>v):=by rw [UE,hcj]; rfl
  have hux:=hr.get' hb hx;have huok:LV u=true:=List.all_eq_true.1 hok u (vaG hcj);by_cases hvec:∃ e ag ks l,u = .vec e ag ks l
  ·obtain ⟨e,ag,ks,l,rfl⟩:=hvec;simp only at hv hux;subst hv;obtain ⟨h1,h2⟩:=hrow j e ag ks l hcj;have hat:=VP (nr:=900001) hcj;have hat':CT (DU cs) (900001+j)=some (.row true e ag ks l):=by
    rw [Q6 hok,DE,A7 (by omega)];exact hat
   simp only [VRel,hat'] at hux;simp only [VRel,h2,h1];exact hux
  ·have hf:FJ u=true:=by cases u <;> first | exact huok | exact absurd ⟨_,_,_,_,rfl⟩ hvec
   have hvu:v=u:=by cases u <;> first | exact hv.symm | exact absurd ⟨_,_,_,_,rfl⟩ hvec
   have hux':VRel γ' (DU cs) w' (CV X' γ' (DU cs)) u x:=by cases u <;> first | exact hux | exact absurd ⟨_,_,_,_,rfl⟩ hvec
   subst hvu;exact WW hf (fun hv=>hO (WB (vaG hcj) hv)) hux'
theorem fQ {w':World} {X':Zone} {γ':Nat→Value} {cs:List V} (hok:cs.all LV=true) (hc:Rel B.base 0 w X' γ' ⟨[],DU cs⟩ HT w') :
  (∀ (γ:Nat→Value) j e ag ks l,cs[j]?=some (.vec e ag ks l)→ObRel B.base γ [] w' (fun b=>FQ cs=true→CV X' γ' (DU cs) b) (γ' (900001+j)) (.row true e ag ks l)∧∀ b,(γ' (900001+j)).ownBlock=some b→DZ γ' (DU cs) b) ∧
  (∀ i j e ag ks l e' ag' ks' l' b,i≠j→cs[i]?=some (.vec e ag ks l)→cs[j]?=some (.vec e' ag' ks' l')→(γ' (900001+i)).ownBlock=some b→(γ' (900001+j)).ownBlock=some b→False) ∧
  (∀ j e ag ks l b,cs[j]?=some (.vec e ag ks l)→(γ' (900001+j)).ownBlock=some b→DO γ' (DU cs) 900000 b→False):=by
 have hat:∀ {j e ag ks l},cs[j]?=some (V.vec e ag ks l)→CT (DU cs) (900001+j)=some (.row true e ag ks l):=by
  intro j e ag ks l hj;rw [Q6 hok,DE,A7 (by omega)];exact VP hj
 refine ⟨fun γ j e ag ks l hj=>⟨?_,fun b hb=>⟨_,_,hat hj,hb⟩⟩,?_,?_⟩
 ·have hr:=hc.ob _ _ (hat hj);simp only [ObRel] at hr ⊢;obtain ⟨k1,k2,xs,k3,k4⟩:=hr;refine ⟨k1,k2,xs,k3,fun i y hy=>Kd.RelAll.mono (Keep.refl _ w') (fun b _ hb=>?_) (fun _ _ hu=>hu) (k4 i y hy)⟩;exact hb (WB (vaG hj) rfl)
 ·intro i j e ag ks l e' ag' ks' l' b hij h1 h2 hb1 hb2;exact hc.dis _ _ _ _ b (by omega) (hat h1) (hat h2) hb1 hb2
 ·rintro j e ag ks l b hj hb ⟨ob,h1,h2⟩;exact hc.dis _ _ _ _ b (by omega) (hat hj) h1 hb h2
theorem uN (h:Rel B nt w0 X γ st a w) (hg:GX B w0 X) {f:FuncId} {sp:MO} (hS:Snd P B f sp) {vs:List V} {xs:List Value} (hv:VRels γ st.o w (CV X γ st.o) vs xs) (hl:DW vs=[]) {tks:List (List Kd)} {v:V} {out:List (List V)}
  (hsp:sp (EH st.o [] tks vs)=some (v,out)) (hnb:∀ cs,v≠.bor cs) (hnv:∀ e ag ks l,v≠.vec e ag ks l) :
  Does P f xs w fun e w'=>∃ x,e = .returned x∧∃ γ',Rel B nt w0 X γ' (st.ups (DI st.o (match FS v with | true=>DK vs | false=>[]))) a w' ∧
   VRel γ' (st.ups (DI st.o (match FS v with | true=>DK vs | false=>[]))).o w' (CV X γ' (st.ups (DI st.o (match FS v with | true=>DK vs | false=>[]))).o) v x:=by
 refine (ZQ h hg hS hv hl hsp).mono ?_;rintro e w' ⟨x,he,γ',h1,h2,h3,rfl⟩;have hf:KI v=true:=by cases v <;> first | exact h3 | exact absurd rfl (hnb _) | exact absurd rfl (hnv _ _ _ _)
 have hmo:FB v []=[]:=by cases v <;> first | rfl | exact absurd rfl (hnb _) | exact absurd rfl (hnv _ _ _ _)
 rw [hmo] at h1 h2;rw [RW hf] at h2;have hz:=(JA st.o (match FS v with | true=>DK vs | false=>[]) (FrzLe.refl _) h).1;have hp:=X8 hz (fun b hb=>hb) h1 X.far (fun b hb=>.inl hb);refine ⟨x,he,γ,hp,aK hf (fun hhl b _ hb=>?_) h2⟩
 have:=UR h _ hb
 rw [hhl] at this;exact .inr this
theorem uM (h:Rel B nt w0 X γ st a w) (hg:GX B w0 X) {f:FuncId} {sp:MO} (hS:Snd P B f sp) {vs:List V} {xs:List Value} (hv:VRels γ st.o w (CV X γ st.o) vs xs) (hl:DW vs=[]) {tks:List (List Kd)} {cs:List V} {out:List (List V)}
  (hsp:sp (EH st.o [] tks vs)=some (.bor cs,out)) (d:Nat) (hd9:d≠900000) (hn9:1000*(d+1)+cs.length≤900000) :
  Does P f xs w fun e w'=>∃ x,e = .returned x∧∃ γ',Rel B nt w0 X γ' (st.ups (DI st.o (match FQ cs with | true=>DK vs | false=>[])++(G5 (1000*(d+1)) cs++[.new d (.box (EM (1000*(d+1)) cs))]))) a w' ∧
   VRel γ' (st.ups (DI st.o (match FQ cs with | true=>DK vs | false=>[])++(G5 (1000*(d+1)) cs++[.new d (.box (EM (1000*(d+1)) cs))]))).o w'
    (CV X γ' (st.ups (DI st.o (match FQ cs with | true=>DK vs | false=>[])++(G5 (1000*(d+1)) cs++[.new d (.box (EM (1000*(d+1)) cs))]))).o) (.ptr d 0 0) x:=by
 refine (ZQ h hg hS hv hl hsp).mono ?_;rintro e w' ⟨x,he,γ',h1,h2,h3,rfl⟩;simp only [RL] at h3;have hmo:FB (.bor cs) []=DU cs:=rfl;rw [hmo] at h1 h2;generalize hX':(⟨fun _=>False,fun b=>CV X γ st.o b∧∀ m∈DK vs,¬ RowOf γ st.o m b⟩:Zone)=X' at h1 h2;have hXo:∀ b,¬ X'.own b:=fun b hb=>by rw [← hX'] at hb; exact hb
 have hz:=(JA st.o (match FQ cs with | true=>DK vs | false=>[]) (FrzLe.refl _) h).1;have hPf:∀ b,DZ γ' (DU cs) b→w.heap.size≤b∧b < w'.heap.size:=fun b hb=>by
  obtain ⟨q1,q2⟩:=h1.lt b hb;exact ⟨q2.resolve_right (hXo b),q1⟩
 have hp:=X8 hz hXo h1 (fun b=>X.far b∨DZ γ' (DU cs) b) (fun b hb=>hb.imp_right (hPf b));obtain ⟨br1,br2,br3⟩:=fQ h3 h1;have hO1:∀ b,CV ⟨X.own,fun b=>X.far b∨DZ γ' (DU cs) b⟩ γ (st.ups (DI st.o (match FQ cs with | true=>DK vs | false=>[]))).o b→(FQ cs=true→CV X' γ' (DU cs) b):=by
  intro b hb hal;rw [hal] at hb;have key:CV X γ (st.ups (DI st.o (DK vs))).o b∨DZ γ' (DU cs) b:=by
   rcases hb with hb | hb | hb
   ·exact .inl (.inl hb)
   ·exact .inl (.inr hb)
   ·exact .inr hb
  rcases key with hb | hb
  ·have:=UR h _ hb
   exact .inr (by rw [← hX']; exact this)
  ·exact .inl hb
 obtain ⟨γd,F',r1,r2,r3,r4,r5,r6⟩:=V9 (B':=B.base) (g:=fun j=>γ' (900001+j)) (1000*(d+1)) cs 0 (by omega) hp hO1 (fun j e ag ks l hj=>by
   rw [A0];obtain ⟨q1,q2⟩:=br1 γ j e ag ks l hj;exact ⟨q1,fun b hb=>⟨.inr (q2 b hb),.inl (vaj h.keep.size (hPf b (q2 b hb)).1)⟩⟩)
  (fun i j e ag ks l e' ag' ks' l' b hij q1 q2 q3 q4=>by
   rw [A0] at q3 q4;exact br2 i j e ag ks l e' ag' ks' l' b hij q1 q2 q3 q4)
 simp only [vaa,A0] at r1 r3 r4 r5 r6;have hob0:CT (DU cs) 900000=some (.box (EM 900001 cs)):=by rw [Q6 h3,DE,B1 rfl]
 have hor:=h1.ob _ _ hob0;simp only [ObRel] at hor;obtain ⟨b0,c,T,hg,hh,hr⟩:=hor;have hb0P:DZ γ' (DU cs) b0:=⟨900000,_,hob0,⟨_,hg,rfl⟩⟩;have hadd:=r1.add d hd9 (.box (EM (1000*(d+1)) cs)) (γ' 900000) (fun b hb=>by
   obtain ⟨ad,q1,q2⟩:=hb;rw [hg] at q1;simp only [B4,AB] at q1;subst q1;simp only at q2;subst q2;exact ⟨r3 b0 (.inr hb0P) (fun j e ag ks l hj hb=>br3 j e ag ks l b0 hj hb ⟨_,hob0,_,hg,rfl⟩),.inl (vaj h.keep.size (hPf b0 hb0P).1)⟩)
  (fun O' hO'=>by
   simp only [ObRel];refine ⟨b0,c,T,hg,hh,jA h3 h1 hr (fun j e ag ks l hj=>?_) (fun hal b _ hb=>hO1 b (r4 b (hO' b hb)) hal)⟩;obtain ⟨q1,q2⟩:=r5 j e ag ks l hj;refine ⟨by rw [A7 (by omega)]; exact q1,?_⟩;rw [EK,A7 (by omega),q2];rfl)
 have hfin:=hadd.shrink (F:=X.far) (fun b hb=>by
   have hlt:=h.fl b hb;refine ⟨r3 b (.inl hb) (fun j e ag ks l hj hbj=>?_),fun hbb=>?_⟩
   ·have:=hPf b ((br1 γ j e ag ks l hj).2 b hbj)
    omega
   ·obtain ⟨ad,q1,q2⟩:=hbb;rw [hg] at q1;simp only [B4,AB] at q1;subst q1;simp only at q2;subst q2
    have:=hPf b0 hb0P
    omega)
 refine ⟨x,he,_,by rw [H0,H0]; exact hfin,?_⟩;rw [H0,H0];simp only [St.ups,VRel,EK,B2];simp only [JG,DS,VRel,hob0] at h2;exact h2
theorem uO (h:Rel B nt w0 X γ st a w) (hg:GX B w0 X) {f:FuncId} {sp:MO} (hS:Snd P B f sp) {vs:List V} {xs:List Value} (hv:VRels γ st.o w (CV X γ st.o) vs xs) (hl:DW vs=[]) {tks:List (List Kd)} {e:Nat} {ag:Bool} {ks:List Kd} {l:LI} {out:List (List V)}
  (hsp:sp (EH st.o [] tks vs)=some (.vec e ag ks l,out)) (d:Nat) (hd9:d≠900000) :
  Does P f xs w fun e' w'=>∃ x,e' = .returned x∧∃ γ',Rel B nt w0 X γ' (st.ups (DI st.o (DK vs)++[.new d (.row true e ag ks l)])) a w' ∧
   VRel γ' (st.ups (DI st.o (DK vs)++[.new d (.row true e ag ks l)])).o w' (CV X γ' (st.ups (DI st.o (DK vs)++[.new d (.row true e ag ks l)])).o) (.row d 0 l.length) x:=by
 refine (ZQ h hg hS hv hl hsp).mono ?_;rintro e' w' ⟨x,he,γ',h1,h2,h3,rfl⟩;have hmo:FB (.vec e ag ks l) []=[(900000,some (.row true e ag ks l))]:=rfl;rw [hmo] at h1 h2;generalize hX':(⟨fun _=>False,fun b=>CV X γ st.o b∧∀ m∈DK vs,¬ RowOf γ st.o m b⟩:Zone)=X' at h1 h2;have hXo:∀ b,¬ X'.own b:=fun b hb=>by rw [← hX'] at hb; exact hb
 have hz:=(JA st.o (DK vs) (FrzLe.refl _) h).1;have hPf:∀ b,DZ γ' [(900000,some (.row true e ag ks l))] b→w.heap.size≤b∧b < w'.heap.size:=fun b hb=>by
  obtain ⟨q1,q2⟩:=h1.lt b hb;exact ⟨q2.resolve_right (hXo b),q1⟩
 have hp:=X8 hz hXo h1 (fun b=>X.far b∨DZ γ' [(900000,some (.row true e ag ks l))] b) (fun b hb=>hb.imp_right (hPf b));have hO1:∀ b,CV ⟨X.own,fun b=>X.far b∨DZ γ' [(900000,some (.row true e ag ks l))] b⟩ γ (st.ups (DI st.o (DK vs))).o b→CV X' γ' [(900000,some (.row true e ag ks l))] b:=by
  intro b hb;have key:CV X γ (st.ups (DI st.o (DK vs))).o b∨DZ γ' [(900000,some (.row true e ag ks l))] b:=by
   rcases hb with hb | hb | hb
   ·exact .inl (.inl hb)
   ·exact .inl (.inr hb)
   ·exact .inr hb
  rcases key with hb | hb
  ·have:=UR h _ hb
   exact .inr (by rw [← hX']; exact this)
  ·exact .inl hb
 have hob0:CT [(900000,some (.row true e ag ks l))] 900000=some (.row true e ag ks l):=by rw [DE,B1 rfl]
 have hor:=h1.ob _ _ hob0;simp only [ObRel] at hor;obtain ⟨k1,k2,ys,k3,k4⟩:=hor;have hg0:∀ b,DR (γ' 900000) (.row true e ag ks l) b→DZ γ' [(900000,some (.row true e ag ks l))] b:=fun b hb=>⟨900000,_,hob0,hb⟩
 have hadd:=hp.add d hd9 (.row true e ag ks l) (γ' 900000) (fun b hb=>⟨.inr (hg0 b hb),.inl (vaj h.keep.size (hPf b (hg0 b hb)).1)⟩)
  (fun O' hO'=>by
   simp only [ObRel];exact ⟨k1,k2,ys,k3,fun i y hy=>Kd.RelAll.mono (Keep.refl _ w') (fun b _ hb=>hO1 b (hO' b hb)) (fun _ _ hu=>hu) (k4 i y hy)⟩)
 have hfin:=hadd.shrink (F:=X.far) (fun b hb=>by
   have hlt:=h.fl b hb;refine ⟨.inl hb,fun hbb=>?_⟩
   have:=hPf b (hg0 b hbb)
   omega)
 refine ⟨x,he,_,by rw [H0]; exact hfin,?_⟩;rw [H0];simp only [St.ups,VRel,EK,B2];simp only [JG,VRel,hob0] at h2;exact h2
theorem Nk {γ:Nat→Value} {o:Store} {w:World} {O O':Nat→Prop} (hO:∀ b,b < w.heap.size→O' b→O b) {v:V} {y:Kd × IV} {x:Value} (he:eP v=some y) (hv:VRel γ o w O v x):Kd.Rel w O' y.1 y.2 x:=by
 cases v <;> simp only [eP] at he <;> first | (cases he; done) | skip
 all_goals
  simp only [AB] at he;subst he;simp only [VRel] at hv
 case list ag ks l=>exact Kd.Rel.mono (Keep.refl _ w) hO hv
 all_goals
  simp only [Kd.Rel,IV.toInt,IV.toBool,IV.toStr];exact hv
theorem rM {γ:Nat→Value} {o:Store} {w:World} {O O':Nat→Prop} (hO:∀ b,b < w.heap.size→O' b→O b) :
  ∀ {cs:List V} {y:List Kd × LI} {xs:List Value} {j:Nat} {f:Nat→IV} {R:Nat→Value→Prop},VY cs=some y→VRels γ o w O cs xs→(∀ i,f (j+i)=HN y.2 i)→(∀ i u,xs[i]?=some u→R (j+i) u)→Kd.RelAll w O' y.1 f j R
 | [],y,xs,j,f,R,he,hv,hf,hR=>by
  simp only [VY,AB] at he;subst he;simp only [Kd.RelAll]
 | v :: cs,y,[],j,f,R,he,hv,hf,hR=>by simp only [VRels] at hv
 | v :: cs,y,x :: xs,j,f,R,he,hv,hf,hR=>by
  simp only [VY] at he;split at he
  ·rename_i a b ha hb;simp only [AB] at he;subst he;simp only [VRels] at hv;simp only [Kd.RelAll];refine ⟨⟨x,by have:=hR 0 x rfl; simpa using this,?_⟩,rM hO hb hv.2 (fun i=>?_) (fun i u hu=>?_)⟩
   ·have h0:=hf 0;simp only [vaa,HN] at h0;rw [h0];exact Nk hO ha hv.1
   ·rw [show j+1+i=j+(i+1) by omega,hf];rfl
   ·rw [show j+1+i=j+(i+1) by omega];exact hR (i+1) u (by simpa using hu)
  ·cases he
theorem uU (h:Rel B nt w0 X γ st a w) {v:V} {x:Value} (hv:VRel γ st.o w (CV X γ st.o) v x) {γb:Nat→Value} {bo:Store} {O':Nat→Prop} (hO:∀ b,b < w.heap.size→O' b→CV X γ st.o b)
  (hrow:∀ m∈DQ [v],∀ b,RowOf γ st.o m b→¬ O' b) (hl:∀ m∈DW.lentC [v],∀ b,DO γ st.o m b→¬ O' b):VRel γb bo w O' (DS.go (H7 st.o v)) x:=by
 by_cases hp:∃ n i c,v = .ptr n i c
 ·obtain ⟨n,i,c,rfl⟩:=hp;simp only [H7];split
  ·rename_i cs hic ho;split
   ·rename_i y hy;simp only [AI] at hic;obtain rfl:=EA.1 hic.1;obtain rfl:=EA.1 hic.2;simp only [VRel,ho] at hv;obtain ⟨_,b,hg,rfl⟩:=hv;obtain ⟨b',c,T,hg',hh,hc⟩:=h.ob n _ ho;rw [hg] at hg';simp only [B4,AB,CL,B9] at hg';subst hg';simp only [DS.go,VRel];refine ⟨b,0,rfl,hl n (by simp [DW.lentC]) b ⟨_,ho,⟨_,hg,rfl⟩⟩,?_,rM hO hy hc (fun i=>by rw [A0]) (fun i u hu=>?_)⟩
    ·rcases vak b w.heap.size with h1 | h1
     ·exact h1
     ·rw [Array.getElem?_eq_none h1] at hh;cases hh
    ·simp only [World.cell?,hh,A0];simpa using hu
   ·simp only [DS.go,VRel]
  ·simp only [DS.go,VRel]
 ·have h1:H7 st.o v=FK (DH st.o [] none v):=by cases v <;> first | rfl | exact absurd ⟨_,_,_,rfl⟩ hp
  have h2:DS.go (FK (DH st.o [] none v))=FK (DH st.o [] none v):=by cases DH st.o [] none v <;> rfl
  rw [h1,h2];exact ZF h hv hO hrow [] none
theorem i6 (h:Rel B nt w0 X γ st a w) {γb:Nat→Value} {bo:Store} {O':Nat→Prop} (hO:∀ b,b < w.heap.size→O' b→CV X γ st.o b) :
  ∀ {l:List V} {xs:List Value},VRels γ st.o w (CV X γ st.o) l xs→(∀ m∈DQ l,∀ b,RowOf γ st.o m b→¬ O' b)→(∀ m∈DW.lentC l,∀ b,DO γ st.o m b→¬ O' b) →
   VRels γb bo w O' ((l.map (H7 st.o)).map DS.go) xs
 | [],[],_,_,_=>by simp only [vab,VRels]
 | [],x :: xs,hv,_,_=>by simp only [VRels] at hv
 | v :: l,[],hv,_,_=>by simp only [VRels] at hv
 | v :: l,x :: xs,hv,hr,hl=>by
  simp only [VRels,A6] at hv ⊢;exact ⟨uU h hv.1 hO (fun m hm=>hr m (RY v l m (.inl hm))) (fun m hm=>hl m (XJ v l m (.inl hm))),
   i6 h hO hv.2 (fun m hm=>hr m (RY v l m (.inr hm))) (fun m hm=>hl m (XJ v l m (.inr hm)))⟩
theorem uC (h:Rel B nt w0 X γ st a w) {v:V} {x:Value} (hv:VRel γ st.o w (CV X γ st.o) v x) {γb:Nat→Value} {bo:Store} {O':Nat→Prop} (hO:∀ b,b < w.heap.size→O' b→CV X γ st.o b)
  (hrow:∀ m∈HE v,∀ b,RowOf γ st.o m b→¬ O' b) (hl:∀ m∈DW [v],∀ b,DO γ st.o m b→¬ O' b) (ks:List Kd):VRel γb bo w O' (DS (IO st.o ks v)) x:=by
 by_cases hc:(∃ f l,v = .clo f l)∨(∃ n i c,v = .ptr n i c)
 ·rcases hc with ⟨f,l,rfl⟩ | ⟨n,i,c,rfl⟩
  ·simp only [IO,DS,VRel] at hv ⊢;obtain ⟨cs,hx,hr⟩:=hv;exact ⟨cs,hx,i6 h hO hr hrow (fun m hm=>hl m (by simpa [DW] using hm))⟩
  ·simp only [IO,DS,VRel]
 ·have h1:IO st.o ks v=GL st.o [] ks v:=by cases v <;> first | rfl | exact absurd (.inl ⟨_,_,rfl⟩) hc | exact absurd (.inr ⟨_,_,_,rfl⟩) hc
  have h2:DW [v]=[]:=by cases v <;> first | rfl | exact absurd (.inl ⟨_,_,rfl⟩) hc | exact absurd (.inr ⟨_,_,_,rfl⟩) hc
  rw [h1];exact fM h hv hO hrow (fun m hm=>by rw [h2] at hm; cases hm) [] ks
theorem fJ (h:Rel B nt w0 X γ st a w) {γb:Nat→Value} {bo:Store} {O':Nat→Prop} (hO:∀ b,b < w.heap.size→O' b→CV X γ st.o b) :
  ∀ {l:List V} {tks:List (List Kd)} {xs:List Value},VRels γ st.o w (CV X γ st.o) l xs→(∀ m∈DK l,∀ b,RowOf γ st.o m b→¬ O' b)→(∀ m∈DW l,∀ b,DO γ st.o m b→¬ O' b) →
   VRels γb bo w O' ((G4 st.o tks l).map DS) xs
 | [],tks,[],_,_,_=>by cases tks <;> simp only [G4,vab,VRels]
 | [],tks,x :: xs,hv,_,_=>by simp only [VRels] at hv
 | v :: l,tks,[],hv,_,_=>by simp only [VRels] at hv
 | v :: l,tks,x :: xs,hv,hr,hl=>by
  simp only [VRels] at hv;have h1:∀ ks,VRel γb bo w O' (DS (IO st.o ks v)) x:=fun ks=>uC h hv.1 hO (fun m hm=>hr m (by simp only [DK,AW]; exact .inl hm)) (fun m hm=>hl m (by
   cases v <;> simp_all [DW])) ks
  have h2:∀ tks,VRels γb bo w O' ((G4 st.o tks l).map DS) xs:=fun tks=>fJ h hO hv.2 (fun m hm=>hr m (by simp only [DK,AW]; exact .inr hm)) (fun m hm=>hl m (by
   cases v <;> simp_all [DW]))
  cases tks with
  | nil=>simp only [G4,A6,VRels]; exact ⟨h1 _,h2 _⟩
  | cons k ks=>simp only [G4,A6,VRels]; exact ⟨h1 _,h2 _⟩
theorem uT (o:Store) (v:V):∀ cs,H7 o v≠.bor cs:=by
 intro cs he;by_cases hp:∃ n i c,v = .ptr n i c
 ·obtain ⟨n,i,c,rfl⟩:=hp;simp only [H7] at he;split at he
  ·split at he <;> cases he
  ·cases he
 ·have h1:H7 o v=FK (DH o [] none v):=by cases v <;> first | rfl | exact absurd ⟨_,_,_,rfl⟩ hp
  rw [h1] at he;cases hx:DH o [] none v <;> rw [hx] at he <;> simp only [FK] at he <;> cases he
theorem fW (o:Store):∀ l:List V,EC.borC (l.map (H7 o))=none
 | []=>rfl
 | v :: r=>by
  have:=uT o v
  simp only [A6];cases hx:H7 o v <;> simp only [EC.borC,fW o r]
  exact absurd hx (this _)
theorem fX (o:Store):∀ (l:List V) (tks:List (List Kd)),EC (G4 o tks l)=none
 | [],tks=>by cases tks <;> rfl
 | v :: r,tks=>by
  obtain ⟨ks,tks',he⟩:∃ ks tks',G4 o tks (v :: r)=IO o ks v :: G4 o tks' r:=by
   cases tks with
   | nil=>exact ⟨[],[],rfl⟩
   | cons k ks=>exact ⟨k,ks,rfl⟩
  have ih:=fX o r tks';rw [he];by_cases hc:(∃ f l,v = .clo f l)∨(∃ n i c,v = .ptr n i c)
  ·rcases hc with ⟨f,l,rfl⟩ | ⟨n,i,c,rfl⟩
   ·simp only [IO,EC,fW,ih]
   ·simp only [IO,EC,ih]
  ·have h1:IO o ks v=GL o [] ks v:=by cases v <;> first | rfl | exact absurd (.inl ⟨_,_,rfl⟩) hc | exact absurd (.inr ⟨_,_,_,rfl⟩) hc
   have h2:DW [v]=[]:=by cases v <;> first | rfl | exact absurd (.inl ⟨_,_,rfl⟩) hc | exact absurd (.inr ⟨_,_,_,rfl⟩) hc
   have h3:=(UG (o:=o) (bs:=[]) (l:=[v]) (tks:=[ks])).2 h2;simp only [EH] at h3;rw [h1];cases hx:GL o [] ks v <;> rw [hx] at h3 <;> simp only [EC] at h3 ⊢ <;> first | exact ih | (cases h3; done) | skip
   cases hy:EC.borC _ with
   | none=>simpa only using ih
   | some cs=>rw [hy] at h3; cases h3
theorem uP (h:Rel B nt w0 X γ st a w) (hg:GX B w0 X) {f:FuncId} {sp:MO} (hS:Snd P B f sp) {vs:List V} {xs:List Value} (hv:VRels γ st.o w (CV X γ st.o) vs xs) {tks:List (List Kd)} {b:Bool}
  (hsp:sp (G4 st.o tks vs)=some (.bool b,[])) :
  Does P f xs w fun e w'=>∃ x,e = .returned x∧∃ γ',Rel B nt w0 X γ' st a w'∧VRel γ' st.o w' (CV X γ' st.o) (.bool b) x:=by
 have hb:EC (G4 st.o tks vs)=none:=fX _ _ _;have hm:G1 (G4 st.o tks vs)=[]:=by simp only [G1,hb]
 generalize hX':(⟨fun _=>False,fun b=>CV X γ st.o b∧(∀ m∈DK vs,¬ RowOf γ st.o m b)∧∀ m∈DW vs,¬ DO γ st.o m b⟩:Zone)=X';have hXo:∀ b,¬ X'.own b:=fun b hb=>by rw [← hX'] at hb; exact hb
 have hXf:∀ b,X'.far b→CV X γ st.o b∧(∀ m∈DK vs,¬ RowOf γ st.o m b)∧∀ m∈DW vs,¬ DO γ st.o m b:=fun b hb=>by rw [← hX'] at hb; exact hb
 have hO:∀ b,CV X' γ [] b→X'.far b:=fun b hb=>by
  rcases hb with ⟨n,ob,hn,_⟩ | hb
  ·simp only [CT,DT] at hn; cases hn
  ·exact hb
 have hR:Rel B.base 0 w X' γ ⟨[],[]⟩ HT w:=by
  refine ⟨rfl,rfl,fun i=>by simp only [St.get,DT,VRel],fun n ob hn=>?_,?_,?_,Keep.refl _ w,?_,?_,fun p hp=>by cases hp⟩
  ·simp only [CT,DT] at hn; cases hn
  ·rintro b ⟨n,ob,hn,_⟩; simp only [CT,DT] at hn; cases hn
  ·intro n m ob ob' b _ hn; simp only [CT,DT] at hn; cases hn
  ·rintro b ⟨n,ob,hn,_⟩; simp only [CT,DT] at hn; cases hn
  ·intro b hb;rcases (hXf b hb).1 with hb | hb
   ·exact (h.lt b hb).1
   ·exact h.fl b hb
 have:=hS w X' γ (G4 st.o tks vs) xs (.bool b) [] hsp (h.glob hg) (fun b hb=>(hXo b hb).elim) (by rw [hm]; exact hR) (by
  rw [hm];exact fJ h (fun b _ hb=>(hXf b (hO b hb)).1) hv (fun m hm b hr hb=>(hXf b (hO b hb)).2.1 m hm hr) (fun m hm b hr hb=>(hXf b (hO b hb)).2.2 m hm hr))
 refine this.mono ?_;rintro e w' ⟨x,he,γ',h1,h2,_⟩;have hp:=X8 h hXo h1 X.far (fun b hb=>.inl hb);exact ⟨x,he,γ,hp,by simpa only [JG,DS,VRel] using h2⟩
end
open Go Go.RowKit
mutual
theorem VRel.leaves {γ γ':Nat→Value} {o o':Store} {w:World} {O:Nat→Prop} (h1:∀ n lo hi x,VRel γ o w O (.row n lo hi) x→VRel γ' o' w O (.row n lo hi) x) (h2:∀ n i c x,VRel γ o w O (.ptr n i c) x→VRel γ' o' w O (.ptr n i c) x)
  (h3:∀ n c cap sz len x,VRel γ o w O (.bview n c cap sz len) x→VRel γ' o' w O (.bview n c cap sz len) x):∀ {v:V} {x:Value},VRel γ o w O v x→VRel γ' o' w O v x
 | .any,_,_=>by simp only [VRel]
 | .int _ _,_,h=>by simpa only [VRel] using h
 | .bool _,_,h=>by simpa only [VRel] using h
 | .str _,_,h=>by simpa only [VRel] using h
 | .list _ _ _,_,h=>by simpa only [VRel] using h
 | .zs,_,h=>by simpa only [VRel] using h
 | .row _ _ _,_,h=>h1 _ _ _ _ h
 | .ptr _ _ _,_,h=>h2 _ _ _ _ h
 | .iptr _ _ _,_,h=>by simpa only [VRel] using h
 | .bview _ _ _ _ _,_,h=>h3 _ _ _ _ _ _ h
 | .agg l,x,h=>by
  simp only [VRel] at h ⊢;obtain ⟨cs,hx,hr⟩:=h;exact ⟨cs,hx,VRels.leaves h1 h2 h3 hr⟩
 | .tup l,x,h=>by
  simp only [VRel] at h ⊢;obtain ⟨cs,hx,hr⟩:=h;exact ⟨cs,hx,VRels.leaves h1 h2 h3 hr⟩
 | .err _,_,h=>by simpa only [VRel] using h
 | .nilp,_,h=>by simpa only [VRel] using h
 | .clo _ l,x,h=>by
  simp only [VRel] at h ⊢;obtain ⟨cs,hx,hr⟩:=h;exact ⟨cs,hx,VRels.leaves h1 h2 h3 hr⟩
 | .bor _,_,h=>by simp only [VRel] at h
 | .vec _ _ _ _,_,h=>by simp only [VRel] at h
 | .bld _,_,h=>by simp only [VRel] at h
theorem VRels.leaves {γ γ':Nat→Value} {o o':Store} {w:World} {O:Nat→Prop} (h1:∀ n lo hi x,VRel γ o w O (.row n lo hi) x→VRel γ' o' w O (.row n lo hi) x) (h2:∀ n i c x,VRel γ o w O (.ptr n i c) x→VRel γ' o' w O (.ptr n i c) x)
  (h3:∀ n c cap sz len x,VRel γ o w O (.bview n c cap sz len) x→VRel γ' o' w O (.bview n c cap sz len) x):∀ {l:List V} {xs:List Value},VRels γ o w O l xs→VRels γ' o' w O l xs
 | [],[],_=>by simp only [VRels]
 | [],_ :: _,h=>by simp only [VRels] at h
 | _ :: _,[],h=>by simp only [VRels] at h
 | v :: vs,x :: xs,h=>by
  simp only [VRels] at h ⊢;exact ⟨VRel.leaves h1 h2 h3 h.1,VRels.leaves h1 h2 h3 h.2⟩
end
section
variable {B:BT} {nt:Nat} {w0:World} {X:Zone} {γ:Nat→Value} {st st':St} {a:Act} {w:World} {P:Program} {E:Env}
theorem k9:∀ (hs:List Nat) {st:St} {X:Zone},Rel B nt w0 X γ st a w →
  Rel B nt w0 ⟨X.own,fun b=>X.far b∨∃ m∈hs,DO γ st.o m b⟩ γ (st.ups (ID hs)) a w∧(st.ups (ID hs)).t=st.t∧∀ m,CT (st.ups (ID hs)).o m=if m∈hs then none else CT st.o m
 | [],st,X,h=>⟨h.shrink (fun b hb=>by simpa using hb),rfl,fun m=>by simp [ID,St.ups]⟩
 | n :: r,st,X,h=>by
  obtain ⟨h1,h2,h3⟩:=k9 r (h.kill n);have hob:∀ m,CT (st.up (.kill n)).o m=if n=m then none else CT st.o m:=fun m=>by simp only [St.up,DE]
  refine ⟨?_,h2,fun m=>?_⟩
  ·simp only [ID,St.ups];refine h1.shrink (fun b hb=>?_);rcases hb with hb | ⟨m,hm,hb⟩
   ·exact .inl (.inl hb)
   ·by_cases e:n=m
    ·subst e;exact .inl (.inr hb)
    ·rcases AR.1 hm with h4 | h4
     ·exact absurd h4.symm e
     ·obtain ⟨ob,p1,p2⟩:=hb;exact .inr ⟨m,h4,ob,by rw [hob,A7 e]; exact p1,p2⟩
  ·simp only [ID,St.ups];rw [h3,hob];by_cases h4:m∈r
   ·simp [h4]
   ·by_cases h5:n=m
    ·subst h5;simp
    ·have:¬ m=n:=fun e=>h5 e.symm
     simp [h4,h5,this]
theorem kI (h:Rel B nt w0 X γ st a w) (ns:List Nat) {n:Nat} {ob:Ob} (ho:CT st.o n=some ob) (hb:∀ e ag ks l,ob≠.row true e ag ks l):CT (st.ups (DI st.o ns)).o n=some ob:=by
 obtain ⟨_,h2,_⟩:=JA st.o ns (FrzLe.refl _) h;rcases h2 n with h3 | ⟨e,ag,ks,l,h3,_⟩
 ·rw [h3,ho]
 ·rw [ho,AB] at h3;exact absurd h3 (hb _ _ _ _)
theorem Rel.boundB (h:Rel B nt w0 X γ st a w) {n:Nat} {s:BA} (ho:CT st.o n=some (.bld s)) {w1:World} {own1 F:Nat→Prop} (hk:Keep own1 w1 w)
  (hF:∀ b,F b→CV X γ st.o b∧¬ DO γ st.o n b) (hown:∀ b,DO γ st.o n b→w1.heap.size≤b∨own1 b) :
  Rel B.base 0 w1 ⟨own1,F⟩ (fun _=>γ n) ⟨[],DU [.bld s]⟩ HT w∧∀ b,DZ (fun _=>γ n) (DU [.bld s]) b→DO γ st.o n b:=by
 have hP:∀ b,DZ (fun _=>γ n) (DU [.bld s]) b→DO γ st.o n b:=by
  rintro b ⟨m,ob,hm,hb⟩;simp only [DU] at hm;rw [DE] at hm;split at hm
  ·simp only [AB] at hm;subst hm;exact ⟨_,ho,hb⟩
  ·simp only [CT,DT] at hm; cases hm
 refine ⟨⟨rfl,rfl,fun i=>by simp only [St.get,DT,VRel],fun m ob hm=>?_,fun b hb=>?_,?_,hk,?_,?_,fun p hp=>by cases hp⟩,hP⟩
 ·simp only [DU] at hm;rw [DE] at hm;split at hm
  ·simp only [AB] at hm;subst hm
   have:=h.ob n _ ho
   simpa only [ObRel,BT.base] using this
  ·simp only [CT,DT] at hm; cases hm
 ·obtain ⟨ob,h1,h2⟩:=hP b hb;exact ⟨(h.lt b ⟨n,ob,h1,h2⟩).1,hown b (hP b hb)⟩
 ·intro m1 m2 ob1 ob2 b hne h1 h2 _ _;simp only [DU] at h1 h2;rw [DE] at h1 h2;split at h1
  ·split at h2
   ·omega
   ·simp only [CT,DT] at h2; cases h2
  ·simp only [CT,DT] at h1; cases h1
 ·intro b hb hf;exact (hF b hf).2 (hP b hb)
 ·intro b hb;rcases (hF b hb).1 with h1 | h1
  ·exact (h.lt b h1).1
  ·exact h.fl b h1
theorem uK (h:Rel B nt w0 X γ st a w) (hg:GX B w0 X) {f:FuncId} {sp:MO} (hS:Snd P B f sp) {vs:List V} {xs:List Value} (hv:VRels γ st.o w (CV X γ st.o) vs xs) {n:Nat} (hl:DW vs=[n]) {s s':BA} (ho:CT st.o n=some (.bld s))
  {tks:List (List Kd)} {v:V} (hsp:sp (EH st.o [.bld s] tks vs)=some (v,[[.bld s']])) (hib:W2 (EC (EH st.o [.bld s] tks vs))=true) :
  Does P f xs w fun e w'=>∃ x,e = .returned x∧∃ γ',Rel B nt w0 X γ' (st.ups (DI st.o (match FS v with | true=>DK vs | false=>[])++[.set n (.bld s')])) a w' ∧
   VRel γ' (st.ups (DI st.o (match FS v with | true=>DK vs | false=>[])++[.set n (.bld s')])).o w' (CV X γ' (st.ups (DI st.o (match FS v with | true=>DK vs | false=>[])++[.set n (.bld s')])).o) v x:=by
 have hL:∀ b,DO γ st.o n b→w.heap.size≤b∨DO γ st.o n b:=fun b hb=>.inr hb
 obtain ⟨hR,hP⟩:=h.boundB ho (w1:=w) (own1:=DO γ st.o n) (F:=fun b=>CV X γ st.o b∧¬ DO γ st.o n b∧∀ m∈DK vs,¬ RowOf γ st.o m b) (Keep.refl _ w) (fun b hb=>⟨hb.1,hb.2.1⟩) hL;generalize hX':(⟨DO γ st.o n,fun b=>CV X γ st.o b∧¬ DO γ st.o n b∧∀ m∈DK vs,¬ RowOf γ st.o m b⟩:Zone)=X' at hR;have hXf:∀ b,X'.far b↔(CV X γ st.o b∧¬ DO γ st.o n b∧∀ m∈DK vs,¬ RowOf γ st.o m b):=fun b=>by rw [← hX']
 have hXo:∀ b,X'.own b↔DO γ st.o n b:=fun b=>by rw [← hX']
 have hnP:∀ b,DO γ st.o n b→DZ γ st.o b:=fun b ⟨ob,h1,h2⟩=>⟨n,ob,h1,h2⟩
 rcases (UG (o:=st.o) (bs:=[.bld s]) (l:=vs) (tks:=tks)).1 with hb | hb
 ·rw [hb] at hib;cases hib
 ·have hm:G1 (EH st.o [.bld s] tks vs)=DU [.bld s]:=by simp only [G1,hb]
  have hcall:=hS w X' (fun _=>γ n) (EH st.o [.bld s] tks vs) xs v [[.bld s']] hsp (h.glob hg) (fun b hb=>h.high hg (hnP b ((hXo b).1 hb))) (by rw [hm]; exact hR) (by
   rw [hm];refine WD h (fun b _ hb=>?_) [.bld s] hv (fun m hm b hr hb=>?_) (fun m hm=>?_)
   ·rcases hb with hb | hb
    ·exact .inl (hnP b (hP b hb))
    ·exact ((hXf b).1 hb).1
   ·rcases hb with hb | hb
    ·obtain ⟨e,ag,ks,l,h5,h6⟩:=hr;obtain ⟨ob,h7,h8⟩:=hP b hb;have hne:n≠m:=by
      rintro rfl;rw [ho] at h5;cases h5
     exact h.dis n m ob _ b hne h7 h5 h8 h6
    ·exact ((hXf b).1 hb).2.2 m hm hr
   ·rw [hl] at hm;simp only [vaz] at hm;subst hm;exact ⟨rfl,.inr ⟨s,s,ho,by simp [DU,DE]⟩⟩)
  refine hcall.mono ?_;rintro e w' ⟨x,he,γ',h1,h2,h3⟩;simp only [I5,hb] at h3;obtain ⟨hf,_,had⟩:=h3;have hmo:FB v [[.bld s']]=DU [.bld s']:=by cases v <;> rfl
  rw [hmo] at h1 h2;rw [RW hf] at h2;refine ⟨x,he,?_⟩;generalize hF0:(match FS v with | true=>DK vs | false=>[])=F0;have hz:=(JA st.o F0 (FrzLe.refl _) h).1;have hon:=kI h F0 ho (fun _ _ _ _=>by simp);have hob0:CT (DU [.bld s']) 900000=some (.bld s'):=by simp [DU,DE]
  have hor:=h1.ob _ _ hob0;have hor0:=h.ob _ _ ho;simp only [ObRel] at hor hor0;obtain ⟨b1,v1,p1,hg1,_⟩:=hor;obtain ⟨b0,v0,p0,hg0,_⟩:=hor0;have hbb:b1=b0:=by
   rw [hg1,hg0] at had;simpa [MP] using had
  subst hbb;have hbl:∀ b,DO γ (st.ups (DI st.o F0)).o n b↔DO γ st.o n b:=fun b=>by simp only [DO,hon,ho]
  have hOP:∀ b,DR (γ' 900000) (.bld s') b→DZ γ' (DU [.bld s']) b:=fun b hb=>⟨_,_,hob0,hb⟩
  have hsz:=h1.keep.size;have hlend:=hz.lend (n:=n) (ob':=.bld s') (g':=γ' 900000) hon had h1.keep (K:=X'.own) (fun b _ hb=>.inl ((hbl b).2 ((hXo b).1 hb)))
   (fun b hb=>by
    obtain ⟨q1,q2⟩:=h1.lt b (hOP b hb);exact ⟨q1,q2.elim .inr (fun hb=>.inl ((hbl b).2 ((hXo b).1 hb)))⟩)
   (fun O v x hvx=>VRel.leaves (fun m lo hi x hx=>by
     simp only [VRel] at hx ⊢;rw [DE];by_cases e:n=m
     ·subst e; simp only [B2]
     ·simp only [A7 e]; exact hx) (fun m i c x hx=>by
     simp only [VRel] at hx ⊢;rw [DE];by_cases e:n=m
     ·subst e;simp only [B2];rw [hon] at hx;obtain ⟨rfl,b,v',hg,hxx⟩:=hx;rw [hg0] at hg;simp only [Value.tuple.injEq,Array.mk.injEq,vaF,B4,AB,CL,B9] at hg;refine ⟨rfl,b1,v1,hg1,?_⟩;rw [hxx,hg.1]
     ·simp only [A7 e]; exact hx) (fun m c cap sz len x hx=>by
     simp only [VRel] at hx ⊢;rw [DE];by_cases e:n=m
     ·subst e; simp only [B2]
     ·simp only [A7 e]; exact hx) hvx)
   (by
    have hor:=h1.ob _ _ hob0;simpa only [ObRel,BT.base] using hor)
  have hfin:=hlend.shrink (F:=X.far) (fun b hb=>⟨.inl hb,fun hbb=>by
   obtain ⟨q1,q2⟩:=h1.lt b (hOP b hbb)
   have:=h.fl b hb
   rcases q2 with q2 | q2
   ·omega
   ·exact h.nr b (hnP b ((hXo b).1 q2)) hb⟩)
  refine ⟨_,by rw [H0]; exact hfin,?_⟩;rw [H0];refine aK hf (fun hhl b hlt hb=>?_) h2;rw [hhl] at hF0;simp only at hF0;rcases hb with ⟨m,ob,hm,hbm⟩ | hb
  ·simp only [St.ups,St.up] at hm;rw [DE] at hm;by_cases e:n=m
   ·subst e;simp only [B2,AB] at hm hbm;subst hm;exact .inl (hOP b hbm)
   ·simp only [A7 e] at hm hbm;obtain ⟨q1,q2⟩:=UR h F0 (b:=b) (.inl ⟨m,ob,hm,hbm⟩);refine .inr ((hXf b).2 ⟨q1,fun hbn=>?_,by rw [hF0]; exact q2⟩);obtain ⟨ob2,q3,q4⟩:=(hbl b).2 hbn;exact hz.dis n m ob2 ob b e q3 hm q4 hbm
  ·refine .inr ((hXf b).2 ⟨.inr hb,fun hbn=>h.nr b (hnP b hbn) hb,fun m _ ⟨e,ag,ks,l,q1,q2⟩=>h.nr b ⟨m,_,q1,q2⟩ hb⟩)
theorem YG {o:Store} {all:List Nat} {n:Nat}:∀ {cs:List V},n∈FF o all cs→∃ lo hi own e ag ks l,.row n lo hi∈cs∧CT o n=some (.row own e ag ks l)∧(own&&(AZ lo 0&&AZ (FE n all) 1))=false
 | [],h=>by simp [FF] at h
 | v :: r,h=>by
  have up:n∈FF o all r→∃ lo hi own e ag ks l,.row n lo hi∈v :: r∧CT o n=some (.row own e ag ks l)∧(own&&(AZ lo 0&&AZ (FE n all) 1))=false:=fun h'=>by
   obtain ⟨lo,hi,own,e,ag,ks,l,h1,h2,h3⟩:=YG h';exact ⟨lo,hi,own,e,ag,ks,l,AY _ h1,h2,h3⟩
  cases v
  case row m lo hi=>
   simp only [FF] at h;split at h
   ·rename_i own e ag ks l hob;split at h
    ·exact up h
    ·rename_i hb;rcases AR.1 h with h1 | h1
     ·subst h1;exact ⟨lo,hi,own,e,ag,ks,l,AS ..,hob,hb⟩
     ·exact up h1
   ·exact up h
  all_goals exact up h
theorem uL (h:Rel B nt w0 X γ st a w) (hg:GX B w0 X) {f:FuncId} {sp:MO} (hS:Snd P B f sp) {vs:List V} {xs:List Value} (hv:VRels γ st.o w (CV X γ st.o) vs xs) {n:Nat} (hl:DW vs=[n]) {cs:List V} (ho:CT st.o n=some (.box cs)) {all:List Nat} (hall:DQ cs++DK vs=all)
  {tks:List (List Kd)} {v:V} {out:List V} (hsp:sp (EH st.o (cs.map (D0 st.o all)) tks vs)=some (v,[out])) (hib:W2 (EC (EH st.o (cs.map (D0 st.o all)) tks vs))=true) {nm:Nat} (hlen:out.length=cs.length) (hnm:n < nm∨nm+out.length≤n) (hn9:nm+out.length≤900000) :
  Does P f xs w fun e w'=>∃ x,e = .returned x∧∃ γ',Rel B nt w0 X γ' (st.ups (DI st.o (FF st.o all cs++(match FS v||FQ out with | true=>DK vs | false=>[])) ++
     (ID (EY st.o all cs)++(.set n (.box (JQ cs)) :: (G5 nm out++[.set n (.box (EM nm out))]))))) a w' ∧
   VRel γ' (st.ups (DI st.o (FF st.o all cs++(match FS v||FQ out with | true=>DK vs | false=>[])) ++
     (ID (EY st.o all cs)++(.set n (.box (JQ cs)) :: (G5 nm out++[.set n (.box (EM nm out))]))))).o w' (CV X γ' (st.ups (DI st.o (FF st.o all cs++(match FS v||FQ out with | true=>DK vs | false=>[])) ++
     (ID (EY st.o all cs)++(.set n (.box (JQ cs)) :: (G5 nm out++[.set n (.box (EM nm out))]))))).o) v x:=by
 let L:Nat→Prop:=fun b=>DO γ st.o n b∨∃ m∈EY st.o all cs,DO γ st.o m b
 have hLP:∀ b,L b→DZ γ st.o b:=by
  rintro b (⟨ob,h1,h2⟩ | ⟨m,_,ob,h1,h2⟩)
  ·exact ⟨n,ob,h1,h2⟩
  ·exact ⟨m,ob,h1,h2⟩
 have hbound:=h.bound ho (DK vs) (w1:=w) (own1:=L) (F:=fun b=>CV X γ st.o b∧¬ L b∧(∀ m∈FF st.o all cs,¬ DO γ st.o m b)∧∀ m∈DK vs,¬ RowOf γ st.o m b) (Keep.refl _ w)
  (fun b hb=>⟨hb.1,fun h1=>hb.2.1 (.inl h1),fun m hm h1=>hb.2.1 (.inr ⟨m,by rw [← hall]; exact hm,h1⟩),by rw [hall]; exact hb.2.2.1⟩) (fun b hb=>.inr (by rw [hall] at hb; exact hb))
 rw [hall] at hbound;obtain ⟨γb,hR,hg0,hP⟩:=hbound;generalize hX':(⟨L,fun b=>CV X γ st.o b∧¬ L b∧(∀ m∈FF st.o all cs,¬ DO γ st.o m b)∧∀ m∈DK vs,¬ RowOf γ st.o m b⟩:Zone)=X' at hR;have hXf:∀ b,X'.far b↔(CV X γ st.o b∧¬ L b∧(∀ m∈FF st.o all cs,¬ DO γ st.o m b)∧∀ m∈DK vs,¬ RowOf γ st.o m b):=fun b=>by rw [← hX']
 have hXo:∀ b,X'.own b↔L b:=fun b=>by rw [← hX']
 have hb:EC (EH st.o (cs.map (D0 st.o all)) tks vs)=some (cs.map (D0 st.o all)):=by
  rcases (UG (o:=st.o) (bs:=cs.map (D0 st.o all)) (l:=vs) (tks:=tks)).1 with hb | hb
  ·rw [hb] at hib; cases hib
  ·exact hb
 have hm:G1 (EH st.o (cs.map (D0 st.o all)) tks vs)=DU (cs.map (D0 st.o all)):=by simp only [G1,hb]
 have hargs:∀ m∈DK vs,∀ b,RowOf γ st.o m b→¬ L b:=by
  intro m hm b hr hLb;obtain ⟨e,ag,ks,l,h5,h6⟩:=hr;rcases hLb with ⟨ob,h7,h8⟩ | ⟨m2,h9,ob,h7,h8⟩
  ·have hne:n≠m:=by
    rintro rfl;rw [ho] at h5;cases h5
   exact h.dis n m ob _ b hne h7 h5 h8 h6
  ·by_cases hne:m2=m
   ·subst hne;obtain ⟨hi2,e2,ag2,ks2,l2,k1,k2,k3⟩:=MX.1 h9;rw [← hall,N2] at k3;have q1:=N3 (PY k1);have q2:=N3 hm;omega
   ·exact h.dis m2 m ob _ b hne h7 h5 h8 h6
 have hok0:∀ v,LV (D0 st.o all v)=true:=by
  intro v;rcases UJ st.o all v with ⟨_,_,_,_,_,_,_,_,_,h1⟩ | ⟨h1,_⟩
  ·rw [h1]; rfl
  ·cases hcc:D0 st.o all v <;> first | rfl | (rw [hcc] at h1; cases h1)
 have hcall:=hS w X' γb (EH st.o (cs.map (D0 st.o all)) tks vs) xs v [out] hsp (h.glob hg) (fun b hb=>h.high hg (hLP b ((hXo b).1 hb))) (by rw [hm]; exact hR) (by
  rw [hm];refine WD h (fun b _ hb=>?_) _ hv (fun m hm b hr hb=>?_) (fun m hm=>?_)
  ·rcases hb with hb | hb
   ·exact .inl (hLP b (hP b hb))
   ·exact ((hXf b).1 hb).1
  ·rcases hb with hb | hb
   ·exact hargs m hm b hr (hP b hb)
   ·exact ((hXf b).1 hb).2.2.2 m hm hr
  ·rw [hl] at hm;simp only [vaz] at hm;subst hm;exact ⟨hg0,.inl ⟨cs,_,ho,by rw [Q6 (List.all_eq_true.2 (fun v hv=>by obtain ⟨u,_,rfl⟩:=List.mem_map.1 hv; exact hok0 u)),DE,B1 rfl]⟩⟩)
 refine hcall.mono ?_;rintro e w' ⟨x,he,γ',h1,h2,h3⟩;simp only [I5,hb] at h3;obtain ⟨hf,hsk,had⟩:=h3;have hok:out.all LV=true:=by
  unfold dI at hsk;split at hsk
  ·rename_i s s' hcs;cases cs with
   | nil=>simp at hcs
   | cons u r=>
    simp only [A6,vaF] at hcs
    have:=hok0 u
    rw [hcs.1] at this;cases this
  ·cases hsk
  ·exact hsk
 have hmo:FB v [out]=DU out:=by cases v <;> rfl
 rw [hmo] at h1 h2;rw [RW hf] at h2;refine ⟨x,he,?_⟩;generalize hF0:FF st.o all cs++(match FS v||FQ out with | true=>DK vs | false=>[])=F0;have hz:=(JA st.o F0 (FrzLe.refl _) h).1;have hzf:=(JA st.o F0 (FrzLe.refl _) h).2.1;have hon:=kI h F0 ho (fun _ _ _ _=>by simp);obtain ⟨hk,hkt,hko⟩:=k9 (EY st.o all cs) hz;have hnh:n ∉ EY st.o all cs:=by
  intro hn;obtain ⟨_,_,_,_,_,_,q,_⟩:=MX.1 hn;rw [ho] at q;cases q
 have hon2:CT ((st.ups (DI st.o F0)).ups (ID (EY st.o all cs))).o n=some (.box cs):=by rw [hko,A7 hnh]; exact hon
 have hor0:=h.ob _ _ ho;simp only [ObRel] at hor0;obtain ⟨b0,c0,T0,hgn,hh0,hr0⟩:=hor0;have hob0:CT (DU out) 900000=some (.box (EM 900001 out)):=by rw [Q6 hok,DE,B1 rfl]
 have hor:=h1.ob _ _ hob0;simp only [ObRel] at hor;obtain ⟨b1,c,T,hg,hh,hr⟩:=hor;have hbb:b1=b0:=by
  rw [hg,hg0,hgn] at had;simpa [MP] using had
 subst hbb;have hg':γ' 900000=γ n:=by rw [hg,hgn]
 have hsz:=h1.keep.size;have hbn:∀ b,DO γ st.o n b↔b=b1:=by
  intro b;constructor
  ·rintro ⟨ob,h5,h6⟩;rw [ho] at h5;cases h5;obtain ⟨ad,h7,h8⟩:=h6;rw [hgn] at h7;cases h7;exact h8.symm
  ·rintro rfl;exact ⟨_,ho,_,hgn,rfl⟩
 have hbn2:∀ b,DO γ ((st.ups (DI st.o F0)).ups (ID (EY st.o all cs))).o n b↔b=b1:=by
  intro b;rw [← hbn b];simp only [DO,hon2,ho]
 have hbx:∀ l b,DR (γ n) (.box l) b↔b=b1:=by
  intro l b;rw [← hbn b];simp only [DO,ho,AB,exists_eq_left',DR]
 have hhb:∀ m∈EY st.o all cs,∀ b,DO γ st.o m b→DO γ (st.ups (DI st.o F0)).o m b:=by
  rintro m hm b ⟨ob,h5,h6⟩;obtain ⟨hi2,e2,ag2,ks2,l2,k1,k2,k3⟩:=MX.1 hm;refine ⟨ob,?_,h6⟩;rw [(JA st.o F0 (FrzLe.refl _) h).2.2.2.2 m ?_]
  ·exact h5
  ·intro hmF;rw [← hF0] at hmF;rcases AW.1 hmF with h7 | h7
   ·obtain ⟨lo3,hi3,own3,e3,ag3,ks3,l3,q1,q2,q3⟩:=YG h7;obtain ⟨i1,hi1⟩:=List.mem_iff_getElem?.1 k1;obtain ⟨i2,hi2⟩:=List.mem_iff_getElem?.1 q1;rw [← hall,N2] at k3;rcases Nat.lt_trichotomy i1 i2 with hlt | hlt | hlt
    ·have:=P2 hlt hi1 hi2
     omega
    ·subst hlt;rw [hi1] at hi2;simp only [AB,V.row.injEq,true_and] at hi2;obtain ⟨rfl,rfl⟩:=hi2;rw [k2] at q2;simp only [AB,Ob.row.injEq] at q2;obtain ⟨rfl,_⟩:=q2;rw [← hall,N2,k3] at q3;simp at q3
    ·have:=P2 hlt hi2 hi1
     omega
   ·have q1:m∈DK vs:=by
     split at h7
     ·exact h7
     ·cases h7
    rw [← hall,N2] at k3
    have:=N3 (PY k1)
    have:=N3 q1
    omega
 have hlend:=hk.lend (n:=n) (ob':=.box (JQ cs)) (g':=γ n) hon2 rfl h1.keep (K:=X'.own)
  (fun b hlt hb=>by
   have hLb:=(hXo b).1 hb;rcases hLb with h5 | ⟨m,h6,h7⟩
   ·exact .inl ((hbn2 b).2 ((hbn b).1 h5))
   ·refine .inr ⟨.inr ⟨m,h6,hhb m h6 b h7⟩,?_⟩;exact (h.lt b (hLP b (.inr ⟨m,h6,h7⟩))).2)
  (fun b hb=>by
   have:=(hbx _ b).1 hb
   subst this;exact ⟨B7 (h.lt _ ⟨n,_,ho,(hbx _ _).2 rfl⟩).1 hsz,.inl ((hbn2 _).2 rfl)⟩)
  (fun O v x hvx=>by
   refine VRel.cmp ?_ hvx;intro m ob1 hm;refine ⟨by by_cases e:n=m <;> simp [e],?_⟩;rw [DE] at hm;by_cases e:n=m
   ·subst e;simp only [B2,AB] at hm;subst hm;exact ⟨_,hon2,by simp [Ob.fits,QS]⟩
   ·rw [A7 e] at hm;exact ⟨ob1,hm,ob1.fits_refl⟩)
  (by
   simp only [ObRel];refine ⟨b1,c,T,hgn,hh,?_⟩;have hcl:=hr.length;rw [QU,hlen] at hcl;refine VRels.of_get (by rw [QS,vaC,hcl]) (fun j v x hv hx=>?_);rw [QS,BZ] at hv;cases hcj:cs[j]? with
   | none=>rw [hcj] at hv; cases hv
   | some u=>
    rw [hcj] at hv;simp only [vae,AB] at hv;subst hv;simp only [VRel])
 obtain ⟨br1,br2,br3⟩:=fQ hok h1;have hPf:∀ b,DZ γ' (DU out) b→(w.heap.size≤b∧b < w'.heap.size)∨L b:=fun b hb=>by
  obtain ⟨q1,q2⟩:=h1.lt b hb;rcases q2 with q2 | q2
  ·exact .inl ⟨q2,q1⟩
  ·exact .inr ((hXo b).1 q2)
 have hb1P:DZ γ' (DU out) b1:=⟨900000,_,hob0,⟨_,hg,rfl⟩⟩;have hLb1:L b1:=.inl ((hbn b1).2 rfl);have hsh:=hlend.shrink (F:=fun b=>(X.far b∨DZ γ' (DU out) b)∧b≠b1) (fun b hb=>by
  refine ⟨?_,fun hbb=>hb.2 ((hbx _ b).1 hbb)⟩;rcases hb.1 with h5 | h5
  ·exact .inl (.inl h5)
  ·rcases hPf b h5 with h6 | h6 | ⟨m,h6,h7⟩
   ·exact .inr h6
   ·exact absurd ((hbn b).1 h6) hb.2
   ·exact .inl (.inr ⟨m,h6,hhb m h6 b h7⟩))
 have hfarX:∀ b,X.far b→X'.far b:=fun b hb=>(hXf b).2 ⟨.inr hb,fun hL=>h.nr b (hLP b hL) hb,fun m _ ⟨ob,q1,q2⟩=>h.nr b ⟨m,ob,q1,q2⟩ hb,fun m _ ⟨e,ag,ks,l,q1,q2⟩=>h.nr b ⟨m,_,q1,q2⟩ hb⟩
 have hO1:∀ b,CV ⟨X.own,fun b=>(X.far b∨DZ γ' (DU out) b)∧b≠b1⟩ (fun m=>if n=m then γ n else γ m) (((st.ups (DI st.o F0)).ups (ID (EY st.o all cs))).up (.set n (.box (JQ cs)))).o b →
   ((FS v||FQ out)=true→CV X' γ' (DU out) b):=by
  intro b hb hflag;rcases hb with ⟨m,ob,hm,hbm⟩ | ⟨hb | hb,_⟩
  ·simp only [St.up] at hm;rw [DE] at hm;by_cases e:n=m
   ·subst e;simp only [B2,AB] at hm hbm;subst hm
    have:=(hbx _ b).1 hbm
    subst this;exact .inl hb1P
   ·simp only [A7 e] at hm hbm;rw [hko] at hm;split at hm
    ·cases hm
    rename_i hmh;obtain ⟨q1,q2⟩:=UR h F0 (b:=b) (.inl ⟨m,ob,hm,hbm⟩);refine .inr ((hXf b).2 ⟨q1,fun hL=>?_,fun m' hm' hbl=>?_,fun m' hm'=>?_⟩)
    ·rcases hL with h5 | ⟨m2,h5,h6⟩
     ·obtain ⟨ob2,q3,q4⟩:DO γ (st.ups (DI st.o F0)).o n b:=⟨_,hon,(hbx _ b).2 ((hbn b).1 h5)⟩;exact hz.dis n m ob2 ob b e q3 hm q4 hbm
     ·obtain ⟨ob2,q3,q4⟩:=hhb m2 h5 b h6;exact hz.dis m2 m ob2 ob b (fun e=>hmh (e ▸ h5)) q3 hm q4 hbm
    ·obtain ⟨lo3,hi3,own3,e3,ag3,ks3,l3,p1,p2,p3⟩:=YG hm';obtain ⟨ob2,q3,q4⟩:=hbl;rw [p2,AB] at q3;subst q3;cases own3 with
     | false=>exact q4.elim
     | true=>exact q2 m' (by rw [← hF0]; exact vaJ _ hm') ⟨e3,ag3,ks3,l3,p2,q4⟩
    ·refine q2 m' ?_;rw [← hF0,hflag];exact vaD _ hm'
  ·exact .inr (hfarX b hb)
  ·exact .inl hb
 have hrows:=V9 (B':=B.base) (O1:=fun b=>FQ out=true→CV X' γ' (DU out) b) (g:=fun j=>γ' (900001+j)) nm out 0 (by omega) hsh (fun b hb hal=>hO1 b hb (by simp [hal])) (fun j e ag ks l hj=>by
   rw [A0];obtain ⟨q1,q2⟩:=br1 (fun m=>if n=m then γ n else γ m) j e ag ks l hj;refine ⟨q1,fun b hb=>⟨⟨.inr (q2 b hb),?_⟩,?_⟩⟩
   ·rintro rfl;exact br3 j e ag ks l _ hj hb ⟨_,hob0,_,hg,rfl⟩
   ·rcases hPf b (q2 b hb) with h5 | h5
    ·exact .inl (vaj h.keep.size h5.1)
    ·exact (h.lt b (hLP b h5)).2)
  (fun i j e ag ks l e' ag' ks' l' b hij q1 q2 q3 q4=>by
   rw [A0] at q3 q4;exact br2 i j e ag ks l e' ag' ks' l' b hij q1 q2 q3 q4)
 obtain ⟨γ4,F4,r1,r2,r3,r4,r5,r6⟩:=hrows;simp only [vaa,A0] at r1 r3 r4 r5 r6;obtain ⟨hγn,hobn,_⟩:=r6 n hnm;have hon4:=hobn cs (by simp only [St.up,DE,B2]);simp only [B2] at hγn;have hset:=r1.set (n:=n) (ob':=.box (EM nm out)) hon4 (by simp only [Ob.fits,QS,vaC,QU,hlen]) (Keep.refl _ w') (fun b hb=>hb) (fun hown hcmp=>by
  simp only [ObRel];refine ⟨b1,c,T,by rw [hγn,hgn],hh,jA hok h1 hr (fun j e ag ks l hj=>?_) (fun hal b _ hb=>hO1 b (r4 b (hown b hb)) (by simp [hal]))⟩;obtain ⟨q1,q2⟩:=r5 j e ag ks l hj;refine ⟨q1,?_⟩;have hjl:j < out.length:=by
   rcases vak j out.length with h' | h'
   ·exact h'
   ·rw [BF h'] at hj; cases hj
  rw [DE,A7 (by omega)];exact q2)
 have hfin:=hset.shrink (F:=X.far) (fun b hb=>by
  refine r3 b ⟨.inl hb,fun e=>h.nr b (hLP b (e ▸ hLb1)) hb⟩ (fun j e ag ks l hj hbj=>?_);rcases hPf b ((br1 γ j e ag ks l hj).2 b hbj) with h5 | h5
  ·have:=h.fl b hb
   omega
  ·exact h.nr b (hLP b h5) hb)
 have hst:(st.ups (DI st.o F0++(ID (EY st.o all cs)++(.set n (.box (JQ cs)) :: (G5 nm out++[.set n (.box (EM nm out))]))))) =
   (((((st.ups (DI st.o F0)).ups (ID (EY st.o all cs))).up (.set n (.box (JQ cs)))).ups (G5 nm out)).up (.set n (.box (EM nm out)))):=by
  rw [H0,H0];simp only [St.ups];rw [H0];rfl
 rw [hst];refine ⟨_,hfin,aK hf (fun hhl b _ hb=>?_) h2⟩;rcases hb with ⟨m,ob,hm,hbm⟩ | hb
 ·simp only [St.up] at hm;rw [DE] at hm;refine hO1 b (r4 b (.inl ?_)) (by simp [hhl]);by_cases e:n=m
  ·subst e;simp only [B2,AB] at hm;subst hm;exact ⟨n,_,hon4,hbm⟩
  ·rw [A7 e] at hm;exact ⟨m,ob,hm,hbm⟩
 ·exact .inr (hfarX b hb)
end
open Go Go.RowKit
theorem bK (k:Int):∀ es:List (Int × IV),EF es k≤es.length
 | []=>AP _
 | (j,x) :: r=>by
  rw [EF,AT]
  have:=bK k r
  cases j==k <;> simp only [BO,BB] <;> omega
theorem XN (x:IV):∀ (es:List (Int × IV)) (i:Nat),(JX es i x).length=es.length
 | [],_=>rfl
 | (j,y) :: r,0=>rfl
 | (j,y) :: r,i+1=>by rw [JX,AT,XN x r i,AT]
theorem lU (x:IV):∀ (es:List (Int × IV)) (i j:Nat),(JX es i x)[j]?=(es[j]?).map fun e=>if j=i then (e.1,x) else e
 | [],i,j=>by simp [JX]
 | (k,y) :: r,0,0=>by simp [JX]
 | (k,y) :: r,0,j+1=>by
  rw [JX,CA,CA];cases r[j]? <;> simp
 | e :: r,i+1,0=>by simp [JX]
 | e :: r,i+1,j+1=>by
  rw [JX,CA,CA,lU x r i j];congr 1
  funext e
  by_cases h:j=i
  ·rw [B1 h,B1 (by omega)]
  ·rw [A7 h,A7 (by omega)]
theorem kD (k:Int):∀ (es:List (Int × IV)) (l:List MapEntry) (i:Nat),l.length=es.length→(∀ (j:Nat) (e:Int × IV),es[j]?=some e→∃ m,l[j]?=some m∧m.key = .int .i64 e.1) →
  (EF es k < es.length→∃ m,l[EF es k]?=some m∧m.key = .int .i64 k∧Instr.findNow (.int .i64) (.int .i64 k) l i=some (some (i+EF es k,m.val))) ∧
  (¬ EF es k < es.length→Instr.findNow (.int .i64) (.int .i64 k) l i=some none)
 | [],[],i,_,_=>⟨fun h=>by simp at h,fun _=>rfl⟩
 | [],_ :: _,i,h,_=>by simp at h
 | _ :: _,[],i,h,_=>by simp at h
 | (j,x) :: r,m :: l,i,hl,h=>by
  obtain ⟨m',hm,hkey⟩:=h 0 (j,x) rfl;obtain rfl:m=m':=by simpa using hm
  have hs:Instr.sameNow (.int .i64) (.int .i64 k) m.key=some (k==j):=by rw [hkey]; simp [Instr.sameNow]
  rw [EF];by_cases e:j=k
  ·subst e;rw [CH,BO];refine ⟨fun _=>⟨m,rfl,hkey,?_⟩,fun h=>absurd (Nat.zero_lt_succ _) h⟩;rw [Instr.findNow,hs,CH];simp
  ·have e1:(j==k)=false:=by simpa using e
   have e2:(k==j)=false:=by simpa using fun h:k=j=>e h.symm
   rw [e1,BB,AT];obtain ⟨h1,h2⟩:=kD k r l (i+1) (by simpa using hl) (fun j' e' he'=>h (j'+1) e' (by simpa using he'));refine ⟨fun hlt=>?_,fun hlt=>?_⟩
   ·obtain ⟨m',g1,g2,g3⟩:=h1 (by omega);refine ⟨m',by simpa using g1,g2,?_⟩;rw [Instr.findNow,hs,e2];simp only [g3];congr 3;omega
   ·rw [Instr.findNow,hs,e2];exact h2 (by omega)
theorem lI {γ:Nat→Value} {o:Store} {w:World} {O:Nat→Prop} {k:Kd} (hk:PW k=true) {v:V} {y:IV} (hy:IX o k v=some y) {x:Value} (hv:VRel γ o w O v x) (w':World) (O':Nat→Prop):Kd.Rel w' O' k y x:=by
 cases k <;> simp only [PW] at hk <;> try (cases hk; done)
 all_goals
  cases v <;> simp only [IX] at hy <;> try (cases hy; done)
 ·rename_i k k' n;cases hkk:k==k' with
  | false=>rw [hkk] at hy; cases hy
  | true=>
   rw [hkk] at hy;obtain rfl:=CM hy;obtain rfl:k=k':=by simpa using hkk
   simp only [VRel] at hv;simp only [Kd.Rel,IV.toInt];exact hv
 ·obtain rfl:=CM hy;simp only [VRel] at hv;simp only [Kd.Rel,IV.toBool];exact hv
 ·obtain rfl:=CM hy;simp only [VRel] at hv;simp only [Kd.Rel,IV.toStr];exact hv
section
variable {w w':World} {O O':Nat→Prop} {vk:Kd} {es:List (Int × IV)} {ents:Array MapEntry}
theorem EntRel.find (h:EntRel w O vk es ents) (k:Int) :
  (EF es k < es.length→∃ m,ents[EF es k]?=some m∧m.key = .int .i64 k∧m.born=EF es k∧Kd.Rel w O vk (GQ vk es k) m.val∧Instr.findNow (.int .i64) (.int .i64 k) ents.toList 0=some (some (EF es k,m.val))) ∧
  (¬ EF es k < es.length→GQ vk es k=IM vk∧Instr.findNow (.int .i64) (.int .i64 k) ents.toList 0=some none):=by
 obtain ⟨h1,h2⟩:=kD k es ents.toList 0 (by simpa using h.1) (fun j e he=>by
  obtain ⟨v,g1,_⟩:=h.2 j e he;exact ⟨_,by simpa using g1,rfl⟩)
 refine ⟨fun hlt=>?_,fun hlt=>⟨?_,h2 hlt⟩⟩
 ·obtain ⟨m,g1,g2,g3⟩:=h1 hlt;obtain ⟨v,q1,q2⟩:=h.2 (EF es k) es[EF es k] (AV hlt);have g1':ents[EF es k]?=some m:=by simpa using g1
  rw [g1'] at q1;obtain rfl:=CM q1;refine ⟨_,g1',g2,rfl,?_,by simpa using g3⟩;unfold GQ MZ;rw [AV hlt];exact q2.1
 ·unfold GQ MZ;rw [BF (by omega)];rfl
theorem EntRel.set (h:EntRel w O vk es ents) (hk:Keep O w w') (hO:∀ b,b < w.heap.size→O' b→O b) {i:Nat} {x:IV} {u:Value} (hu:Kd.Rel w' O' vk x u) (f:MapEntry→MapEntry) (hf:∀ m,ents[i]?=some m→(f m).key=m.key∧(f m).val=u∧(f m).born=m.born) :
  EntRel w' O' vk (JX es i x) (ents.modify i f):=by
 refine ⟨by rw [XN,Array.size_modify]; exact h.1,fun j e he=>?_⟩;rw [lU] at he;cases hj:es[j]? with
 | none=>rw [hj] at he; cases he
 | some e0=>
  rw [hj] at he;obtain ⟨v,g1,g2⟩:=h.2 j e0 hj;simp only [vae,AB] at he;rw [Array.getElem?_modify,g1];by_cases e:j=i
  ·subst e;rw [B1 rfl] at he;subst he;obtain ⟨f1,f2,f3⟩:=hf _ g1;refine ⟨u,?_,hu,g2.2⟩;rw [B1 rfl,vae];congr 1;generalize f { key:=Value.int AC e0.fst,val:=v,born:=j }=m at f1 f2 f3;obtain ⟨a,b,c⟩:=m;simp only at f1 f2 f3;rw [f1,f2,f3]
  ·rw [A7 e] at he;subst he;exact ⟨v,by rw [A7 (fun h=>e h.symm)],KRel.mono hk hO g2⟩
theorem EntRel.same (h:EntRel w O vk es ents) (hk:Keep O w w') (hO:∀ b,b < w.heap.size→O' b→O b) {i:Nat} (f:MapEntry→MapEntry) (hf:∀ m,ents[i]?=some m→f m=m):EntRel w' O' vk es (ents.modify i f):=by
 refine ⟨by rw [Array.size_modify]; exact h.1,fun j e he=>?_⟩;obtain ⟨v,g1,g2⟩:=h.2 j e he;refine ⟨v,?_,KRel.mono hk hO g2⟩;rw [Array.getElem?_modify,g1];by_cases e:i=j
 ·subst e;rw [B1 rfl,vae,hf _ g1]
 ·rw [A7 e]
theorem EntRel.push (h:EntRel w O vk es ents) (hk:Keep O w w') (hO:∀ b,b < w.heap.size→O' b→O b) {k:Int} {x:IV} {u:Value} (hu:Kd.Rel w' O' vk x u) (hkb:AC.min≤k∧k≤AC.max):EntRel w' O' vk (es++[(k,x)]) (ents.push ⟨.int .i64 k,u,es.length⟩):=by
 refine ⟨by rw [Array.size_push,AQ,h.1]; rfl,fun j e he=>?_⟩;by_cases hj:j < es.length
 ·rw [List.getElem?_append_left hj] at he;obtain ⟨v,g1,g2⟩:=h.2 j e he;refine ⟨v,?_,KRel.mono hk hO g2⟩;rw [Array.getElem?_push,A7 (by rw [h.1]; omega)];exact g1
 ·rw [List.getElem?_append_right (by omega)] at he;have hj0:j - es.length=0:=by
   rcases Nat.eq_zero_or_pos (j - es.length) with e | e
   ·exact e
   ·rw [BF (by simp only [CK]; omega)] at he;cases he
  rw [hj0] at he;obtain rfl:(k,x)=e:=by simpa using he
  have e1:j=es.length:=by omega
  subst e1;refine ⟨u,?_,hu,hkb⟩;rw [Array.getElem?_push,B1 h.1.symm]
end
section
variable {B:BT} {nt:Nat} {w0:World} {X:Zone} {γ:Nat→Value} {st st':St} {a:Act} {w:World} {P:Program} {E:Env}
theorem XP (hT:TiOK P B E) {t e:Nat} {k:Kd} (hd:(E.tyd t).d = .map e k):∃ kt i z,P.underlying t=some (.map kt e)∧P.underlying kt=some (.int .i64)∧P.info? e=some i∧i.zero=some z∧OG k z:=by
 obtain ⟨d,h1,_,h2⟩:=(hT.desc (t:=t) (by rw [hd]; simp)).und;rw [hd] at h2;obtain ⟨kt,i,z,rfl,h3⟩:=h2;exact ⟨kt,i,z,h1,h3⟩
theorem aX {b:Nat} (o:Obj):Keep (fun x=>x=b) w { w with heap:=w.heap.setIfInBounds b o }:=
 ⟨rfl,rfl,rfl,by simp,fun j _ hj=>Array.getElem?_setIfInBounds_ne (fun h:b=j=>hj h.symm)⟩
theorem Gy (h:Rel B nt w0 X γ st a w) (o:Oper) (hd9:∀ d,o.dst=some d→d≠900000) {t:Nat} {r:Option Operand} (ho:o.op = .makeMap t r) {v:V} {us:List Upd}
  (he:(C3 E st.o (opd st) o.dst o.op).get=some (v,us)):OpWp P B nt w0 X a w o st v us:=by
 rw [ho] at he;simp only [C3] at he;split at he
 ·rename_i d e k hdst hd;split at he
  ·rename_i hk;simp only [T.get,AB,AL] at he;obtain ⟨rfl,rfl⟩:=he;have hn:=Rel.new h [] d (hd9 d hdst) (.map k []) (.map (some w.heap.size)) (w':=w.alloc (.map #[] 0)) (Keep.alloc _ w _)
    (by
     intro b hb;simp only [DR,Value.map.injEq,AB] at hb;subst hb;exact ⟨by simp,.inl (AP _)⟩)
    (by
     intro O' hO hcmp;simp only [ObRel];exact ⟨hk,w.heap.size,#[],rfl,var w _,rfl,fun i e he=>by simp at he⟩)
   refine OpWp.value (x:=.map (some w.heap.size)) (w':=w.alloc (.map #[] 0)) ?_ hn ?_
   ·unfold execOp;simp only [ho];rfl
   ·simp only [St.ups,VRel,EK,B2]
  ·simp [T.get] at he
 ·simp [T.get] at he
theorem WX (h:Rel B nt w0 X γ st a w) {x:Operand} {z:Int} (hx:opd st x = .int .i64 z):a.eval x = .int .i64 z:=by
 have:=D8 h x
 rw [hx] at this;simp only [VRel] at this;exact this.1
theorem kU (h:Rel B nt w0 X γ st a w) {x:Operand} {z:Int} (hx:opd st x = .int .i64 z):AC.min≤z∧z≤AC.max:=by
 have:=D8 h x
 rw [hx] at this;simp only [VRel] at this;exact this.2
theorem U8 (h:Rel B nt w0 X γ st a w) {x:Operand} {n i c:Nat} (hx:opd st x = .ptr n i c) {vk:Kd} {es:List (Int × IV)} (ho:CT st.o n=some (.map vk es)) :
  PW vk=true∧∃ b ents,a.eval x = .map (some b)∧γ n = .map (some b)∧w.heap[b]?=some (.map ents es.length)∧EntRel w (CV X γ st.o) vk es ents:=by
 have hv:=D8 h x;rw [hx] at hv;simp only [VRel,ho] at hv;obtain ⟨h0,b,ents,hg,h1,h2⟩:=h.ob n _ ho;exact ⟨h0,b,ents,by rw [hv,hg],hg,h1,h2⟩
theorem mK (hT:TiOK P B E) (h:Rel B nt w0 X γ st a w) (o:Oper) {t:Nat} {m k x:Operand} (ho:o.op = .insert t m k x∨o.op = .mapUpdate t m k x) {v:V} {us:List Upd}
  (he:(C3 E st.o (opd st) o.dst o.op).get=some (v,us)):OpWp P B nt w0 X a w o st v us:=by
 have hev:(match opd st m,opd st k,(E.tyd t).d with
  | .ptr n _ _,.int .i64 z,.map _ _=>match CT st.o n with
   | some (.map vk es)=>match IX st.o vk (opd st x) with
    | some x=>T.ok .any [.set n (.map vk (E6 es z x))]
    | none=>.no
   | _=>.no
  | _,_,_=>.no).get=some (v,us):=by
  rcases ho with ho | ho <;> (rw [ho] at he; exact he)
 clear he;split at hev
 ·rename_i n i c z e k' hm hz hd;split at hev
  ·rename_i vk es hob;split at hev
   ·rename_i y hy;simp only [T.get,AB,AL] at hev;obtain ⟨rfl,rfl⟩:=hev;obtain ⟨kt,_,_,hu,hku,_⟩:=XP hT hd;obtain ⟨hk,b,ents,hmv,hg,hb,hE⟩:=U8 h hm hob;have hzv:=WX h hz;have hkey:MapKept.IsKey (.int .i64) (.int .i64 z):=rfl;have hxr:∀ w' O',Kd.Rel w' O' vk y (a.eval x):=fun w' O'=>lI hk hy (D8 h x) w' O'
    obtain ⟨f1,f2⟩:=hE.find z;have hex:∃ ents',(Instr.mapUpdate t (.map (some b)) (.int .i64 z) (a.eval x)).run P w = .ok () { w with heap:=w.heap.setIfInBounds b (.map ents' (E6 es z y).length) } ∧
      ∀ O':Nat→Prop,(∀ b,b < w.heap.size→O' b→CV X γ st.o b)→Keep (CV X γ st.o) w { w with heap:=w.heap.setIfInBounds b (.map ents' (E6 es z y).length) }→EntRel { w with heap:=w.heap.setIfInBounds b (.map ents' (E6 es z y).length) } O' vk (E6 es z y) ents':=by
     unfold E6;cases hlt:A2 (EF es z) es.length with
     | true=>
      obtain ⟨m0,g1,g2,g3,g4,g5⟩:=f1 (AK hlt);refine ⟨ents.modify (EF es z) fun e=>{ e with key:=.int .i64 z,val:=a.eval x },?_,fun O' hO hkp=>?_⟩
      ·simp [Instr.mapUpdate,AX hu,MapKept.run_getObj_map hb,MapKept.run_checkKey hku hkey,MapKept.run_findKey hku g5,g1,g2,MapKept.run_keyThatStays hkey,MapKept.run_setObj_map _ hb,vaB,XN]
      ·exact hE.set hkp hO (hxr _ _) _ fun m1 hm1=>by
        rw [g1] at hm1;obtain rfl:=CM hm1;exact ⟨g2.symm,rfl,rfl⟩
     | false=>
      obtain ⟨g1,g2⟩:=f2 (fun hh=>by
       have:A2 (EF es z) es.length=true:=BX hh
       rw [hlt] at this;cases this)
      refine ⟨ents.push ⟨.int .i64 z,a.eval x,es.length⟩,?_,fun O' hO hkp=>?_⟩
      ·simp [Instr.mapUpdate,AX hu,MapKept.run_getObj_map hb,MapKept.run_checkKey hku hkey,MapKept.run_findKey hku g2,MapKept.run_setObj_map _ hb,vaB]
      ·exact hE.push hkp hO (hxr _ _) (kU h hz)
    obtain ⟨ents',hrun,hent⟩:=hex;have hkp:Keep (DR (γ n) (.map vk es)) w { w with heap:=w.heap.setIfInBounds b (.map ents' (E6 es z y).length) }:=(aX _).mono fun j _ hj=>by rw [hj]; exact hg
    refine OpWp.skip (w':={ w with heap:=w.heap.setIfInBounds b (.map ents' (E6 es z y).length) }) ?_ (Rel.set h (ob':=.map vk (E6 es z y)) hob rfl hkp (fun b hb=>hb) (fun hO hcmp=>?_))
    ·rcases ho with ho | ho <;> (unfold execOp; simp only [ho,hmv,hzv,BM,hrun,A3,BN])
    ·simp only [ObRel];refine ⟨hk,b,ents',hg,(MapKept.heap_set hb).1,hent _ (fun b _ hb=>hO b hb) (hkp.mono fun j _ hj=>.inl ⟨n,_,hob,hj⟩)⟩
   ·simp [T.get] at hev
  ·simp [T.get] at hev
 ·simp [T.get] at hev
theorem e7 {w:World} {O:Nat→Prop}:∀ {k:Kd} {z:Value},OG k z→Kd.Rel w O k (IM k) z
 | .int k,z,h=>by
  simp only [OG] at h;subst h;simp only [Kd.Rel,IM,IV.toInt];cases k <;> decide
 | .bool,z,h=>by
  simp only [OG] at h;subst h;simp only [Kd.Rel,IM,IV.toBool]
 | .str,z,h=>by
  simp only [OG] at h;subst h;simp only [Kd.Rel,IM,IV.toStr];exact ⟨trivial,B3 _⟩
 | .list _ _,z,h=>by simp only [OG] at h
theorem Gw (hT:TiOK P B E) (h:Rel B nt w0 X γ st a w) (o:Oper) {t:Nat} {m k:Operand} {ok:Bool} (ho:o.op = .lookup t m k ok) {v:V} {us:List Upd}
  (he:(C3 E st.o (opd st) o.dst o.op).get=some (v,us)):OpWp P B nt w0 X a w o st v us:=by
 rw [ho] at he;simp only [C3] at he;split at he
 ·rename_i n i c z e vk' hm hz hd;split at he
  ·rename_i vk es hob;obtain ⟨kt,zi,zv,hu,hku,hi,hzi,hzk⟩:=XP hT hd;obtain ⟨hk,b,ents,hmv,hg,hb,hE⟩:=U8 h hm hob;have hzv:=WX h hz;have hkey:MapKept.IsKey (.int .i64) (.int .i64 z):=rfl;obtain ⟨f1,f2⟩:=hE.find z;have key:FX vk vk'=true→∃ u,(∀ ok,(Instr.lookup t (.map (some b)) (.int .i64 z) ok).run P w = .ok (if ok then .tuple #[u,.bool (A2 (EF es z) es.length)] else u) w)∧Kd.Rel w (CV X γ st.o) vk (GQ vk es z) u:=by
    intro hkk;obtain rfl:=PV hkk;cases hlt:A2 (EF es z) es.length with
    | true=>
     obtain ⟨m0,g1,g2,g3,g4,g5⟩:=f1 (AK hlt);refine ⟨m0.val,fun ok=>?_,g4⟩;cases ok <;> simp [Instr.lookup,AX hu,MapKept.run_getObj_map hb,MapKept.run_checkKey hku hkey,MapKept.run_findKey hku g5,vaB]
    | false=>
     obtain ⟨g1,g2⟩:=f2 (fun hh=>by
      have:A2 (EF es z) es.length=true:=BX hh
      rw [hlt] at this;cases this)
     refine ⟨zv,fun ok=>?_,by rw [g1]; exact e7 hzk⟩;cases ok <;> simp [Instr.lookup,AX hu,MapKept.run_getObj_map hb,MapKept.run_checkKey hku hkey,MapKept.run_findKey hku g2,zeroValue,typeInfo,hi,hzi,vaB]
   split at he
   ·rename_i hkk;simp only [T.get,AB,AL] at he;obtain ⟨rfl,rfl⟩:=he;obtain ⟨u,hrun,hur⟩:=key hkk;refine OpWp.pure (x:=.tuple #[u,.bool (A2 (EF es z) es.length)]) h ?_ ?_
    ·unfold execOp;simp only [ho,hmv,hzv,BM,hrun,A3,BN,B2]
    ·simp only [VRel];exact ⟨_,rfl,by simp only [VRels,VRel]; exact ⟨RJ hur,trivial,trivial⟩⟩
   ·rename_i hkk;simp only [T.get,AB,AL] at he;obtain ⟨rfl,rfl⟩:=he;obtain ⟨u,hrun,hur⟩:=key hkk;refine OpWp.pure (x:=u) h ?_ (RJ hur);unfold execOp;simp only [ho,hmv,hzv,BM,hrun,A3,BN,Bool.false_eq_true,if_false]
   ·simp [T.get] at he
  ·simp [T.get] at he
 ·simp [T.get] at he
theorem Ha (hT:TiOK P B E) (h:Rel B nt w0 X γ st a w) (o:Oper) {t:Nat} {m k:Operand} (ho:o.op = .mapEntry t m k) {v:V} {us:List Upd}
  (he:(C3 E st.o (opd st) o.dst o.op).get=some (v,us)):OpWp P B nt w0 X a w o st v us:=by
 rw [ho] at he;simp only [C3] at he;split at he
 ·rename_i n i c z e vk' hm hz hd;split at he
  ·rename_i vk es hob;split at he
   ·rename_i hkk;obtain ⟨hsz,he⟩:=T.get_when he;simp only [T.get,AB,AL] at he;obtain ⟨rfl,rfl⟩:=he;have hlen:es.length≤strMax:=A4 hsz;obtain rfl:=PV hkk;obtain ⟨kt,zi,zv,hu,hku,hi,hzi,hzk⟩:=XP hT hd;obtain ⟨hk,b,ents,hmv,hg,hb,hE⟩:=U8 h hm hob;have hzv:=WX h hz;have hkey:MapKept.IsKey (.int .i64) (.int .i64 z):=rfl;obtain ⟨f1,f2⟩:=hE.find z;have hex:∃ ents' u,(Instr.mapEntry t (.map (some b)) (.int .i64 z)).run P w = .ok (.tuple #[u,.int .i64 ((EF es z:Nat):Int)]) { w with heap:=w.heap.setIfInBounds b (.map ents' (LP es z (IM vk)).length) }∧Kd.Rel w (CV X γ st.o) vk (GQ vk es z) u ∧
      (∀ O':Nat→Prop,(∀ b,b < w.heap.size→O' b→CV X γ st.o b)→Keep (CV X γ st.o) w { w with heap:=w.heap.setIfInBounds b (.map ents' (LP es z (IM vk)).length) }→EntRel { w with heap:=w.heap.setIfInBounds b (.map ents' (LP es z (IM vk)).length) } O' vk (LP es z (IM vk)) ents'):=by
     unfold LP;cases hlt:A2 (EF es z) es.length with
     | true=>
      obtain ⟨m0,g1,g2,g3,g4,g5⟩:=f1 (AK hlt);refine ⟨ents.modify (EF es z) fun e=>{ e with key:=.int .i64 z },m0.val,?_,g4,fun O' hO hkp=>?_⟩
      ·simp [Instr.mapEntry,AX hu,MapKept.run_getObj_map hb,MapKept.run_checkKey hku hkey,MapKept.run_findKey hku g5,g1,g2,g3,MapKept.run_keyThatStays hkey,MapKept.run_setObj_map _ hb,vaB,goInt]
      ·exact hE.same hkp hO _ fun m1 hm1=>by
        rw [g1] at hm1;obtain rfl:=CM hm1;rw [← g2]
     | false=>
      obtain ⟨g1,g2⟩:=f2 (fun hh=>by
       have:A2 (EF es z) es.length=true:=BX hh
       rw [hlt] at this;cases this)
      have hix:EF es z=es.length:=by
       have h1:=bK z es;have h2:¬ EF es z < es.length:=fun hh=>by
        have:A2 (EF es z) es.length=true:=BX hh
        rw [hlt] at this;cases this
       omega
      refine ⟨ents.push ⟨.int .i64 z,zv,es.length⟩,zv,?_,by rw [g1]; exact e7 hzk,fun O' hO hkp=>?_⟩
      ·simp [Instr.mapEntry,AX hu,MapKept.run_getObj_map hb,MapKept.run_checkKey hku hkey,MapKept.run_findKey hku g2,MapKept.run_setObj_map _ hb,zeroValue,typeInfo,hi,hzi,vaB,goInt,hix]
      ·exact hE.push hkp hO (e7 hzk) (kU h hz)
    obtain ⟨ents',u,hrun,hur,hent⟩:=hex;have hkp:Keep (DR (γ n) (.map vk es)) w { w with heap:=w.heap.setIfInBounds b (.map ents' (LP es z (IM vk)).length) }:=(aX _).mono fun j _ hj=>by rw [hj]; exact hg
    have hkO:Keep (CV X γ st.o) w { w with heap:=w.heap.setIfInBounds b (.map ents' (LP es z (IM vk)).length) }:=hkp.mono fun j _ hj=>.inl ⟨n,_,hob,hj⟩
    have hR:=Rel.set h (ob':=.map vk (LP es z (IM vk))) hob rfl hkp (fun b hb=>hb) (fun hO hcmp=>by
     simp only [ObRel];exact ⟨hk,b,ents',hg,(MapKept.heap_set hb).1,hent _ (fun b _ hb=>hO b hb) hkO⟩)
    refine OpWp.value (x:=.tuple #[u,.int .i64 ((EF es z:Nat):Int)]) (w':={ w with heap:=w.heap.setIfInBounds b (.map ents' (LP es z (IM vk)).length) }) ?_ hR ?_
    ·unfold execOp;simp only [ho,hmv,hzv,BM,hrun,A3,BN]
    ·simp only [St.ups,VRel];refine ⟨_,rfl,?_⟩;simp only [VRels,VRel];have h1:=bK z es;have h2:strMax≤9223372036854775807:=by decide
     refine ⟨RJ (Kd.Rel.mono hkO (fun b' hb' hO'=>?_) hur),⟨trivial,?_,?_⟩,trivial⟩
     ·rcases hO' with ⟨n',ob1,q1,q2⟩ | hO'
      ·simp only [St.up,DE] at q1;split at q1
       ·rename_i e1;subst e1;obtain rfl:=CM q1;exact .inl ⟨n,_,hob,q2⟩
       ·exact .inl ⟨n',ob1,q1,q2⟩
      ·exact .inr hO'
     ·show (-9223372036854775808:Int)≤_;omega
     ·show _≤(9223372036854775807:Int);omega
   ·simp [T.get] at he
  ·simp [T.get] at he
 ·simp [T.get] at he
theorem kC:∀ (l:List MapEntry) (z:Nat) (j:Nat),(∀ (i:Nat) (m:MapEntry),l[i]?=some m→m.born=j+i)→z < l.length→l.findIdx? (fun e=>(e.born:Int)==((j+z:Nat):Int))=some z
 | m :: l,z,j,h,hz=>by
  have h0:=h 0 m rfl;rw [List.findIdx?_cons];cases z with
  | zero=>simp [h0]
  | succ z=>
   have hne:((m.born:Int)==((j+(z+1):Nat):Int))=false:=by
    simp only [CG,ne_eq];omega
   rw [hne];have ih:=kC l z (j+1) (fun i m' hm'=>by rw [h (i+1) m' (by simpa using hm')]; omega) (by simpa using hz);rw [show j+(z+1)=j+1+z by omega,ih];rfl
theorem Gp (h:Rel B nt w0 X γ st a w) (o:Oper) {t:Nat} {m s x:Operand} (ho:o.op = .entryStore t m s x) {v:V} {us:List Upd}
  (he:(C3 E st.o (opd st) o.dst o.op).get=some (v,us)):OpWp P B nt w0 X a w o st v us:=by
 rw [ho] at he;simp only [C3] at he;split at he
 ·rename_i n i c z hm hz;split at he
  ·rename_i vk es hob;split at he
   ·rename_i y hy;obtain ⟨hc,he⟩:=T.get_when he;simp only [T.get,AB,AL] at he;obtain ⟨rfl,rfl⟩:=he;simp only [AI,AO] at hc;obtain ⟨hk,b,ents,hmv,hg,hb,hE⟩:=U8 h hm hob;have hzv:=WX h hz;have hzn:z=((0+z.toNat:Nat):Int):=by omega
    have hlt:z.toNat < es.length:=by omega
    have hfi:ents.findIdx? (fun e=>(e.born:Int)==z)=some z.toNat:=by
     rw [show ∀ (es:Array MapEntry) p,es.findIdx? p=es.toList.findIdx? p from fun es p=>by cases es; simp]
     have:=kC ents.toList z.toNat 0 (fun i m hm=>by
      have hi:i < es.length:=by
       have:=(BV.1 hm).1
       simpa [hE.1] using this
      obtain ⟨v,q1,_⟩:=hE.2 i es[i] (AV hi);have hm':ents[i]?=some m:=by simpa using hm
      rw [hm'] at q1;obtain rfl:=CM q1;simp) (by simpa [hE.1] using hlt)
     rw [← hzn] at this;exact this
    have hrun:(Instr.entryStore t (.map (some b)) (.int .i64 z) (a.eval x)).run P w = .ok () { w with heap:=w.heap.setIfInBounds b (.map (ents.modify z.toNat fun e=>{ e with val:=a.eval x }) es.length) }:=by
     simp [Instr.entryStore,MapKept.run_getObj_map hb,asInt,asIntOf,hfi,MapKept.run_setObj_map _ hb,vaB]
    have hkp:Keep (DR (γ n) (.map vk es)) w { w with heap:=w.heap.setIfInBounds b (.map (ents.modify z.toNat fun e=>{ e with val:=a.eval x }) es.length) }:=(aX _).mono fun j _ hj=>by rw [hj]; exact hg
    refine OpWp.skip (w':={ w with heap:=w.heap.setIfInBounds b (.map (ents.modify z.toNat fun e=>{ e with val:=a.eval x }) es.length) }) ?_ (Rel.set h (ob':=.map vk (JX es z.toNat y)) hob rfl hkp (fun b hb=>hb) (fun hO hcmp=>?_))
    ·unfold execOp;simp only [ho,hmv,hzv,BM,hrun,A3,BN]
    ·simp only [ObRel];refine ⟨hk,b,ents.modify z.toNat fun e=>{ e with val:=a.eval x },hg,by rw [XN]; exact (MapKept.heap_set hb).1,hE.set (hkp.mono fun j _ hj=>.inl ⟨n,_,hob,hj⟩) (fun b _ hb=>hO b hb) (lI hk hy (D8 h x) _ _) _ fun m1 hm1=>⟨rfl,rfl,rfl⟩⟩
   ·simp [T.get] at he
  ·simp [T.get] at he
 ·simp [T.get] at he
theorem He (hT:TiOK P B E) (h:Rel B nt w0 X γ st a w) (o:Oper) (hd9:∀ d,o.dst=some d→d≠900000) {t:Nat} {x:Operand} (ho:o.op = .range t x) {v:V} {us:List Upd}
  (he:(C3 E st.o (opd st) o.dst o.op).get=some (v,us)):OpWp P B nt w0 X a w o st v us:=by
 rw [ho] at he;simp only [C3] at he;split at he
 ·rename_i n i c d e k' hm hdst hd;split at he
  ·rename_i vk es hob;simp only [T.get,AB,AL] at he;obtain ⟨rfl,rfl⟩:=he;obtain ⟨kt,_,_,hu,hku,_⟩:=XP hT hd;obtain ⟨hk,b,ents,hmv,hg,hb,hE⟩:=U8 h hm hob;have hbl:b < w.heap.size:=(vaX.1 hb).1;have hent:∀ (j:Nat) (m:MapEntry),ents.toList[j]?=some m→j < es.length∧m.born=j:=fun j m hj=>by
    have hi:j < es.length:=by
     have:=(BV.1 hj).1
     simpa [hE.1] using this
    obtain ⟨v,q1,_⟩:=hE.2 j es[j] (AV hi);have hj':ents[j]?=some m:=by simpa using hj
    rw [hj'] at q1;obtain rfl:=CM q1;exact ⟨hi,rfl⟩
   have hleft:leftOf ents #[]=ents:=by
    unfold leftOf;simp
   have hn:=Rel.new h [n] d (hd9 d hdst) (.iter vk none es) (.tuple #[.pointer (some ⟨w.heap.size,0,none⟩),.map (some b)]) (w':=w.alloc (.mapIter (some b) es.length #[] es.length)) (Keep.alloc _ w _)
    (by
     rintro b' ⟨r,m',hb',hb''⟩;have h2:=congrArg Array.toList (Value.tuple.inj hb');simp only [vaF,B4,AB,CL,B9,Value.map.injEq] at h2;obtain ⟨rfl,rfl⟩:=h2;rcases hb'' with rfl | rfl
     ·exact ⟨by simp,.inl (AP _)⟩
     ·exact ⟨by simp; omega,.inr ⟨n,List.mem_singleton_self n,_,hob,hg⟩⟩)
    (by
     intro O' hO hcmp;simp only [ObRel];refine ⟨hk,w.heap.size,b,es.length,#[],ents,es.length,rfl,var w _,by rw [@heap_alloc_old w _ b hbl]; exact hb,AP _,fun x hx=>?_,?_,⟨by rw [hleft]; simpa using hE.1,fun j e he=>?_⟩,fun e he=>by cases he⟩
     ·obtain ⟨j,hj⟩:=List.getElem?_of_mem hx;obtain ⟨h1,h2⟩:=hent j x hj;omega
     ·rw [List.nodup_iff_pairwise_ne,List.pairwise_iff_getElem];intro j j' hj hj' hlt;rw [List.getElem_map,List.getElem_map,(hent j _ (AV (by simpa using hj))).2,(hent j' _ (AV (by simpa using hj'))).2];omega
     ·obtain ⟨v,q1,q2⟩:=hE.2 j e he;rw [hleft];exact ⟨_,by simpa using q1,rfl,KRel.mono (Keep.alloc _ w _) hO q2⟩)
   refine OpWp.value (x:=.pointer (some ⟨w.heap.size,0,none⟩)) (w':=w.alloc (.mapIter (some b) es.length #[] es.length)) ?_ hn ?_
   ·unfold execOp;simp only [ho,hmv,BM,run_range_map w t kt e b ents es.length hu hb,A3,BN]
   ·simp only [St.ups,VRel,EK,B2];exact ⟨w.heap.size,_,rfl,rfl⟩
  ·simp [T.get] at he
 ·simp [T.get] at he
theorem kX (h:Rel B nt w0 X γ st a w) {x:Operand} {n i c:Nat} (hx:opd st x = .ptr n i c) {vk:Kd} {last:Option (Int × IV)} {rest:List (Int × IV)} (ho:CT st.o n=some (.iter vk last rest)) :
  PW vk=true∧∃ r b since seen ents clock,a.eval x = .pointer (some ⟨r,0,none⟩)∧γ n = .tuple #[.pointer (some ⟨r,0,none⟩),.map (some b)]∧w.heap[r]?=some (.mapIter (some b) since seen clock)∧w.heap[b]?=some (.map ents clock)∧IterRel w (CV X γ st.o) vk last rest since seen ents clock:=by
 have hv:=D8 h x;rw [hx] at hv;simp only [VRel,ho] at hv;obtain ⟨h0,r,b,since,seen,ents,clock,hg,h1,h2,h3⟩:=h.ob n _ ho;obtain ⟨r',y,hy,hv⟩:=hv;rw [hg] at hy;have h4:=congrArg Array.toList (Value.tuple.inj hy);simp only [vaF,B4,AB,CL,B9] at h4;obtain ⟨rfl,_⟩:=h4;exact ⟨h0,r,b,since,seen,ents,clock,hv,hg,h1,h2,h3⟩
theorem Gn (h:Rel B nt w0 X γ st a w) (o:Oper) {x:Operand} (ho:o.op = .entry x) {v:V} {us:List Upd}
  (he:(C3 E st.o (opd st) o.dst o.op).get=some (v,us)):OpWp P B nt w0 X a w o st v us:=by
 rw [ho] at he;simp only [C3] at he;split at he
 ·rename_i n i c hm;split at he
  ·rename_i vk e rest hob;simp only [T.get,AB,AL] at he;obtain ⟨rfl,rfl⟩:=he;obtain ⟨hk,r,b,since,seen,ents,clock,hx,hg,hr,hb,h1,h2,h3,h4,h5⟩:=kX h hm hob;obtain ⟨m,s0,q1,rfl,q3,q4⟩:=h5 e rfl;refine OpWp.pure (x:=.tuple #[m.key,m.val]) h ?_ ?_
   ·unfold execOp;simp only [ho,hx,BM,run_entry_at w r b since s0 ents clock m hr hb q1 h3,A3,BN]
   ·simp only [VRel];refine ⟨_,rfl,?_⟩;simp only [VRels,VRel,q3];exact ⟨⟨trivial,q4.2⟩,RJ q4.1,trivial⟩
  ·simp [T.get] at he
 ·simp [T.get] at he
end
open Go Go.RowKit
theorem Gd {j:Nat}:∀ {l:List (Int × IV)},j < l.length→l[j]?=some (E7 l j):=by
 induction j with
 | zero=>intro l h; cases l with
  | nil=>simp at h
  | cons x l=>rfl
 | succ j ih=>intro l h; cases l with
  | nil=>simp at h
  | cons x l=>rw [CA,E7]; exact ih (by simpa using h)
theorem Z3:∀ (l:List (Int × IV)) (j:Nat),GN l j=l.eraseIdx j
 | [],j=>by simp [GN]
 | x :: l,0=>by simp [GN]
 | x :: l,j+1=>by rw [GN,Z3 l j,List.eraseIdx_cons_succ]
theorem kB:∀ (l:List MapEntry) (j:Nat) (e:MapEntry),(l.map (·.born)).Nodup→l[j]?=some e→l.filter (fun x=>!(x.born==e.born))=l.eraseIdx j
 | [],j,e,_,h=>by simp at h
 | x :: l,0,e,hn,h=>by
  obtain rfl:x=e:=by simpa using h
  have hn':x.born ∉ l.map (·.born)∧(l.map (·.born)).Nodup:=List.nodup_cons.1 hn;rw [List.filter_cons,CH];simp only [A5,Bool.false_eq_true,if_false,List.eraseIdx_cons_zero];rw [List.filter_eq_self];intro y hy
  have:y.born≠x.born:=fun e=>hn'.1 (List.mem_map.2 ⟨y,hy,e⟩)
  simpa using this
 | x :: l,j+1,e,hn,h=>by
  have hn':x.born ∉ l.map (·.born)∧(l.map (·.born)).Nodup:=List.nodup_cons.1 hn;have he:l[j]?=some e:=by simpa using h
  have hne:(x.born==e.born)=false:=by
   have:x.born≠e.born:=fun e'=>hn'.1 (List.mem_map.2 ⟨e,vaG he,e'.symm⟩)
   simpa using this
  rw [List.filter_cons,hne];simp only [BJ,B2,List.eraseIdx_cons_succ];rw [kB l j e hn'.2 he]
theorem lM {ents:Array MapEntry} {seen:Array Nat} {j:Nat} {e:MapEntry} (hn:(ents.toList.map (·.born)).Nodup) (he:(leftOf ents seen).toList[j]?=some e) :
  (leftOf ents (seen.push e.born)).toList=(leftOf ents seen).toList.eraseIdx j:=by
 have hsub:((leftOf ents seen).toList.map (·.born)).Nodup:=by
  unfold leftOf;rw [Array.toList_filter];exact hn.sublist ((List.filter_sublist).map _)
 rw [← kB _ j e hsub he];unfold leftOf;rw [Array.toList_filter,Array.toList_filter,List.filter_filter];congr 1
 funext x
 rw [contains_push];cases seen.contains x.born <;> cases x.born==e.born <;> rfl
section
variable {B:BT} {nt:Nat} {w0:World} {X:Zone} {γ:Nat→Value} {st st':St} {a:Act} {w:World} {P:Program} {E:Env}
theorem Hl {n:Nat} {ob ob':Ob} (ho:CT st.o n=some ob) (hb:∀ b,DR (γ n) ob' b→DR (γ n) ob b) (b:Nat) (h:CV X γ ((n,some ob') :: st.o) b):CV X γ st.o b:=by
 rcases h with ⟨m,ob1,q1,q2⟩ | h
 ·rw [DE] at q1;split at q1
  ·rename_i e;subst e;obtain rfl:=CM q1;exact .inl ⟨n,ob,ho,hb b q2⟩
  ·exact .inl ⟨m,ob1,q1,q2⟩
 ·exact .inr h
theorem Hb (h:Rel B nt w0 X γ st a w) (o:Oper) {x:Operand} (ho:o.op = .next x false) {n i c:Nat} (hm:opd st x = .ptr n i c) {vk:Kd} {last:Option (Int × IV)} {rest:List (Int × IV)} (hob:CT st.o n=some (.iter vk last rest)) :
  (rest.length=0→OpWp P B nt w0 X a w o st (.tup [.bool false]) []) ∧
  (rest.length≠0→∃ j,j < rest.length∧OpWp P B nt w0 X a w o st (.tup [.bool true,.int .i64 (E7 rest j).1,JE vk (E7 rest j).2]) [.set n (.iter vk (some (E7 rest j)) (GN rest j))]):=by
 obtain ⟨hk,r,b,since,seen,ents,clock,hx,hg,hr,hb,h1,h2,h3,h4,h5⟩:=kX h hm hob;have hls:(leftOf ents seen).toList.length=(leftOf ents seen).size:=by simp
 rcases run_next_at (P:=P) w o.type r b since clock seen ents clock hr hb h2 h1 with ⟨q1,q2⟩ | ⟨e,q1,w1,q2,q3⟩
 ·have h0:rest.length=0:=by rw [← h4.1,hls,q1]
  refine ⟨fun _=>?_,fun hne=>absurd h0 hne⟩;refine OpWp.pure (x:=.tuple #[.bool false]) h ?_ ?_
  ·unfold execOp;simp only [ho,hx,BM,q2,A3,BN]
  ·simp only [VRel];exact ⟨_,rfl,by simp only [VRels,VRel]; exact ⟨trivial,trivial⟩⟩
 ·obtain ⟨j,hj⟩:=List.getElem?_of_mem q1;have hjl:j < rest.length:=by
   rw [← h4.1];exact (BV.1 hj).1
  refine ⟨fun h0=>by omega,fun _=>⟨j,hjl,?_⟩⟩;obtain ⟨m,p1,p2,p3⟩:=h4.2 j (E7 rest j) (Gd hjl);rw [hj] at p1;obtain rfl:=CM p1;have hw1:w1.heap=w.heap:=by rcases q2 with rfl | rfl <;> rfl
  have hk1:Keep (fun k=>k=r) w (ChangeMaps.setBlock w1 r (.mapIter (some b) since (seen.push e.born) clock)):=by
   have h6:Keep (fun k=>k=r) w w1:=by
    rcases q2 with rfl | rfl
    ·exact Keep.refl _ _
    ·exact Keep.drew _ _
   refine ⟨h6.os,h6.tape,h6.output,?_,fun k _ hne=>?_⟩
   ·simp [ChangeMaps.setBlock,hw1]
   ·simp only [ChangeMaps.setBlock,hw1];exact Array.getElem?_setIfInBounds_ne (fun h:r=k=>hne h.symm)
  have hkp:Keep (DR (γ n) (.iter vk last rest)) w (ChangeMaps.setBlock w1 r (.mapIter (some b) since (seen.push e.born) clock)):=hk1.mono fun k _ hk=>⟨r,b,hg,.inl hk⟩
  have hkO:Keep (CV X γ st.o) w (ChangeMaps.setBlock w1 r (.mapIter (some b) since (seen.push e.born) clock)):=hkp.mono fun k _ hk=>.inl ⟨n,_,hob,hk⟩
  have hrb:b≠r:=fun e'=>by
   rw [e',hr] at hb;cases hb
  have hOw:=Hl (X:=X) (γ:=γ) (st:=st) (n:=n) (ob':=.iter vk (some (E7 rest j)) (GN rest j)) hob (fun b h=>h);have hR:=Rel.set h (ob':=.iter vk (some (E7 rest j)) (GN rest j)) hob rfl hkp (fun b hb=>hb) (fun hO hcmp=>by
   simp only [ObRel];refine ⟨hk,r,b,since,seen.push e.born,ents,clock,hg,?_,?_,h1,h2,h3,⟨?_,fun i e' he'=>?_⟩,fun e' he'=>?_⟩
   ·simp only [ChangeMaps.setBlock,hw1];exact (MapKept.heap_set hr).1
   ·simp only [ChangeMaps.setBlock,hw1];rw [(MapKept.heap_set hr).2 b hrb];exact hb
   ·rw [lM h3 hj,Z3,List.length_eraseIdx,List.length_eraseIdx,h4.1]
   ·rw [lM h3 hj,List.getElem?_eraseIdx];rw [Z3,List.getElem?_eraseIdx] at he';split at he'
    ·rename_i hlt;obtain ⟨m,s1,s2,s3⟩:=h4.2 i e' he';exact ⟨m,by rw [B1 hlt]; exact s1,s2,KRel.mono hkO (fun b _ hb=>hOw b hb) s3⟩
    ·rename_i hlt;obtain ⟨m,s1,s2,s3⟩:=h4.2 (i+1) e' he';exact ⟨m,by rw [A7 hlt]; exact s1,s2,KRel.mono hkO (fun b _ hb=>hOw b hb) s3⟩
   ·obtain rfl:=CM he';exact ⟨e,seen,(mem_left q1).1,rfl,p2,KRel.mono hkO (fun b _ hb=>hOw b hb) p3⟩)
  refine OpWp.value (x:=.tuple #[.bool true,e.key,e.val]) ?_ hR ?_
  ·unfold execOp;simp only [ho,hx,BM,q3,A3,BN]
  ·simp only [St.ups,VRel];refine ⟨_,rfl,?_⟩;simp only [VRels,VRel,p2];exact ⟨trivial,⟨trivial,p3.2⟩,RJ (KRel.mono hkO (fun b _ hb=>hOw b hb) p3).1,trivial⟩
end
open Go Go.RowKit
section
variable {B:BT} {nt:Nat} {w0:World} {X:Zone} {γ:Nat→Value} {st st':St} {a:Act} {w:World} {P:Program} {E:Env}
theorem i5 (h:Rel B nt w0 X γ st a w) (hg:GX B w0 X) {f:FuncId} {sp:C2} (hS:Snd P B f (fun vs=>(sp vs).get)) {vs:List V} {xs:List Value} (hv:VRels γ st.o w (CV X γ st.o) vs xs) {d:Nat} (hd9:d≠900000) {tks:List (List Kd)} {v:V} {us:List Upd} (he:(NR st.o d tks sp vs).get=some (v,us)) :
  Does P f xs w fun e w'=>∃ x,e = .returned x∧∃ γ',Rel B nt w0 X γ' (st.ups us) a w'∧VRel γ' (st.ups us).o w' (CV X γ' (st.ups us).o) v x:=by
 unfold NR at he;split at he
 ·rename_i hl;obtain ⟨r,out,hsp,he⟩:=R.toT_get he;unfold UA at he;split at he
  ·split at he
   ·rename_i cs;split at he
    ·rename_i hc;simp only [T.get,AB,AL] at he;obtain ⟨rfl,rfl⟩:=he;exact uM h hg hS hv hl hsp d hd9 (AK hc)
    ·simp [T.get] at he
   ·simp only [T.get,AB,AL] at he;obtain ⟨rfl,rfl⟩:=he;exact uO h hg hS hv hl hsp d hd9
   ·rename_i hnb hnv;simp only [T.get,AB,AL] at he;obtain ⟨rfl,rfl⟩:=he;exact uN h hg hS hv hl hsp hnb hnv
  ·simp [T.get] at he
 ·rename_i n hl;split at he
  ·rename_i cs ho;split at he
   ·rename_i hib;obtain ⟨r,outs,hsp,he⟩:=R.toT_get he;unfold T9 at he;split at he
    ·split at he
     ·rename_i hc;simp only [T.get,AB,AL] at he;obtain ⟨rfl,rfl⟩:=he;simp only [AI,Bool.or_eq_true] at hc;refine uL h hg hS hv hl ho rfl hsp hib (EA.1 hc.1) (hc.2.1.imp (fun h=>AK h) (fun h=>AK h)) (AK hc.2.2)
     ·simp [T.get] at he
    ·simp [T.get] at he
   ·simp [T.get] at he
  ·rename_i s ho;split at he
   ·rename_i hib;obtain ⟨r,outs,hsp,he⟩:=R.toT_get he;unfold T8 at he;split at he
    ·simp only [T.get,AB,AL] at he;obtain ⟨rfl,rfl⟩:=he;exact uK h hg hS hv hl ho hsp hib
    ·simp [T.get] at he
   ·simp [T.get] at he
  ·simp [T.get] at he
 ·obtain ⟨r,outs,hsp,he⟩:=R.toT_get he;unfold fD at he;split at he
  ·simp only [T.get,AB,AL] at he;obtain ⟨rfl,rfl⟩:=he;simp only [St.ups];exact uP h hg hS hv hsp
  ·simp [T.get] at he
def IS (l:LI):List Value:=l.map fun x=>Value.int .i64 x.toInt
def i9:V→Value
 | .int k n=>.int k n
 | _=>undef
def N6 (w:World) (v:Value):List V→List Value→Prop
 | [],[]=>True
 | [.clo f [.bor cs]],[y]=>∃ b c T,y = .func (.func f) #[] #[.pointer (some ⟨b,0,none⟩)]∧w.heap[b]?=some (.cells c T (0,0))∧c.toList=cs.map i9∧v.ownBlock≠some b
 | _,_=>False
def MD (P:Program) (f:FuncId) (p:Ip):Prop:=
 ∀ (w:World) (v:Value) (l l':LI) (rs:List V) (ys:List Value),w.ownsRow 0 p.e 1 v l.length (IS l)→(∀ x∈l,AC.min≤x.toInt∧x.toInt≤AC.max)→l.length≤strMax →
  N6 w v rs ys→p.g rs l=some l' →
  Does P f (v :: ys) w fun e w'=>∃ x,e = .returned x∧w.grownBy w' v.ownBlock∧(∀ x∈l',AC.min≤x.toInt∧x.toInt≤AC.max) ∧
   (p.ret=true→w'.ownsRow 0 p.e 1 x l'.length (IS l')∧∀ b,x.ownBlock=some b→v.ownBlock=some b∨w.heap.size≤b) ∧
   (p.ret=false→w'.ownsRow 0 p.e 1 v l'.length (IS l'))
theorem uY {w:World} {O:Nat→Prop} {l:LI} {xs:List Value} (hl:xs.length=l.length*1)
  (h:∀ i y,l[i]?=some y→Kd.RelAll w O [.z] (EN false y) 0 (fun j u=>xs[i*1+j]?=some u)):xs=IS l∧∀ x∈l,AC.min≤x.toInt∧x.toInt≤AC.max:=by
 have one:∀ (i:Nat) (y:IV),l[i]?=some y→xs[i]?=some (.int .i64 y.toInt)∧AC.min≤y.toInt∧y.toInt≤AC.max:=fun i y hy=>by
  have:=h i y hy
  simp only [Kd.RelAll,EN,B9,Nat.mul_one,vaa] at this;obtain ⟨u,hu,hk⟩:=this;simp only [Kd.Rel] at hk;rw [hu,hk.1];exact ⟨rfl,hk.2⟩
 constructor
 ·apply List.ext_getElem?;intro i;unfold IS;rw [BZ];cases hy:l[i]? with
  | none=>
   rw [List.getElem?_eq_none_iff] at hy;rw [BF (by omega)];rfl
  | some y=>rw [(one i y hy).1]; rfl
 ·intro x hx;obtain ⟨i,hi⟩:=List.getElem?_of_mem hx;exact (one i x hi).2
theorem aQ {w:World} {O:Nat→Prop} {l:LI} (h:∀ x∈l,AC.min≤x.toInt∧x.toInt≤AC.max) (i:Nat) (y:IV) (hy:l[i]?=some y) :
  Kd.RelAll w O [.z] (EN false y) 0 (fun j u=>(IS l)[i*1+j]?=some u):=by
 simp only [Kd.RelAll,EN,B9,Nat.mul_one,vaa];refine ⟨.int .i64 y.toInt,?_,?_⟩
 ·unfold IS;rw [BZ,hy];rfl
 ·simp only [Kd.Rel];exact ⟨trivial,h y (vaG hy)⟩
theorem kV {γ:Nat→Value} {o:Store} {w:World} {O:Nat→Prop}:∀ {cs:List V} {xs:List Value},WY cs=true→VRels γ o w O cs xs→xs=cs.map i9
 | [],[],_,_=>rfl
 | [],_ :: _,_,h=>by simp only [VRels] at h
 | v :: cs,[],h,h'=>by simp only [VRels] at h'
 | v :: cs,x :: xs,h,h'=>by
  simp only [VRels] at h';unfold WY at h;split at h
  ·rename_i h0; cases h0
  ·rename_i n r h0;injection h0 with h1 h2
   subst h1 h2;have h3:=h'.1;simp only [VRel] at h3;rw [A6,← kV h h'.2,h3.1];rfl
  ·cases h
theorem nZ (h:Rel B nt w0 X γ st a w) {v:Value} (hv:∀ m cs b,CT st.o m=some (.box cs)→DR (γ m) (.box cs) b→v.ownBlock≠some b) {rest rs:List V} {ys:List Value} (hr:VRels γ st.o w (CV X γ st.o) rest ys) (he:PQ st.o rest=some rs):N6 w v rs ys:=by
 unfold PQ at he;split at he
 ·simp only [AB] at he;subst he;cases ys with
  | nil=>trivial
  | cons y ys=>simp only [VRels] at hr
 ·rename_i f m i c;split at he
  ·rename_i cs hic ho;split at he
   ·rename_i hi;simp only [AB] at he;subst he;simp only [AI] at hic;obtain rfl:=EA.1 hic.1;obtain rfl:=EA.1 hic.2
    match ys,hr with
    | [y],hr=>
     simp only [VRels,B9] at hr;simp only [VRel] at hr;obtain ⟨cs',rfl,hc⟩:=hr;obtain ⟨b,c,T,hg,hh,hcs⟩:=h.ob m _ ho;have hc1:∃ x0,cs' = #[x0]∧x0 = .pointer (some ⟨b,0,none⟩):=by
      obtain ⟨l⟩:=cs'
      match l,hc with
      | [x0],hc=>
       simp only [VRels,B9,VRel,ho] at hc;obtain ⟨_,b',hb',rfl⟩:=hc;rw [hg] at hb';simp only [B4,AB,CL,B9] at hb';subst hb';exact ⟨_,rfl,rfl⟩
      | [],hc=>simp only [VRels] at hc
      | _ :: _ :: _,hc=>simp only [VRels,and_false] at hc
     obtain ⟨x0,rfl,rfl⟩:=hc1;exact ⟨b,c,T,rfl,hh,kV hi hcs,hv m cs b ho ⟨_,hg,rfl⟩⟩
    | [],hr=>simp only [VRels] at hr
    | _ :: _ :: _,hr=>simp only [VRels,and_false] at hr
   ·cases he
  ·cases he
 ·cases he
theorem Bd (h:Rel B nt w0 X γ st a w) {f:FuncId} {p:Ip} (hI:MD P f p) {vs:List V} {xs:List Value} (hv:VRels γ st.o w (CV X γ st.o) vs xs) {d:Option Nat} (hd9:∀ d',d=some d'→d'≠900000) {v:V} {us:List Upd} (he:(Q9 st.o d p vs).get=some (v,us)) :
  Does P f xs w fun e w'=>∃ x,e = .returned x∧∃ γ',Rel B nt w0 X γ' (st.ups us) a w'∧VRel γ' (st.ups us).o w' (CV X γ' (st.ups us).o) v x:=by
 unfold Q9 at he;split at he
 ·rename_i n lo hi rest;cases xs with
  | nil=>simp only [VRels] at hv
  | cons sv ys=>
  simp only [VRels] at hv;obtain ⟨hs,hrest⟩:=hv;split at he
  ·rename_i e l rs hob hra;split at he
   ·rename_i hc;simp only [AI] at hc;obtain ⟨hc1,hc3,hc4⟩:=hc;have he2:=T.get_when he;clear he;obtain ⟨hc2,he⟩:=he2;obtain rfl:=EA.1 hc1;obtain rfl:=EA.1 hc2;obtain rfl:=EA.1 hc3;have he6:p.e < 1000000:=AK hc4;simp only [VRel,hob] at hs;obtain ⟨hlen,q,len,cap,q',hg,hvv,_,h2,h3,hm,_,h5⟩:=hs;rw [h5 rfl,vaq,vaq] at hvv;have hor:=h.ob n _ hob;simp only [ObRel] at hor;obtain ⟨hkp,hstr,xs,hx,hrx⟩:=hor;have hx':=hx.plain he6;have hlen':len=l.length:=by
     rcases hx'.2 with ⟨h6,h7⟩ | ⟨g,cap',cur,h6,_⟩
     ·rw [hg] at h6; simp only [BW] at h6; omega
     ·rw [hg] at h6; simp only [BW] at h6; exact h6.2.1
    subst hlen';have hsv:sv=γ n:=by rw [hvv,hg]
    subst hsv;obtain ⟨rfl,hrng⟩:=uY hx.1 hrx;split at he
    ·rename_i l' hgl;have hrok:=nZ h (v:=γ n) (fun m cs b hm hb hne=>by
      have hnm:n≠m:=fun e=>by subst e; rw [hob] at hm; cases hm
      exact h.dis n m _ _ b hnm hob hm (by simp only [DR]; exact hne) hb) hrest hra
     have hdoes:=hI w (γ n) l l' rs ys hx' hrng hstr hrok hgl;split at he
     ·rename_i d' hret;obtain ⟨hk,he⟩:=T.get_when he;simp only [T.get,AB,AL] at he;obtain ⟨rfl,rfl⟩:=he;have hk:=AK hk;refine hdoes.mono ?_;rintro e w' ⟨x,rfl,hgrow,hrng',hr1,_⟩;obtain ⟨hown,hblk⟩:=hr1 hret;refine ⟨x,rfl,fun m=>if d'=m then x else γ m,?_,?_⟩
      ·refine Rel.new h [n] d' (hd9 d' rfl) (.row true p.e false [.z] l') x (Keep.grown hgrow (fun g hg'=>⟨n,by simp,_,hob,hg'⟩)) (fun b hb=>⟨(hown.lt b hb).2,?_⟩) (fun O' hO hcmp=>?_)
       ·rcases hblk b hb with h1 | h1
        ·exact .inr ⟨n,by simp,_,hob,h1⟩
        ·exact .inl h1
       ·simp only [ObRel];exact ⟨by simp,by omega,IS l',OwnRow.of hown he6,fun i y hy=>aQ hrng' i y hy⟩
      ·simp only [St.ups,St.up,VRel,DE,B2];refine ⟨AP _,?_⟩;rcases hown.2 with ⟨h6,h7⟩ | ⟨g,cap',cur,h6,_,_,h8,h9,_⟩
       ·refine ⟨none,0,0,none,h6,?_,B3 _,by omega,AP _,by simp [maxLen],.inr rfl,fun _=>rfl⟩;rw [h6,h7]
       ·refine ⟨some ⟨g,0,none⟩,l'.length,cap',some ⟨g,0,none⟩,h6,by rw [h6]; simp,B3 _,AP _,h8,h9,.inl ?_,fun _=>rfl⟩;simp [Addr.add]
     ·rename_i hret;obtain ⟨hk,he⟩:=T.get_when he;simp only [T.get,AB,AL] at he;obtain ⟨rfl,rfl⟩:=he;have hk:=EA.1 hk;refine hdoes.mono ?_;rintro e w' ⟨x,rfl,hgrow,hrng',_,hr2⟩;have hown:=hr2 hret;refine ⟨x,rfl,γ,?_,by simp only [VRel]⟩;refine Rel.set h (ob':=.row true p.e false [.z] l') hob ⟨rfl,hk.symm⟩ (Keep.grown hgrow (fun g hg'=>hg')) (fun b hb=>hb) (fun hO hcmp=>?_);simp only [ObRel];exact ⟨by simp,by omega,IS l',OwnRow.of hown he6,fun i y hy=>aQ hrng' i y hy⟩
     ·simp [T.get] at he
    ·simp [T.get] at he
   ·simp [T.get] at he
  ·simp [T.get] at he
 ·rename_i rest;cases xs with
  | nil=>simp only [VRels] at hv
  | cons sv ys=>
  simp only [VRels] at hv;obtain ⟨hs,hrest⟩:=hv;simp only [VRel] at hs;subst hs;split at he
  ·rename_i rs hra;split at he
   ·rename_i hgl;have hrok:=nZ h (v:=.slice none 0 0) (fun m cs b _ _ hne=>by simp [B6] at hne) hrest hra;have hdoes:=hI w (.slice none 0 0) [] [] rs ys (World.ownsRow_nil w 0 p.e _) (fun x hx=>by cases hx) (by simp) hrok hgl;split at he
    ·rename_i d' hret;obtain ⟨hk,he⟩:=T.get_when he;simp only [T.get,AB,AL] at he;obtain ⟨rfl,rfl⟩:=he;have he6:p.e < 1000000:=AK hk;refine hdoes.mono ?_;rintro e w' ⟨x,rfl,hgrow,hrng',hr1,_⟩;obtain ⟨hown,hblk⟩:=hr1 hret;refine ⟨x,rfl,fun m=>if d'=m then x else γ m,?_,?_⟩
     ·refine Rel.new h [] d' (hd9 d' rfl) (.row true p.e false [.z] []) x (Keep.grown hgrow (fun g hg'=>by simp [B6] at hg')) (fun b hb=>⟨(hown.lt b hb).2,?_⟩) (fun O' hO hcmp=>?_)
      ·rcases hblk b hb with h1 | h1
       ·simp [B6] at h1
       ·exact .inl h1
      ·simp only [ObRel];exact ⟨by simp,by simp,IS [],OwnRow.of hown he6,fun i y hy=>aQ hrng' i y hy⟩
     ·simp only [St.ups,St.up,VRel,DE,B2];refine ⟨AP _,?_⟩;rcases hown.2 with ⟨h6,h7⟩ | ⟨g,cap',cur,h6,_,_,h8,h9,_⟩
      ·refine ⟨none,0,0,none,h6,?_,B3 _,by omega,AP _,by simp [maxLen],.inr rfl,fun _=>rfl⟩;rw [h6]
      ·refine ⟨some ⟨g,0,none⟩,0,cap',some ⟨g,0,none⟩,h6,by rw [h6]; simp,B3 _,AP _,B3 _,h9,.inl ?_,fun _=>rfl⟩;simp [Addr.add]
    ·rename_i hret;simp only [T.get,AB,AL] at he;obtain ⟨rfl,rfl⟩:=he;refine hdoes.mono ?_;rintro e w' ⟨x,rfl,hgrow,_,_,_⟩;refine ⟨x,rfl,γ,Rel.world h (Keep.grown hgrow (fun g hg'=>by simp [B6] at hg')),by simp only [VRel]⟩
    ·simp [T.get] at he
   ·simp [T.get] at he
  ·simp [T.get] at he
 ·simp [T.get] at he
def SpOK (P:Program) (B:BT) (E:Env) (w0:World) (X:Zone):Prop:=GX B w0 X∧(∀ f sp,lk E.sp f=some sp→Snd P B f (fun vs=>(sp vs).get))∧∀ f p,lk E.ip f=some p→MD P f p
theorem SpOK.get (h:SpOK P B E w0 X) (f:FuncId):Snd P B f (fun vs=>(DT (fun _=>R.no) E.sp f vs).get):=by
 rw [RG];cases hf:lk E.sp f with
 | none=>
  intro w X γ vs xs r out hsp;simp [R.get] at hsp
 | some sp=>exact h.2.1 f sp hf
theorem X2 (h:Rel B nt w0 X γ st a w):∀ l:List Operand,VRels γ st.o w (CV X γ st.o) (G0 (opd st) l) (l.map a.eval)
 | []=>by simp only [G0,vab,VRels]
 | x :: r=>by
  simp only [G0,A6,VRels];exact ⟨D8 h x,X2 h r⟩
theorem cF (o:Oper) {f:FuncId} {xs:List Value} {v:V} {us:List Upd} (hr:(execOp a.eval o).run P w=(callFunc f xs.toArray).run P w)
  (hd:Does P f xs w fun e w'=>∃ x,e = .returned x∧∃ γ',Rel B nt w0 X γ' (st.ups us) a w'∧VRel γ' (st.ups us).o w' (CV X γ' (st.ups us).o) v x):OpWp P B nt w0 X a w o st v us:=by
 intro K Q hK;unfold Oper.wp;rw [hr];unfold Does at hd;split at hd
 ·rename_i g args w' hc;rw [hc,Oper.upon_enter];refine hd.mono ?_;rintro e w'' ⟨x,rfl,γ',h1,h2⟩;exact hK γ' x w'' h1 h2
 ·rename_i x w' hc;rw [hc,Oper.upon_value];obtain ⟨x',he,γ',h1,h2⟩:=hd;cases he;exact hK γ' x w' h1 h2
 ·rename_i row args w' hc;rw [hc,Oper.upon_row];refine Rows.mono hd ?_;rintro x w'' ⟨x',he,γ',h1,h2⟩;cases he;exact hK γ' x w'' h1 h2
 ·exact hd.elim
theorem Gk (hT:TiOK P B E) (hSp:SpOK P B E w0 X) (h:Rel B nt w0 X γ st a w) (o:Oper) (hd9:∀ d,o.dst=some d→d≠900000) {c:Call} (ho:o.op = .call c) {v:V} {us:List Upd}
  (he:(C3 E st.o (opd st) o.dst o.op).get=some (v,us)):OpWp P B nt w0 X a w o st v us:=by
 obtain ⟨callee,args,ats⟩:=c;cases callee with
 | builtin b=>exact Gj hT h o hd9 ho he
 | invoke recv name=>
  rw [ho] at he;simp only [C3,MS] at he;simp [T.get] at he
 | value x=>
  rw [ho] at he;obtain ⟨args⟩:=args;have clo:∀ (x:Operand),o.op = .call ⟨.value x,⟨args⟩,ats⟩→∀ d,o.dst=some d→(match opd st x with
    | .clo f caps=>match PG caps with
     | true=>NR st.o d (YX E ats.toList) (DT (fun _=>R.no) E.sp f) (G0 (opd st) args++caps)
     | false=>.no
    | _=>.no).get=some (v,us)→OpWp P B nt w0 X a w o st v us:=by
   intro x ho d hd he;split at he
   ·rename_i f caps hclo;split at he
    case h_2=>simp [T.get] at he
    have hx:=D8 h x;rw [hclo] at hx;simp only [VRel] at hx;obtain ⟨cs,hx1,hx2⟩:=hx;have hrel:=i5 h hSp.1 (hSp.get f) ((X2 h args).append hx2) (hd9 d hd) he;refine cF o (xs:=args.map a.eval++cs.toList) ?_ hrel;obtain ⟨dst,op,type,pos,after,guard⟩:=o;simp only at ho;subst ho
    have:execOp a.eval { dst,op:=.call { callee:=.value x,args:=⟨args⟩,argTypes:=ats },type,pos,after,guard }=(do let d ← Deferred.ofValue (a.eval x) ((⟨args⟩:Array Operand).map a.eval); invoke d.target d.args):=rfl
    rw [this,hx1];have hla:(args.map a.eval).toArray++cs=(args.map a.eval++cs.toList).toArray:=by
     apply Array.ext';simp
    simp [Deferred.ofValue,invoke,hla]
   ·simp [T.get] at he
  cases x with
  | func f=>
   simp only [C3,MS,ZP] at he;have hrun:∀ {f:Nat},o.op = .call ⟨.value (.func f),⟨args⟩,ats⟩→(execOp a.eval o).run P w=(callFunc f (args.map a.eval).toArray).run P w:=fun {f} ho=>by
    obtain ⟨dst,op,type,pos,after,guard⟩:=o;simp only at ho;subst ho
    have:execOp a.eval { dst,op:=.call { callee:=.value (.func f),args:=⟨args⟩,argTypes:=ats },type,pos,after,guard }=callFunc f (#[]++(⟨args⟩:Array Operand).map a.eval++#[]):=rfl
    rw [this];simp
   split at he
   ·rename_i p hp;exact cF o (xs:=args.map a.eval) (hrun ho) (Bd h (hSp.2.2 f p hp) (X2 h args) hd9 he)
   ·split at he
    ·rename_i d hd;exact cF o (xs:=args.map a.eval) (hrun ho) (i5 h hSp.1 (hSp.get f) (X2 h args) (hd9 d hd) he)
    ·simp [T.get] at he
  | tmp t=>
   simp only [C3,MS] at he;cases hd:o.dst with
   | none=>rw [hd] at he; simp [T.get] at he
   | some d=>rw [hd] at he; exact clo _ ho d hd he
  | const t=>
   simp only [C3,MS] at he;cases hd:o.dst with
   | none=>rw [hd] at he; simp [T.get] at he
   | some d=>rw [hd] at he; exact clo _ ho d hd he
  | global t=>
   simp only [C3,MS] at he;cases hd:o.dst with
   | none=>rw [hd] at he; simp [T.get] at he
   | some d=>rw [hd] at he; exact clo _ ho d hd he
theorem Gm (hT:TiOK P B E) (h:Rel B nt w0 X γ st a w) (o:Oper) (hd9:∀ d,o.dst=some d→d≠900000) {s t:Nat} {x:Operand} (ho:o.op = .convert s t x) {v:V} {u:Upd} {us:List Upd}
  (he:(C3 E st.o (opd st) o.dst o.op).get=some (v,u :: us)):OpWp P B nt w0 X a w o st v (u :: us):=by
 have hx:=D8 h x;rw [ho] at he;simp only [C3] at he;split at he
 ·split at he
  ·simp [T.get] at he
  ·simp [T.get] at he
 ·rename_i b hop;rw [hop] at hx;simp only [VRel] at hx;split at he
  ·simp [T.get] at he
  ·rename_i e k1 kss hd hks hkss;split at he
   ·rename_i d hdst hde hkse;simp only [T.get,AB,AL,vaF] at he;obtain ⟨rfl,rfl,rfl⟩:=he;have hu1:=N9 hT hd;obtain ⟨d',hd1',_,_⟩:=(hT.kinds (t:=s) (by rw [hkss]; simp)).und;obtain ⟨d'',hd1'',_,hd2''⟩:=(hT.kinds (t:=e) (by rw [hkse]; simp)).und;rw [hde] at hd2'';obtain rfl:=hd2''.1 _ hkse;have hrun:(execOp a.eval o).run P w = .ok (.value (.slice (some ⟨w.heap.size,0,none⟩) b.size (grownCap w b.size 0 e))) (vaU w e b):=by
     unfold execOp;simp only [ho,hx.1,BM,Lib.run_convert_string_bytes w s t e b hd1' hu1 hd1'',A3,BN]
    have hsm:=YQ;have hcg:=grownCap_ge w b.size 0 e;have hcm:grownCap w b.size 0 e≤maxLen:=grownCap_le_maxLen w b.size 0 e (vaj hx.2 hsm);have hcs:(Lib.bytesCells w e b).size=grownCap w b.size 0 e:=by
     have:b.data.size=b.size:=rfl
     simp only [Lib.bytesCells,Array.size_append,Array.size_map,Array.size_replicate,this];omega
    have hkp:Keep (fun _=>False) w (vaU w e b):=by
     refine ⟨?_,?_,?_,by rw [Lib.bytesWorld_size]; omega,fun j hj _=>Lib.bytesWorld_at_old w e b j hj⟩
     ·simp [vaU,World.freeze]; rfl
     ·simp [vaU,World.freeze]
     ·simp [vaU,World.freeze]; rfl
    have hn:=Rel.new h [] d (hd9 d hdst) (.row true (e+1000000) false [.int .u8] (b.data.toList.map fun b=>.int (b.toNat:Int))) (.slice (some ⟨w.heap.size,0,none⟩) b.size (grownCap w b.size 0 e)) (w':=vaU w e b) (hkp.mono (fun _ _ h=>h.elim))
     (by
      intro b1 hb;simp only [DR,B6,AB] at hb;subst hb;rw [Lib.bytesWorld_size];exact ⟨by omega,.inl (AP _)⟩)
     (by
      intro O' hO hcmp;simp only [ObRel];have hln:(b.data.toList.map fun b=>IV.int (b.toNat:Int)).length=b.size:=by simp
      refine ⟨by simp,by rw [hln]; exact hx.2,b.data.toList.map fun b=>.int .u8 b.toNat,?_,fun i y hy=>?_⟩
      ·rw [hln];refine ⟨by simp,.inr ⟨w.heap.size,grownCap w b.size 0 e,_,_,_,rfl,Lib.bytesWorld_at_new w e b,hcg,hcm,by rw [hcs]; simp,?_,.inr ⟨by omega,AP _⟩⟩⟩;simp only [Lib.bytesCells,vaA,AT,B8];rw [List.take_append_of_le_length (by simp)];rw [vav (by simp)];simp
      ·rw [BZ] at hy;cases hbi:b.data.toList[i]? with
       | none=>rw [hbi] at hy; cases hy
       | some c=>
        rw [hbi] at hy;simp only [vae,AB] at hy;subst hy;simp only [Kd.RelAll,EN,Kd.Rel,IV.toInt,AT,B8];refine ⟨⟨.int .u8 c.toNat,by simp [hbi],rfl,?_,?_⟩,trivial⟩
        ·simp [IntKind.min,vag]
        ·have:=c.toNat_lt
         simp [IntKind.max,vag,AJ];omega)
    refine OpWp.value hrun hn ?_;simp only [St.ups,VRel,EK,B2];refine ⟨by simp,some ⟨w.heap.size,0,none⟩,b.size,grownCap w b.size 0 e,some ⟨w.heap.size,0,none⟩,rfl,by simp,B3 _,AP _,hcg,hcm,.inl ?_,fun _=>rfl⟩;simp [Addr.add]
   ·simp [T.get] at he
  ·simp [T.get] at he
 ·split at he
  ·split at he
   ·simp [T.get] at he
   ·simp [T.get] at he
  ·simp [T.get] at he
def BldOK (P:Program) (B:BT) (E:Env):Prop:=(E.tyd B.T).d = .bld→∃ i,P.info? B.T=some i∧i.zero=some (.agg #[.pointer none,.slice none 0 0])
theorem mM (hT:TiOK P B E) (hE:∀ t,t∈E.eqs→EqSnd P t (E.tyd t).ks) (hSp:SpOK P B E w0 X) (hB:BldOK P B E) (h:Rel B nt w0 X γ st a w) (o:Oper) (hd9:∀ d,o.dst=some d→d≠900000) {v:V} {us:List Upd}
  (he:(C3 E st.o (opd st) o.dst o.op).get=some (v,us)):OpWp P B nt w0 X a w o st v us:=by
 cases ho:o.op with
 | move x=>exact mL h o (.inl ho) he
 | assign x=>exact mL h o (.inr ho) he
 | pick c x y=>exact Hd h o ho he
 | alloc t=>exact Ge hT h o hd9 ho hB he
 | box t x=>exact Gg h o hd9 ho he
 | build t parts=>exact Gh hT h o ho he
 | buildSlice t len parts=>exact Gi hT h o hd9 ho he
 | load t x=>exact Gv hT h o ho he
 | store t p x=>exact Hg hT h o ho he
 | nilCheck x=>exact Hc h o ho he
 | binOp op t x y t'=>exact Gf hT hE h o ho he
 | unOp op t x=>exact Hh h o ho he
 | convert s t x=>
  cases us with
  | nil=>exact Gl hT h o ho he
  | cons u us=>exact Gm hT h o hd9 ho he
 | makeFunc f first caps=>exact Gx h o ho he
 | makeSlice t n m=>exact Gz hT h o hd9 ho he
 | slice t x lo hi mx=>exact Hf hT h o ho he
 | fieldAddr s x f=>exact Gs hT h o ho he
 | field t x f=>exact Gr hT h o ho he
 | indexAddr t x ix=>exact Gu hT h o ho he
 | index t x ix=>exact Gt hT h o ho he
 | extract x i=>exact Gq h o ho he
 | call c=>exact Gk hT hSp h o hd9 ho he
 | makeMap t r=>exact Gy h o hd9 ho he
 | insert t m k x=>exact mK hT h o (.inl ho) he
 | mapUpdate t m k x=>exact mK hT h o (.inr ho) he
 | lookup t m k ok=>exact Gw hT h o ho he
 | mapEntry t m k=>exact Ha hT h o ho he
 | entryStore t m s x=>exact Gp h o ho he
 | range t x=>exact He hT h o hd9 ho he
 | entry x=>exact Gn h o ho he
 | _=>rw [ho] at he; simp [C3,T.get] at he
theorem It (hT:TiOK P B E) (hE:∀ t,t∈E.eqs→EqSnd P t (E.tyd t).ks) (hSp:SpOK P B E w0 X) (hB:BldOK P B E) (h:Rel B nt w0 X γ st a w) (o:Oper) (hd9:∀ d,o.dst=some d→d≠900000) {k:V→List Upd→CU} {r:V × List (List V)}
  (he:RZ E st.o (opd st) o.dst o.op k=some r):∃ v us,k v us=some r∧OpWp P B nt w0 X a w o st v us:=by
 unfold RZ at he;split at he
 ·rename_i x hop;split at he
  ·rename_i n i c hm;split at he
   ·rename_i vk last rest hob;obtain ⟨h0,h1⟩:=Hb (P:=P) h o hop hm hob;split at he
    ·rename_i hl;exact ⟨_,_,he,h0 (EA.1 hl)⟩
    ·rename_i hl;obtain ⟨j,hj,hw⟩:=h1 (FW.1 hl);exact ⟨_,_,tZ he j hj,hw⟩
   ·cases he
  ·cases he
 ·obtain ⟨v,us,h1,h2⟩:=T.run_some he;exact ⟨v,us,h2,mM hT hE hSp hB h o hd9 h1⟩
end
open Go Go.RowKit
theorem RT:∀ {l:List V} {n:Nat},n∈DY l→n∈DN.go l
 | v :: r,n,h=>by
  simp only [DY,AW] at h;rcases h with h | h
  ·cases v <;> simp only [DG] at h <;> first | (cases h; done) | (simp only [DN.go,AW]; exact .inl h)
  ·cases v <;> simp only [DN.go,AW] <;> exact .inr (RT h)
def Agree (o o':Store) (l:List Nat):Prop:=∀ n∈l,CT o' n=CT o n
theorem Agree.left {o o':Store} {l l':List Nat} (h:Agree o o' (l++l')):Agree o o' l:=fun n hn=>h n (vaJ _ hn)
theorem Agree.right {o o':Store} {l l':List Nat} (h:Agree o o' (l++l')):Agree o o' l':=fun n hn=>h n (vaD _ hn)
theorem mG {o o':Store} {v:V} (h:Agree o o' (DG v)):HU o' v=HU o v:=by
 cases v <;> simp only [HU]
 all_goals rw [h _ (by simp [DG])]
theorem b9 {o o':Store} {v:V} (h:Agree o o' (DG v)):LW o' v=LW o v:=by
 cases v <;> simp only [LW] <;> exact mG h
theorem b5 {o o':Store}:∀ {l:List V},Agree o o' (DY l)→M2 o' l=M2 o l
 | [],_=>rfl
 | v :: r,h=>by simp only [M2,mG h.left,b5 (l:=r) h.right]
theorem jT {o o':Store} {v:V} (h:Agree o o' (DG v)):MV o' v=MV o v:=by
 cases v <;> simp only [MV]
 rw [h _ (by simp [DG])]
theorem oU {o o':Store} {v:V} (h:Agree o o' (DG v)):K7 o' v=K7 o v:=by
 cases v <;> simp only [K7]
 rw [h _ (by simp [DG])]
theorem XE {o o':Store} {k:Kd} {v:V} (h:Agree o o' (DG v)):IX o' k v=IX o k v:=by
 cases k <;> cases v <;> simp only [IX]
 rw [h _ (by simp [DG])]
theorem U1 {o o':Store}:∀ {ks:List Kd} {l:List V},Agree o o' (DY l)→G7 o' ks l=G7 o ks l
 | [],[],_=>rfl
 | [],_ :: _,_=>rfl
 | _ :: _,[],_=>rfl
 | k :: ks,v :: r,h=>by simp only [G7,XE h.left,U1 (l:=r) h.right]
theorem J0 {v:V} {n:Nat} (h:n∈DG v):n∈DN v:=by
 cases v <;> simp only [DG] at h <;> first | exact h | cases h
theorem vP {o o':Store} {ag:Bool} {ks:List Kd} {v:V} (h:Agree o o' (DN v)):KZ o' ag ks v=KZ o ag ks v:=by
 cases ag with
 | false=>
  simp only [KZ];rw [U1 (o:=o) (o':=o') (fun n hn=>h n (J0 (by simpa [DY] using hn)))]
 | true=>
  cases v <;> simp only [KZ]
  rw [U1 h]
theorem nQ:∀ (a b:List V),DY (a++b)=DY a++DY b
 | [],b=>rfl
 | v :: r,b=>by simp [DY,nQ r b]
theorem nR {l:List V} {v:V} {n:Nat} (hv:v∈l) (hn:n∈DG v):n∈DY l:=by
 induction l with
 | nil=>cases hv
 | cons u r ih=>
  simp only [DY,AW];rcases AR.1 hv with h | h
  ·subst h; exact .inl hn
  ·exact .inr (ih h)
theorem c5 {l l':List V} (h:∀ v∈l,v∈l') {n:Nat} (hn:n∈DY l):n∈DY l':=by
 induction l with
 | nil=>simp [DY] at hn
 | cons u r ih=>
  simp only [DY,AW] at hn;rcases hn with hn | hn
  ·exact nR (h u (AS ..)) hn
  ·exact ih (fun v hv=>h v (AY _ hv)) hn
theorem WI {o o':Store} {ag:Bool} {ks:List Kd} {sz:Nat}:∀ {n:Nat} {cs:List V},Agree o o' (DY cs)→I7 ag ks o' cs sz n=I7 ag ks o cs sz n
 | 0,cs,_=>rfl
 | n+1,cs,h=>by
  simp only [I7];rw [WI (n:=n) (cs:=IT cs sz) (fun m hm=>h m (by rw [LJ] at hm; exact c5 (fun v hv=>List.mem_of_mem_drop hv) hm))];cases ag with
  | true=>
   rw [vP];intro m hm;simp only [DN,QA] at hm;exact h m (c5 (fun v hv=>List.mem_of_mem_take hv) hm)
  | false=>
   simp only [KZ];rw [U1 (o:=o) (o':=o')];intro m hm;rw [VE] at hm;cases hc:cs[0]? with
   | none=>rw [hc] at hm; simp [DY,DG] at hm
   | some u=>
    rw [hc] at hm;simp only [vap,DY,List.append_nil] at hm;exact h m (nR (vaG hc) hm)
theorem P9 {l:List V} {n:Nat} (h:n∈DQ l):n∈DY l:=by
 induction l with
 | nil=>simp [DQ] at h
 | cons v r ih=>
  simp only [DY,AW];cases v <;> simp only [DQ,AR] at h <;> first | exact .inr (ih h) | skip
  rcases h with h | h
  ·exact .inl (by simp [DG,h])
  ·exact .inr (ih h)
theorem UQ {o o':Store}:∀ {l:List Nat},Agree o o' l→DI o' l=DI o l
 | [],_=>rfl
 | n :: r,h=>by
  simp only [DI];rw [h n (AS ..),UQ (l:=r) (fun m hm=>h m (AY _ hm))]
theorem aH {o o':Store} {place:Nat→Option (Nat × Nat)}:∀ {cs:List V} {l:List (Nat × V)},(∀ i v,(i,v)∈l→Agree o o' (DN v))→H8 o' place cs l=H8 o place cs l
 | cs,[],_=>rfl
 | cs,(i,v) :: r,h=>by
  simp only [H8];have h1:LW o' v=LW o v:=b9 (fun n hn=>h i v (AS ..) n (J0 hn));rw [h1];split
  ·split
   ·exact aH (fun i v hv=>h i v (AY _ hv))
   ·rfl
  ·rfl
theorem WC {o o':Store} {d e:Nat} {ag:Bool} {ks:List Kd} {bytes:Nat} {s:V} {l:LI} (h:Agree o o' (DG s)):KB o' d e ag ks bytes s l=KB o d e ag ks bytes s l:=by
 cases s <;> simp only [KB]
 rw [h _ (by simp [DG])]
theorem PJ {o:Store} {n m:Nat} {cs:List V}:∀ {l:List Nat},n∈l→CT o n=some (.box cs)→m∈DY cs→m∈HK o l
 | x :: r,hn,ho,hm=>by
  simp only [HK];rcases AR.1 hn with h | h
  ·subst h;rw [ho];exact vaJ _ hm
  ·have:=PJ h ho hm
   split
   ·exact vaD _ this
   ·exact this
theorem t7 {o o':Store} {d et:Nat} {e:TI} {tk:List Kd} {s x:V} (h:Agree o o' (DG s)):QT o' d et e tk s x=QT o d et e tk s x:=by
 unfold QT;simp only [WC h]
theorem t5 {o o':Store} {d et:Nat} {e:TI} {s x:V} (h:Agree o o' (DG s)) (h':Agree o o' (DG x++HK o (DG x))):PB o' d et e s x=PB o d et e s x:=by
 have gen:(match MV o' x,K7 o' x with
   | some l,some (ag,ks)=>match FX (.list e.agg e.ks) (.list ag ks) with
    | true=>KB o' d et e.agg e.ks e.bytes s l
    | false=>.no
   | _,_=>.no)=(match MV o x,K7 o x with
   | some l,some (ag,ks)=>match FX (.list e.agg e.ks) (.list ag ks) with
    | true=>KB o d et e.agg e.ks e.bytes s l
    | false=>.no
   | _,_=>.no):=by
  simp only [jT h'.left,oU h'.left,WC h]
 cases x
 case bview n c cap sz len=>
  simp only [PB];rw [h' n (by simp [DG])];split
  ·rename_i cs ho;simp only [WC h];split
   ·congr 1
    funext m
    rw [WI (o:=o) (o':=o')];intro k hk;rw [LJ] at hk;exact h' k (vaD _ (PJ (by simp [DG]) ho (c5 (fun v hv=>List.mem_of_mem_drop hv) hk)))
   ·rfl
  ·rfl
 case zs=>simp only [PB,WC h]
 all_goals exact gen
theorem UD {o o':Store} {bs:List V} {tk:Option Kd} {v:V} (h:Agree o o' (DG v)):DH o' bs tk v=DH o bs tk v:=by
 cases v <;> simp only [DH]
 all_goals rw [h _ (by simp [DG])]
theorem bM {o o':Store} {bs:List V}:∀ {l:List V} {ks:List Kd},Agree o o' (DY l)→IE (fun k v=>FK (DH o' bs k v)) ks l=IE (fun k v=>FK (DH o bs k v)) ks l
 | [],ks,_=>by cases ks <;> rfl
 | v :: l,[],h=>by simp only [IE,UD h.left,bM (l:=l) h.right]
 | v :: l,k :: ks,h=>by simp only [IE,UD h.left,bM (l:=l) h.right]
theorem lV {o o':Store} {bs:List V} {tk:Option Kd}:∀ {l:List V},Agree o o' (DY l)→l.map (DH o' bs tk)=l.map (DH o bs tk)
 | [],_=>rfl
 | v :: l,h=>by simp only [A6,UD h.left,lV (l:=l) h.right]
theorem ZG {o o':Store} {bs:List V} {ks:List Kd} {v:V} (h:Agree o o' (DN v)):GL o' bs ks v=GL o bs ks v:=by
 by_cases ha:∃ l,v = .agg l
 ·obtain ⟨l,rfl⟩:=ha;simp only [GL,bM (o:=o) (o':=o') h]
 by_cases hc:∃ f l,v = .clo f l
 ·obtain ⟨f,l,rfl⟩:=hc;simp only [GL,lV (o:=o) (o':=o') (l:=l) (fun n hn=>h n (RT hn))]
 have h1:∀ o,GL o bs ks v=DH o bs ks.head? v:=by
  intro o;cases v <;> first | rfl | exact absurd ⟨_,rfl⟩ ha | exact absurd ⟨_,_,rfl⟩ hc
 rw [h1,h1];exact UD (fun n hn=>h n (J0 hn))
theorem ZH {o o':Store} {bs:List V}:∀ {l:List V} {tks:List (List Kd)},Agree o o' (EZ l)→EH o' bs tks l=EH o bs tks l
 | [],tks,_=>by cases tks <;> rfl
 | v :: l,[],h=>by simp only [EH,ZG h.left,ZH (l:=l) h.right]
 | v :: l,t :: ts,h=>by simp only [EH,ZG h.left,ZH (l:=l) h.right]
theorem uV {o o':Store} {all:List Nat} {v:V} (h:Agree o o' (DG v)):D0 o' all v=D0 o all v:=by
 cases v <;> simp only [D0]
 rw [h _ (by simp [DG])]
theorem lX {o o':Store} {all:List Nat}:∀ {l:List V},Agree o o' (DY l)→l.map (D0 o' all)=l.map (D0 o all)
 | [],_=>rfl
 | v :: l,h=>by simp only [A6,uV h.left,lX (l:=l) h.right]
theorem kK {o o':Store} {all:List Nat}:∀ {l:List V},Agree o o' (DY l)→EY o' all l=EY o all l
 | [],_=>rfl
 | v :: l,h=>by
  have ih:=kK (all:=all) (l:=l) h.right;cases v <;> simp only [EY,ih]
  rw [h.left _ (by simp [DG])]
theorem oV {o o':Store} {all:List Nat}:∀ {l:List V},Agree o o' (DY l)→FF o' all l=FF o all l
 | [],_=>rfl
 | v :: l,h=>by
  have ih:=oV (all:=all) (l:=l) h.right;cases v <;> simp only [FF,ih]
  rw [h.left _ (by simp [DG])]
theorem Ni {v:V} {n:Nat} (h:n∈HE v):n∈DN v:=by
 cases v <;> simp only [HE] at h <;> try (cases h; done)
 case row=>simpa [DN,DG] using h
 case agg=>exact P9 h
 case clo=>exact RT (P9 h)
 case tup l=>
  simp only [DN]
  induction l with
  | nil=>simp [HE.go] at h
  | cons v r ih=>
   cases v <;> simp only [HE.go,DN.go,AR,AW] at h ⊢ <;> first | exact .inr (ih h) | skip
   ·rcases h with h | h
    ·exact .inl (by simp [DG,h])
    ·exact .inr (ih h)
   ·rcases h with h | h
    ·exact .inl (P9 h)
    ·exact .inr (ih h)
theorem eS:∀ {l:List V} {n:Nat},n∈DK l→n∈EZ l
 | v :: l,n,h=>by
  simp only [DK,EZ,AW] at h ⊢;exact h.imp Ni eS
theorem U2:∀ {l:List V} {n:Nat},n∈DW l→n∈EZ l
 | v :: l,n,h=>by
  simp only [EZ,AW];cases v <;> simp only [DW,AR,AW] at h <;> first | exact .inr (U2 h) | skip
  ·rcases h with h | h
   ·exact .inl (by simp [DN,DG,h])
   ·exact .inr (U2 h)
  ·rename_i f caps;rcases h with h | h
   ·refine .inl ?_;simp only [DN];refine RT ?_;clear U2
    induction caps with
    | nil=>simp [DW.lentC] at h
    | cons v r ih=>
     simp only [DY,AW];cases v <;> simp only [DW.lentC,AR] at h <;> first | exact .inr (ih h) | skip
     rcases h with h | h
     ·exact .inl (by simp [DG,h])
     ·exact .inr (ih h)
   ·exact .inr (U2 h)
theorem uS {o o':Store} {v:V} (h:Agree o o' (DG v)):H7 o' v=H7 o v:=by
 by_cases hp:∃ n i c,v = .ptr n i c
 ·obtain ⟨n,i,c,rfl⟩:=hp;simp only [H7];rw [h _ (by simp [DG])]
 ·have h1:∀ o,H7 o v=FK (DH o [] none v):=by
   intro o;cases v <;> first | rfl | exact absurd ⟨_,_,_,rfl⟩ hp
  rw [h1,h1,UD h]
theorem lW {o o':Store}:∀ {l:List V},Agree o o' (DY l)→l.map (H7 o')=l.map (H7 o)
 | [],_=>rfl
 | v :: l,h=>by simp only [A6,uS h.left,lW (l:=l) h.right]
theorem fI {o o':Store} {ks:List Kd} {v:V} (h:Agree o o' (DN v)):IO o' ks v=IO o ks v:=by
 by_cases hc:(∃ f l,v = .clo f l)∨(∃ n i c,v = .ptr n i c)
 ·rcases hc with ⟨f,l,rfl⟩ | ⟨n,i,c,rfl⟩
  ·simp only [IO,lW (o:=o) (o':=o') (l:=l) (fun n hn=>h n (RT hn))]
  ·rfl
 ·have h1:∀ o,IO o ks v=GL o [] ks v:=by
   intro o;cases v <;> first | rfl | exact absurd (.inl ⟨_,_,rfl⟩) hc | exact absurd (.inr ⟨_,_,_,rfl⟩) hc
  rw [h1,h1,ZG h]
theorem ZD {o o':Store}:∀ {l:List V} {tks:List (List Kd)},Agree o o' (EZ l)→G4 o' tks l=G4 o tks l
 | [],tks,_=>by cases tks <;> rfl
 | v :: l,[],h=>by simp only [G4,fI h.left,ZD (l:=l) h.right]
 | v :: l,t :: ts,h=>by simp only [G4,fI h.left,ZD (l:=l) h.right]
theorem i4 {o o':Store} {d:Nat} {tks:List (List Kd)} {sp:C2} {vs:List V} (h:Agree o o' (EZ vs++HK o (EZ vs))):NR o' d tks sp vs=NR o d tks sp vs:=by
 have hA:∀ bs,EH o' bs tks vs=EH o bs tks vs:=fun bs=>ZH h.left
 have hF:∀ l,(∀ n∈l,n∈EZ vs++HK o (EZ vs))→DI o' l=DI o l:=fun l hl=>UQ (fun n hn=>h n (hl n hn))
 have hFv:DI o' (DK vs)=DI o (DK vs):=hF _ (fun n hn=>vaJ _ (eS hn));have hF0:DI o' []=DI o []:=rfl;have hPl:UA o' d vs=UA o d vs:=by
  funext v out
  unfold UA;split
  ·split
   ·rename_i cs;cases FQ cs <;> simp only [hFv,hF0]
   ·simp only [hFv]
   ·cases FS v <;> simp only [hFv,hF0]
  ·rfl
 unfold NR;simp only [hA,hPl];split
 ·rfl
 ·rename_i n hl;have hn:n∈EZ vs:=U2 (by rw [hl]; exact AS ..);rw [h n (vaJ _ hn)];split
  ·rename_i cs ho;have hcs:Agree o o' (DY cs):=fun m hm=>h m (vaD _ (PJ hn ho hm))
   have hsh:∀ m∈FF o (DQ cs++DK vs) cs,m∈EZ vs++HK o (EZ vs):=by
    intro m hm;obtain ⟨lo,hi,_,_,_,_,_,h1,_⟩:=YG hm;exact vaD _ (PJ hn ho (P9 (PY h1)))
   have hBx:T9 o' d n cs vs=T9 o d n cs vs:=by
    funext v outs
    unfold T9;rw [kK hcs,oV hcs];split
    ·rename_i out;have h1:DI o' (FF o (DQ cs++DK vs) cs++DK vs)=DI o (FF o (DQ cs++DK vs) cs++DK vs):=hF _ (fun m hm=>(AW.1 hm).elim (hsh m) (fun hm=>vaJ _ (eS hm)));have h2:DI o' (FF o (DQ cs++DK vs) cs++[])=DI o (FF o (DQ cs++DK vs) cs++[]):=hF _ (fun m hm=>hsh m (by simpa using hm));cases (FS v||FQ out) <;> simp only [h1,h2]
    ·rfl
   rw [lX hcs,hBx]
  ·have hBd:T8 o' n vs=T8 o n vs:=by
    funext v outs
    unfold T8;split
    ·cases FS v <;> simp only [hFv,hF0]
    ·rfl
   rw [hBd]
  ·rfl
 ·rw [ZD h.left]
theorem kW {o o':Store} {l:List V} (h:Agree o o' (EZ l)):PQ o' l=PQ o l:=by
 unfold PQ;split
 ·rfl
 ·rename_i f m i c;rw [h m (by simp [EZ,DN,DN.go,DG])]
 ·rfl
theorem Bc {o o':Store} {d:Option Nat} {p:Ip} {vs:List V} (h:Agree o o' (EZ vs)):Q9 o' d p vs=Q9 o d p vs:=by
 unfold Q9;split
 ·rename_i n lo hi rest;rw [h n (by simp [EZ,DN,DG]),kW (fun k hk=>h k (by simp only [EZ,AW]; exact .inr hk))]
 ·rename_i rest;rw [kW (fun k hk=>h k (by simp only [EZ,AW]; exact .inr hk))]
 ·rfl
theorem cV:∀ (cs:List V) (n:Nat) (vs:List V) {m:Nat},m∈DY (EW cs n vs)→m∈DY cs∨m∈DY vs
 | cs,n,[],m,h=>by cases cs <;> cases n <;> exact .inl h
 | [],n,v :: vs,m,h=>by cases n <;> simp [EW,DY] at h
 | c :: r,0,v :: vs,m,h=>by
  simp only [EW,DY,AW] at h ⊢;rcases h with h | h
  ·exact .inr (.inl h)
  ·rcases cV r 0 vs h with h | h
   ·exact .inl (.inr h)
   ·exact .inr (.inr h)
 | c :: r,n+1,v :: vs,m,h=>by
  simp only [EW,DY,AW] at h ⊢;rcases h with h | h
  ·exact .inl (.inl h)
  ·rcases cV r n (v :: vs) h with h | h
   ·exact .inl (.inr h)
   ·exact .inr (by simpa [DY] using h)
theorem jB {v:V} {m:Nat} (h:m∈DY (cells v)):m∈DN v:=by
 by_cases ha:∃ l,v = .agg l
 ·obtain ⟨l,rfl⟩:=ha;exact h
 ·have:cells v=[v]:=by cases v <;> first | rfl | exact absurd ⟨_,rfl⟩ ha
  rw [this] at h;exact J0 (by simpa [DY] using h)
theorem RU {l:List V} {v:V} {n:Nat} (hv:v∈l) (hn:n∈DN v):n∈EZ l:=by
 induction l with
 | nil=>cases hv
 | cons u r ih=>
  simp only [EZ,AW];rcases AR.1 hv with h | h
  ·subst h; exact .inl hn
  ·exact .inr (ih h)
theorem kA {o:Store} {place:Nat→Option (Nat × Nat)}:∀ {l:List (Nat × V)} {cs cs':List V},H8 o place cs l=some cs'→∀ m∈DY cs',m∈DY cs∨∃ i v,(i,v)∈l∧m∈DN v
 | [],cs,cs',h,m,hm=>by
  simp only [H8,AB] at h;subst h;exact .inl hm
 | (i,v) :: r,cs,cs',h,m,hm=>by
  simp only [H8] at h;split at h
  ·split at h
   ·rcases kA h m hm with h1 | ⟨j,u,h1,h2⟩
    ·rcases cV _ _ _ h1 with h2 | h2
     ·exact .inl h2
     ·exact .inr ⟨i,v,AS ..,jB h2⟩
    ·exact .inr ⟨j,u,AY _ h1,h2⟩
   ·cases h
  ·cases h
theorem nX {z:List V}:∀ {n m:Nat},m∈DY (K5 z n)→m∈DY z
 | 0,m,h=>by simp [K5,DY] at h
 | n+1,m,h=>by
  simp only [K5,nQ,AW] at h;exact h.elim id (nX (n:=n))
theorem cE (ρ:Operand→V):∀ {l:List (Nat × Operand)} {i:Nat} {v:V},(i,v)∈HV ρ l→v∈(l.map (·.2)).map ρ
 | (j,x) :: r,i,v,h=>by
  simp only [HV,AR,AL] at h;simp only [A6,AR];rcases h with ⟨_,rfl⟩ | h
  ·exact .inl rfl
  ·exact .inr (cE ρ h)
theorem nS:∀ {l:List V} {n:Nat},n∈EZ l→∃ v∈l,n∈DN v
 | v :: r,n,h=>by
  simp only [EZ,AW] at h;rcases h with h | h
  ·exact ⟨v,AS ..,h⟩
  ·obtain ⟨u,h1,h2⟩:=nS h;exact ⟨u,AY _ h1,h2⟩
theorem Z2 {o:Store} {m:Nat}:∀ {l:List Nat},m∈HK o l→∃ n∈l,∃ cs,CT o n=some (.box cs)∧m∈DY cs
 | n :: r,h=>by
  simp only [HK] at h;split at h
  ·rename_i cs ho;rcases AW.1 h with h | h
   ·exact ⟨n,AS ..,cs,ho,h⟩
   ·obtain ⟨k,h1,h2⟩:=Z2 h;exact ⟨k,AY _ h1,h2⟩
  ·obtain ⟨k,h1,h2⟩:=Z2 h;exact ⟨k,AY _ h1,h2⟩
theorem jQ {o:Store} {l l':List Nat} (hs:∀ k∈l,k∈l') {n:Nat} (h:n∈HK o l):n∈HK o l':=by
 obtain ⟨k,h1,cs,h2,h3⟩:=Z2 h;exact PJ (hs k h1) h2 h3
theorem i7 {v:V} {n:Nat}:∀ {l:List V},PG l=true→v∈l→n∈DN v→n∈DN.go l
 | u :: r,hok,hv,hn=>by
  rcases AR.1 hv with h | h
  ·subst h;cases v <;> simp only [PG] at hok <;> first | (cases hok; done) | (simp only [DN,DG] at hn; simp only [DN.go,DG,AW]; first | exact .inl hn | (cases hn; done))
  ·have hr:PG r=true:=by cases u <;> simp only [PG] at hok <;> first | exact hok | (cases hok; done)
   have:=i7 hr h hn
   cases u <;> simp only [DN.go,AW] <;> exact .inr this
theorem j5 {E:Env} {o o':Store} {ρ:Operand→V} {d:Option Nat} {op:Op} (h:Agree o o' (JF E o ρ op)):C3 E o' ρ d op=C3 E o ρ d op:=by
 cases hq:nL op with
 | true=>cases op <;> first | rfl | cases hq
 | false=>
 unfold JF at h;rw [hq] at h;replace h:Agree o o' (X9 E o ρ op):=h;unfold X9 at h;have hz:=h.left.right;have hd:=h.right;have hv:=h.left.left;clear h;have one:∀ {x:Operand} {n:Nat},x∈op.operands.toList→n∈DN (ρ x)→CT o' n=CT o n:=fun hx hn=>hv _ (RU (vaO hx) hn)
 have two:∀ {x:Operand} {n:Nat} {cs:List V},x∈op.operands.toList→n∈DN (ρ x)→CT o n=some (.box cs)→Agree o o' (DY cs):=fun hx hn ho m hm=>hd _ (PJ (RU (vaO hx) hn) ho hm)
 cases op
 case box t x=>
  simp only [C3];rw [b9 (fun n hn=>one (x:=x) (by simp [BK]) (J0 hn))]
 case build t parts=>
  have hp:∀ i v,(i,v)∈HV ρ parts.toList→Agree o o' (DN v):=fun i v hm n hn=>hv _ (RU (by have:=cE ρ hm; simpa [BK] using this) hn)
  simp only [C3,aH hp]
 case buildSlice t len parts=>
  have hp:∀ i v,(i,v)∈HV ρ parts.toList→Agree o o' (DN v):=fun i v hm n hn=>hv _ (RU (by have:=cE ρ hm; simpa [BK] using this) hn)
  simp only [C3];split
  ·rename_i d e hd1;simp only [e8,hd1] at hz;rw [aH hp];split
   ·rename_i cs hf;have hcs:Agree o o' (DY cs):=by
     intro m hm;rcases kA hf m hm with h1 | ⟨i,v,h1,h2⟩
     ·exact hz m (nX h1)
     ·exact hp i v h1 m h2
    rw [WI hcs,UQ (fun m hm=>hcs m (P9 hm))]
   ·rfl
  ·rfl
 case load t x=>
  simp only [C3];split
  ·rename_i n i c hx;rw [one (x:=x) (by simp [BK]) (by rw [hx]; simp [DN,DG])]
  ·rfl
  ·rfl
 case nilCheck x=>
  simp only [C3];split
  ·rename_i n i c hx;rw [one (x:=x) (by simp [BK]) (by rw [hx]; simp [DN,DG])]
  ·rfl
 case fieldAddr s x f=>
  simp only [C3];split
  ·split
   ·split
    ·rename_i n i c hx;rw [one (x:=x) (by simp [BK]) (by rw [hx]; simp [DN,DG])]
    ·rfl
    ·rfl
   ·rfl
  ·rfl
 case binOp op t x y t'=>
  simp only [C3];unfold WE;split <;> try rfl
  rename_i n i c hx hy;rw [one (x:=x) (by simp [BK]) (by rw [hx]; simp [DN,DG])]
 case convert s t x=>
  simp only [C3];split <;> try rfl
  rw [jT (fun n hn=>one (x:=x) (by simp [BK]) (J0 hn)),oU (fun n hn=>one (x:=x) (by simp [BK]) (J0 hn))]
 case slice t x lo hi mx=>
  simp only [C3];split <;> try rfl
  ·rename_i n a b hx;rw [one (x:=x) (by simp [BK]) (by rw [hx]; simp [DN,DG])]
  ·rename_i n a c hx;rw [one (x:=x) (by simp [BK]) (by rw [hx]; simp [DN,DG])]
 case indexAddr t x ix=>
  simp only [C3];split
  ·split
   ·rfl
   ·rename_i n lo hi hx;rw [one (x:=x) (by simp [BK]) (by rw [hx]; simp [DN,DG])]
   ·rename_i n c cap sz len hx;rw [one (x:=x) (by simp [BK]) (by rw [hx]; simp [DN,DG])]
   ·rfl
  ·split
   ·rename_i n i0 c hx;rw [one (x:=x) (by simp [BK]) (by rw [hx]; simp [DN,DG])]
   ·rfl
   ·rfl
  ·rfl
 case store t p x=>
  simp only [C3];have hx:Agree o o' (DN (ρ x)):=fun n hn=>one (x:=x) (by simp [BK]) hn
  have hc:Agree o o' (DY (cells (ρ x))):=fun n hn=>hx n (jB hn)
  unfold K9;split
  ·rename_i n i c hp;rw [one (x:=p) (by simp [BK]) (by rw [hp]; simp [DN,DG]),b9 (fun n hn=>hx n (J0 hn)),b5 hc,UQ (fun m hm=>hc m (P9 hm))];simp only [U1 hc]
  ·rfl
 case makeSlice t n m=>
  simp only [C3];split
  ·rename_i d e k1 n1 k2 m1 hd1 _ _;simp only [e8,hd1] at hz;rw [WI hz];split
   ·rw [UQ (fun m hm=>hz m (P9 hm))]
   ·rfl
  ·rfl
 case makeMap t r=>rfl
 case insert t m k x=>
  simp only [C3];split <;> try rfl
  rename_i n i c z e k' hm _ _;rw [one (x:=m) (by simp [BK]) (by rw [hm]; simp [DN,DG])];simp only [XE (fun n hn=>one (x:=x) (by simp [BK]) (J0 hn))]
 case mapUpdate t m k x=>
  simp only [C3];split <;> try rfl
  rename_i n i c z e k' hm _ _;rw [one (x:=m) (by simp [BK]) (by rw [hm]; simp [DN,DG])];simp only [XE (fun n hn=>one (x:=x) (by simp [BK]) (J0 hn))]
 case lookup t m k ok=>
  simp only [C3];split <;> try rfl
  rename_i n i c z e k' hm _ _;rw [one (x:=m) (by simp [BK]) (by rw [hm]; simp [DN,DG])]
 case mapEntry t m k=>
  simp only [C3];split <;> try rfl
  rename_i n i c z e k' hm _ _;rw [one (x:=m) (by simp [BK]) (by rw [hm]; simp [DN,DG])]
 case entryStore t m k x=>
  simp only [C3];split <;> try rfl
  rename_i n i c z hm _;rw [one (x:=m) (by simp [BK]) (by rw [hm]; simp [DN,DG])];simp only [XE (fun n hn=>one (x:=x) (by simp [BK]) (J0 hn))]
 case range t x=>
  simp only [C3];split <;> try rfl
  rename_i n i c d e k' hm _;rw [one (x:=x) (by simp [BK]) (by rw [hm]; simp [DN,DG])]
 case entry x=>
  simp only [C3];split <;> try rfl
  rename_i n i c hm;rw [one (x:=x) (by simp [BK]) (by rw [hm]; simp [DN,DG])]
 case call c=>
  obtain ⟨callee,args,ats⟩:=c;simp only [C3,MS];have hmem:∀ {x:Operand},x∈args.toList→x∈(Op.call ⟨callee,args,ats⟩).operands.toList:=fun {x} hx=>by
   simp only [BK,Call.operands,vaA,AW];exact .inr hx
  have harg:∀ {x:Operand},x∈args.toList→Agree o o' (DN (ρ x)):=fun {x} hx n hn=>one (x:=x) (hmem hx) hn
  have hdp:∀ {x:Operand},x∈args.toList→Agree o o' (DG (ρ x)++HK o (DG (ρ x))):=fun {x} hx n hn=>by
   rcases AW.1 hn with hn | hn
   ·exact harg hx n (J0 hn)
   ·refine hd n (jQ (fun k hk=>RU (vaO (hmem hx)) (J0 hk)) hn)
  have hsub:∀ (l:List V),(∀ v∈l,∃ y∈(Op.call ⟨callee,args,ats⟩).operands.toList,∀ n∈DN v,n∈DN (ρ y))→Agree o o' (EZ l++HK o (EZ l)):=by
   intro l hl n hn;have h1:∀ k∈EZ l,k∈EZ ((Op.call ⟨callee,args,ats⟩).operands.toList.map ρ):=by
    intro k hk;obtain ⟨v,hv1,hv2⟩:=nS hk;obtain ⟨y,hy1,hy2⟩:=hl v hv1;exact RU (vaO hy1) (hy2 k hv2)
   rcases AW.1 hn with hn | hn
   ·exact hv n (h1 n hn)
   ·exact hd n (jQ h1 hn)
  split
  ·split
   ·rename_i x t hx _;have hxm:x∈args.toList:=by rw [hx]; simp
    have:=hdp hxm
    unfold XI;split <;> try rfl
    ·rename_i n lo hi hr;rw [this.left n (by rw [hr]; simp [DG])]
    ·rename_i n c cap sz len hr;rw [this.left n (by rw [hr]; simp [DG])]
   ·rfl
  ·split
   ·rename_i s x t t' hx _;have hsm:s∈args.toList:=by rw [hx]; simp
    have hxm:x∈args.toList:=by rw [hx]; simp
    simp only [t5 (hdp hsm).left (hdp hxm),t7 (hdp hsm).left]
   ·rfl
  ·split
   ·rename_i x y t t' hx _;have hxm:x∈args.toList:=by rw [hx]; simp
    have hym:y∈args.toList:=by rw [hx]; simp
    unfold WL;split
    ·rename_i n c cap sz len n' c' cap' sz' len' h1 h2;rw [(hdp hxm).left n (by rw [h1]; simp [DG]),(hdp hym).left n' (by rw [h2]; simp [DG])];split
     ·rename_i cs cs' e ho ho' hde;rw [b5 (o:=o) (o':=o') (l:=cs') (fun m hm=>(hdp hym).right m (PJ (by rw [h2]; simp [DG]) ho' hm))]
     ·rfl
    ·rfl
   ·rfl
  ·rfl
  ·rfl
  ·rename_i f d hcal;have hs:=hsub (args.toList.map ρ) (fun v hv=>by
    obtain ⟨y,hy,rfl⟩:=List.mem_map.1 hv;exact ⟨y,hmem hy,fun n hn=>hn⟩)
   unfold ZP;rw [U7];split
   ·rw [Bc hs.left]
   ·split
    ·rw [i4 hs]
    ·rfl
  ·split
   ·rename_i f caps hx;split
    ·rename_i hok;rw [U7,i4 (hsub _ (fun v hv=>by
      rcases AW.1 hv with hv | hv
      ·obtain ⟨y,hy,rfl⟩:=List.mem_map.1 hv;exact ⟨y,hmem hy,fun n hn=>hn⟩
      ·refine ⟨_,by simp only [BK,Call.operands,vaA,AW]; exact .inl (AS ..),fun n hn=>?_⟩;rw [hx];simp only [DN];exact i7 hok hv hn))]
    ·rfl
   ·rfl
  ·rfl
 case makeFunc f a b=>cases f <;> rfl
 all_goals rfl
open Go Go.RowKit
theorem cC {ρ ρ':Operand→V}:∀ {l:List (Nat × Operand)},(∀ x∈l.map (·.2),ρ x=ρ' x)→HV ρ l=HV ρ' l
 | [],_=>rfl
 | (i,x) :: r,h=>by
  simp only [HV,h x (by simp),cC (l:=r) (fun y hy=>h y (AY _ hy))]
theorem bP {ρ ρ':Operand→V}:∀ {l:List Operand},(∀ x∈l,ρ x=ρ' x)→G0 ρ l=G0 ρ' l
 | [],_=>rfl
 | x :: r,h=>by simp only [G0,h x (AS ..),bP (l:=r) (fun y hy=>h y (AY _ hy))]
theorem mO {ρ ρ':Operand→V} {x:Option Operand} (h:∀ y∈x.toArray.toList,ρ y=ρ' y):x.map ρ=x.map ρ':=by
 cases x with
 | none=>rfl
 | some x=>simp only [vae,h x (by simp)]
theorem vT {E:Env} {o:Store} {ρ ρ':Operand→V} {d:Option Nat} {op:Op} (h:∀ x∈op.operands.toList,ρ x=ρ' x):C3 E o ρ d op=C3 E o ρ' d op:=by
 cases op
 case build t ps=>simp only [C3,cC (l:=ps.toList) (fun x hx=>h x (by simpa [BK] using hx))]
 case buildSlice t n ps=>simp only [C3,cC (l:=ps.toList) (fun x hx=>h x (by simpa [BK] using hx))]
 case makeFunc f first caps=>
  cases f <;> simp only [C3]
  rw [bP (l:=caps.toList) (fun x hx=>h x (by simp only [BK,vaA,AW]; exact .inr hx))]
 case slice t x lo hi mx=>
  have h1:ρ x=ρ' x:=h x (by simp [BK]);have h2:lo.map ρ=lo.map ρ':=mO (fun y hy=>h y (by simp only [BK,vaA,AW]; exact .inl (.inl (.inr hy))));have h3:hi.map ρ=hi.map ρ':=mO (fun y hy=>h y (by simp only [BK,vaA,AW]; exact .inl (.inr hy)));simp only [C3,h1,h2,h3]
 case call c=>
  obtain ⟨callee,args,ats⟩:=c;have ha:∀ x∈args.toList,ρ x=ρ' x:=fun x hx=>h x (by simp only [BK,Call.operands,vaA,AW]; exact .inr hx)
  have hm:G0 ρ args.toList=G0 ρ' args.toList:=bP ha;simp only [C3,MS];split
  ·split
   ·rename_i x t hx _;rw [ha x (by rw [hx]; simp)]
   ·rfl
  ·split
   ·rename_i s x t t' hx _;rw [ha s (by rw [hx]; simp),ha x (by rw [hx]; simp)]
   ·rfl
  ·split
   ·rename_i x y t t' hx _;rw [ha x (by rw [hx]; simp),ha y (by rw [hx]; simp)]
   ·rfl
  ·simp only [hm]
  ·simp only [hm]
  ·simp only [hm]
  ·rename_i x _ _;have hxx:ρ x=ρ' x:=h x (by simp [BK,Call.operands]);simp only [hm,hxx]
  ·rfl
 all_goals first
  | rfl
  | (simp only [BK] at h; simp only [C3]; simp (config:={decide:=false}) only [AR,List.not_mem_nil,or_false,forall_eq_or_imp,forall_eq] at h; simp only [h])
structure SEq (s s':St):Prop where
 t:∀ i,s.get i=s'.get i
 o:∀ n,CT s.o n=CT s'.o n
theorem SEq.refl (s:St):SEq s s:=⟨fun _=>rfl,fun _=>rfl⟩
theorem SEq.symm {s s':St} (h:SEq s s'):SEq s' s:=⟨fun i=>(h.t i).symm,fun n=>(h.o n).symm⟩
theorem SEq.trans {a b c:St} (h:SEq a b) (k:SEq b c):SEq a c:=⟨fun i=>(h.t i).trans (k.t i),fun n=>(h.o n).trans (k.o n)⟩
theorem SEq.opd {s s':St} (h:SEq s s'):opd s=opd s':=by
 funext x
 cases x <;> simp only [FM.opd,h.t]
theorem SEq.put {s s':St} (h:SEq s s') (d:Option Nat) (v:V):SEq (s.put d v) (s'.put d v):=by
 cases d with
 | none=>exact h
 | some d=>exact ⟨fun i=>by simp only [St.put,St.get,LN]; split <;> first | rfl | exact h.t i,h.o⟩
theorem xW (s:St) (d:Nat) (v:V) (i:Nat):(s.put (some d) v).get i=if d=i then v else s.get i:=by simp only [St.put,St.get,LN]
theorem SEq.up {s s':St} (h:SEq s s') (u:Upd):SEq (s.up u) (s'.up u):=by
 cases u with
 | new n ob=>exact ⟨fun i=>by rw [US,US,h.t],fun m=>by rw [EK,EK,h.o]⟩
 | set n ob=>exact ⟨h.t,fun m=>by simp only [St.up,DE,h.o]⟩
 | kill n=>exact ⟨h.t,fun m=>by simp only [St.up,DE,h.o]⟩
theorem SEq.ups:∀ {us:List Upd} {s s':St},SEq s s'→SEq (s.ups us) (s'.ups us)
 | [],_,_,h=>h
 | u :: r,_,_,h=>SEq.ups (us:=r) (h.up u)
theorem SEq.lit {s:St} {j:Nat} {b:Bool} (h:s.get j = .bool b):SEq s (JD s j b):=
 ⟨fun i=>by
  simp only [JD,St.get,LN];split
  ·rename_i e; subst e; exact h
  ·rfl,fun _=>rfl⟩
theorem YZ:∀ {us:List Upd} {o o':Store},(∀ n,CT o n=CT o' n)→∀ n,CT (GV us o) n=CT (GV us o') n
 | [],_,_,h=>h
 | .set m ob :: r,o,o',h=>YZ (us:=r) (fun n=>by rw [DE,DE,h])
 | .new m ob :: r,o,o',h=>YZ (us:=r) (fun n=>by rw [DE,DE,h])
 | .kill m :: r,o,o',h=>YZ (us:=r) (fun n=>by rw [DE,DE,h])
theorem OE:∀ {us:List Upd} {o:Store} {n:Nat},n ∉ F2 us→CT (GV us o) n=CT o n
 | [],_,_,_=>rfl
 | .set m ob :: r,o,n,h=>by
  simp only [F2,AR,not_or] at h;rw [GV,OE h.2,DE,A7 (fun e=>h.1 e.symm)]
 | .new m ob :: r,o,n,h=>by
  simp only [F2,AR,not_or] at h;rw [GV,OE h.2,DE,A7 (fun e=>h.1 e.symm)]
 | .kill m :: r,o,n,h=>by
  simp only [F2,AR,not_or] at h;rw [GV,OE h.2,DE,A7 (fun e=>h.1 e.symm)]
theorem eM:∀ {us:List Upd} {o o':Store} {n:Nat},n∈F2 us→CT (GV us o) n=CT (GV us o') n
 | [],_,_,_,h=>by simp [F2] at h
 | u :: r,o,o',n,h=>by
  by_cases hr:n∈F2 r
  ·cases u <;> simp only [GV] <;> exact eM hr
  ·cases u <;> simp only [F2,AR,hr,or_false] at h <;> subst h <;> simp only [GV] <;> rw [OE hr,OE hr,DE,DE,B1 rfl,B1 rfl]
theorem SEq.apD {s s':St} (h:SEq s s') (x:Dn):SEq (apD s x) (apD s' x):=⟨(h.put x.dst x.v).t,YZ h.o⟩
theorem SEq.apDs:∀ {l:List Dn} {s s':St},SEq s s'→SEq (apDs s l) (apDs s' l)
 | [],_,_,h=>h
 | x :: r,_,_,h=>SEq.apDs (l:=r) (h.apD x)
theorem ZB:∀ (l l':List Dn) (s:St),apDs s (l++l')=apDs (apDs s l) l'
 | [],_,_=>rfl
 | x :: r,l',s=>ZB r l' (apD s x)
theorem lJ {n:Nat} {v:V} (hc:Q0 v=true) (hn:n ∉ DG v):ED.leaf n v=v:=by
 cases v <;> simp only [Q0] at hc <;> first | (cases hc; done) | rfl | skip
 ·simp only [DG,vaz] at hn;simp only [ED.leaf,FW.2 (fun e=>hn e.symm)]
 ·simp only [DG,vaz] at hn;simp only [ED.leaf,FW.2 (fun e=>hn e.symm)]
theorem XG {n:Nat}:∀ {l:List V},Q1 l=true→n ∉ DY l→l.map (ED.leaf n)=l
 | [],_,_=>rfl
 | v :: r,hc,hn=>by
  simp only [Q1] at hc;split at hc
  ·rename_i h1;simp only [DY,AW,not_or] at hn;simp only [A6,lJ h1 hn.1,XG hc hn.2]
  ·cases hc
theorem bE {n:Nat}:∀ {l:List V},KY.go l=true→n ∉ DN.go l→l.map (ED.leaf2 n)=l
 | [],_,_=>rfl
 | v :: r,hc,hn=>by
  by_cases ha:∃ l,v = .agg l
  ·obtain ⟨l,rfl⟩:=ha;simp only [KY.go] at hc;split at hc
   ·rename_i h1;simp only [DN.go,AW,not_or] at hn;simp only [A6,ED.leaf2,XG h1 hn.1,bE hc hn.2]
   ·cases hc
  ·have h0:ED.leaf2 n v=ED.leaf n v:=by cases v <;> first | rfl | exact absurd ⟨_,rfl⟩ ha
   have h1:Q0 v=true∧KY.go r=true:=by
    cases v <;> simp only [KY.go,Q0] at hc ⊢ <;> first | (simp at hc; done) | (simpa using hc) | (cases hc; done) | exact absurd ⟨_,rfl⟩ ha
   have h2:n ∉ DG v∧n ∉ DN.go r:=by
    cases v <;> simp only [DN.go,AW,not_or] at hn <;> first | exact hn | exact absurd ⟨_,rfl⟩ ha
   simp only [A6,h0,lJ h1.1 h2.1,bE h1.2 h2.2]
theorem oP {n:Nat} {v:V} (hc:KY v=true) (hn:n ∉ DN v):ED n v=v:=by
 cases v <;> simp only [KY] at hc <;> first | rfl | skip
 case row a b c=>simp only [DN,DG,vaz] at hn; simp only [ED,FW.2 (fun e=>hn e.symm)]
 case ptr a b c=>simp only [DN,DG,vaz] at hn; simp only [ED,FW.2 (fun e=>hn e.symm)]
 case bview a b c d e=>simp only [DN,DG,vaz] at hn; simp only [ED,FW.2 (fun e=>hn e.symm)]
 case agg l=>simp only [ED,XG hc hn]
 case tup l=>simp only [ED,bE hc hn]
 case clo f l=>
  have:n ∉ DY l:=fun h=>hn (RT h)
  simp only [ED,XG hc this]
theorem oQ {n:Nat}:∀ {l:List V},WJ l=true→n ∉ EZ l→l.map (ED n)=l
 | [],_,_=>rfl
 | v :: r,hc,hn=>by
  simp only [WJ] at hc;split at hc
  ·rename_i h1;simp only [EZ,AW,not_or] at hn;simp only [A6,oP h1 hn.1,oQ hc hn.2]
  ·cases hc
theorem YE {n:Nat} {ob:Ob} (hc:ZU ob=true) (hn:n ∉ VM ob):E0 n (some ob)=some ob:=by
 cases ob with
 | box cs=>simp only [E0,oQ hc hn]
 | row _ _ _ _ _=>rfl
 | bld _=>rfl
 | map _ _=>rfl
 | iter _ _ _=>rfl
theorem mR {p:Nat→Bool} {n:Nat} (hp:p n=true) (v:V):ED.leaf n (ER.leaf p v)=ER.leaf p v:=by
 cases v <;> simp only [ER.leaf] <;> first | rfl | skip
 all_goals
  rename_i m _ _;cases hm:p m with
  | true=>rfl
  | false=>
   simp only [ED.leaf];rw [FW.2 (fun e=>by subst e; rw [hp] at hm; cases hm)]
theorem X5 {p:Nat→Bool} {n:Nat} (hp:p n=true):∀ (l:List V),(ER.go p l).map (ED.leaf n)=ER.go p l
 | []=>rfl
 | v :: r=>by simp only [ER.go,A6,mR hp,X5 hp r]
theorem Hn {p:Nat→Bool} {n:Nat} (hp:p n=true) (v:V):ED.leaf2 n (ER.leaf2 p v)=ER.leaf2 p v:=by
 by_cases ha:∃ l,v = .agg l
 ·obtain ⟨l,rfl⟩:=ha;simp only [ER.leaf2,ED.leaf2,X5 hp]
 ·have h0:ER.leaf2 p v=ER.leaf p v:=by cases v <;> first | rfl | exact absurd ⟨_,rfl⟩ ha
  rw [h0]
  have:=mR hp v
  cases hx:ER.leaf p v <;> rw [hx] at this <;> first | exact this | skip
  exfalso;cases v <;> simp only [ER.leaf] at hx <;> try (cases hx; done)
  all_goals (split at hx <;> cases hx)
theorem mT {p:Nat→Bool} {n:Nat} (hp:p n=true):∀ (l:List V),(ER.go2 p l).map (ED.leaf2 n)=ER.go2 p l
 | []=>rfl
 | v :: r=>by simp only [ER.go2,A6,Hn hp,mT hp r]
theorem mV {p:Nat→Bool} {n:Nat} (hp:p n=true) (v:V):ED n (ER p v)=ER p v:=by
 have key:∀ m,p m=false→AZ m n=false:=fun m hm=>FW.2 (fun e=>by subst e; rw [hp] at hm; cases hm)
 cases v <;> simp only [ER] <;> try rfl
 case row m _ _=>cases hm:p m <;> simp only [ED,key m,hm]
 case ptr m _ _=>cases hm:p m <;> simp only [ED,key m,hm]
 case bview m _ _ _ _=>cases hm:p m <;> simp only [ED,key m,hm]
 case agg l=>simp only [ED,X5 hp]
 case tup l=>simp only [ED,mT hp]
 case clo f l=>simp only [ED,X5 hp]
theorem XO (f:V→V):∀ l,HQ.mapV f l=l.map f
 | []=>rfl
 | v :: r=>by simp only [HQ.mapV,A6,XO f r]
theorem Hp {p:Nat→Bool} {n:Nat} (hp:p n=true) (x:Option Ob):E0 n (HQ p x)=HQ p x:=by
 match x with
 | none=>rfl
 | some (.row _ _ _ _ _)=>rfl
 | some (.bld _)=>rfl
 | some (.map _ _)=>rfl
 | some (.iter _ _ _)=>rfl
 | some (.box cs)=>
  simp only [HQ,E0,XO,List.map_map];congr 2;exact List.map_congr_left (fun v _=>mV hp v)
structure Fr (n:Nat) (s:St):Prop where
 t:∀ i,ED n (s.get i)=s.get i
 o:∀ m,E0 n (CT s.o m)=CT s.o m
theorem Fr.congr {n:Nat} {s s':St} (h:Fr n s) (e:SEq s s'):Fr n s':=⟨fun i=>by rw [← e.t]; exact h.t i,fun m=>by rw [← e.o]; exact h.o m⟩
theorem VB {n:Nat} {l:List Nat}:G8 n l=false↔n ∉ l:=by
 rw [← VA]; simp
theorem Q5:∀ {l l':List Nat},MT l l'=true↔∀ n∈l,n ∉ l'
 | [],l'=>by simp [MT]
 | m :: r,l'=>by
  simp only [MT];cases hb:G8 m l' with
  | true=>simp [VA.1 hb]
  | false=>simp [VB.1 hb,Q5 (l:=r)]
theorem Y0:∀ {us:List Upd} {s:St},(∀ n∈KK us,Fr n s)→KQ us=true→SEq (s.ups us) ⟨s.t,GV us s.o⟩
 | [],s,_,_=>SEq.refl s
 | .kill m :: r,s,hf,ho=>by
  simp only [St.ups,GV];exact Y0 (us:=r) (s:=s.up (.kill m)) (fun n hn=>⟨(hf n hn).t,fun k=>by
   simp only [St.up,DE];split
   ·rfl
   ·exact (hf n hn).o k⟩) ho
 | .set m ob :: r,s,hf,ho=>by
  simp only [KQ,AI] at ho;simp only [St.ups,GV];exact Y0 (us:=r) (s:=s.up (.set m ob)) (fun n hn=>⟨(hf n hn).t,fun k=>by
   simp only [St.up,DE];split
   ·exact YE ho.1 (Q5.1 ho.2.1 n hn)
   ·exact (hf n hn).o k⟩) ho.2.2
 | .new m ob :: r,s,hf,ho=>by
  simp only [KQ,AI] at ho;simp only [St.ups,GV];have hm:Fr m s:=hf m (by simp [KK]);have e:SEq (s.up (.new m ob)) (s.up (.set m ob)):=⟨fun i=>by rw [US,hm.t]; rfl,fun k=>by rw [EK,hm.o]; simp only [St.up,DE]⟩;refine (e.ups (us:=r)).trans ?_;exact Y0 (us:=r) (s:=s.up (.set m ob)) (fun n hn=>⟨(hf n (by simp [KK,hn])).t,fun k=>by
   simp only [St.up,DE];split
   ·exact YE ho.1 (Q5.1 ho.2.1 n hn)
   ·exact (hf n (by simp [KK,hn])).o k⟩) ho.2.2
open Go Go.RowKit
def CmpP (p:Nat→Bool) (γ:Nat→Value) (o:Store) (γ':Nat→Value) (o':Store):Prop:=
 ∀ n ob',p n=false→CT o' n=some ob'→γ' n=γ n∧∃ ob,CT o n=some ob∧ob.fits ob'
section
variable {γ γ':Nat→Value} {o o':Store} {w:World} {O:Nat→Prop} {p:Nat→Bool}
theorem CmpP.but (hc:CmpP p γ o γ' o') {n:Nat} (hn:p n=false) {v:V} (hv:v = .any∨(∃ lo hi,v = .row n lo hi)∨(∃ i c,v = .ptr n i c)∨∃ c cap sz len,v = .bview n c cap sz len) {x:Value} (h:VRel γ o w O v x):VRel γ' o' w O v x:=by
 let f:Nat→Value:=fun m=>if m=n then γ' n else γ m
 rcases hv with rfl | ⟨lo,hi,rfl⟩ | ⟨i,c,rfl⟩ | ⟨c,cap,sz,len,rfl⟩
 ·simp only [VRel]
 ·simp only [VRel] at h ⊢;cases h':CT o' n with
  | none=>trivial
  | some ob'=>
   obtain ⟨hg,ob,ho,hf⟩:=hc n ob' hn h';rw [ho] at h;rw [hg];cases ob <;> cases ob' <;> simp only [Ob.fits] at hf <;> try trivial
   obtain ⟨rfl,hl⟩:=hf;exact ⟨by rw [← hl]; exact h.1,h.2⟩
 ·simp only [VRel] at h ⊢;cases h':CT o' n with
  | none=>trivial
  | some ob'=>
   obtain ⟨hg,ob,ho,hf⟩:=hc n ob' hn h';rw [ho] at h;rw [hg];cases ob <;> cases ob' <;> simp only [Ob.fits] at hf
   ·exact h
   ·obtain ⟨rfl,hl⟩:=hf;exact ⟨by rw [← hl]; exact h.1,h.2⟩
   ·exact h
   ·exact h
   ·exact h
 ·simp only [VRel] at h ⊢;cases h':CT o' n with
  | none=>trivial
  | some ob'=>
   obtain ⟨hg,ob,ho,hf⟩:=hc n ob' hn h';rw [ho] at h;rw [hg];cases ob <;> cases ob' <;> simp only [Ob.fits] at hf <;> try trivial
   exact ⟨h.1,h.2.1,by rw [← hf]; exact h.2.2.1,h.2.2.2⟩
theorem mS (hc:CmpP p γ o γ' o') {v:V} {x:Value} (h:VRel γ o w O v x):VRel γ' o' w O (ER.leaf p v) x:=by
 cases v <;> simp only [ER.leaf]
 case row n lo hi=>
  cases hb:p n with
  | true=>simp only [VRel]
  | false=>exact hc.but hb (.inr (.inl ⟨_,_,rfl⟩)) h
 case ptr n i c=>
  cases hb:p n with
  | true=>simp only [VRel]
  | false=>exact hc.but hb (.inr (.inr (.inl ⟨_,_,rfl⟩))) h
 all_goals first
  | (simp only [VRel] at h ⊢; exact h)
  | simp only [VRel]
theorem X6 (hc:CmpP p γ o γ' o'):∀ {l:List V} {xs:List Value},VRels γ o w O l xs→VRels γ' o' w O (ER.go p l) xs
 | [],[],_=>by simp only [ER.go,VRels]
 | [],_ :: _,h=>by simp only [VRels] at h
 | _ :: _,[],h=>by simp only [VRels] at h
 | v :: vs,x :: xs,h=>by
  simp only [VRels,ER.go] at h ⊢;exact ⟨mS hc h.1,X6 hc h.2⟩
theorem Ho (hc:CmpP p γ o γ' o') {v:V} {x:Value} (h:VRel γ o w O v x):VRel γ' o' w O (ER.leaf2 p v) x:=by
 cases v <;> simp only [ER.leaf2] <;> try exact mS hc h
 simp only [VRel] at h ⊢;obtain ⟨cs,hx,hr⟩:=h;exact ⟨cs,hx,X6 hc hr⟩
theorem mU (hc:CmpP p γ o γ' o'):∀ {l:List V} {xs:List Value},VRels γ o w O l xs→VRels γ' o' w O (ER.go2 p l) xs
 | [],[],_=>by simp only [ER.go2,VRels]
 | [],_ :: _,h=>by simp only [VRels] at h
 | _ :: _,[],h=>by simp only [VRels] at h
 | v :: vs,x :: xs,h=>by
  simp only [VRels,ER.go2] at h ⊢;exact ⟨Ho hc h.1,mU hc h.2⟩
theorem mW (hc:CmpP p γ o γ' o') {v:V} {x:Value} (h:VRel γ o w O v x):VRel γ' o' w O (ER p v) x:=by
 cases v <;> simp only [ER]
 case row n lo hi=>
  cases hb:p n with
  | true=>simp only [VRel]
  | false=>exact hc.but hb (.inr (.inl ⟨_,_,rfl⟩)) h
 case ptr n i c=>
  cases hb:p n with
  | true=>simp only [VRel]
  | false=>exact hc.but hb (.inr (.inr (.inl ⟨_,_,rfl⟩))) h
 case bview n c cap sz len=>
  cases hb:p n with
  | true=>simp only [VRel]
  | false=>exact hc.but hb (.inr (.inr (.inr ⟨_,_,_,_,rfl⟩))) h
 case agg l=>
  simp only [VRel] at h ⊢;obtain ⟨cs,hx,hr⟩:=h;exact ⟨cs,hx,X6 hc hr⟩
 case tup l=>
  simp only [VRel] at h ⊢;obtain ⟨cs,hx,hr⟩:=h;exact ⟨cs,hx,mU hc hr⟩
 case clo f l=>
  simp only [VRel] at h ⊢;obtain ⟨cs,hx,hr⟩:=h;exact ⟨cs,hx,X6 hc hr⟩
 all_goals (simp only [VRel] at h ⊢; try exact h)
theorem mX (hc:CmpP p γ o γ' o'):∀ {l:List V} {xs:List Value},VRels γ o w O l xs→VRels γ' o' w O (l.map (ER p)) xs
 | [],[],_=>by simp only [vab,VRels]
 | [],_ :: _,h=>by simp only [VRels] at h
 | _ :: _,[],h=>by simp only [VRels] at h
 | v :: vs,x :: xs,h=>by
  simp only [VRels,A6] at h ⊢;exact ⟨mW hc h.1,mX hc h.2⟩
end
theorem ZV (p:Nat→Bool):∀ (o:Store) (n:Nat),CT (Q2 p o) n=match p n with | true=>none | false=>HQ p (CT o n)
 | [],n=>by simp only [Q2,CT,DT]; cases p n <;> rfl
 | (m,x) :: r,n=>by
  simp only [Q2];by_cases e:m=n
  ·subst e;cases hp:p m <;> simp only [DE,B2]
  ·cases hp:p m <;> simp only [DE,A7 e,ZV p r n]
theorem Jc {p:Nat→Bool} {x:Option Ob} {ob:Ob} (h:HQ p x=some ob):∃ ob0,x=some ob0∧HQ p (some ob0)=some ob:=by
 cases x with
 | none=>simp [HQ] at h
 | some ob0=>exact ⟨ob0,rfl,h⟩
theorem VQ {p:Nat→Bool} {ob0 ob:Ob} (h:HQ p (some ob0)=some ob):ob0.fits ob∧∀ g b,DR g ob b↔DR g ob0 b:=by
 cases ob0 <;> simp only [HQ,AB] at h <;> subst h
 ·exact ⟨by simp [Ob.fits,XO],fun _ _=>Iff.rfl⟩
 ·exact ⟨⟨rfl,rfl⟩,fun _ _=>Iff.rfl⟩
 ·exact ⟨trivial,fun _ _=>Iff.rfl⟩
 ·exact ⟨rfl,fun _ _=>Iff.rfl⟩
 ·exact ⟨rfl,fun _ _=>Iff.rfl⟩
section
variable {B:BT} {nt:Nat} {w0:World} {X:Zone} {γ:Nat→Value} {st st':St} {a:Act} {w:World} {P:Program} {E:Env}
theorem Rel.less (h:Rel B nt w0 X γ st a w) {st':St} (ht:∀ i,st'.get i=st.get i∨st'.get i = .any) (ho:∀ n ob,CT st'.o n=some ob→CT st.o n=some ob):Rel B nt w0 X γ st' a w:=by
 have hP:∀ b,DZ γ st'.o b→DZ γ st.o b:=fun b ⟨n,ob,h1,h2⟩=>⟨n,ob,ho n ob h1,h2⟩
 have hO:∀ b,b < w.heap.size→CV X γ st'.o b→CV X γ st.o b:=fun b _ hb=>hb.imp_left (hP b)
 have hc:Cmp γ st.o γ st'.o:=fun n ob hn=>⟨rfl,ob,ho n ob hn,ob.fits_refl⟩
 refine ⟨h.sz,h.df,fun i=>?_,fun n ob hn=>(h.ob n ob (ho n ob hn)).later (fun _ _=>rfl) (Keep.refl _ w) hO hc,fun b hb=>h.lt b (hP b hb),fun n m ob ob' b hne h1 h2=>h.dis n m ob ob' b hne (ho n ob h1) (ho m ob' h2),h.keep,fun b hb=>h.nr b (hP b hb),h.fl,fun p hp ob h1=>h.pn p hp ob (ho _ ob h1)⟩;rcases ht i with h1 | h1
 ·rw [h1];exact VRel.mono (Keep.refl _ w) hO (VRel.cmp hc (h.tm i))
 ·rw [h1];simp only [VRel]
theorem Rel.lit (h:Rel B nt w0 X γ st a w) {i:Nat} {v:V} (hv:st.get i=v):Rel B nt w0 X γ ⟨(i,v) :: st.t,st.o⟩ a w:=by
 refine h.less (fun j=>?_) (fun _ _ h=>h);simp only [St.get,LN];by_cases e:i=j
 ·subst e;simp only [B2];exact .inl hv.symm
 ·simp only [A7 e];exact .inl trivial
theorem UN:∀ (ops:List Oper) (j d:Nat),KF ops j=some d→(ops[j]?).bind (·.dst)=some d
 | [],j,d,h=>by simp [KF] at h
 | o :: r,0,d,h=>by simpa [KF] using h
 | o :: r,j+1,d,h=>by simpa [KF] using UN r j d (by simpa [KF] using h)
theorem fU (h:Rel B nt w0 X γ st a w) {i:Nat} {c:Bool} (hv:st.get i = .bool c):a.tmps[i]?=some (.bool c):=by
 have:=h.tm i
 rw [hv] at this;simp only [VRel,vbf] at this;cases ht:a.tmps[i]? with
 | none=>rw [ht] at this; simp [undef] at this
 | some u=>rw [ht] at this; simp only [vap] at this; rw [this]
theorem rH (h:Rel B nt w0 X γ st a w) {i:Nat} (hv:st.get i = .tup []):a.tmps[i]?=none∨a.tmps[i]?=some (.tuple #[]):=by
 have:=h.tm i
 rw [hv] at this;simp only [VRel,vbf] at this;obtain ⟨cs,h1,h2⟩:=this;cases hl:cs.toList with
 | nil=>
  have e:cs = #[]:=by simpa using hl
  rw [e] at h1;cases ht:a.tmps[i]? with
  | none=>exact .inl rfl
  | some u=>rw [ht] at h1; simp only [vap] at h1; rw [h1]; exact .inr rfl
 | cons x l=>rw [hl] at h2; simp only [VRels] at h2
theorem Rel.clear (h:Rel B nt w0 X γ st a w) (ds:List Nat):Rel B nt w0 X γ (I8 ds st) a w:=by
 have hget:∀ n ob,CT (I8 ds st).o n=some ob→KJ ds n=false∧∃ ob0,CT st.o n=some ob0∧HQ (KJ ds) (some ob0)=some ob:=by
  intro n ob hn;simp only [I8,ZV] at hn;split at hn
  ·cases hn
  ·rename_i hp;exact ⟨hp,Jc hn⟩
 have hP:∀ b,DZ γ (I8 ds st).o b→DZ γ st.o b:=by
  rintro b ⟨n,ob,h1,h2⟩;obtain ⟨_,ob0,h3,h4⟩:=hget n ob h1;exact ⟨n,ob0,h3,((VQ h4).2 _ _).1 h2⟩
 have hO:∀ b,b < w.heap.size→CV X γ (I8 ds st).o b→CV X γ st.o b:=fun b _ hb=>hb.imp_left (hP b)
 have hc:CmpP (KJ ds) γ st.o γ (I8 ds st).o:=by
  intro n ob' _ hn;obtain ⟨_,ob0,h3,h4⟩:=hget n ob' hn;exact ⟨rfl,ob0,h3,(VQ h4).1⟩
 refine ⟨h.sz,h.df,fun i=>?_,fun n ob hn=>?_,fun b hb=>h.lt b (hP b hb),fun n m ob ob' b hne h1 h2 hb1 hb2=>?_,h.keep,fun b hb=>h.nr b (hP b hb),h.fl,fun p hp ob h1=>?_⟩
 ·have:(I8 ds st).get i=ER (KJ ds) (st.get i):=by
   simp only [I8,St.get];exact U3 _ _ rfl _ _
  rw [this];exact VRel.mono (Keep.refl _ w) hO (mW hc (h.tm i))
 ·obtain ⟨_,ob0,h3,h4⟩:=hget n ob hn;have hor:=h.ob n ob0 h3;cases ob0 with
  | box l=>
   simp only [HQ,AB] at h4;subst h4;simp only [ObRel] at hor ⊢;obtain ⟨b,c,T,hg,hh,hr⟩:=hor;rw [XO];exact ⟨b,c,T,hg,hh,VRels.mono (Keep.refl _ w) hO (mX hc hr)⟩
  | row own e ag ks l=>
   simp only [HQ,AB] at h4;subst h4;exact hor.later (fun _ _=>rfl) (Keep.refl _ w) hO (fun m ob1 hm=>by
    obtain ⟨_,ob0,h5,h6⟩:=hget m ob1 hm;exact ⟨rfl,ob0,h5,(VQ h6).1⟩)
  | bld s=>
   simp only [HQ,AB] at h4;subst h4;simpa only [ObRel] using hor
  | map vk es=>
   simp only [HQ,AB] at h4;subst h4;simp only [ObRel] at hor ⊢;obtain ⟨h0,b,ents,hg,q1,q2⟩:=hor;exact ⟨h0,b,ents,hg,q1,EntRel.mono (Keep.refl _ w) hO q2⟩
  | iter vk last rest=>
   simp only [HQ,AB] at h4;subst h4;simp only [ObRel] at hor ⊢;obtain ⟨h0,r,b,since,seen,ents,clock,hg,q1,q2,q3⟩:=hor;exact ⟨h0,r,b,since,seen,ents,clock,hg,q1,q2,IterRel.mono (Keep.refl _ w) hO q3⟩
 ·obtain ⟨_,ob0,h3,h4⟩:=hget n ob h1;obtain ⟨_,ob1,h5,h6⟩:=hget m ob' h2;exact h.dis n m ob0 ob1 b hne h3 h5 (((VQ h4).2 _ _).1 hb1) (((VQ h6).2 _ _).1 hb2)
 ·obtain ⟨_,ob0,h3,_⟩:=hget _ ob h1;exact h.pn p hp ob0 h3
theorem Rel.seq (h:Rel B nt w0 X γ st a w) (e:SEq st st'):Rel B nt w0 X γ st' a w:=
 h.less (fun i=>.inl (e.t i).symm) (fun n ob hn=>by rw [e.o]; exact hn)
end
theorem uZ {ds:List Nat} {n:Nat} (hn:KJ ds n=true) (s:St):Fr n (I8 ds s):=by
 refine ⟨fun i=>?_,fun m=>?_⟩
 ·have:(I8 ds s).get i=ER (KJ ds) (s.get i):=by
   simp only [I8,St.get];exact U3 _ _ rfl _ _
  rw [this];exact mV hn _
 ·simp only [I8,ZV];split
  ·rfl
  ·exact Hp hn _
def StepOK (E:Env) (all:List Oper) (o:Oper) (s:St) (D:Dn):Prop:=
 K3 E o.dst=true∧D.dst=o.dst∧D.tm=IL all o ∧
 match o.guard with
 | none=>(C3 E s.o (opd s) o.dst o.op).get=some (D.v,D.us)∧D.rd=JF E s.o (opd s) o.op
 | some (j,b)=>(∃ dj c,KF all j=some dj∧s.get dj = .bool c ∧
  ((c=b∧(C3 E s.o (opd s) o.dst o.op).get=some (D.v,D.us)∧D.rd=JF E s.o (opd s) o.op)∨(c≠b∧D.v = .tup []∧D.us=[]))) ∨
  (∃ dj,KF all j=some dj∧s.get dj = .tup []∧D.v = .tup []∧D.us=[])
def Steps (E:Env) (all:List Oper):List Oper→St→List Dn→Prop
 | [],_,[]=>True
 | o :: r,s,D :: Ds=>StepOK E all o s D∧Steps E all r (apD s D) Ds
 | _,_,_=>False
theorem StepOK.congr {E:Env} {all:List Oper} {o:Oper} {s s':St} {D:Dn} (h:StepOK E all o s D) (e:SEq s s'):StepOK E all o s' D:=by
 have hag:∀ (ρ:Operand→V) d op,C3 E s'.o ρ d op=C3 E s.o ρ d op:=fun ρ d op=>j5 (fun n _=>(e.o n).symm)
 have hdp:∀ l,HK s'.o l=HK s.o l:=by
  intro l
  induction l with
  | nil=>rfl
  | cons n r ih=>simp only [HK,ih,e.o]
 have hrd:∀ (ρ:Operand→V) op,JF E s'.o ρ op=JF E s.o ρ op:=fun ρ op=>by unfold JF X9; rw [hdp]
 unfold StepOK at h ⊢;refine ⟨h.1,h.2.1,h.2.2.1,?_⟩;have h3:=h.2.2.2;rw [← e.opd];simp only [hag,hrd];split at h3
 ·exact h3
 ·rcases h3 with ⟨dj,c,h4,h5,h6⟩ | ⟨dj,h4,h5,h6⟩
  ·exact .inl ⟨dj,c,h4,by rw [← e.t]; exact h5,h6⟩
  ·exact .inr ⟨dj,h4,by rw [← e.t]; exact h5,h6⟩
theorem Steps.congr {E:Env} {all:List Oper}:∀ {l:List Oper} {s s':St} {Ds:List Dn},Steps E all l s Ds→SEq s s'→Steps E all l s' Ds
 | [],_,_,[],_,_=>trivial
 | [],_,_,_ :: _,h,_=>by simp [Steps] at h
 | _ :: _,_,_,[],h,_=>by simp [Steps] at h
 | o :: r,s,s',D :: Ds,h,e=>by
  simp only [Steps] at h ⊢;exact ⟨h.1.congr e,Steps.congr h.2 (e.apD D)⟩
theorem j4 {E:Env} {all:List Oper} {res:V × List (List V)}:∀ (l:List Oper) {s:St} {acc:List Dn} {k:List Dn→St→CU},K1 E all l s acc k=some res →
  ∃ Ds s',Steps E all l s Ds∧SEq s' (apDs s Ds)∧k (Ds.reverse++acc) s'=some res
 | [],s,acc,k,h=>⟨[],s,trivial,SEq.refl s,by simpa [K1] using h⟩
 | o :: r,s,acc,k,h=>by
  simp only [K1] at h;have hd:K3 E o.dst=true:=by
   cases hd:K3 E o.dst with
   | true=>rfl
   | false=>rw [hd] at h; cases h
  rw [hd] at h;simp only at h;have fin:∀ (s1:St) (D:Dn),SEq s s1→StepOK E all o s1 D→K1 E all r (apD s1 D) (D :: acc) k=some res →
    ∃ Ds s',Steps E all (o :: r) s Ds∧SEq s' (apDs s Ds)∧k (Ds.reverse++acc) s'=some res:=by
   intro s1 D e hs he;obtain ⟨Ds,s',h1,h2,h3⟩:=j4 r he;refine ⟨D :: Ds,s',⟨hs.congr e.symm,h1.congr (e.symm.apD D)⟩,h2.trans ((e.symm.apD D).apDs),?_⟩;simpa using h3
  split at h
  ·rename_i hg;obtain ⟨v,us,h1,h2⟩:=T.run_some h;exact fin s _ (SEq.refl s) ⟨hd,rfl,rfl,by rw [hg]; exact ⟨h1,rfl⟩⟩ h2
  ·rename_i j b hg;split at h
   ·rename_i dj hdj;split at h
    ·rename_i c hc;have hl:∀ c',(JD s dj c').get dj = .bool c':=fun c'=>by simp [JD,St.get,LN]
     cases c with
     | true=>
      have e:=SEq.lit hc;cases b with
      | true=>
       simp only at h;obtain ⟨v,us,h1,h2⟩:=T.run_some h;exact fin _ _ e ⟨hd,rfl,rfl,by rw [hg]; exact .inl ⟨dj,true,hdj,hl _,.inl ⟨rfl,h1,rfl⟩⟩⟩ h2
      | false=>exact fin _ _ e ⟨hd,rfl,rfl,by rw [hg]; exact .inl ⟨dj,true,hdj,hl _,.inr ⟨by simp,rfl,rfl⟩⟩⟩ h
     | false=>
      have e:=SEq.lit hc;cases b with
      | false=>
       simp only at h;obtain ⟨v,us,h1,h2⟩:=T.run_some h;exact fin _ _ e ⟨hd,rfl,rfl,by rw [hg]; exact .inl ⟨dj,false,hdj,hl _,.inl ⟨rfl,h1,rfl⟩⟩⟩ h2
      | true=>exact fin _ _ e ⟨hd,rfl,rfl,by rw [hg]; exact .inl ⟨dj,false,hdj,hl _,.inr ⟨by simp,rfl,rfl⟩⟩⟩ h
    ·rename_i hc;exact fin _ _ (SEq.refl s) ⟨hd,rfl,rfl,by rw [hg]; exact .inr ⟨dj,hdj,hc,rfl,rfl⟩⟩ h
    ·cases h
   ·cases h
theorem Steps.length {E:Env} {all:List Oper}:∀ {l:List Oper} {s:St} {Ds:List Dn},Steps E all l s Ds→Ds.length=l.length
 | [],_,[],_=>rfl
 | [],_,_ :: _,h=>by simp [Steps] at h
 | _ :: _,_,[],h=>by simp [Steps] at h
 | _ :: _,_,_ :: _,h=>by simp only [AT,Steps.length h.2]
theorem Steps.get {E:Env} {all:List Oper}:∀ {l:List Oper} {s:St} {Ds:List Dn} {i:Nat} {o:Oper} {D:Dn},Steps E all l s Ds→l[i]?=some o→Ds[i]?=some D→StepOK E all o (apDs s (Ds.take i)) D
 | [],_,_,_,_,_,_,h,_=>by simp at h
 | _ :: _,_,[],_,_,_,_,_,h=>by simp at h
 | o :: r,s,D :: Ds,0,_,_,h,h1,h2=>by
  simp only [BQ,AB] at h1 h2;subst h1; subst h2;exact h.1
 | o :: r,s,D :: Ds,i+1,_,_,h,h1,h2=>by
  simp only [CA] at h1 h2;simp only [List.take_succ_cons,apDs];exact Steps.get h.2 h1 h2
def DM (L:Nat→Bool):Nat→List Dn→List Dn
 | _,[]=>[]
 | i,D :: r=>match L i with | true=>D :: DM L (i+1) r | false=>DM L (i+1) r
theorem R0 {L L':Nat→Bool}:∀ (l:List Dn) (i:Nat),(∀ j,i≤j→j < i+l.length→L j=L' j)→DM L i l=DM L' i l
 | [],_,_=>rfl
 | D :: r,i,h=>by
  simp only [DM];rw [h i (AP i) (by simp),R0 r (i+1) (fun j h1 h2=>h j (by omega) (by simp only [AT]; omega))]
theorem VR:∀ (l:List Dn) (i:Nat),DM (fun _=>false) i l=[]
 | [],_=>rfl
 | D :: r,i=>by simp only [DM,VR r]
theorem oS:∀ (l:List Dn) (i:Nat),DM (fun _=>true) i l=l
 | [],_=>rfl
 | D :: r,i=>by simp only [DM,oS r]
theorem oT (k:Nat):∀ (l:List Dn) (i:Nat),DM (fun j=>decide (j < i+k)) i l=l.take k
 | [],i=>by simp [DM]
 | D :: r,i=>by
  cases k with
  | zero=>
   rw [R0 (L':=fun _=>false) _ _ (fun j h1 h2=>by simp; omega),VR];rfl
  | succ k=>
   simp only [DM];rw [show decide (i < i+(k+1))=true by simp];simp only [List.take_succ_cons,vaF,true_and]
   have:=oT k r (i+1)
   rw [show i+(k+1)=i+1+k by omega];exact this
theorem M5 {L L':Nat→Bool} {n:Nat}:∀ (l:List Dn) (i:Nat) {s s':St},CT s.o n=CT s'.o n→(∀ j D,l[j]?=some D→n∈F2 D.us→L (i+j)=L' (i+j))→CT (apDs s (DM L i l)).o n=CT (apDs s' (DM L' i l)).o n
 | [],_,_,_,h,_=>h
 | D :: r,i,s,s',h,hl=>by
  have hr:∀ j E,r[j]?=some E→n∈F2 E.us→L (i+1+j)=L' (i+1+j):=fun j E hj hn=>by
   have:=hl (j+1) E (by simpa using hj) hn
   rwa [show i+(j+1)=i+1+j by omega] at this
  have one:∀ {s:St},n ∉ F2 D.us→CT (apD s D).o n=CT s.o n:=fun h=>OE h
  by_cases hn:n∈F2 D.us
  ·have h0:=hl 0 D rfl hn;simp only [vaa] at h0;simp only [DM,h0];cases L' i with
   | true=>exact M5 r (i+1) (eM hn) hr
   | false=>exact M5 r (i+1) h hr
  ·simp only [DM];cases L i <;> cases L' i <;> simp only [apDs]
   ·exact M5 r (i+1) h hr
   ·exact M5 r (i+1) (h.trans (one hn).symm) hr
   ·exact M5 r (i+1) ((one hn).trans h) hr
   ·exact M5 r (i+1) ((one hn).trans (h.trans (one hn).symm)) hr
theorem KV (s:St) (D:Dn) (t:Nat):(apD s D).get t=if D.dst=some t then D.v else s.get t:=by
 unfold apD;cases hd:D.dst with
 | none=>simp [St.put,St.get]
 | some d=>
  have:=xW s d D.v t
  simp only [AB];exact this
theorem M4 {L L':Nat→Bool} {t:Nat}:∀ (l:List Dn) (i:Nat) {s s':St},s.get t=s'.get t→(∀ j D,l[j]?=some D→D.dst=some t→L (i+j)=L' (i+j))→(apDs s (DM L i l)).get t=(apDs s' (DM L' i l)).get t
 | [],_,_,_,h,_=>h
 | D :: r,i,s,s',h,hl=>by
  have hr:∀ j E,r[j]?=some E→E.dst=some t→L (i+1+j)=L' (i+1+j):=fun j E hj hn=>by
   have:=hl (j+1) E (by simpa using hj) hn
   rwa [show i+(j+1)=i+1+j by omega] at this
  by_cases hn:D.dst=some t
  ·have h0:=hl 0 D rfl hn;simp only [vaa] at h0;simp only [DM,h0];cases L' i with
   | true=>exact M4 r (i+1) (by rw [KV,KV,B1 hn,B1 hn]) hr
   | false=>exact M4 r (i+1) h hr
  ·simp only [DM];cases L i <;> cases L' i <;> simp only [apDs]
   ·exact M4 r (i+1) h hr
   ·exact M4 r (i+1) (by rw [KV,A7 hn]; exact h) hr
   ·exact M4 r (i+1) (by rw [KV,A7 hn]; exact h) hr
   ·exact M4 r (i+1) (by rw [KV,KV,A7 hn,A7 hn]; exact h) hr
theorem dK {L:Nat→Bool} {n:Nat}:∀ (l:List Dn) (i:Nat) {s:St},Fr n s→(∀ j D,l[j]?=some D→L (i+j)=true→KY D.v=true∧n ∉ DN D.v∧∀ u∈D.us,∀ m ob,(u = .new m ob∨u = .set m ob)→E0 n (some ob)=some ob)→Fr n (apDs s (DM L i l))
 | [],_,_,h,_=>h
 | D :: r,i,s,h,hl=>by
  have hr:∀ j E,r[j]?=some E→L (i+1+j)=true→KY E.v=true∧n ∉ DN E.v∧∀ u∈E.us,∀ m ob,(u = .new m ob∨u = .set m ob)→E0 n (some ob)=some ob:=fun j E hj hn=>by
   refine hl (j+1) E (by simpa using hj) ?_
   rwa [show i+(j+1)=i+1+j by omega]
  simp only [DM];cases hL:L i with
  | false=>exact dK r (i+1) h hr
  | true=>
   refine dK r (i+1) ?_ hr;obtain ⟨h1,h2,h3⟩:=hl 0 D rfl hL;refine ⟨fun t=>?_,?_⟩
   ·rw [KV];split
    ·exact oP h1 h2
    ·exact h.t t
   ·have key:∀ (us:List Upd) (o:Store),(∀ u∈us,∀ m ob,(u = .new m ob∨u = .set m ob)→E0 n (some ob)=some ob)→(∀ m,E0 n (CT o m)=CT o m)→∀ m,E0 n (CT (GV us o) m)=CT (GV us o) m:=by
     intro us
     induction us with
     | nil=>intro o _ h; exact h
     | cons u us ih=>
      intro o hu ho;have hu':=fun u' hu'=>hu u' (AY _ hu')
      cases u with
      | kill k=>exact ih _ hu' (fun m=>by rw [DE]; split <;> first | rfl | exact ho m)
      | set k ob=>exact ih _ hu' (fun m=>by rw [DE]; split <;> first | exact hu _ (AS ..) k ob (.inr rfl) | exact ho m)
      | new k ob=>exact ih _ hu' (fun m=>by rw [DE]; split <;> first | exact hu _ (AS ..) k ob (.inl rfl) | exact ho m)
    exact key D.us s.o h3 h.o
theorem dL {L:Nat→Bool}:∀ (l l':List Dn) (i:Nat),DM L i (l++l')=DM L i l++DM L (i+l.length) l'
 | [],l',i=>by simp [DM]
 | D :: r,l',i=>by
  simp only [vaL,DM,AT];rw [show i+(r.length+1)=i+1+r.length by omega];cases L i <;> simp [dL r l' (i+1)]
open Go Go.RowKit
theorem RI:∀ (l:List (List Nat)) (i:Nat),FD l i=(l[i]?).getD []
 | [],i=>by simp [FD]
 | x :: r,0=>rfl
 | x :: r,i+1=>by simp only [FD,RI r i,CA]
theorem XR {acc:List (List Nat)} {j:Nat}:∀ {es:List Edge},j∈N4 acc es→∃ e∈es,vaV .any e=true∧(j=e.on∨j∈FD acc e.on)
 | [],h=>by simp [N4] at h
 | e :: r,h=>by
  simp only [N4] at h;split at h
  ·rename_i hb;simp only [AR,AW] at h;rcases h with h | h | h
   ·exact ⟨e,AS ..,hb,.inl h⟩
   ·exact ⟨e,AS ..,hb,.inr h⟩
   ·obtain ⟨e',h1,h2⟩:=XR h;exact ⟨e',AY _ h1,h2⟩
  ·obtain ⟨e',h1,h2⟩:=XR h;exact ⟨e',AY _ h1,h2⟩
def M1 (acc:List Nat):List Nat→List Nat
 | []=>acc
 | n :: r=>match G8 n acc with
  | true=>M1 acc r
  | false=>M1 (n :: acc) r
theorem P0 (k:List Nat→List (List Nat)):∀ (l acc:List Nat),VF acc l k=k (M1 acc l)
 | [],_=>rfl
 | n :: r,acc=>by
  simp only [VF,M1];cases G8 n acc with
  | true=>exact P0 k r acc
  | false=>exact P0 k r (n :: acc)
theorem bT {j:Nat}:∀ {l acc:List Nat},j∈M1 acc l→j∈acc∨j∈l
 | [],_,h=>.inl h
 | n :: r,acc,h=>by
  simp only [M1] at h;cases hb:G8 n acc with
  | true=>
   rw [hb] at h;exact (bT h).imp_right (AY _)
  | false=>
   rw [hb] at h;rcases bT h with h1 | h1
   ·rcases AR.1 h1 with rfl | h1
    ·exact .inr (AS ..)
    ·exact .inl h1
   ·exact .inr (AY _ h1)
theorem l6 {j:Nat} {l:List Nat} (h:j∈M1 [] l):j∈l:=(bT h).resolve_left (by simp)
theorem cU:∀ (l:List Oper) (acc:List (List Nat)) (i:Nat),i < acc.length→FD (GC acc l) i=FD acc i
 | [],_,_,_=>rfl
 | o :: r,acc,i,h=>by
  simp only [GC,P0];rw [cU r _ i (by simp; omega),RI,RI,List.getElem?_append_left h]
theorem cT:∀ (l:List Oper) (acc:List (List Nat)) (i:Nat) (o:Oper),l[i]?=some o →
  ∃ acc',acc'.length=acc.length+i∧FD (GC acc l) (acc.length+i)=M1 [] (N4 acc' o.after.toList)∧∀ k,k < acc'.length→FD acc' k=FD (GC acc l) k
 | [],_,_,_,h=>by simp at h
 | o :: r,acc,0,o',h=>by
  simp only [BQ,AB] at h;subst h;refine ⟨acc,rfl,?_,fun k hk=>?_⟩
  ·simp only [GC,P0,vaa];rw [cU r _ acc.length (by simp),RI];simp
  ·simp only [GC,P0];rw [cU r _ k (by simp; omega),RI,RI,List.getElem?_append_left hk]
 | o :: r,acc,i+1,o',h=>by
  simp only [CA] at h;obtain ⟨acc',h1,h2,h3⟩:=cT r (acc++[M1 [] (N4 acc o.after.toList)]) i o' h;simp only [AQ,AT,B8] at h1 h2;refine ⟨acc',by omega,?_,fun k hk=>by rw [GC,P0]; exact h3 k hk⟩;rw [show acc.length+(i+1)=acc.length+(0+1)+i by omega,GC,P0];exact h2
theorem WN:∀ {l:List Oper} {k i:Nat} {o:Oper} {e:Edge},MU k l=true→l[i]?=some o→e∈o.after.toList→vaV .any e=true→e.on < k+i
 | [],_,_,_,_,_,h,_,_=>by simp at h
 | o :: r,k,0,o',e,hu,h,he,hb=>by
  simp only [BQ,AB] at h;subst h;simp only [MU,AI] at hu;have key:∀ (es:List Edge),MU.go k es=true→e∈es→e.on < k:=by
   intro es
   induction es with
   | nil=>intro _ h; cases h
   | cons x es ih=>
    intro hg hm;simp only [MU.go] at hg;rcases AR.1 hm with h1 | h1
    ·subst h1;rw [hb] at hg;simp only [AI] at hg;exact AK hg.1
    ·split at hg
     ·simp only [AI] at hg;exact ih hg.2 h1
     ·exact ih hg h1
  exact key _ hu.1 he
 | o :: r,k,i+1,o',e,hu,h,he,hb=>by
  simp only [CA] at h;simp only [MU,AI] at hu
  have:=WN hu.2 h he hb
  omega
section
variable {ops:List Oper}
def e9 (ops:List Oper) (L:Nat→Bool):Prop:=∀ i o,ops[i]?=some o→L i=true→∀ e∈o.after.toList,vaV .any e=true→L e.on=true
theorem m9 (hu:MU 0 ops=true):∀ (i:Nat) {o:Oper},ops[i]?=some o→∀ j∈FD (GC [] ops) i,j < i:=by
 intro i
 induction i using Nat.strongRecOn with
 | _ i ih=>
  intro o ho j hj;obtain ⟨acc',h1,h2,h3⟩:=cT ops [] i o ho;simp only [B8,A0] at h1 h2;rw [h2] at hj;obtain ⟨e,he,hb,h4⟩:=XR (l6 hj);have hlt:=WN hu ho he hb;rw [A0] at hlt;rcases h4 with h4 | h4
  ·omega
  ·have hk:e.on < acc'.length:=by omega
   rw [h3 _ hk] at h4;have hlen:i < ops.length:=(BV.1 ho).1
   have:=ih e.on hlt (o:=ops[e.on]'(by omega)) (by simp [Nat.lt_trans hlt hlen]) j h4
   omega
theorem nA {L:Nat→Bool} (hu:MU 0 ops=true) (hL:e9 ops L):∀ (i:Nat) {o:Oper},ops[i]?=some o→(∀ e∈o.after.toList,vaV .any e=true→L e.on=true)→∀ j∈FD (GC [] ops) i,L j=true:=by
 intro i
 induction i using Nat.strongRecOn with
 | _ i ih=>
  intro o ho hr j hj;obtain ⟨acc',h1,h2,h3⟩:=cT ops [] i o ho;simp only [B8,A0] at h1 h2;rw [h2] at hj;obtain ⟨e,he,hb,h4⟩:=XR (l6 hj);have hlt:=WN hu ho he hb;rw [A0] at hlt;rcases h4 with h4 | h4
  ·subst h4;exact hr e he hb
  ·have hk:e.on < acc'.length:=by omega
   rw [h3 _ hk] at h4;have hlen:i < ops.length:=(BV.1 ho).1;have hg:ops[e.on]?=some (ops[e.on]'(by omega)):=by simp [Nat.lt_trans hlt hlen]
   exact ih e.on hlt hg (hL e.on _ hg (hr e he hb)) j h4
end
theorem Hj {d:Option Nat} {l:List Nat} (h:mN d l=false):∀ t,d=some t→t ∉ l:=by
 rintro t rfl;exact VB.1 h
theorem Hi {d e:Option Nat} (h:cG d e=false):∀ t,d=some t→e≠some t:=by
 rintro t rfl h';subst h';simp only [cG] at h;exact FW.1 h rfl
theorem mZ {ps:List (List Nat)} {pi:List Nat} {i:Nat} {x:Dn}:∀ {l:List Dn} {k j:Nat} {y:Dn},RO ps pi i x k l=true→l[j]?=some y→i≠k+j→VI pi (FD ps (k+j)) i (k+j) x y=true
 | [],_,_,_,_,h,_=>by simp at h
 | z :: r,k,0,y,h,hy,hne=>by
  simp only [BQ,AB] at hy;subst hy;simp only [RO,AI,Bool.or_eq_true] at h;rcases h.1 with h1 | h1
  ·exact absurd (EA.1 h1) hne
  ·exact h1
 | z :: r,k,j+1,y,h,hy,hne=>by
  simp only [CA] at hy;simp only [RO,AI] at h
  have:=mZ (k:=k+1) h.2 hy (by omega)
  rw [show k+(j+1)=k+1+j by omega];exact this
theorem mY {ps:List (List Nat)} {all:List Dn}:∀ {l:List Dn} {k i:Nat} {x:Dn},VK ps all k l=true→l[i]?=some x→RO ps (FD ps (k+i)) (k+i) x 0 all=true
 | [],_,_,_,_,h=>by simp at h
 | z :: r,k,0,x,h,hx=>by
  simp only [BQ,AB] at hx;subst hx;simp only [VK,AI] at h;exact h.1
 | z :: r,k,i+1,x,h,hx=>by
  simp only [CA] at hx;simp only [VK,AI] at h
  have:=mY (k:=k+1) h.2 hx
  rw [show k+(i+1)=k+1+i by omega];exact this
theorem fF {ds:List Nat}:∀ {l:List Nat},WA ds l=true→∀ n∈l,KJ ds n=true
 | [],_,n,h=>by cases h
 | m :: r,h,n,hn=>by
  simp only [WA,AI] at h;rcases AR.1 hn with e | e
  ·subst e; exact h.1
  ·exact fF h.2 n e
theorem cB {ds:List Nat}:∀ {l:List Dn} {i:Nat} {x:Dn},VG ds l=true→l[i]?=some x→KY x.v=true∧KQ x.us=true∧∀ n∈KK x.us,KJ ds n=true
 | [],_,_,_,h=>by simp at h
 | z :: r,0,x,h,hx=>by
  simp only [BQ,AB] at hx;subst hx;simp only [VG,AI] at h;exact ⟨h.1,h.2.1,fF h.2.2.1⟩
 | z :: r,i+1,x,h,hx=>by
  simp only [CA] at hx;simp only [VG,AI] at h;exact cB h.2.2.2 hx
theorem rJ {n:Nat}:∀ {us:List Upd},KQ us=true→n ∉ N1 us→∀ u∈us,∀ m ob,(u = .new m ob∨u = .set m ob)→E0 n (some ob)=some ob
 | [],_,_,u,hu,_,_,_=>by cases hu
 | u :: r,ho,hn,u',hu',m,ob,he=>by
  have h1:KQ r=true∧n ∉ N1 r∧(∀ m ob,(u = .new m ob∨u = .set m ob)→E0 n (some ob)=some ob):=by
   cases u with
   | kill k=>exact ⟨ho,hn,fun m ob h=>by rcases h with h | h <;> cases h⟩
   | set k ob'=>
    simp only [KQ,AI] at ho;simp only [N1,AW,not_or] at hn;refine ⟨ho.2.2,hn.2,fun m ob h=>?_⟩;rcases h with h | h <;> cases h
    exact YE ho.1 hn.1
   | new k ob'=>
    simp only [KQ,AI] at ho;simp only [N1,AW,not_or] at hn;refine ⟨ho.2.2,hn.2,fun m ob h=>?_⟩;rcases h with h | h <;> cases h
    exact YE ho.1 hn.1
  rcases AR.1 hu' with h | h
  ·subst h;exact h1.2.2 m ob he
  ·exact rJ h1.1 h1.2.1 u' h m ob he
theorem eE {t:Nat}:∀ {l:List Operand},Operand.tmp t∈l→t∈QB l
 | x :: r,h=>by
  rcases AR.1 h with h1 | h1
  ·subst h1; exact AS ..
  ·cases x <;> simp only [QB,AR] <;> first | exact .inr (eE h1) | exact eE h1
theorem jJ {α:Type} {p q:α→Bool}:∀ {l:List α},(∀ x∈l,q x=true→p x=true)→(∃ x∈l,p x=true∧q x=false)→l.countP q < l.countP p
 | [],_,⟨_,h,_⟩=>by cases h
 | y :: r,h,⟨x,hx,h1,h2⟩=>by
  have hr:r.countP q≤r.countP p:=by
   clear hx;have h':∀ x∈r,q x=true→p x=true:=fun x hx=>h x (AY _ hx)
   exact List.countP_mono_left h'
  rcases AR.1 hx with e | e
  ·subst e;rw [vaN h1,vbb (by simp [h2])];omega
  ·have:=jJ (l:=r) (fun x hx=>h x (AY _ hx)) ⟨x,e,h1,h2⟩
   by_cases hq:q y=true
   ·rw [vaN (h y (AS ..) hq),vaN hq];omega
   ·rw [vbb hq];by_cases hp:p y=true
    ·rw [vaN hp]; omega
    ·rw [vbb hp]; omega
section
variable {B:BT} {nt:Nat} {w0:World} {X:Zone} {γ:Nat→Value} {st st':St} {a:Act} {w:World} {P:Program} {E:Env}
variable (hT:TiOK P B E) (hE:∀ t,t∈E.eqs→EqSnd P t (E.tyd t).ks) (hSp:SpOK P B E w0 X) (hB:BldOK P B E) (hnt:E.nt=nt) (hn9:nt≤900000)
include hT hE hSp hB hnt hn9
theorem vO {Q:Exit→Act→World→Prop} {ops:Array Oper} {s0:St} {Ds:List Dn} (hs:Steps E ops.toList ops.toList s0 Ds) (hfree:aI ops.toList Ds=true)
  (hfr:∀ n,KJ (PK ops.toList) n=true→Fr n s0) (hQ:∀ γ' a' w',Rel B nt w0 X γ' (apDs s0 Ds) a' w'→Q .normal a' w') :
  ∀ (fuel:Nat) (listed:Array Bool) {γ:Nat→Value} {a:Act} {w:World},listed.size=ops.size→e9 ops.toList (fun i=>listed.getD i false) →
   (List.range ops.size).countP (fun i=>!listed.getD i false)≤fuel→Rel B nt w0 X γ (apDs s0 (DM (fun i=>listed.getD i false) 0 Ds)) a w→wpAny P .any ops Q fuel listed a w:=by
 have hlen:Ds.length=ops.size:=by simpa using hs.length
 simp only [aI,AI] at hfree;obtain ⟨hup,hone,hpairs⟩:=hfree;have hgd:∀ (listed:Array Bool) (i:Nat),listed.size=ops.size→i < ops.size→listed.getD i true=listed.getD i false:=fun listed i h1 h2=>by
  simp [Array.getD,h1,h2]
 have hready:∀ (listed:Array Bool) (i:Nat),listed.size=ops.size→(i∈vbq .any ops listed↔∃ o,ops.toList[i]?=some o∧listed.getD i false=false∧∀ e∈o.after.toList,vaV .any e=true→listed.getD e.on false=true):=by
  intro listed i hsz;simp only [vbq,List.mem_filter,List.mem_range,AI,CF];constructor
  ·rintro ⟨h1,h2,h3⟩;refine ⟨ops[i],by simp [h1],by rw [← hgd listed i hsz h1]; exact h2,fun e he hb=>?_⟩;simp only [Array.getElem?_eq_getElem h1,vae,vap,vbs,Bool.or_eq_true,CF] at h3;rcases h3 e (by simpa using he) with h4 | h4
   ·rw [hb] at h4; cases h4
   ·exact h4
  ·rintro ⟨o,ho,h2,h3⟩;obtain ⟨h1,rfl⟩:=BV.1 ho;simp only [CN] at h1;refine ⟨h1,by rw [hgd listed i hsz h1]; exact h2,?_⟩;simp only [Array.getElem?_eq_getElem h1,vae,vap,vbs,Bool.or_eq_true,CF];intro e he;cases hb:vaV .any e with
   | false=>exact .inl rfl
   | true=>exact .inr (h3 e (by simpa using he) hb)
 have hend:∀ (listed:Array Bool) {γ:Nat→Value} {a:Act} {w:World},(∀ i,i < ops.size→listed.getD i false=true)→Rel B nt w0 X γ (apDs s0 (DM (fun i=>listed.getD i false) 0 Ds)) a w→Q .normal a w:=by
  intro listed γ a w hall h;rw [R0 (L':=fun _=>true) _ _ (fun j _ h2=>hall j (by omega)),oS] at h;exact hQ γ a w h
 have hnil:∀ (listed:Array Bool),listed.size=ops.size→vbq .any ops listed=[]→∀ i,i < ops.size→listed.getD i false=true:=by
  intro listed hsz hr i
  induction i using Nat.strongRecOn with
  | _ i ih=>
   intro hi;cases hL:listed.getD i false with
   | true=>rfl
   | false=>
    exfalso;have hm:i∈vbq .any ops listed:=by
     refine (hready listed i hsz).2 ⟨ops[i],by simp [hi],hL,fun e he hb=>?_⟩
     have:=WN (i:=i) hup (by simp [hi]:ops.toList[i]?=some ops[i]) he hb
     exact ih e.on (by omega) (by omega)
    rw [hr] at hm;cases hm
 intro fuel
 induction fuel with
 | zero=>
  intro listed γ a w hsz hcl hcount h;have hall:∀ i,i < ops.size→listed.getD i false=true:=by
   intro i hi;have h0:(List.range ops.size).countP (fun i=>!listed.getD i false)=0:=by omega
   have:=(List.countP_eq_zero.1 h0) i (List.mem_range.2 hi)
   simpa using this
  refine ⟨?_,hend listed hall h⟩;refine List.eq_nil_iff_forall_not_mem.2 (fun i hi=>?_);obtain ⟨o,ho,h2,_⟩:=(hready listed i hsz).1 hi;have h1:i < ops.size:=by simpa using (BV.1 ho).1
  rw [hall i h1] at h2;cases h2
 | succ fuel ih=>
  intro listed γ a w hsz hcl hcount h;refine ⟨fun hr=>hend listed (hnil listed hsz hr) h,fun i hi=>?_⟩;obtain ⟨o,ho,hLi,hedges⟩:=(hready listed i hsz).1 hi;have hi':i < ops.size:=by simpa using (BV.1 ho).1
  have hoi:ops[i]?=some o:=by simpa using ho
  obtain ⟨D,hD⟩:∃ D,Ds[i]?=some D:=⟨Ds[i]'(by omega),by simp [hlen,hi']⟩;generalize hLdef:(fun i=>listed.getD i false)=L at *;have hL:∀ j,listed.getD j false=L j:=fun j=>congrFun hLdef j
  simp only [hL] at hLi hedges;have hin:∀ j∈FD (GC [] ops.toList) i,L j=true:=nA hup hcl i ho hedges;have hout:∀ j D',Ds[j]?=some D'→L j=true→i ∉ FD (GC [] ops.toList) j:=by
   intro j D' hj hLj hm;have hj':j < ops.size:=by have:=(BV.1 hj).1; omega
   have hoj:ops.toList[j]?=some ops[j]:=by simp [hj']
   have:=nA hup hcl j hoj (hcl j _ hoj hLj) i hm
   rw [hLi] at this;cases this
  have hlt:∀ j,j∈FD (GC [] ops.toList) i→j < i:=m9 hup i ho;have hltj:∀ j D',Ds[j]?=some D'→i∈FD (GC [] ops.toList) j→i < j:=by
   intro j D' hj hm;have hj':j < ops.size:=by have:=(BV.1 hj).1; omega
   exact m9 hup j (by simp [hj']:ops.toList[j]?=some ops[j]) i hm
  have hpair:∀ j D',Ds[j]?=some D'→i≠j→VI (FD (GC [] ops.toList) i) (FD (GC [] ops.toList) j) i j D D'=true:=by
   intro j D' hj hne;have h1:=mY (k:=0) hpairs hD;rw [A0] at h1;have h2:=mZ (k:=0) h1 hj (by omega)
   rwa [A0] at h2
  have hunord:∀ j D',Ds[j]?=some D'→i≠j→i ∉ FD (GC [] ops.toList) j→j ∉ FD (GC [] ops.toList) i →
    (∀ t,D'.dst=some t→t ∉ D.tm)∧(∀ t,D.dst=some t→D'.dst≠some t)∧(∀ n∈F2 D'.us,n ∉ D.rd)∧(∀ n∈F2 D.us,n ∉ F2 D'.us):=by
   intro j D' hj hne h1 h2;have hp:=hpair j D' hj hne;simp only [VI,VB.2 h1,VB.2 h2,AI,CF] at hp;exact ⟨Hj hp.2.1,Hi hp.2.2.1,Q5.1 hp.2.2.2.1,Q5.1 hp.2.2.2.2⟩
  have hdiff:∀ j D',Ds[j]?=some D'→L j≠decide (j < i)→i≠j∧i ∉ FD (GC [] ops.toList) j∧j ∉ FD (GC [] ops.toList) i:=by
   intro j D' hj hne;cases hLj:L j with
   | true=>
    rw [hLj] at hne;have hji:¬ j < i:=fun h=>hne (by simp [h])
    have hij:i≠j:=fun e=>by subst e; rw [hLi] at hLj; cases hLj
    exact ⟨hij,hout j D' hj hLj,fun hm=>hji (hlt j hm)⟩
   | false=>
    rw [hLj] at hne;have hji:j < i:=by
     rcases vak j i with h | h
     ·exact h
     ·exact absurd (by simp; omega) hne
    refine ⟨by omega,fun hm=>?_,fun hm=>?_⟩
    ·have:=hltj j D' hj hm; omega
    ·have:=hin j hm; rw [hLj] at this; cases this
  have hstep:=Steps.get hs ho hD;have htake:apDs s0 (Ds.take i)=apDs s0 (DM (fun j=>decide (j < i)) 0 Ds):=by
   have:=oT i Ds 0
   rw [A0] at this;rw [this]
  rw [htake] at hstep;have hobj:∀ n∈D.rd,CT (apDs s0 (DM L 0 Ds)).o n=CT (apDs s0 (DM (fun j=>decide (j < i)) 0 Ds)).o n:=by
   intro n hn;refine M5 Ds 0 rfl (fun j D' hj hnm=>?_);rw [A0];refine vbw (fun hne=>?_);obtain ⟨h1,h2,h3⟩:=hdiff j D' hj hne;exact (hunord j D' hj h1 h2 h3).2.2.1 n hnm hn
  have htm:∀ t∈D.tm,(apDs s0 (DM L 0 Ds)).get t=(apDs s0 (DM (fun j=>decide (j < i)) 0 Ds)).get t:=by
   intro t ht;refine M4 Ds 0 rfl (fun j D' hj hnm=>?_);rw [A0];refine vbw (fun hne=>?_);obtain ⟨h1,h2,h3⟩:=hdiff j D' hj hne;exact (hunord j D' hj h1 h2 h3).1 t hnm ht
  have hafter:SEq (apD (apDs s0 (DM L 0 Ds)) D) (apDs s0 (DM (fun j=>(listed.setIfInBounds i true).getD j false) 0 Ds)):=by
   have hset:∀ j,(listed.setIfInBounds i true).getD j false=(L j||AZ j i):=by
    intro j;rw [← hL j];simp only [vbf,Array.getElem?_setIfInBounds,hsz];by_cases e:i=j
    ·subst e;simp [hi',vbc]
    ·rw [A7 e,FW.2 (fun h=>e h.symm),va9]
   rw [show (fun j=>(listed.setIfInBounds i true).getD j false)=(fun j=>L j||AZ j i) from funext hset];have hsplit:Ds=Ds.take i++D :: Ds.drop (i+1):=by
    have hi2:i < Ds.length:=by omega
    have h1:Ds[i]=D:=by have:=BV.1 hD; exact this.2
    rw [← h1];simp
   have hlate:∀ j D',(Ds.drop (i+1))[j]?=some D'→L (i+1+j)=true→(∀ t,D.dst=some t→D'.dst≠some t)∧∀ n∈F2 D.us,n ∉ F2 D'.us:=by
    intro j D' hj hLj;have hj':Ds[i+1+j]?=some D':=by rw [← hj,vay]
    have h2:=hout _ D' hj' hLj;have h3:i+1+j ∉ FD (GC [] ops.toList) i:=fun hm=>by have:=hlt _ hm; omega
    exact ⟨(hunord _ D' hj' (by omega) h2 h3).2.1,(hunord _ D' hj' (by omega) h2 h3).2.2.2⟩
   have hli:(Ds.take i).length=i:=by simp; omega
   have hR:∀ s,apDs s (DM (fun j=>L j||AZ j i) 0 Ds)=apDs (apD (apDs s (DM L 0 (Ds.take i))) D) (DM L (i+1) (Ds.drop (i+1))):=by
    intro s;rw [show DM (fun j=>L j||AZ j i) 0 Ds=DM (fun j=>L j||AZ j i) 0 (Ds.take i++D :: Ds.drop (i+1)) by rw [← hsplit]];rw [dL,ZB,hli,A0];simp only [DM,vbc,Bool.or_true,apDs];rw [R0 (L':=L) (Ds.take i) 0 (fun j _ h2=>by rw [FW.2 (by omega),va9]),R0 (L':=L) (Ds.drop (i+1)) (i+1) (fun j h1 _=>by rw [FW.2 (by omega),va9])]
   have hLs:∀ s,apDs s (DM L 0 Ds)=apDs (apDs s (DM L 0 (Ds.take i))) (DM L (i+1) (Ds.drop (i+1))):=by
    intro s;rw [show DM L 0 Ds=DM L 0 (Ds.take i++D :: Ds.drop (i+1)) by rw [← hsplit]];rw [dL,ZB,hli,A0];simp only [DM,hLi]
   rw [hR,hLs];generalize apDs s0 (DM L 0 (Ds.take i))=s1;refine ⟨fun t=>?_,fun n=>?_⟩
   ·by_cases e:D.dst=some t
    ·rw [KV,B1 e]
     have:(apDs (apD s1 D) (DM L (i+1) (Ds.drop (i+1)))).get t=(apDs (apD s1 D) (DM (fun _=>false) (i+1) (Ds.drop (i+1)))).get t:=by
      refine M4 _ _ rfl (fun j D' hj hd=>?_);cases hLj:L (i+1+j) with
      | false=>rfl
      | true=>exact absurd hd ((hlate j D' hj hLj).1 t e)
     rw [this,VR];simp only [apDs];rw [KV,B1 e]
    ·rw [KV,A7 e];exact M4 _ _ (by rw [KV,A7 e]) (fun _ _ _ _=>rfl)
   ·by_cases e:n∈F2 D.us
    ·have:CT (apDs (apD s1 D) (DM L (i+1) (Ds.drop (i+1)))).o n=CT (apDs (apD s1 D) (DM (fun _=>false) (i+1) (Ds.drop (i+1)))).o n:=by
      refine M5 _ _ rfl (fun j D' hj hd=>?_);cases hLj:L (i+1+j) with
      | false=>rfl
      | true=>exact absurd hd ((hlate j D' hj hLj).2 n e)
     rw [this,VR];exact eM e
    ·have h1:CT (apD (apDs s1 (DM L (i+1) (Ds.drop (i+1)))) D).o n=CT (apDs s1 (DM L (i+1) (Ds.drop (i+1)))).o n:=OE e;rw [h1];exact M5 _ _ (OE e).symm (fun _ _ _ _=>rfl)
  have hnext:∀ γ' a' w',Rel B nt w0 X γ' (apD (apDs s0 (DM L 0 Ds)) D) a' w'→wpAny P .any ops Q fuel (listed.setIfInBounds i true) a' w':=by
   intro γ' a' w' h';have hset:∀ j,(listed.setIfInBounds i true).getD j false=(L j||AZ j i):=by
    intro j;rw [← hL j];simp only [vbf,Array.getElem?_setIfInBounds,hsz];by_cases e:i=j
    ·subst e;simp [hi',vbc]
    ·rw [A7 e,FW.2 (fun h=>e h.symm),va9]
   refine ih (listed.setIfInBounds i true) (by simpa using hsz) ?_ ?_ (h'.seq hafter)
   ·intro j o' ho' hLj e he hb;simp only [hset] at hLj ⊢;by_cases e':j=i
    ·subst e';rw [ho] at ho';simp only [AB] at ho';subst ho';rw [hedges e he hb];rfl
    ·rw [FW.2 e',va9] at hLj;rw [hcl j o' ho' hLj e he hb];rfl
   ·have:(List.range ops.size).countP (fun j=>!(listed.setIfInBounds i true).getD j false) < (List.range ops.size).countP (fun j=>!listed.getD j false):=by
     refine jJ (fun j _ hj=>?_) ⟨i,List.mem_range.2 hi',by rw [hL,hLi]; rfl,by rw [hset,vbc,Bool.or_true]; rfl⟩;rw [hset] at hj;rw [hL];cases hLj:L j <;> simp_all
    simp only [hL] at this hcount;omega
  obtain ⟨hok,hdst,htms,hguard⟩:=hstep;have hclean:=cB hone hD;have run:(C3 E (apDs s0 (DM (fun j=>decide (j < i)) 0 Ds)).o (opd (apDs s0 (DM (fun j=>decide (j < i)) 0 Ds))) o.dst o.op).get=some (D.v,D.us)→D.rd=JF E (apDs s0 (DM (fun j=>decide (j < i)) 0 Ds)).o (opd (apDs s0 (DM (fun j=>decide (j < i)) 0 Ds))) o.op →
    (∀ x∈o.op.operands.toList,∀ t,x = .tmp t→t∈D.tm)→o.wp P a w (wpAny P .any ops Q fuel (listed.setIfInBounds i true)) Q:=by
   intro he hrd htmo;have h1:C3 E (apDs s0 (DM L 0 Ds)).o (opd (apDs s0 (DM L 0 Ds))) o.dst o.op=C3 E (apDs s0 (DM (fun j=>decide (j < i)) 0 Ds)).o (opd (apDs s0 (DM (fun j=>decide (j < i)) 0 Ds))) o.dst o.op:=by
    rw [vT (ρ:=opd (apDs s0 (DM L 0 Ds))) (ρ':=opd (apDs s0 (DM (fun j=>decide (j < i)) 0 Ds))) (fun x hx=>?_)]
    ·exact j5 (fun n hn=>hobj n (by rw [hrd]; exact hn))
    ·cases x with
     | tmp t=>exact htm t (htmo _ hx t rfl)
     | _=>rfl
   rw [← h1] at he;have hn9':∀ d,o.dst=some d→d≠900000:=fun d hdd e=>by
    subst e;rw [hdd] at hok;simp only [K3] at hok;have h8:900000+1≤E.nt:=AK hok;omega
   refine mM hT hE hSp hB h o hn9' he _ _ (fun γ' x w' h3 h4=>hnext γ' _ w' ?_);refine (h3.put hnt hok h4).seq ?_;have hfr':∀ n∈KK D.us,Fr n (apDs s0 (DM L 0 Ds)):=by
    intro n hn;refine dK Ds 0 (hfr n (hclean.2.2 n hn)) (fun j D' hj hLj=>?_);rw [A0] at hLj;have hne:i≠j:=fun e=>by subst e; rw [hLi] at hLj; cases hLj
    have hp:=hpair j D' hj hne;simp only [VI,VB.2 (hout j D' hj hLj),AI] at hp;have hdj:=Q5.1 hp.1 n hn;simp only [AW,not_or] at hdj;have hc':=cB hone hj;exact ⟨hc'.1,hdj.1,rJ hc'.2.1 hdj.2⟩
   have:=(Y0 hfr' hclean.2.1).put o.dst D.v
   refine this.trans ?_;rw [← hdst];cases hdd:D.dst <;> exact ⟨fun t=>by simp only [apD,hdd,St.put]; try rfl,fun n=>by simp only [apD,St.put]⟩
  unfold wpOp;rw [hoi];simp only;have htmo:∀ x∈o.op.operands.toList,∀ t,x = .tmp t→t∈D.tm:=by
   rintro x hx t rfl
   have:=eE hx
   rw [htms];unfold IL;split
   ·split
    ·exact AY _ this
    ·exact this
   ·exact this
  split at hguard
  ·rename_i hg;rw [B1 (by simp [CJ,hg])];exact .inl (run hguard.1 hguard.2 htmo)
  ·rename_i j b hg;have skip:D.v = .tup []→D.us=[]→CJ o (yielded ops a.tmps)=false→(if CJ o (yielded ops a.tmps)=true then o.wp P a w (wpAny P .any ops Q fuel (listed.setIfInBounds i true)) Q∨(o.asks P a w∧LetsOut Q) else wpAny P .any ops Q fuel (listed.setIfInBounds i true) (a.put o.dst undef) w):=by
    intro h1 h2 h3;rw [A7 (by rw [h3]; simp)];refine hnext γ _ w ?_;refine (h.put hnt hok (v:=.tup []) (x:=undef) (by simp only [VRel]; exact ⟨#[],rfl,by simp only [VRels]⟩)).seq ?_;rw [← hdst,← h1];cases hdd:D.dst <;> exact ⟨fun t=>by simp only [apD,hdd,St.put]; try rfl,fun n=>by simp only [apD,St.put,h2,GV]⟩
   have hdjm0:∀ dj,KF ops.toList j=some dj→dj∈D.tm:=by
    intro dj hdj;rw [htms];unfold IL;rw [hg];simp only [hdj];exact AS ..
   rcases hguard with ⟨dj,c,hdj,hc,hcase⟩ | ⟨dj,hdj,hc,h1,h2⟩
   case inr=>
    rw [← htm dj (hdjm0 dj hdj)] at hc;have hy:yielded ops a.tmps j=none:=by
     unfold yielded;rw [show ops[j]?=ops.toList[j]? by simp,UN _ _ _ hdj];rcases rH h hc with h0 | h0 <;> simp [h0]
    exact skip h1 h2 (by simp [CJ,hg,hy])
   have hdjm:dj∈D.tm:=by
    rw [htms];unfold IL;rw [hg];simp only [hdj];exact AS ..
   rw [← htm dj hdjm] at hc;have hy:yielded ops a.tmps j=some c:=by
    unfold yielded;rw [show ops[j]?=ops.toList[j]? by simp,UN _ _ _ hdj];simp [fU h hc]
   rcases hcase with ⟨rfl,h1,h2⟩ | ⟨hne,h1,h2⟩
   ·rw [B1 (by simp [CJ,hg,hy])];exact .inl (run h1 h2 htmo)
   ·exact skip h1 h2 (by simp [CJ,hg,hy,hne])
theorem vR {Q:Exit→Act→World→Prop} (hm:P.follows .mixedOrders=true) {r:V × List (List V)} {id:Nat} {ops:Array Oper} {k:St→CU} {γ:Nat→Value} {st:St} {a:Act} {w:World}
  (he:aA E ops.toList st k=some r) (h:Rel B nt w0 X γ st a w) (hk:∀ γ' st' a' w',Rel B nt w0 X γ' st' a' w'→k st'=some r→Q .normal a' w'):(Code.region id ops true).wp P Q a w:=by
 refine wp_region_any hm ?_;unfold aA at he;obtain ⟨Ds,s',h1,h2,h3⟩:=j4 ops.toList he;split at h3
 ·rename_i hf;simp only [List.append_nil,List.reverse_reverse] at hf;have h0:Rel B nt w0 X γ (I8 (PK ops.toList) st) a { w with drawn:=w.drawn+1 }:=(h.clear (PK ops.toList)).world (Keep.drew _ w);refine vO hT hE hSp hB hnt hn9 h1 hf (fun n hn=>uZ hn st) (fun γ' a' w' h'=>hk γ' s' a' w' (h'.seq h2.symm) h3) ops.size (Array.replicate ops.size false) (by simp) ?_ ?_ (γ:=γ) ?_
  ·intro i o ho hL;have hi:i < ops.size:=by simpa using (BV.1 ho).1
   simp [Array.getD,hi] at hL
  ·refine vaj (List.countP_le_length) ?_;simp
  ·rw [R0 (L':=fun _=>false) _ _ (fun j _ _=>by simp [Array.getD]),VR];exact h0
 ·cases h3
end
open Go Go.RowKit
section
variable {B:BT} {nt:Nat} {w0:World} {X:Zone} {γ:Nat→Value} {st st':St} {a:Act} {w:World} {P:Program} {E:Env}
theorem XB (s:St):∀ (l:List Nat) (i:Nat),DT .any (NW s l) i=s.get i∨DT .any (NW s l) i = .any
 | [],i=>.inr rfl
 | j :: r,i=>by
  simp only [NW,LN];by_cases e:j=i
  ·subst e; simp
  ·simp only [A7 e];exact XB s r i
theorem k7 (s:St):∀ (l:List Nat) (n:Nat) (ob:Ob),CT (UW s l) n=some ob→CT s.o n=some ob
 | [],n,ob,h=>by simp [UW,CT,DT] at h
 | j :: r,n,ob,h=>by
  simp only [UW,DE] at h;split at h
  ·rename_i e;subst e;exact h
  ·exact k7 s r n ob h
theorem Rel.prune (h:Rel B nt w0 X γ st a w) (kp:Option (List Nat)):Rel B nt w0 X γ (prune kp st) a w:=by
 cases kp with
 | none=>exact h
 | some l=>exact h.less (fun i=>XB st l i) (fun _ _ h=>h)
theorem VRels.putOne {γ:Nat→Value} {o:Store} {w:World} {O:Nat→Prop} {v:V} {x:Value} (hv:VRel γ o w O v x):∀ {cs:List V} {xs:List Value} {c:Nat},VRels γ o w O cs xs→xs[c]?=some x→VRels γ o w O (EW cs c [v]) xs
 | [],[],_,_,h=>by simp at h
 | [],_ :: _,_,h,_=>by simp only [VRels] at h
 | _ :: _,[],_,h,_=>by simp only [VRels] at h
 | u :: cs,y :: xs,0,h,hx=>by
  simp only [VRels] at h;simp only [BQ,AB] at hx;subst hx
  have:EW cs 0 []=cs:=by cases cs <;> rfl
  simp only [EW,this,VRels];exact ⟨hv,h.2⟩
 | u :: cs,y :: xs,c+1,h,hx=>by
  simp only [VRels] at h;simp only [CA] at hx;simp only [EW,VRels];exact ⟨h.1,VRels.putOne hv h.2 hx⟩
def tR (γ:Nat→Value) (o:Store) (w:World) (a:Act) (x:Value):Loc→Prop
 | .tmp t=>x=a.tmps.getD t undef
 | .cell b c=>∃ cs bb T cc,CT o b=some (.box cs)∧γ b = .pointer (some ⟨bb,0,none⟩)∧w.heap[bb]?=some (.cells cc T (0,0))∧cc.toList[c]?=some x
def Y6 (γ:Nat→Value) (o:Store) (w:World) (a:Act) (x:Value):Loc→Prop
 | .tmp t=>x=a.tmps.getD t undef
 | .cell b c=>∀ cs,CT o b=some (.box cs)→∃ bb T cc,γ b = .pointer (some ⟨bb,0,none⟩)∧w.heap[bb]?=some (.cells cc T (0,0))∧cc.toList[c]?=some x
theorem Rel.at (h:Rel B nt w0 X γ st a w) (l:Loc) {v:V} (hv:bJ st l=v) (hne:v≠.any):∃ x,VRel γ st.o w (CV X γ st.o) v x ∧
  tR γ st.o w a x l:=by
 subst hv;cases l with
 | tmp t=>exact ⟨_,h.tm t,rfl⟩
 | cell b c=>
  simp only [bJ] at hne ⊢;split at hne
  ·rename_i cs hob;have hor:=h.ob b _ hob;simp only [ObRel] at hor;obtain ⟨bb,cc,T,hg,hh,hr⟩:=hor;rw [VE] at hne ⊢;cases hc:cs[c]? with
   | none=>rw [hc] at hne; exact absurd rfl hne
   | some u=>
    obtain ⟨x,hx,hrx⟩:=hr.get hc;exact ⟨x,hrx,cs,bb,T,cc,hob,hg,hh,hx⟩
  ·exact absurd rfl hne
theorem Rel.putLoc {γ2:Nat→Value} {st2:St} (h2:Rel B nt w0 X γ2 st2 a w) (l:Loc) {v:V} {x:Value} (hv:VRel γ2 st2.o w (CV X γ2 st2.o) v x)
  (hx:Y6 γ2 st2.o w a x l):Rel B nt w0 X γ2 (putLoc st2 v l) a w:=by
 cases l with
 | tmp t=>
  simp only [Y6] at hx;subst hx;refine ⟨h2.sz,h2.df,fun i=>?_,h2.ob,h2.lt,h2.dis,h2.keep,h2.nr,h2.fl,h2.pn⟩;simp only [FM.putLoc,St.get,LN];split
  ·rename_i e;subst e;exact hv
  ·exact h2.tm i
 | cell b c=>
  simp only [FM.putLoc];split
  ·rename_i cs hob;simp only [Y6] at hx;obtain ⟨bb,T,cc,hg,hh,hcx⟩:=hx cs hob;have hob':∀ m,CT ((b,some (.box (EW cs c [v]))) :: st2.o) m=if b=m then some (.box (EW cs c [v])) else CT st2.o m:=fun m=>DE ..
   have hlen:(EW cs c [v]).length=cs.length:=by
    have key:∀ (cs:List V) (c:Nat),(EW cs c [v]).length=cs.length:=by
     intro cs
     induction cs with
     | nil=>intro c; cases c <;> rfl
     | cons u r ih=>
      intro c;cases c with
      | zero=>
       have:EW r 0 []=r:=by cases r <;> rfl
       simp [EW,this]
      | succ c=>simp [EW,ih]
    exact key cs c
   have hP:∀ b',DZ γ2 ((b,some (.box (EW cs c [v]))) :: st2.o) b'→DZ γ2 st2.o b':=by
    rintro b' ⟨m,ob,hm,hb⟩;rw [hob'] at hm;split at hm
    ·rename_i e;subst e;simp only [AB] at hm;subst hm;exact ⟨_,_,hob,hb⟩
    ·exact ⟨m,ob,hm,hb⟩
   have hO:∀ b',b' < w.heap.size→CV X γ2 ((b,some (.box (EW cs c [v]))) :: st2.o) b'→CV X γ2 st2.o b':=fun b' _ hb=>hb.imp_left (hP b')
   have hc:Cmp γ2 st2.o γ2 ((b,some (.box (EW cs c [v]))) :: st2.o):=by
    intro m ob' hm;rw [hob'] at hm;split at hm
    ·rename_i e;subst e;simp only [AB] at hm;subst hm;exact ⟨rfl,_,hob,hlen.symm⟩
    ·exact ⟨rfl,ob',hm,ob'.fits_refl⟩
   refine ⟨h2.sz,h2.df,fun i=>VRel.mono (Keep.refl _ w) hO (VRel.cmp hc (h2.tm i)),fun m ob hm=>?_,fun b' hb=>h2.lt b' (hP b' hb),fun m1 m2 ob1 ob2 b' hne h3 h4 hb1 hb2=>?_,h2.keep,fun b' hb=>h2.nr b' (hP b' hb),h2.fl,fun p hp ob hm=>?_⟩
   ·simp only at hm ⊢;rw [hob'] at hm;split at hm
    ·rename_i e;subst e;simp only [AB] at hm;subst hm;have hor:=h2.ob _ _ hob;simp only [ObRel] at hor ⊢;obtain ⟨bb',cc',T',hg',hh',hr'⟩:=hor;rw [hg] at hg';simp only [B4,AB,CL,B9] at hg';subst hg';rw [hh] at hh';simp only [AB,Obj.cells.injEq] at hh';obtain ⟨rfl,rfl,_⟩:=hh';exact ⟨bb,cc,T,hg,hh,VRels.mono (Keep.refl _ w) hO (VRels.cmp hc (VRels.putOne hv hr' hcx))⟩
    ·exact (h2.ob m ob hm).later (fun _ _=>rfl) (Keep.refl _ w) hO hc
   ·have key:∀ m ob,CT ((b,some (.box (EW cs c [v]))) :: st2.o) m=some ob→DR (γ2 m) ob b'→∃ ob0,CT st2.o m=some ob0∧DR (γ2 m) ob0 b':=by
     intro m ob hm hb;rw [hob'] at hm;split at hm
     ·rename_i e;subst e;simp only [AB] at hm;subst hm;exact ⟨_,hob,hb⟩
     ·exact ⟨ob,hm,hb⟩
    obtain ⟨o1,q1,q2⟩:=key m1 ob1 h3 hb1;obtain ⟨o2,q3,q4⟩:=key m2 ob2 h4 hb2;exact h2.dis m1 m2 o1 o2 b' hne q1 q3 q2 q4
   ·simp only at hm;rw [hob'] at hm;split at hm
    ·rename_i e;exact h2.pn p hp _ (e ▸ hob)
    ·exact h2.pn p hp ob hm
  ·exact h2
theorem Rel.canon1 (h:Rel B nt w0 X γ st a w) (c:Can):∃ γ',Rel B nt w0 X γ' (canon1 c st) a w:=by
 unfold FM.canon1;split
 ·exact ⟨γ,h⟩
 rename_i h9;have h9:=FW.1 h9;split
 ·rename_i hv;split
  ·rename_i hks;have hks':0 < c.ks.length:=AK hks;obtain ⟨x,hx,hat⟩:=h.at c.loc hv (by simp);simp only [VRel] at hx;have hadd:=h.add c.nm h9 (.row true c.e c.ag c.ks []) (.slice none 0 0) (fun b hb=>by simp [DR,B6] at hb) (fun O' hO'=>by
    simp only [ObRel];exact ⟨hks',by simp [strMax],[],⟨by simp,.inl ⟨rfl,rfl⟩⟩,fun i y hy=>by simp at hy⟩)
   have hadd:=hadd.shrink (F:=X.far) (fun b hb=>⟨hb,fun hb'=>by simp [DR,B6] at hb'⟩);refine ⟨_,hadd.putLoc c.loc (x:=x) ?_ ?_⟩
   ·simp only [VRel,EK,B2];subst hx;exact ⟨AP _,none,0,0,none,rfl,rfl,AP _,AP _,AP _,by simp [maxLen],.inl rfl,fun _=>rfl⟩
   ·revert hat;cases c.loc with
    | tmp t=>exact fun hat=>hat
    | cell b k=>
     intro hat;obtain ⟨cs,bb,T,cc,q1,q2,q3,q4⟩:=hat;intro cs2 hcs2;rw [EK] at hcs2;split at hcs2
     ·cases hcs2
     ·rename_i hne;exact ⟨bb,T,cc,by simp only [A7 hne]; exact q2,q3,q4⟩
  ·exact ⟨γ,h⟩
 ·rename_i n lo hi hv;split
  ·rename_i e ag ks l hn hlo hob;have hn':=FW.1 hn;obtain rfl:=EA.1 hlo;obtain ⟨x,hx,hat⟩:=h.at c.loc hv (by simp);simp only [VRel,hob] at hx;have hk:=h.kill n;have hor:=h.ob n _ hob;have hkb:∀ b,DR (γ n) (.row true e ag ks l) b→DO γ st.o n b:=fun b hb=>⟨_,hob,hb⟩
   have hadd:=hk.add c.nm h9 (.row true e ag ks l) (γ n) (fun b hb=>⟨.inr (hkb b hb),(h.lt b ⟨n,_,hob,hb⟩).2⟩) (fun O' hO'=>by
    simp only [ObRel] at hor ⊢;obtain ⟨k1,k2,xs,k3,k4⟩:=hor;refine ⟨k1,k2,xs,k3,fun i y hy=>Kd.RelAll.mono (Keep.refl _ w) (fun b _ hb=>?_) (fun _ _ hu=>hu) (k4 i y hy)⟩;rcases hO' b hb with h1 | h1 | h1
    ·obtain ⟨m,ob1,q1,q2⟩:=h1;simp only [St.up] at q1;rw [DE] at q1;split at q1
     ·cases q1
     ·exact .inl ⟨m,ob1,q1,q2⟩
    ·exact .inr h1
    ·obtain ⟨ob1,q1,q2⟩:=h1;exact .inl ⟨n,ob1,q1,q2⟩)
   have hadd:=hadd.shrink (F:=X.far) (fun b hb=>⟨.inl hb,fun hb'=>h.nr b ⟨n,_,hob,hb'⟩ hb⟩);refine ⟨_,hadd.putLoc c.loc (x:=x) ?_ ?_⟩
   ·simp only [VRel,EK,B2];exact hx
   ·revert hat;cases c.loc with
    | tmp t=>exact fun hat=>hat
    | cell b k=>
     intro hat;obtain ⟨cs,bb,T,cc,q1,q2,q3,q4⟩:=hat;intro cs2 hcs2;rw [EK] at hcs2;split at hcs2
     ·cases hcs2
     ·rename_i hne;exact ⟨bb,T,cc,by simp only [A7 hne]; exact q2,q3,q4⟩
  ·exact ⟨γ,h⟩
 ·exact ⟨γ,h⟩
theorem Rel.canons:∀ (l:List Can) {γ:Nat→Value} {st:St},Rel B nt w0 X γ st a w→∃ γ',Rel B nt w0 X γ' (canons l st) a w
 | [],γ,st,h=>⟨γ,h⟩
 | c :: r,γ,st,h=>by
  obtain ⟨γ1,h1⟩:=h.canon1 c;exact Rel.canons r h1
theorem Rel.restrict (h:Rel B nt w0 X γ st a w) (kp:KP):∃ γ',Rel B nt w0 X γ' (restrict kp st) a w:=by
 have h1:Rel B nt w0 X γ ⟨NW st kp.t,st.o⟩ a w:=h.less (fun i=>XB st kp.t i) (fun _ _ h=>h);obtain ⟨γ',h2⟩:=h1.canons kp.c;exact ⟨γ',h2.less (fun i=>XB _ kp.t i) (fun n ob=>k7 _ kp.o n ob)⟩
variable (hT:TiOK P B E) (hE:∀ t,t∈E.eqs→EqSnd P t (E.tyd t).ks) (hSp:SpOK P B E w0 X) (hB:BldOK P B E) (hnt:E.nt=nt) (hn9:nt≤900000)
include hT hE hSp hB hnt hn9
theorem aB {Q:Exit→Act→World→Prop} {r:V × List (List V)} {ops:Array Oper} {k:St→CU} :
  ∀ (l:List Oper) (i:Nat) {γ:Nat→Value} {st:St} {a:Act} {w:World},ops.toList.drop i=l→KG E ops.toList l st k=some r→Rel B nt w0 X γ st a w →
   (∀ γ' st' a' w',Rel B nt w0 X γ' st' a' w'→k st'=some r→Q .normal a' w')→wpOps P ops Q (va1 i l.length) a w
 | [],i,γ,st,a,w,hl,he,h,hk=>by
  simp only [KG] at he;exact hk _ _ _ _ h he
 | o :: l,i,γ,st,a,w,hl,he,h,hk=>by
  have hoi:ops[i]?=some o:=by
   rw [← vau]
   have:=congrArg (·[0]?) hl
   simpa using this
  have hl':ops.toList.drop (i+1)=l:=by
   have:=congrArg (B5 1) hl
   simpa using this
  simp only [AT,List.range'_succ,wpOps,hoi];simp only [KG] at he;have hd:K3 E o.dst=true:=by
   cases hd:K3 E o.dst with
   | true=>rfl
   | false=>rw [hd] at he; cases he
  rw [hd] at he;simp only at he;have go:∀ {st:St},Rel B nt w0 X γ st a w→CJ o (yielded ops a.tmps)=true→(RZ E st.o (opd st) o.dst o.op fun v us=>KG E ops.toList l ((st.ups us).put o.dst v) k)=some r →
    (if CJ o (yielded ops a.tmps)=true then o.wp P a w (wpOps P ops Q (va1 (i+1) l.length)) Q∨(o.asks P a w∧LetsOut Q) else wpOps P ops Q (va1 (i+1) l.length) (a.put o.dst undef) w):=by
   intro st h hw he;rw [B1 hw];obtain ⟨v,us,h2,h1⟩:=It hT hE hSp hB h o (fun d hdd e=>by subst e; rw [hdd] at hd; simp only [K3] at hd; have h8:900000+1≤E.nt:=AK hd; omega) he;refine .inl (h1 _ _ (fun γ' x w' h3 h4=>?_));exact aB l (i+1) hl' h2 (h3.put hnt hd h4) hk
  have no:∀ {st:St},Rel B nt w0 X γ st a w→CJ o (yielded ops a.tmps)=false→KG E ops.toList l (st.put o.dst (.tup [])) k=some r →
    (if CJ o (yielded ops a.tmps)=true then o.wp P a w (wpOps P ops Q (va1 (i+1) l.length)) Q∨(o.asks P a w∧LetsOut Q) else wpOps P ops Q (va1 (i+1) l.length) (a.put o.dst undef) w):=by
   intro st h hw he;rw [A7 (by rw [hw]; simp)];exact aB l (i+1) hl' he (h.put hnt hd (by simp only [VRel]; exact ⟨#[],rfl,by simp only [VRels]⟩)) hk
  split at he
  ·rename_i hg;exact go h (by simp [CJ,hg]) he
  ·rename_i j b hg;split at he
   ·rename_i dj hdj;split at he
    ·rename_i c hc;have hy:yielded ops a.tmps j=some c:=by
      unfold yielded;rw [show ops[j]?=ops.toList[j]? by simp,UN _ _ _ hdj];simp [fU h hc]
     have hlit:=h.lit hc;cases c with
     | true=>
      simp only at he;cases b with
      | true=>exact go (st:=st.put (some dj) (.bool true)) hlit (by simp [CJ,hg,hy]) he
      | false=>exact no (st:=st.put (some dj) (.bool true)) hlit (by simp [CJ,hg,hy]) he
     | false=>
      simp only at he;cases b with
      | false=>exact go (st:=st.put (some dj) (.bool false)) hlit (by simp [CJ,hg,hy]) he
      | true=>exact no (st:=st.put (some dj) (.bool false)) hlit (by simp [CJ,hg,hy]) he
    ·rename_i hc;have hy:yielded ops a.tmps j=none:=by
      unfold yielded;rw [show ops[j]?=ops.toList[j]? by simp,UN _ _ _ hdj];rcases rH h hc with h0 | h0 <;> simp [h0]
     exact no h (by simp [CJ,hg,hy]) he
    ·cases he
   ·cases he
def aG:Out→Exit
 | .normal=>.normal
 | .exit i=>.exit i
 | .ret=>.ret
omit hT hE hSp hB hnt hn9 in
theorem lK (J:Nat→Prop) (h:∃ n,J n):∃ n,J n∧∀ m,J m→n≤m:=by
 obtain ⟨n,hn⟩:=h
 induction n using Nat.strongRecOn with
 | _ n ih=>
  by_cases hm:∃ m,m < n∧J m
  ·obtain ⟨m,h1,h2⟩:=hm;exact ih m h1 h2
  ·exact ⟨n,hn,fun m hJ=>Nat.le_of_not_lt (fun hlt=>hm ⟨m,hlt,hJ⟩)⟩
theorem PM (hm:P.follows .mixedOrders=true) {r:V × List (List V)}:∀ (c:Code) {k:Out→St→CU} {Q:Exit→Act→World→Prop} {γ:Nat→Value} {st:St} {a:Act} {w:World},K0 E c st k=some r→Rel B nt w0 X γ st a w →
  (∀ o γ' st' a' w',Rel B nt w0 X γ' st' a' w'→k o st'=some r→Q (aG o) a' w')→c.wp P Q a w
 | .skip,k,Q,γ,st,a,w,he,h,hk=>wp_skip (hk .normal γ st a w h he)
 | .exit id,k,Q,γ,st,a,w,he,h,hk=>wp_exit (hk (.exit id) γ st a w h he)
 | .ret,k,Q,γ,st,a,w,he,h,hk=>wp_ret (hk .ret γ st a w h he)
 | .label _,k,Q,γ,st,a,w,he,h,hk=>by simp [K0,GZ] at he
 | .goto _,k,Q,γ,st,a,w,he,h,hk=>by simp [K0,GZ] at he
 | .scope _,k,Q,γ,st,a,w,he,h,hk=>by simp [K0,GZ] at he
 | .rangeFunc _ _ _ _,k,Q,γ,st,a,w,he,h,hk=>by simp [K0,GZ] at he
 | .region id ops draw,k,Q,γ,st,a,w,he,h,hk=>by
  simp only [K0,GZ] at he;cases draw with
  | true=>
   simp only at he;exact vR hT hE hSp hB hnt hn9 hm he h (fun γ' st' a' w' h' hk'=>hk .normal γ' _ a' w' (h'.prune _) hk')
  | false=>
   simp only at he;refine wp_region ?_;rw [show ops.size=ops.toList.length by simp,List.range_eq_range'];exact aB hT hE hSp hB hnt hn9 ops.toList 0 rfl he h (fun γ' st' a' w' h' hk'=>hk .normal γ' _ a' w' (h'.prune _) hk')
 | .seq x y,k,Q,γ,st,a,w,he,h,hk=>by
  simp only [K0,GZ] at he;refine wp_seq (PM hm x he h (fun o γ' st' a' w' h' hk'=>?_));cases o with
  | normal=>exact PM hm y hk' h' hk
  | exit i=>exact hk (.exit i) γ' st' a' w' h' hk'
  | ret=>exact hk .ret γ' st' a' w' h' hk'
 | .cond c x y,k,Q,γ,st,a,w,he,h,hk=>by
  simp only [K0,GZ] at he;split at he
  ·rename_i b hc;have hcr:=D8 h c;rw [hc] at hcr;simp only [VRel] at hcr;have hlit:Rel B nt w0 X γ (XK st c b) a w:=by
    unfold XK;split
    ·exact h.lit hc
    ·exact h
   cases b with
   | true=>exact wp_cond_true hcr (PM hm x he hlit hk)
   | false=>exact wp_cond_false hcr (PM hm y he hlit hk)
  ·cases he
 | .block id c,k,Q,γ,st,a,w,he,h,hk=>by
  simp only [K0,GZ] at he;refine wp_block (PM hm c he h (fun o γ' st' a' w' h' hk'=>?_));cases o with
  | normal=>exact hk .normal γ' st' a' w' h' hk'
  | ret=>exact hk .ret γ' st' a' w' h' hk'
  | exit i=>
   simp only [aG,Exit.inBlock];simp only [CY] at hk';cases hb:AZ i id with
   | true=>
    rw [hb] at hk';rw [B1 (EA.1 hb)];exact hk .normal γ' st' a' w' h' hk'
   | false=>
    rw [hb] at hk';rw [A7 (FW.1 hb)];exact hk (.exit i) γ' st' a' w' h' hk'
 | .loop c,k,Q,γ,st,a,w,he,h,hk=>by
  simp only [K0,GZ] at he;generalize DT ⟨[],[],[]⟩ E.lp (Q7 c)=kp at he
  let J:Act→World→Nat→Prop:=fun a w n=>∃ γ st,Rel B nt w0 X γ st a w∧LO c (GZ LO E c) kp n st k=some r
  obtain ⟨γr,hr⟩:=h.restrict kp;refine wp_loop (fun a w=>∃ n,J a w n) (fun a w=>(Classical.epsilon fun n=>J a w n∧∀ m,J a w m→n≤m)) ⟨_,γr,_,hr,he⟩ ?_;intro a w hI;have hleast:=Classical.epsilon_spec (lK (J a w) hI);generalize (Classical.epsilon fun n=>J a w n∧∀ m,J a w m→n≤m)=n at hleast;obtain ⟨⟨γ1,st1,h1,he1⟩,_⟩:=hleast;cases n with
  | zero=>simp [LO] at he1
  | succ n=>
   simp only [LO] at he1;refine PM hm c he1 h1 (fun o γ' st' a' w' h' hk'=>?_);obtain ⟨γr,hr⟩:=h'.restrict kp;cases o with
   | normal=>
    simp only [aG,Exit.then];have hJ:J a' w' n:=⟨γr,_,hr,hk'⟩;refine ⟨⟨n,hJ⟩,?_⟩
    have:=Classical.epsilon_spec (lK (J a' w') ⟨n,hJ⟩)
    exact Nat.lt_succ_of_le (this.2 n hJ)
   | exit i=>exact hk (.exit i) γr _ a' w' hr hk'
   | ret=>exact hk .ret γr _ a' w' hr hk'
end
open Go Go.RowKit
theorem bX (o:Store) (bs:List V) (tk:Option Kd) (v:V):FJ (FK (DH o bs tk v))=true:=by
 cases v <;> simp only [DH] <;> repeat' split
 all_goals rfl
theorem bN (o:Store) (bs:List V):∀ (l:List V) (ks:List Kd),(IE (fun k v=>FK (DH o bs k v)) ks l).all FJ=true
 | [],ks=>by cases ks <;> rfl
 | v :: l,[]=>by simp [IE,bX,bN o bs l []]
 | v :: l,k :: ks=>by simp [IE,bX,bN o bs l ks]
theorem c7 (o:Store) (ks:List Kd) (v:V):(match I0 o ks v with | .agg l=>l.all FJ | v=>FJ v)=true∧∀ l,I0 o ks v≠.tup l:=by
 by_cases hc:∃ l,v = .agg l
 ·obtain ⟨l,rfl⟩:=hc;simp only [I0];exact ⟨bN o [] l ks,fun l' h=>by cases h⟩
 ·have h1:I0 o ks v=FK (DH o [] ks.head? v):=by cases v <;> first | rfl | exact absurd ⟨_,rfl⟩ hc
  have h2:=bX o [] ks.head? v;rw [h1];cases hx:FK (DH o [] ks.head? v) <;> rw [hx] at h2 <;> simp only [FJ] at h2 ⊢ <;> first | (cases h2; done) | (refine ⟨trivial,fun l h=>?_⟩; cases h)
theorem c9 (o:Store) (ks:List (List Kd)) (v:V):KI (E8 o ks v)=true:=by
 by_cases hc:∃ l,v = .tup l
 ·obtain ⟨l,rfl⟩:=hc;simp only [E8,KI];have key:∀ (l:List V) (ks:List (List Kd)),((E8.go o ks l).all fun v=>match v with | .agg l=>l.all FJ | v=>FJ v)=true:=by
   intro l
   induction l with
   | nil=>intro ks; cases ks <;> rfl
   | cons v l ih=>
    intro ks;cases ks with
    | nil=>simp only [E8.go,List.all_cons,AI]; exact ⟨(c7 o [] v).1,ih []⟩
    | cons k ks=>simp only [E8.go,List.all_cons,AI]; exact ⟨(c7 o k v).1,ih ks⟩
  exact key l ks
 ·have h1:E8 o ks v=I0 o (ks.headD []) v:=by cases v <;> first | rfl | exact absurd ⟨_,rfl⟩ hc
  rw [h1];obtain ⟨h2,h3⟩:=c7 o (ks.headD []) v;cases hx:I0 o (ks.headD []) v <;> rw [hx] at h2 <;> simp only [KI] at h2 ⊢ <;> first | exact h2 | exact absurd hx (h3 _)
theorem ZR (o:Store) (all:List Nat) (cs:List V):(cs.map (D0 o all)).all LV=true:=by
 refine List.all_eq_true.2 (fun v hv=>?_);obtain ⟨u,_,rfl⟩:=List.mem_map.1 hv;rcases UJ o all u with ⟨_,_,_,_,_,_,_,_,_,h1⟩ | ⟨h1,_⟩
 ·rw [h1]; rfl
 ·cases hcc:D0 o all u <;> first | rfl | (rw [hcc] at h1; cases h1)
section
variable {B:BT} {nt:Nat} {w0:World} {X:Zone} {γ:Nat→Value} {st st':St} {a:Act} {w:World} {P:Program} {E:Env}
theorem Gb (h:Rel B nt w0 X γ st a w) {n:Nat} {cs:List V} (ho:CT st.o n=some (.box cs)) {extra:List Nat} {m:Nat} (hm:m∈extra) {b:Nat} (hr:RowOf γ st.o m b) :
  ¬ (DO γ st.o n b∨∃ m∈EY st.o (DQ cs++extra) cs,DO γ st.o m b):=by
 intro hLb;obtain ⟨e,ag,ks,l,h5,h6⟩:=hr;rcases hLb with ⟨ob,h7,h8⟩ | ⟨m2,h9,ob,h7,h8⟩
 ·have hne:n≠m:=by
   rintro rfl;rw [ho] at h5;cases h5
  exact h.dis n m ob _ b hne h7 h5 h8 h6
 ·by_cases hne:m2=m
  ·subst hne;obtain ⟨hi2,e2,ag2,ks2,l2,k1,k2,k3⟩:=MX.1 h9;rw [N2] at k3;have q1:=N3 (PY k1);have q2:=N3 hm;omega
  ·exact h.dis m2 m ob _ b hne h7 h5 h8 h6
theorem xO {p:Value} (h:Rel ⟨B.T,B.e,some p,B.ng,B.F⟩ nt w0 X γ st a w) {v:V} {x:Value} (hv:VRel γ st.o w (CV X γ st.o) v x) {ks:List (List Kd)} {vs:List V} {r:V} {out:List (List V)} (he:WS st.o ks (EC vs) v=some (r,out)) {g0:Value} (hp:p=MP g0) :
  ∃ γ',Rel B.base 0 w0 X γ' ⟨[],FB r out⟩ HT w∧VRel γ' (FB r out) w (CV X γ' (FB r out)) (JG r) x∧I5 vs r out g0 (γ' 900000):=by
 have hfar:∀ b,X.far b→CV X γ st.o b∧∀ b',b'=b→¬ DZ γ st.o b':=fun b hb=>⟨.inr hb,fun b' e hP=>h.nr b' hP (e ▸ hb)⟩
 have hbd:∀ {n:Nat} {cs:List V} (ho:CT st.o n=some (.box cs)) (extra:List Nat),∃ γb,Rel B.base 0 w0 X γb ⟨[],DU (cs.map (D0 st.o (DQ cs++extra)))⟩ HT w∧γb 900000=γ n ∧
   ∀ b,DZ γb (DU (cs.map (D0 st.o (DQ cs++extra)))) b→DO γ st.o n b∨∃ m∈EY st.o (DQ cs++extra) cs,DO γ st.o m b:=by
  intro n cs ho extra;exact h.bound ho extra (w1:=w0) (own1:=X.own) (F:=X.far) h.keep (fun b hb=>⟨.inr hb,fun ⟨ob,h1,h2⟩=>h.nr b ⟨n,ob,h1,h2⟩ hb,fun m _ ⟨ob,h1,h2⟩=>h.nr b ⟨m,ob,h1,h2⟩ hb,fun m _ ⟨ob,h1,h2⟩=>h.nr b ⟨m,ob,h1,h2⟩ hb⟩)
   (fun b hb=>by
    rcases hb with ⟨ob,h1,h2⟩ | ⟨m,_,ob,h1,h2⟩
    ·exact (h.lt b ⟨n,ob,h1,h2⟩).2
    ·exact (h.lt b ⟨m,ob,h1,h2⟩).2)
 have hbP:∀ {n b:Nat} {hs:List Nat},(DO γ st.o n b∨∃ m∈hs,DO γ st.o m b)→DZ γ st.o b:=by
  rintro n b hs (⟨ob,h1,h2⟩ | ⟨m,_,ob,h1,h2⟩)
  ·exact ⟨n,ob,h1,h2⟩
  ·exact ⟨m,ob,h1,h2⟩
 unfold WS at he;split at he
 ·rename_i s0 hb;split at he
  ·rename_i s hob;simp only [AB,AL] at he;obtain ⟨rfl,rfl⟩:=he;obtain ⟨hR,hP⟩:=h.boundB hob (w1:=w0) (own1:=X.own) (F:=X.far) h.keep (fun b hb=>⟨.inr hb,fun ⟨ob,h1,h2⟩=>h.nr b ⟨_,ob,h1,h2⟩ hb⟩) (fun b ⟨ob,h1,h2⟩=>(h.lt b ⟨_,ob,h1,h2⟩).2);have hmo:FB (E8 st.o ks v) [[.bld s]]=DU [.bld s]:=by cases E8 st.o ks v <;> rfl
   have hf:=c9 st.o ks v;refine ⟨_,by rw [hmo]; exact hR,?_,?_⟩
   ·rw [hmo,RW hf];refine dA h hv (fun b _ hb=>?_) (fun m hm b hr hb=>?_) ks
    ·exact hb.imp_left (fun hb=>by obtain ⟨ob,h1,h2⟩:=hP b hb; exact ⟨_,ob,h1,h2⟩)
    ·obtain ⟨e,ag,ks',l,q1,q2⟩:=hr;rcases hb with hb | hb
     ·obtain ⟨ob,h1,h2⟩:=hP b hb;refine h.dis 900000 m ob _ b ?_ h1 q1 h2 q2;rintro rfl;rw [hob] at q1;cases q1
     ·exact h.nr b ⟨m,_,q1,q2⟩ hb
   ·simp only [I5,hb];exact ⟨hf,rfl,(h.pn p rfl _ hob).trans hp⟩
  ·cases he
 ·rename_i cs0 hnb hb;split at he
  ·rename_i cs hob;simp only [AB,AL] at he;obtain ⟨rfl,rfl⟩:=he;obtain ⟨γb,hR,hg,hP⟩:=hbd hob (HE v);have hmo:FB (E8 st.o ks v) [cs.map (D0 st.o (DQ cs++HE v))]=DU (cs.map (D0 st.o (DQ cs++HE v))):=by cases E8 st.o ks v <;> rfl
   have hf:=c9 st.o ks v;refine ⟨γb,by rw [hmo]; exact hR,?_,?_⟩
   ·rw [hmo,RW hf];refine dA h hv (fun b _ hb=>hb.imp_left (fun hb=>hbP (hP b hb))) (fun m hm b hr hb=>?_) ks;rcases hb with hb | hb
    ·exact Gb h hob hm hr (hP b hb)
    ·obtain ⟨e,ag,ks',l,q1,q2⟩:=hr;exact h.nr b ⟨m,_,q1,q2⟩ hb
   ·simp only [I5,hb];refine ⟨hf,?_,?_⟩
    ·unfold dI;split
     ·exact absurd rfl (hnb _)
     ·exact absurd rfl (hnb _)
     ·exact ZR _ _ _
    ·rw [hg];exact (h.pn p rfl _ hob).trans hp
  ·cases he
 ·rename_i hb;have fin9:∀ v,VRel γ st.o w (CV X γ st.o) v x→∃ γ',Rel B.base 0 w0 X γ' ⟨[],FB (E8 st.o ks v) []⟩ HT w∧VRel γ' (FB (E8 st.o ks v) []) w (CV X γ' (FB (E8 st.o ks v) [])) (JG (E8 st.o ks v)) x∧I5 vs (E8 st.o ks v) [] g0 (γ' 900000):=by
   intro v hv;have hf:=c9 st.o ks v;have hmo:FB (E8 st.o ks v) []=[]:=by
    cases hx:E8 st.o ks v <;> first | rfl | (rw [hx] at hf; simp only [KI,FJ] at hf; cases hf)
   refine ⟨γ,?_,?_,?_⟩
   ·rw [hmo];refine ⟨rfl,rfl,fun i=>by simp only [St.get,DT,VRel],fun n ob hn=>?_,?_,?_,h.keep,?_,h.fl,fun p hp=>by cases hp⟩
    ·simp only [CT,DT] at hn; cases hn
    ·rintro b ⟨n,ob,hn,_⟩; simp only [CT,DT] at hn; cases hn
    ·intro n m ob ob' b _ hn; simp only [CT,DT] at hn; cases hn
    ·rintro b ⟨n,ob,hn,_⟩; simp only [CT,DT] at hn; cases hn
   ·rw [hmo,RW hf];refine dA h hv (fun b _ hb=>?_) (fun m hm b hr hb=>?_) ks
    ·rcases hb with ⟨n,ob,hn,_⟩ | hb
     ·simp only [CT,DT] at hn; cases hn
     ·exact .inr hb
    ·rcases hb with ⟨n,ob,hn,_⟩ | hb
     ·simp only [CT,DT] at hn; cases hn
     ·obtain ⟨e,ag,ks',l,q1,q2⟩:=hr;exact h.nr b ⟨m,_,q1,q2⟩ hb
   ·simp only [I5,hb];cases hx:E8 st.o ks v <;> first | (rw [hx] at hf; exact hf) | (rw [hx] at hf; simp only [KI,FJ] at hf; cases hf)
  split at he
  ·rename_i n i c;split at he
   ·rename_i cs hob hc;simp only [AB,AL] at he;obtain ⟨rfl,rfl⟩:=he;obtain rfl:=EA.1 hc;obtain ⟨γb,hR,hg,hP⟩:=hbd hob [];refine ⟨γb,hR,?_,?_⟩
    ·simp only [VRel,hob] at hv;simp only [FB,JG,DS,VRel];rw [Q6 (ZR _ _ _),DE,B1 rfl,hg];exact ⟨trivial,hv.2⟩
    ·simp only [I5,hb,RL];exact ZR _ _ _
   ·cases he
  ·rename_i n lo hi;split at he
   ·rename_i e ag ks' l hob;split at he
    ·rename_i hlo;simp only [AB,AL] at he;obtain ⟨rfl,rfl⟩:=he;obtain rfl:=EA.1 hlo;obtain ⟨hpr,hpb⟩:=cR (γ':=fun m=>if m=900000 then x else γ m) (o':=[(900000,some (Ob.row true e ag ks' (l.take hi)))]) h hob hv;have hmo:FB (.vec e ag ks' (l.take hi)) []=[(900000,some (.row true e ag ks' (l.take hi)))]:=rfl;have obs:∀ m ob,CT [(900000,some (Ob.row true e ag ks' (l.take hi)))] m=some ob→m=900000∧ob = .row true e ag ks' (l.take hi):=fun m ob hn=>by
      rw [DE] at hn;split at hn
      ·rename_i h9;simp only [AB] at hn;exact ⟨h9.symm,hn.symm⟩
      ·simp [CT,DT] at hn
     have ownP:∀ b,DZ (fun m=>if m=900000 then x else γ m) [(900000,some (Ob.row true e ag ks' (l.take hi)))] b→DO γ st.o n b:=by
      rintro b ⟨m,ob,hn,hb⟩;obtain ⟨rfl,rfl⟩:=obs m ob hn;exact hpb b (by simpa only [B2] using hb)
     have hlt:∀ b,DO γ st.o n b→DZ γ st.o b:=fun b ⟨ob,h1,h2⟩=>⟨n,ob,h1,h2⟩
     have hO:∀ b,b < w.heap.size→CV X (fun m=>if m=900000 then x else γ m) [(900000,some (Ob.row true e ag ks' (l.take hi)))] b→CV X γ st.o b:=fun b _ hb=>hb.imp_left (fun hb=>hlt b (ownP b hb))
     rw [hmo];refine ⟨fun m=>if m=900000 then x else γ m,⟨rfl,rfl,fun i=>by simp only [St.get,DT,VRel],fun m ob hn=>?_,fun b hb=>h.lt b (hlt b (ownP b hb)),fun m m' ob ob' b hnm h1 h2=>?_,h.keep,fun b hb=>h.nr b (hlt b (ownP b hb)),h.fl,fun p hp=>by cases hp⟩,?_,?_⟩
     ·obtain ⟨rfl,rfl⟩:=obs m ob hn;simp only [ObRel,B2] at hpr ⊢;obtain ⟨k1,k2,xs,k3,k4⟩:=hpr;exact ⟨k1,k2,xs,k3,fun i y hy=>Kd.RelAll.mono (Keep.refl _ w) hO (fun _ _ hu=>hu) (k4 i y hy)⟩
     ·obtain ⟨rfl,rfl⟩:=obs m ob h1;obtain ⟨rfl,rfl⟩:=obs m' ob' h2;exact absurd rfl hnm
     ·simp only [JG,VRel,DE,B2];refine ⟨AP _,?_⟩;simp only [VRel,hob] at hv;obtain ⟨hl,p,len,cap,p',hgm,hxx,_,h22,h33,hm4,_,h5⟩:=hv;have htl:(l.take hi).length=hi:=by rw [A1,vao hl]
      rw [htl];rw [vaq,vaq] at hxx;refine ⟨p',hi,cap,p',hxx,by rw [hxx]; simp,B3 _,AP _,by omega,hm4,.inl ?_,fun _=>rfl⟩;cases p' <;> simp [Addr.add]
     ·simp only [I5,hb,RL]
    ·cases he
   ·simp only [AB,AL] at he;obtain ⟨rfl,rfl⟩:=he;exact fin9 _ hv
  ·rename_i hnp;simp only [AB,AL] at he;obtain ⟨rfl,rfl⟩:=he;exact fin9 _ hv
theorem jV:∀ (vs:List V) (i j:Nat),DT .any (UO i vs) j=if i≤j∧j < i+vs.length then DS (vs.getD (j - i) .any) else .any
 | [],i,j=>by
  rw [A7 (by simp only [B8]; omega)];rfl
 | v :: r,i,j=>by
  simp only [UO,LN,jV r (i+1) j,AT];by_cases e:i=j
  ·subst e;simp
  ·rw [A7 e];by_cases h:i+1≤j∧j < i+1+r.length
   ·rw [B1 h,B1 (by omega),show j - i=(j - (i+1))+1 by omega];simp
   ·rw [A7 h,A7 (by omega)]
theorem c8 (hT:TiOK P B E) {w:World}:∀ {rs:List ResultVar} {l:List V},N5 E st rs=some l→Rel B nt w0 X γ st a w →
  ∃ xs:List Value,(rs.mapM fun r=>match r with | .tmp t=>pure (a.tmps.getD t undef) | .cell ad t=>do loadVar t (← asAddr (a.tmps.getD ad undef)):Sem (List Value)).run P w = .ok xs w∧VRels γ st.o w (CV X γ st.o) l xs
 | [],l,h,hR=>by
  simp only [N5,AB] at h;subst h;exact ⟨[],by simp,by simp only [VRels]⟩
 | .tmp t :: r,l,h,hR=>by
  simp only [N5] at h;split at h
  ·rename_i l' hl';simp only [AB] at h;subst h;obtain ⟨xs,h1,h2⟩:=c8 hT hl' hR;refine ⟨a.tmps.getD t undef :: xs,?_,?_⟩
   ·simp only [List.mapM_cons,BM,BN,A3,h1]
   ·simp only [VRels];exact ⟨hR.tm t,h2⟩
  ·cases h
 | .cell ad t :: r,l,h,hR=>by
  simp only [N5] at h;split at h
  ·rename_i n i c hop;split at h
   ·rename_i cs hob;split at h
    ·rename_i v l' hv hl';simp only [AB] at h;subst h;obtain ⟨xs,h1,h2⟩:=c8 hT hl' hR;have hx:=hR.tm ad;rw [hop] at hx;simp only [VRel,hob] at hx;obtain ⟨_,b,hg,hx⟩:=hx;have hor:=hR.ob n _ hob;simp only [ObRel] at hor;obtain ⟨b',cs',T,hg',hh,hr⟩:=hor;rw [hg] at hg';simp only [B4,AB,CL,B9] at hg';subst hg';obtain ⟨y,hy,hr'⟩:=lF (hT.known (lE hv)) hv hh hr;refine ⟨y :: xs,?_,?_⟩
     ·have hy':(do loadVar t (← asAddr (a.tmps.getD ad undef)):Sem Value).run P w = .ok y w:=by
       rw [hx];exact hy
      simp only [BM] at hy';simp only [List.mapM_cons,BM,hy',BN,A3,h1]
     ·simp only [VRels];exact ⟨hr',h2⟩
    ·cases h
   ·cases h
  ·cases h
theorem vS {f:FuncId} {fn:Func} {code:Code} (hf:P.funcs[f]?=some fn) (hn:(fn.name == "runtime.NumGoroutine")=false) (hb:fn.body=some code) (hnt:E.nt=fn.ntmps) (hn9:BI fn.ntmps 900000=true) {rs:List ResultVar} (hrs:fn.results.toList=rs)
  (rks:List (List Kd)) (hm:P.follows .mixedOrders=true) (hT:TiOK P B E) (hE:∀ t,t∈E.eqs→EqSnd P t (E.tyd t).ks) (hSp:∀ f sp,lk E.sp f=some sp→Snd P B f (fun vs=>(sp vs).get)) (hIp:∀ f p,lk E.ip f=some p→MD P f p) (hB:BldOK P B E):Snd P B f (C6 E code rs rks):=by
 intro w X γ vs xs r out hsp hgl hxo hR hV;unfold C6 at hsp;split at hsp
 case h_2=>cases hsp
 rename_i hle;have hle':=AK hle;have hlen:xs.length=vs.length:=by rw [← hV.length,vaC]
 refine Does.enter hf hn (by rw [hb]; rfl) (calls_of_wp hf hb ?_)
 let B':BT:=⟨B.T,B.e,some (MP (γ 900000)),B.ng,B.F⟩
 have hT':TiOK P B' E:=fun t x ht=>⟨(hT t x ht).info,(hT t x ht).ks,(hT t x ht).by1,(hT t x ht).one,(hT t x ht).und⟩
 have hSp':SpOK P B' E w X:=⟨⟨hgl,hxo⟩,fun f sp hfs=>hSp f sp hfs,hIp⟩;have hB':BldOK P B' E:=hB;have hstart:Rel B' fn.ntmps w X γ ⟨UO 0 vs,G1 vs⟩ { tmps:=xs.toArray++Array.replicate (fn.ntmps - xs.toArray.size) undef,defers:=[] } w:=by
  refine ⟨?_,rfl,fun i=>?_,fun n ob hnob=>?_,hR.lt,hR.dis,hR.keep,hR.nr,hR.fl,fun p hp ob _=>?_⟩
  ·simp;omega
  ·simp only [St.get,jV];split
   ·rename_i hi;have hi':i < vs.length:=by omega
    have h1:(vs.map DS)[i]?=some (DS vs[i]):=by simp [hi']
    obtain ⟨x,hx,hvx⟩:=hV.get h1;have h2:vs.getD (i - 0) .any=vs[i]:=by simp [hi']
    rw [h2];have h3:(xs.toArray++Array.replicate (fn.ntmps - xs.toArray.size) undef).getD i undef=x:=by
     rw [vbf,Array.getElem?_append_left (by simp; omega)];simp [hx]
    simp only [h3];exact hvx
   ·simp only [VRel]
  ·have:=hR.ob n ob hnob
   cases ob with
   | box l=>simpa only [ObRel] using this
   | row own e ag ks l=>cases own <;> simpa only [ObRel] using this
   | bld s=>simpa only [ObRel,BT.base] using this
   | map _ _=>simpa only [ObRel,BT.base] using this
   | iter _ _ _=>simpa only [ObRel,BT.base] using this
  ·simp only [B',AB] at hp;exact hp
 refine PM hT' hE hSp' hB' hnt (AK hn9) hm code hsp hstart (fun o γ' st' a' w' h' hk'=>?_);have fin:∀ l,N5 E st' rs=some l→WS st'.o rks (EC vs) (RV l)=some (r,out)→bodyPost P fn (fun e w'=>∃ x,e = .returned x∧∃ γ',Rel B.base 0 w X γ' ⟨[],FB r out⟩ HT w'∧VRel γ' (FB r out) w' (CV X γ' (FB r out)) (JG r) x∧I5 vs r out (γ 900000) (γ' 900000)) .ret a' w':=by
  intro l hl he;obtain ⟨ys,hy1,hy2⟩:=c8 (P:=P) hT' hl h';have hval:(results fn a'.tmps).run P w' = .ok (if h:ys.toArray.size=1 then ys.toArray[0] else .tuple ys.toArray) w':=by
   unfold results;rw [show fn.results=rs.toArray by rw [← hrs]];rw [Array.mapM_eq_mapM_toList];simp only [BM,Sem.run_map]
   erw [hy1]
   rfl
  have hrel:VRel γ' st'.o w' (CV X γ' st'.o) (RV l) (if h:ys.toArray.size=1 then ys.toArray[0] else .tuple ys.toArray):=by
   match l,ys,hy2 with
   | [],[],_=>simp only [RV,VRel]; exact ⟨#[],by simp,by simp only [VRels]⟩
   | [v],[y],h2=>simp only [VRels] at h2; simpa [RV] using h2.1
   | v :: v' :: l,y :: y' :: ys,h2=>simp only [RV,VRel]; exact ⟨(y :: y' :: ys).toArray,by simp,by simpa using h2⟩
  obtain ⟨γ2,q1,q2,q3⟩:=xO (B:=B) h' hrel he rfl;exact ⟨h'.df,_,hval,_,rfl,γ2,q1,q2,q3⟩
 cases o with
 | exit i=>simp [C1] at hk'
 | normal=>
  simp only [C1] at hk';split at hk'
  ·rename_i l hl;exact fin l hl hk'
  ·cases hk'
 | ret=>
  simp only [C1] at hk';split at hk'
  ·rename_i l hl;exact fin l hl hk'
  ·cases hk'
end
open Go Go.RowKit
def zB:V→Value→Bool
 | .int k n,.int k' n'=>k==k'&&(n==n'&&Q8 k n)
 | .bool b,.bool c=>b==c
 | .str s,.string s'=>s.size==0&&s'.size==0
 | .zs,.slice none 0 0=>true
 | .nilp,.pointer none=>true
 | .err true,.nilIface=>true
 | .any,_=>true
 | _,_=>false
def SD:List V→List Value→Bool
 | [],[]=>true
 | v :: vs,x :: xs=>zB v x&&SD vs xs
 | _,_=>false
def e6:Kd→Value→Bool
 | .int k,.int k' n=>k==k'&&n==0
 | .bool,.bool b=>!b
 | .str,.string s=>s.size==0
 | _,_=>false
theorem Od {k:Kd} {z:Value} (h:e6 k z=true):OG k z:=by
 cases k <;> cases z <;> simp only [e6] at h <;> try (cases h; done)
 ·simp only [AI,BR] at h;obtain ⟨rfl,rfl⟩:=h;rfl
 ·simp only [CF] at h;subst h;rfl
 ·rename_i s;have e:s=vba:=by
   obtain ⟨⟨l⟩⟩:=s;cases l with
   | nil=>rfl
   | cons a l=>simp [ByteArray.size] at h
  subst e;rfl
def dB (P:Program) (T t:Nat) (ks:List Kd):TD→TypeDesc→Bool
 | .slice e,.slice e'=>e==e'
 | .struct fs,.struct fields=>fs==fields.toList.map (fun f=>(f.offset,f.type))&&fields.toList.all (fun f=>(P.info? f.type).isSome)
 | .array n e,.array n' e'=>n==n'&&e==e'
 | .ptr e,.pointer e'=>e==e'
 | .bld,_=>t==T
 | .map e k,.map kt e'=>e==e'&&((match P.underlying kt with | some (.int .i64)=>true | _=>false)&&(match P.info? e with | some i=>(match i.zero with | some z=>e6 k z | none=>false) | none=>false))
 | .iface,.interface _=>true
 | .leaf,d=>match ks with
  | [.int k]=>(match d with | .int k'=>k==k' | _=>false)
  | [.str]=>(match d with | .string=>true | _=>false)
  | [.bool]=>(match d with | .bool=>true | _=>false)
  | _=>true
 | _,_=>false
def YW (P:Program) (T t:Nat) (x:TI):Bool:=
 match P.info? t,P.underlying t with
 | some i,some d=>match i.zero with
  | some z=>i.size==x.size&&(i.bytes==x.bytes&&(z.cells.size==x.size&&(SD x.zero z.cells.toList&&(x.ks.length==x.size&&(BI 1 x.bytes&&((x.agg||x.size==1)&&(d.isRow==x.agg&&dB P T t x.ks x.d d)))))))
  | none=>false
 | _,_=>false
def VV (P:Program) (T:Nat):List (Nat × TI)→Bool
 | []=>true
 | (t,x) :: r=>YW P T t x&&VV P T r
theorem Oc {γ:Nat→Value} {o:Store} {w:World} {O:Nat→Prop} {v:V} {x:Value} (h:zB v x=true):VRel γ o w O v x:=by
 unfold zB at h;split at h
 ·simp only [AI,BR,Q8,AO] at h;obtain ⟨rfl,rfl,h1,h2⟩:=h;simp only [VRel];exact ⟨trivial,h1,h2⟩
 ·simp only [BR] at h;subst h;simp only [VRel]
 ·rename_i s s';simp only [AI,BR] at h;have e:∀ s:BA,s.size=0→s=vba:=fun s hs=>by
   obtain ⟨⟨l⟩⟩:=s;cases l with
   | nil=>rfl
   | cons a l=>simp [ByteArray.size] at hs
  simp only [VRel];rw [e s h.1,e s' h.2];exact ⟨rfl,by simp [ByteArray.size_empty]⟩
 ·simp only [VRel]
 ·simp only [VRel]
 ·simp only [VRel]
 ·simp only [VRel]
 ·cases h
theorem rS {γ:Nat→Value} {o:Store} {w:World} {O:Nat→Prop}:∀ {l:List V} {xs:List Value},SD l xs=true→VRels γ o w O l xs
 | [],[],_=>by simp only [VRels]
 | [],_ :: _,h=>by simp [SD] at h
 | _ :: _,[],h=>by simp [SD] at h
 | v :: vs,x :: xs,h=>by
  simp only [SD,AI] at h;simp only [VRels];exact ⟨Oc h.1,rS h.2⟩
theorem Mu {P:Program} {B:BT} {t:Nat} {x:TI} (h:YW P B.T t x=true):TISnd P B t x:=by
 unfold YW at h;split at h
 ·rename_i i d hi hd;split at h
  ·rename_i z hz;simp only [AI,BR,Bool.or_eq_true] at h;obtain ⟨h1,h2,h3,h4,h5,h6,h7,h8,h9⟩:=h;refine ⟨⟨i,z,hi,h1,h2,hz,h3,fun γ o w O=>rS h4⟩,h5,AK h6,fun ha=>by rw [ha] at h7; simpa using h7,⟨d,hd,h8,?_⟩⟩;cases hx:x.d with
   | slice e=>rw [hx] at h9; cases d <;> simp only [dB] at h9 <;> first | (cases h9; done) | (simp only [BR] at h9; subst h9; rfl)
   | struct fs=>
    rw [hx] at h9;cases d <;> simp only [dB] at h9 <;> first | (cases h9; done) | skip
    rename_i fields;simp only [AI,BR,List.all_eq_true] at h9;exact ⟨fields,rfl,h9.1,h9.2⟩
   | array n e=>
    rw [hx] at h9;cases d <;> simp only [dB] at h9 <;> first | (cases h9; done) | skip
    simp only [AI,BR] at h9;obtain ⟨rfl,rfl⟩:=h9;rfl
   | ptr e=>rw [hx] at h9; cases d <;> simp only [dB] at h9 <;> first | (cases h9; done) | (simp only [BR] at h9; subst h9; rfl)
   | bld=>rw [hx] at h9; simp only [dB,BR] at h9; exact h9
   | map e k=>
    rw [hx] at h9;cases d <;> simp only [dB] at h9 <;> first | (cases h9; done) | skip
    rename_i kt e';simp only [AI,BR] at h9;obtain ⟨rfl,h10,h11⟩:=h9;split at h10
    ·rename_i hu;split at h11
     ·rename_i i' hi';split at h11
      ·rename_i z' hz';exact ⟨kt,i',z',rfl,hu,hi',hz',Od h11⟩
      ·cases h11
     ·cases h11
    ·cases h10
   | iface=>rw [hx] at h9; cases d <;> simp only [dB] at h9 <;> first | (cases h9; done) | exact ⟨_,rfl⟩
   | leaf=>
    rw [hx] at h9;refine ⟨fun k hk=>?_,fun hk=>?_,fun hk=>?_⟩ <;> rw [hk] at h9 <;> cases d <;> simp only [dB] at h9 <;> first | (cases h9; done) | (simp only [BR] at h9; subst h9; rfl) | rfl
  ·cases h
 ·cases h
theorem rB {P:Program} {B:BT} {E:Env} {ti:List (Nat × TI)} (he:E.ti=ti) (h:VV P B.T ti=true):TiOK P B E:=by
 subst he;have key:∀ (l:List (Nat × TI)),VV P B.T l=true→∀ t x,lk l t=some x→YW P B.T t x=true:=by
  intro l
  induction l with
  | nil=>intro _ t x hx; simp [lk] at hx
  | cons p r ih=>
   obtain ⟨j,y⟩:=p;intro hl t x hx;simp only [VV,AI] at hl;simp only [lk] at hx;split at hx
   ·rename_i hb;simp only [AB] at hx;subst hx;rw [← EA.1 hb];exact hl.1
   ·exact ih hl.2 t x hx
 exact fun t x ht=>Mu (key E.ti h t x ht)
def R3 (P:Program) (t w:Nat):Bool:=match P.info? t with | some _=>P.cellsOf t==w | none=>false
def P8 (ks:List Kd):Nat→List Kd
 | 0=>[]
 | n+1=>ks++P8 ks n
def UP (P:Program) (g:Nat→Option (List Kd)):List Field→Nat→Option (List Kd)
 | [],_=>some []
 | f :: r,o=>match g f.type with
  | some ks=>match f.name != "_"&&(f.offset==o&&R3 P f.type ks.length) with
   | true=>match UP P g r (o+ks.length) with
    | some ks'=>some (ks++ks')
    | none=>none
   | false=>none
  | none=>none
def MW (P:Program):Nat→Nat→Option (List Kd)
 | 0,_=>none
 | d+1,t=>match P.underlying t with
  | some (.int k)=>some [.int k]
  | some .bool=>some [.bool]
  | some (.struct fs)=>match P.stoodInHeld t with
   | true=>none
   | false=>UP P (MW P d) fs.toList 0
  | some (.array n e)=>match MW P d e with
   | some ks=>match R3 P e ks.length with
    | true=>some (P8 ks n)
    | false=>none
   | none=>none
  | _=>none
def WR (P:Program) (ti:List (Nat × TI)):List Nat→Bool
 | []=>true
 | t :: r=>(!(P.eqGuardType P.depth t))&&((match P.underlying t with | some d=>d.isRow | none=>false)&&(match MW P 10 t with | some ks=>FX.kdsEq (DT TI.none ti t).ks ks | none=>false))&&WR P ti r
theorem UU:∀ {ks:List Kd} {l:List V},GP ks l=true→l.length=ks.length
 | [],[],_=>rfl
 | [],_ :: _,h=>by simp [GP] at h
 | k :: _,[],h=>by cases k <;> simp [GP] at h
 | k :: ks,v :: l,h=>by
  cases k <;> cases v <;> simp only [GP] at h <;> try (cases h; done)
  ·split at h
   ·simp [UU h]
   ·cases h
  ·simp [UU h]
theorem W6:∀ {ks ks':List Kd} {l:List V},GP (ks++ks') l=true→GP ks (l.take ks.length)=true∧GP ks' (l.drop ks.length)=true
 | [],_,_,h=>⟨rfl,h⟩
 | k :: ks,ks',[],h=>by cases k <;> simp [GP] at h
 | k :: ks,ks',v :: l,h=>by
  cases k <;> cases v <;> simp only [vaL,GP] at h <;> try (cases h; done)
  ·split at h
   ·rename_i hk;obtain ⟨h1,h2⟩:=W6 h;simp only [AT,List.take_succ_cons,List.drop_succ_cons,GP,hk];exact ⟨h1,h2⟩
   ·cases h
  ·obtain ⟨h1,h2⟩:=W6 h;simp only [AT,List.take_succ_cons,List.drop_succ_cons,GP];exact ⟨h1,h2⟩
theorem WQ:∀ {a a':List V} {b b':List V} {c:Bool},a.length=a'.length→GY (a++b) (a'++b')=some c→∃ c1 c2,GY a a'=some c1∧GY b b'=some c2∧c=(c1&&c2)
 | [],[],b,b',c,_,h=>⟨true,c,rfl,h,by simp⟩
 | [],_ :: _,_,_,_,hl,_=>by simp at hl
 | _ :: _,[],_,_,_,hl,_=>by simp at hl
 | x :: a,y :: a',b,b',c,hl,h=>by
  have hl':a.length=a'.length:=by simpa using hl
  cases x <;> cases y <;> simp only [vaL,GY] at h ⊢ <;> try (cases h; done)
  ·split at h
   ·rename_i hk;split at h
    ·rename_i c0 h0;simp only [AB] at h;obtain ⟨c1,c2,h1,h2,h3⟩:=WQ hl' h0;rw [h1];exact ⟨_,c2,rfl,h2,by rw [← h,h3,Bool.and_assoc]⟩
    ·cases h
   ·cases h
  ·split at h
   ·rename_i c0 h0;simp only [AB] at h;obtain ⟨c1,c2,h1,h2,h3⟩:=WQ hl' h0;rw [h1];exact ⟨_,c2,rfl,h2,by rw [← h,h3,Bool.and_assoc]⟩
   ·cases h
theorem WP:∀ {a a':List V} {c:Bool},GY a a'=some c→a.length=a'.length
 | [],[],_,_=>rfl
 | [],_ :: _,_,h=>by simp [GY] at h
 | x :: _,[],_,h=>by cases x <;> simp [GY] at h
 | x :: a,y :: a',c,h=>by
  cases x <;> cases y <;> simp only [GY] at h <;> try (cases h; done)
  ·split at h
   ·split at h
    ·rename_i h0;simp [WP h0]
    ·cases h
   ·cases h
  ·split at h
   ·rename_i h0;simp [WP h0]
   ·cases h
section
variable {P:Program} {γ:Nat→Value} {o:Store} {w:World} {O:Nat→Prop}
def NE (P:Program) (γ:Nat→Value) (o:Store) (w:World) (O:Nat→Prop) (t:Nat) (l:List V) (x:Value):Prop:=
 match P.underlying t with
 | some d=>match d.isRow with
  | true=>∃ xs,x = .agg xs∧VRels γ o w O l xs.toList
  | false=>∃ v,l=[v]∧VRel γ o w O v x
 | none=>False
theorem jY {d t:Nat} {ks:List Kd} (h:MW P d t=some ks):∃ k,P.underlying t=some k∧(k.isRow=false→ks.length=1):=by
 cases d with
 | zero=>simp [MW] at h
 | succ d=>
  simp only [MW] at h;split at h
  ·rename_i hu; simp only [AB] at h; exact ⟨_,hu,fun _=>by rw [← h]; rfl⟩
  ·rename_i hu; simp only [AB] at h; exact ⟨_,hu,fun _=>by rw [← h]; rfl⟩
  ·rename_i hu; exact ⟨_,hu,fun h=>by simp [vbe] at h⟩
  ·rename_i hu; exact ⟨_,hu,fun h=>by simp [vbe] at h⟩
  ·cases h
theorem WH {t n off:Nat} {l:List V} {xs:Array Value} (hu:∃ k,P.underlying t=some k∧(k.isRow=false→n=1)) (hs:R3 P t n=true) (hr:VRels γ o w O l xs.toList) (hl:off+n≤l.length) (W:World) :
  ∃ y,(part t xs off).run P W = .ok y W∧NE P γ o w O t ((l.drop off).take n) y:=by
 obtain ⟨k,hu,hn⟩:=hu;unfold R3 at hs;split at hs
 ·rename_i i hi;simp only [BR] at hs;cases hrow:k.isRow with
  | true=>
   refine ⟨.agg (xs.extract off (off+n)),?_,?_⟩
   ·cases k <;> simp [vbe] at hrow <;> simp [part,isAgg,AX hu,run_sizeOf W hi,hs]
   ·unfold NE;rw [hu];simp only [hrow];refine ⟨_,rfl,?_⟩
    have:(xs.extract off (off+n)).toList=(xs.toList.drop off).take n:=by
     simp [List.extract_eq_take_drop]
    rw [this];exact (hr.drop off).take n
  | false=>
   obtain rfl:=hn hrow;obtain ⟨v,hv⟩:∃ v,l[off]?=some v:=⟨l[off]'(by omega),AV _⟩;obtain ⟨y,hy,hyr⟩:=hr.get hv;have hy':xs[off]?=some y:=by simpa using hy
   refine ⟨y,?_,?_⟩
   ·cases k <;> simp [vbe] at hrow <;> simp [part,isAgg,AX hu,hy']
   ·unfold NE;rw [hu];simp only [hrow];refine ⟨v,?_,hyr⟩;rw [List.take_one,List.head?_drop,hv];rfl
 ·cases hs
def Y5 (P:Program) (γ:Nat→Value) (o:Store) (w:World) (O:Nat→Prop) (dd t:Nat) (ks:List Kd):Prop:=∀ (W:World) (x y:Value) (l l':List V) (c:Bool),GP ks l=true→NE P γ o w O t l x→NE P γ o w O t l' y→GY l l'=some c→(vbh dd t x y).run P W = .ok c W
theorem YS (l:List V) (off n:Nat):l.drop off=(l.drop off).take n++l.drop (off+n):=by
 rw [← List.drop_drop]; exact (List.take_append_drop n (l.drop off)).symm
theorem jW {dd:Nat} {g:Nat→Option (List Kd)} (hg:∀ t ks,g t=some ks→Y5 P γ o w O dd t ks∧∃ k,P.underlying t=some k∧(k.isRow=false→ks.length=1)) {xs ys:Array Value} {l l':List V} (hx:VRels γ o w O l xs.toList) (hy:VRels γ o w O l' ys.toList) (hll:l.length=l'.length) (W:World) :
  ∀ (fs:List Field) (off:Nat) {ks:List Kd} {c:Bool},off≤l.length→UP P g fs off=some ks→GP ks (l.drop off)=true→GY (l.drop off) (l'.drop off)=some c→(Op.eqFields dd xs ys fs).run P W = .ok c W
 | [],off,ks,c,hoff,hf,hk,he=>by
  simp only [UP,AB] at hf;subst hf;have h0:=UU hk;have h1:l.drop off=[]:=List.length_eq_zero_iff.1 h0;have h2:l'.drop off=[]:=by
   have:=WP he
   rw [h1] at this;exact List.length_eq_zero_iff.1 this.symm
  rw [h1,h2] at he;simp only [GY,AB] at he;subst he;simp [Op.eqFields]
 | f :: r,off,ks,c,hoff,hf,hk,he=>by
  simp only [UP] at hf;split at hf
  ·rename_i ks1 hw;split at hf
   ·rename_i hb;split at hf
    ·rename_i ks2 hf2;simp only [AB] at hf;subst hf;simp only [AI,BR,bne_iff_ne,ne_eq] at hb;obtain ⟨hn,ho,hs⟩:=hb;obtain ⟨hrun,hu⟩:=hg _ _ hw;obtain ⟨hk1,hk2⟩:=W6 hk;rw [List.drop_drop] at hk2;have hkl:=UU hk;simp only [vaf,AQ] at hkl;have hle:off+ks1.length≤l.length:=by omega
     rw [YS l off ks1.length,YS l' off ks1.length] at he;obtain ⟨c1,c2,h1,h2,h3⟩:=WQ (by simp; omega) he;obtain ⟨a,ha,hac⟩:=WH (off:=off) hu hs hx hle W;obtain ⟨b,hb,hbc⟩:=WH (off:=off) hu hs hy (by omega) W;have he1:=hrun W a b _ _ c1 hk1 hac hbc h1;have ih:=jW hg hx hy hll W r (off+ks1.length) hle hf2 hk2 h2;simp only [Op.eqFields,hn,ne_eq,not_false_eq_true,B2,BM,ho,ha,hb,he1,A3];subst h3;cases c1
     ·simp
     ·simpa using ih
    ·cases hf
   ·cases hf
  ·cases hf
theorem jX {dd e:Nat} {ks:List Kd} (hrun:Y5 P γ o w O dd e ks) (hu:∃ k,P.underlying e=some k∧(k.isRow=false→ks.length=1)) (hs:R3 P e ks.length=true) {xs ys:Array Value} {l l':List V} (hx:VRels γ o w O l xs.toList) (hy:VRels γ o w O l' ys.toList) (hll:l.length=l'.length) (W:World) :
  ∀ (m i:Nat) {c:Bool},i*ks.length+m*ks.length=l.length→GP (P8 ks m) (l.drop (i*ks.length))=true→GY (l.drop (i*ks.length)) (l'.drop (i*ks.length))=some c→(Op.eqItems dd e ks.length xs ys (va1 i m)).run P W = .ok c W
 | 0,i,c,hl,hk,he=>by
  rw [List.drop_of_length_le (by omega),List.drop_of_length_le (by omega)] at he;simp only [GY,AB] at he;subst he;simp [Op.eqItems]
 | m+1,i,c,hl,hk,he=>by
  rw [vah,vbk] at hl;obtain ⟨hk1,hk2⟩:=W6 (ks:=ks) (ks':=P8 ks m) hk;rw [List.drop_drop] at hk2;rw [YS l (i*ks.length) ks.length,YS l' (i*ks.length) ks.length] at he;obtain ⟨c1,c2,h1,h2,h3⟩:=WQ (by simp; omega) he;obtain ⟨a,ha,hac⟩:=WH (off:=i*ks.length) hu hs hx (by omega) W;obtain ⟨b,hb,hbc⟩:=WH (off:=i*ks.length) hu hs hy (by omega) W;have he1:=hrun W a b _ _ c1 hk1 hac hbc h1;have ih:=jX hrun hu hs hx hy hll W m (i+1) (by rw [vah,vbk]; omega) (by rw [vah,vbk]; exact hk2) (by rw [vah,vbk]; exact h2);simp only [List.range'_succ,Op.eqItems,BM,ha,hb,he1,A3];subst h3;cases c1
  ·simp
  ·simpa using ih
theorem nV (ks:List Kd):∀ n,(P8 ks n).length=n*ks.length
 | 0=>by simp [P8]
 | n+1=>by simp only [P8,AQ,nV ks n,vah,vbk]; omega
theorem Z9 (dd:Nat):∀ (d t:Nat) (ks:List Kd),MW P d t=some ks→Y5 P γ o w O (dd+d) t ks
 | 0,t,ks,h=>by simp [MW] at h
 | d+1,t,ks,h=>by
  intro W x y l l' c hk hx hy he;have hll:=WP he;simp only [MW] at h;unfold NE at hx hy;split at h
  ·rename_i k hu;simp only [AB] at h;subst h;rw [hu] at hx hy;simp only at hx hy;obtain ⟨v,rfl,hx⟩:=hx;obtain ⟨v',rfl,hy⟩:=hy;cases v <;> simp only [GP] at hk <;> try (cases hk; done)
   cases v' <;> simp only [GY] at he <;> try (cases he; done)
   simp only [VRel] at hx hy;obtain ⟨rfl,_⟩:=hx;obtain ⟨rfl,_⟩:=hy;split at he
   ·rename_i hkk;simp only [AB,vaI] at he;have hkk:=eq_of_beq hkk;subst hkk;rw [show dd+(d+1)=(dd+d)+1 from rfl,run_equalIn_int W _ t _ k _ _ hu,he]
   ·cases he
  ·rename_i hu;simp only [AB] at h;subst h;rw [hu] at hx hy;simp only at hx hy;obtain ⟨v,rfl,hx⟩:=hx;obtain ⟨v',rfl,hy⟩:=hy;cases v <;> simp only [GP] at hk <;> try (cases hk; done)
   cases v' <;> simp only [GY] at he <;> try (cases he; done)
   simp only [VRel] at hx hy;subst hx; subst hy;simp only [AB,vaI] at he;rw [show dd+(d+1)=(dd+d)+1 from rfl,run_equalIn_bool W _ t _ _ hu,he]
  ·rename_i fs hu;rw [hu] at hx hy;simp only at hx hy;obtain ⟨xs,rfl,hx⟩:=hx;obtain ⟨ys,rfl,hy⟩:=hy;split at h
   ·cases h
   ·rename_i hst;have hfs:P.fieldsOf t=fs:=by simp [Program.fieldsOf,hu]
    rw [show dd+(d+1)=(dd+d)+1 from rfl,run_equalIn_struct W (dd+d) t xs ys (by rw [hfs]; exact hu) hst,hfs];exact jW (fun t ks ht=>⟨Z9 dd d t ks ht,jY ht⟩) hx hy hll W fs.toList 0 (B3 _) h hk he
  ·rename_i m e hu;rw [hu] at hx hy;simp only at hx hy;obtain ⟨xs,rfl,hx⟩:=hx;obtain ⟨ys,rfl,hy⟩:=hy;split at h
   ·rename_i ks1 hw;split at h
    ·rename_i hs;simp only [AB] at h;subst h;have hs':=hs;unfold R3 at hs';split at hs'
     ·rename_i i hi;simp only [BR] at hs';have hkl:=UU hk;rw [nV] at hkl;rw [show dd+(d+1)=(dd+d)+1 from rfl,run_equalIn_array W (dd+d) xs ys hu hi,hs',List.range_eq_range'];exact jX (Z9 dd d e ks1 hw) (jY hw) hs hx hy hll W m 0 (by omega) (by simpa using hk) (by simpa using he)
     ·cases hs'
    ·cases h
   ·cases h
  ·cases h
end
theorem j3 {P:Program} {E:Env} {ti:List (Nat × TI)} (hti:E.ti=ti) {l:List Nat} (h:WR P ti l=true):∀ t,t∈l→EqSnd P t (E.tyd t).ks:=by
 induction l with
 | nil=>intro t ht; cases ht
 | cons t r ih=>
  intro t' ht';simp only [WR,AI,CF] at h;rcases AR.1 ht' with e | e
  ·subst e;refine ⟨h.1.1,fun γ o w w' O l l' xs ys c hk hc hx hy=>?_⟩;obtain ⟨⟨_,h2,h3⟩,_⟩:=h;split at h3
   ·rename_i ks hn;have hks:(E.tyd t').ks=ks:=by
     unfold Env.tyd;rw [hti];exact aW h3
    rw [hks] at hk;split at h2
    ·rename_i k hk2;have hcx:∀ {l:List V} {xs:Array Value},VRels γ o w O l xs.toList→NE P γ o w O t' l (.agg xs):=fun hx=>by
      unfold NE;rw [hk2];simp only [h2];exact ⟨_,rfl,hx⟩
     exact Z9 (P:=P) (γ:=γ) (o:=o) (w:=w) (O:=O) 9990 10 t' ks hn w' (.agg xs) (.agg ys) l l' c hk (hcx hx) (hcx hy) hc
    ·cases h2
   ·cases h3
  ·exact ih h.2 t' e
open Go Go.RowKit
theorem Snd.mono {P:Program} {B:BT} {f:FuncId} {sp sp':MO} (h:Snd P B f sp) (hs:∀ vs r,sp' vs=some r→sp vs=some r):Snd P B f sp':=
 fun w X γ vs xs r out hsp=>h w X γ vs xs r out (hs vs _ hsp)
def C5 (P:Program) (B:BT) (f:FuncId) (sp:C2):Prop:=Snd P B f (fun vs=>(sp vs).get)
mutual
def QE:Kd→IV→Prop
 | .int k,x=>k.min≤x.toInt∧x.toInt≤k.max
 | .bool,_=>True
 | .str,x=>x.toStr.size≤strMax
 | .list ag ks,x=>x.toList.length≤strMax∧∀ y∈x.toList,QF ks (EN ag y) 0
def QF:List Kd→(Nat→IV)→Nat→Prop
 | [],_,_=>True
 | k :: ks,f,j=>QE k (f j)∧QF ks f (j+1)
end
def wfL:V→Prop
 | .int k n=>k.min≤n∧n≤k.max
 | .str s=>s.size≤strMax
 | .list ag ks l=>l.length≤strMax∧∀ y∈l,QF ks (EN ag y) 0
 | .vec _ ag ks l=>l.length≤strMax∧∀ y∈l,QF ks (EN ag y) 0
 | .bld s=>s.size≤strMax
 | _=>True
def wfLs:List V→Prop
 | []=>True
 | v :: r=>wfL v∧wfLs r
def QG:V→Prop
 | .agg l=>wfLs l
 | .bor l=>wfLs l
 | v=>wfL v
def OF:List V→Prop
 | []=>True
 | v :: r=>QG v∧OF r
mutual
theorem Kd.Rel.wf {w:World} {O:Nat→Prop}:∀ {k:Kd} {x:IV} {v:Value},Kd.Rel w O k x v→QE k x
 | .int k,x,v,h=>by simp only [Kd.Rel] at h; simp only [QE]; exact h.2
 | .bool,x,v,h=>by simp only [QE]
 | .str,x,v,h=>by simp only [Kd.Rel] at h; simp only [QE]; exact h.2
 | .list ag ks,x,v,h=>by
  simp only [Kd.Rel] at h;obtain ⟨p,c,_,_,_,hl,hi⟩:=h;simp only [QE];refine ⟨hl,fun y hy=>?_⟩;obtain ⟨i,hi'⟩:=List.getElem?_of_mem hy;obtain ⟨b,o,_,_,_,hr⟩:=hi i y hi';exact Kd.RelAll.wf hr
theorem Kd.RelAll.wf {w:World} {O:Nat→Prop}:∀ {ks:List Kd} {f:Nat→IV} {j:Nat} {R:Nat→Value→Prop},Kd.RelAll w O ks f j R→QF ks f j
 | [],_,_,_,_=>by simp only [QF]
 | k :: ks,f,j,R,h=>by
  simp only [Kd.RelAll] at h;obtain ⟨⟨u,_,hr⟩,h2⟩:=h;simp only [QF];exact ⟨Kd.Rel.wf hr,Kd.RelAll.wf h2⟩
end
theorem VRel.wfL {γ:Nat→Value} {o:Store} {w:World} {O:Nat→Prop} {v:V} {x:Value} (h:VRel γ o w O v x):wfL v:=by
 cases v <;> simp only [FM.wfL] <;> simp only [VRel] at h
 ·exact h.2
 ·exact h.2
 ·have:=Kd.Rel.wf h
  simp only [QE,IV.toList] at this;exact this
theorem VRels.wfLs {γ:Nat→Value} {o:Store} {w:World} {O:Nat→Prop}:∀ {l:List V} {xs:List Value},VRels γ o w O l xs→wfLs l
 | [],[],_=>by simp only [FM.wfLs]
 | [],_ :: _,h=>by simp only [VRels] at h
 | _ :: _,[],h=>by simp only [VRels] at h
 | v :: vs,x :: xs,h=>by
  simp only [VRels] at h;simp only [FM.wfLs];exact ⟨h.1.wfL,VRels.wfLs h.2⟩
theorem Ir {B:BT} {γ:Nat→Value} {o:Store} {w:World} {O:Nat→Prop} {g:Value} {e:Nat} {ag:Bool} {ks:List Kd} {l:LI} (h:ObRel B γ o w O g (.row true e ag ks l)):wfL (.vec e ag ks l):=by
 simp only [ObRel] at h;obtain ⟨_,hl,xs,_,hr⟩:=h;simp only [FM.wfL];refine ⟨hl,fun y hy=>?_⟩;obtain ⟨i,hi⟩:=List.getElem?_of_mem hy;exact Kd.RelAll.wf (hr i y hi)
theorem Bs {B:BT} {nt:Nat} {w0:World} {X:Zone} {γ:Nat→Value} {a:Act} {w:World} {cs:List V} (h:Rel B nt w0 X γ ⟨[],DU cs⟩ a w):wfLs cs:=by
 by_cases hb:∃ s,cs=[.bld s]
 ·obtain ⟨s,rfl⟩:=hb
  have:=h.ob 900000 (.bld s) (by simp [DU,DE])
  simp only [ObRel] at this;obtain ⟨b,v,p,_,_,_,_,_,hs⟩:=this;simp only [FM.wfLs,FM.wfL,B9];exact hs
 ·have he:DU cs=(900000,some (.box (EM 900001 cs))) :: HP 900001 cs:=Z7 (fun s e=>hb ⟨s,e⟩);have hbox:=h.ob 900000 (.box (EM 900001 cs)) (by rw [he,DE,B1 rfl]);simp only [ObRel] at hbox;obtain ⟨b,c,T,_,_,hr⟩:=hbox;have hall:∀ (j:Nat) (v:V),cs[j]?=some v→FM.wfL v:=by
   intro j v hj;by_cases hv:∃ e ag ks l,v = .vec e ag ks l
   ·obtain ⟨e,ag,ks,l,rfl⟩:=hv;have hat:=VP (nr:=900001) hj
    have:=h.ob (900001+j) _ (show CT (DU cs) (900001+j)=_ by rw [he,DE,A7 (by omega)]; exact hat)
    exact Ir this
   ·have hbk:(EM 900001 cs)[j]?=some v:=by
     rw [UE,hj];cases v <;> first | rfl | exact absurd ⟨_,_,_,_,rfl⟩ hv
    obtain ⟨x,_,hx⟩:=hr.get hbk;exact hx.wfL
  clear hr he hb h
  induction cs with
  | nil=>simp only [FM.wfLs]
  | cons v r ih=>
   simp only [FM.wfLs];exact ⟨hall 0 v rfl,ih (fun j u hj=>hall (j+1) u (by simpa using hj))⟩
theorem fO {B:BT} {nt:Nat} {w0:World} {X:Zone} {γ:Nat→Value} {a:Act} {w:World} {O:Nat→Prop} {o:Store} {cs:Option (List V)} (hcs:∀ l,cs=some l→wfLs l):∀ {vs:List V} {xs:List Value},(∀ l,.bor l∈vs→cs=some l)→VRels γ o w O (vs.map DS) xs→OF vs
 | [],_,_,_=>by simp only [OF]
 | v :: r,[],_,h=>by simp only [A6,VRels] at h
 | v :: r,x :: xs,hb,h=>by
  simp only [A6,VRels] at h;simp only [OF];refine ⟨?_,fO (B:=B) (nt:=nt) (w0:=w0) (X:=X) (a:=a) hcs (fun l hl=>hb l (AY _ hl)) h.2⟩;have h1:=h.1;by_cases hbor:∃ l,v = .bor l
  ·obtain ⟨l,rfl⟩:=hbor;simp only [QG];exact hcs l (hb l (AS ..))
  ·by_cases hagg:∃ l,v = .agg l
   ·obtain ⟨l,rfl⟩:=hagg;simp only [DS,VRel] at h1;obtain ⟨cs',_,hr⟩:=h1;simp only [QG];exact hr.wfLs
   ·have:QG v=FM.wfL v:=by cases v <;> first | rfl | exact absurd ⟨_,rfl⟩ hbor | exact absurd ⟨_,rfl⟩ hagg
    rw [this];cases v <;> first | exact h1.wfL | exact absurd ⟨_,rfl⟩ hbor | exact absurd ⟨_,rfl⟩ hagg | (simp only [FM.wfL])
def K4:List V→Option (List V)→Prop
 | [],_=>True
 | .bor l :: r,c=>c=some l∧K4 r c
 | _ :: r,c=>K4 r c
theorem cA:∀ {vs:List V} {c:Option (List V)},K4 vs c→∀ l,.bor l∈vs→c=some l
 | [],_,_,l,h=>by cases h
 | v :: r,c,ho,l,h=>by
  rcases AR.1 h with e | e
  ·subst e;exact ho.1
  ·cases v <;> simp only [K4] at ho <;> first | exact cA ho l e | exact cA ho.2 l e
theorem o6 {P:Program} {B:BT} {f:FuncId} {fn:Func} (E:Nat→Env) (sp:C2) (rks:List (List Kd)) (hf:P.funcs[f]?=some fn) {code:Code} {rs:List ResultVar} {nt:Nat}
  (hc:(fn.name == "runtime.NumGoroutine")=false∧fn.body=some code∧fn.ntmps=nt∧BI nt 900000=true∧fn.results.toList=rs) (hnt:∀ N,(E N).nt=nt) (hm:P.follows .mixedOrders=true)
  (hT:∀ N,TiOK P B (E N)) (hE:∀ N t,t∈(E N).eqs→EqSnd P t ((E N).tyd t).ks) (hSp:∀ N f sp,lk (E N).sp f=some sp→C5 P B f sp) (hIp:∀ N f p,lk (E N).ip f=some p→MD P f p) (hB:∀ N,BldOK P B (E N))
  (h:∀ vs r,(K4 vs (EC vs)→OF vs)→(sp vs).get=some r→∃ N,C6 (E N) code rs rks vs=some r):C5 P B f sp:=by
 intro w X γ vs xs r out hsp hg hx hR hV;have hwf:K4 vs (EC vs)→OF vs:=fun ho=>by
  refine fO (B:=B.base) (nt:=0) (w0:=w) (X:=X) (a:=HT) (cs:=EC vs) (fun l hl=>?_) (cA ho) hV;have hm:G1 vs=DU l:=by simp only [G1,hl]
  rw [hm] at hR;exact Bs hR
 obtain ⟨N,hN⟩:=h vs _ hwf hsp;exact vS hf hc.1 hc.2.1 ((hnt N).trans hc.2.2.1.symm) (by rw [hc.2.2.1]; exact hc.2.2.2.1) hc.2.2.2.2 rks hm (hT N) (hE N) (hSp N) (hIp N) (hB N) w X γ vs xs r out hN hg hx hR hV
abbrev ic (n:Nat):Int:=n
noncomputable abbrev C4 (E:Env) (c:Code) (kp:KP) (n:Nat) (s:St) (k:Out→St→CU):CU:=LO c (GZ LO E c) kp n s k
noncomputable abbrev C0 (E:Env) (c:Code) (k:Out→St→CU):Out→St→CU:=kZ c (GZ LO E c) k
noncomputable abbrev D9 (E:Env) (c:Code) (s:St) (k:Out→St→CU):CU:=GZ LO E c s k
theorem DD (E:Env) (c:Code) (kp:KP) (n:Nat) (s:St) (k:Out→St→CU):C4 E c kp (n+1) s k=D9 E c s (D4 (fun s'=>C4 E c kp n s' k) kp k):=rfl
def C9 (fn:Func):Code:=match fn.body with | some c=>c | none=>.skip
def CR:Code→List Nat→Code
 | c,[]=>c
 | .seq a _,0 :: r=>CR a r
 | .seq _ b,_ :: r=>CR b r
 | .cond _ a _,0 :: r=>CR a r
 | .cond _ _ b,_ :: r=>CR b r
 | .block _ c,_ :: r=>CR c r
 | .loop c,_ :: r=>CR c r
 | .scope c,_ :: r=>CR c r
 | _,_=>.skip
open Go Go.RowKit
section
variable {P:Program} {B:BT} {f:FuncId}
theorem Does.of_calls {fn:Func} (hf:P.funcs[f]?=some fn) (hn:(fn.name == "runtime.NumGoroutine")=false) (hb:fn.body.isNone=false) {xs:List Value} {w:World} {R:Ending→World→Prop} (h:Calls P f xs.toArray w R):Does P f xs w R:=Does.enter hf hn hb h
theorem Kw {w:World} {X:Zone} {γ:Nat→Value} {vs:List V} {xs:List Value} {e:Nat} {ag:Bool} {ks:List Kd} {l:LI} (hR:Rel B.base 0 w X γ ⟨[],G1 vs⟩ HT w) (hb:EC vs=none) (he:e < 1000000) (hks:0 < ks.length) (hl:l.length≤strMax)
  (h:Does P f xs w fun e' w'=>∃ v ys,e' = .returned v∧Keep (fun _=>False) w w'∧w'.ownsRow w.heap.size e ks.length v l.length ys∧∀ (O:Nat→Prop) i y,l[i]?=some y→Kd.RelAll w' O ks (EN ag y) 0 (fun j u=>ys[i*ks.length+j]?=some u)) :
  Does P f xs w fun e' w'=>∃ x,e' = .returned x∧∃ γ',Rel B.base 0 w X γ' ⟨[],FB (.vec e ag ks l) []⟩ HT w'∧VRel γ' (FB (.vec e ag ks l) []) w' (CV X γ' (FB (.vec e ag ks l) [])) (JG (.vec e ag ks l)) x∧I5 vs (.vec e ag ks l) [] (γ 900000) (γ' 900000):=by
 have hm:G1 vs=[]:=by simp only [G1,hb]
 rw [hm] at hR;have hmo:FB (.vec e ag ks l) []=[(900000,some (.row true e ag ks l))]:=rfl;rw [hmo];refine h.mono ?_;rintro e' w' ⟨v,ys,rfl,hk,hown,hel⟩;have hown0:w'.ownsRow 0 e ks.length v l.length ys:=by
  refine ⟨hown.1,?_⟩;rcases hown.2 with h1 | ⟨g,cap,cur,h1,_,h2,h3,h4,h5,h6⟩
  ·exact .inl h1
  ·exact .inr ⟨g,cap,cur,h1,B3 _,h2,h3,h4,h5,h6⟩
 have obs:∀ n ob,CT [(900000,some (Ob.row true e ag ks l))] n=some ob→n=900000∧ob = .row true e ag ks l:=fun n ob hn=>by
  rw [DE] at hn;split at hn
  ·rename_i h9;simp only [AB] at hn;exact ⟨h9.symm,hn.symm⟩
  ·simp [CT,DT] at hn
 have hfresh:∀ b,v.ownBlock=some b→w.heap.size≤b∧b < w'.heap.size:=fun b hb=>hown.lt b hb
 have ownP:∀ b,DZ (fun n=>if n=900000 then v else γ n) [(900000,some (Ob.row true e ag ks l))] b→v.ownBlock=some b:=by
  rintro b ⟨n,ob,hn,hb⟩;obtain ⟨rfl,rfl⟩:=obs n ob hn;simpa only [DR,B2] using hb
 refine ⟨v,rfl,fun n=>if n=900000 then v else γ n,⟨hR.sz,hR.df,fun i=>by simp only [St.get,DT,VRel],fun n ob hn=>?_,fun b hb=>?_,fun n m ob ob' b hnm h1 h2=>?_,hk.mono (fun _ _ h=>h.elim),fun b hb hf=>?_,fun b hf=>B7 (hR.fl b hf) hk.size,fun p hp=>by cases hp⟩,?_,?_⟩
 ·obtain ⟨rfl,rfl⟩:=obs n ob hn;simp only [ObRel,B2];exact ⟨hks,hl,ys,OwnRow.of hown0 he,hel _⟩
 ·have:=hfresh b (ownP b hb)
  exact ⟨this.2,.inl this.1⟩
 ·obtain ⟨rfl,rfl⟩:=obs n ob h1;obtain ⟨rfl,rfl⟩:=obs m ob' h2;exact absurd rfl hnm
 ·have:=hfresh b (ownP b hb)
  have:=hR.fl b hf
  omega
 ·simp only [JG,VRel,DE,B2];refine ⟨AP _,?_⟩;rcases hown.2 with ⟨rfl,h0⟩ | ⟨g,cap,cur,rfl,_,h2,h3,h4,h5,h6⟩
  ·exact ⟨none,0,0,none,rfl,by rw [h0],B3 _,by rw [h0]; exact AP _,AP _,B3 _,.inl rfl,fun _=>rfl⟩
  ·refine ⟨some ⟨g,0,none⟩,l.length,cap,some ⟨g,0,none⟩,rfl,by simp,B3 _,AP _,h3,h4,.inl ?_,fun _=>rfl⟩;simp [Addr.add]
 ·simp only [I5,hb,RL]
end
open Go Go.RowKit
theorem R.get_br (b:Bool) (x y:R):(R.br b x y).get=cond b x.get y.get:=by cases b <;> rfl
theorem R.get_ok (v:V) (o:List (List V)):(R.ok v o).get=some (v,o):=rfl
theorem R.get_no:R.no.get=none:=rfl
def cutL (s sep:BA):BA:=⟨(Lib.cut s.data.toList sep.data.toList).1.toArray⟩
open Go Go.Proofs
def VX:List (Nat × TI):=[
 (2,⟨1,8,false,[.z],[.int .i64 0],.leaf⟩),
 (3,⟨1,8,false,[.z],[.int .i64 0],.leaf⟩),
 (4,⟨1,1,false,[.bool],[.bool false],.leaf⟩),
 (5,⟨1,1,false,[.int .u8],[.int .u8 0],.leaf⟩),
 (6,⟨1,1,false,[.int .u8],[.int .u8 0],.leaf⟩),
 (7,⟨4,24,true,[.z,.z,.bool,.int .u8],[.int .i64 0,.int .i64 0,.bool false,.int .u8 0],.struct [(0,2),(1,3),(2,4),(3,6)]⟩),
 (22,⟨1,24,false,[.list false [.z]],[.zs],.slice 3⟩),
 (23,⟨1,24,false,[.list true [.z,.list false [.z],.list false [.z],.list false [.z],.list false [.z]]],[.zs],.slice 61⟩),
 (25,⟨4,64,true,[.z,.z,.list false [.z],.list true [.z,.list false [.z],.list false [.z],.list false [.z],.list false [.z]]],[.int .i64 0,.int .i64 0,.zs,.zs],.struct [(0,3),(1,3),(2,22),(3,23)]⟩),
 (27,⟨8,80,true,[.z,.z,.z,.z,.z,.z,.bool,.list false [.z]],[.int .i64 0,.int .i64 0,.int .i64 0,.int .i64 0,.int .i64 0,.int .i64 0,.bool false,.zs],.struct [(0,3),(1,3),(2,3),(3,3),(4,3),(5,3),(6,4),(7,22)]⟩),
 (29,⟨2,16,true,[.z,.z],[.int .i64 0,.int .i64 0],.struct [(0,3),(1,3)]⟩),
 (31,⟨10,80,true,[.z,.z,.z,.z,.z,.z,.z,.z,.z,.z],[.int .i64 0,.int .i64 0,.int .i64 0,.int .i64 0,.int .i64 0,.int .i64 0,.int .i64 0,.int .i64 0,.int .i64 0,.int .i64 0],.array 5 29⟩),
 (33,⟨17,136,true,[.z,.z,.z,.z,.z,.z,.z,.z,.z,.z,.z,.z,.z,.z,.z,.bool,.z],[.int .i64 0,.int .i64 0,.int .i64 0,.int .i64 0,.int .i64 0,.int .i64 0,.int .i64 0,.int .i64 0,.int .i64 0,.int .i64 0,.int .i64 0,.int .i64 0,.int .i64 0,.int .i64 0,.int .i64 0,.bool false,.int .i64 0],.struct [(0,3),(1,3),(2,31),(12,3),(13,3),(14,3),(15,4),(16,3)]⟩),
 (34,⟨3,24,true,[.z,.z,.z],[.int .i64 0,.int .i64 0,.int .i64 0],.array 3 3⟩),
 (35,⟨1,24,false,[.list true [.z,.list false [.int .u64]]],[.zs],.slice 65⟩),
 (37,⟨6,64,true,[.z,.z,.z,.z,.z,.list true [.z,.list false [.int .u64]]],[.int .i64 0,.int .i64 0,.int .i64 0,.int .i64 0,.int .i64 0,.zs],.struct [(0,3),(1,3),(2,34),(5,35)]⟩),
 (41,⟨1,24,false,[.list true [.bool,.z,.z]],[.zs],.slice 71⟩),
 (43,⟨4,32,true,[.z,.z,.z,.z],[.int .i64 0,.int .i64 0,.int .i64 0,.int .i64 0],.array 4 3⟩),
 (45,⟨8,80,true,[.z,.list true [.bool,.z,.z],.z,.z,.z,.z,.z,.z],[.int .i64 0,.zs,.int .i64 0,.int .i64 0,.int .i64 0,.int .i64 0,.int .i64 0,.int .i64 0],.struct [(0,3),(1,41),(2,43),(6,3),(7,3)]⟩),
 (48,⟨1,8,false,[.list false []],[.nilp],.ptr 80⟩),
 (61,⟨5,104,true,[.z,.list false [.z],.list false [.z],.list false [.z],.list false [.z]],[.int .i64 0,.zs,.zs,.zs,.zs],.struct [(0,3),(1,22),(2,22),(3,22),(4,22)]⟩),
 (62,⟨1,24,false,[.list false [.int .u64]],[.zs],.slice 91⟩),
 (65,⟨2,32,true,[.z,.list false [.int .u64]],[.int .i64 0,.zs],.struct [(0,3),(1,62)]⟩),
 (68,⟨1,24,false,[.list true [.z,.z,.z,.z,.z,.z,.z,.z,.z,.z]],[.zs],.slice 31⟩),
 (71,⟨3,24,true,[.bool,.z,.z],[.bool false,.int .i64 0,.int .i64 0],.struct [(0,4),(1,3),(2,3)]⟩),
 (80,⟨34,336,true,[.z,.z,.z,.z,.z,.list true [.z,.list false [.int .u64]],.z,.z,.z,.z,.z,.z,.z,.z,.z,.z,.z,.z,.z,.z,.z,.bool,.z,.list true [.z,.z,.z,.z,.z,.z,.z,.z,.z,.z],.list true [.bool,.z,.z],.z,.list true [.bool,.z,.z],.z,.z,.z,.z,.z,.z,.z],[.int .i64 0,.int .i64 0,.int .i64 0,.int .i64 0,.int .i64 0,.zs,.int .i64 0,.int .i64 0,.int .i64 0,.int .i64 0,.int .i64 0,.int .i64 0,.int .i64 0,.int .i64 0,.int .i64 0,.int .i64 0,.int .i64 0,.int .i64 0,.int .i64 0,.int .i64 0,.int .i64 0,.bool false,.int .i64 0,.zs,.zs,.int .i64 0,.zs,.int .i64 0,.int .i64 0,.int .i64 0,.int .i64 0,.int .i64 0,.int .i64 0,.int .i64 0],.struct [(0,37),(6,33),(23,68),(24,41),(25,45),(33,3)]⟩),
 (89,⟨6,48,true,[.bool,.z,.z,.z,.z,.z],[.bool false,.int .i64 0,.int .i64 0,.int .i64 0,.int .i64 0,.int .i64 0],.struct [(0,4),(1,3),(2,3),(3,3),(4,3),(5,3)]⟩),
 (90,⟨1,24,false,[.list true [.bool,.z,.z,.z,.z,.z]],[.zs],.slice 89⟩),
 (91,⟨1,8,false,[.int .u64],[.int .u64 0],.leaf⟩),
 (112,⟨1,8,false,[.int .u64],[.int .u64 0],.leaf⟩),
 (116,⟨1,8,false,[.list false []],[.any],.map 4 (.bool)⟩),
 (127,⟨1,8,false,[.list false []],[.any],.map 3 .z⟩),
 (128,⟨1,24,false,[.list true [.z,.z,.z,.z,.z,.z,.z,.z,.z,.z,.z]],[.zs],.slice 131⟩),
 (131,⟨11,88,true,[.z,.z,.z,.z,.z,.z,.z,.z,.z,.z,.z],[.int .i64 0,.int .i64 0,.int .i64 0,.int .i64 0,.int .i64 0,.int .i64 0,.int .i64 0,.int .i64 0,.int .i64 0,.int .i64 0,.int .i64 0],.struct [(0,31),(10,3)]⟩)]
def Z8:List Nat:=[29,43,71,89]
noncomputable abbrev PR:Program:=Tryz.prog
theorem rA:VV PR 999999 VX=true:=by kernel_rfl
theorem jZ:WR PR VX Z8=true:=by kernel_rfl
theorem l9:PR.follows .mixedOrders=true:=by kernel_rfl
theorem fT (h:(DT TI.none VX 999999).d = .bld):∃ i,PR.info? 999999=some i∧i.zero=some (.agg #[.pointer none,.slice none 0 0]):=by
 have h':TD.leaf = .bld:=h;cases h'
def DB (sp:List (Nat × C2)) (lp:List (Nat × KP)) (nt N:Nat):Env:=⟨VX,sp,[],lp,nt,N,Z8,[]⟩
def XS (sp:List (Nat × C2)) (ip:List (Nat × Ip)) (lp:List (Nat × KP)) (nt N:Nat):Env:=⟨VX,sp,[],lp,nt,N,Z8,ip⟩
abbrev HF (fn:Func) (c:Code) (nt:Nat) (rs:List ResultVar):Prop:=(fn.name == "runtime.NumGoroutine")=false∧fn.body=some c∧fn.ntmps=nt∧BI nt 900000=true∧fn.results.toList=rs
theorem DA {fn:Func} {nt:Nat} {rs:List ResultVar} (h:(!(fn.name == "runtime.NumGoroutine")&&(fn.body.isSome&&(fn.ntmps==nt&&BI nt 900000)))=true:=by kernel_rfl) (h2:fn.results.toList=rs:=by kernel_rfl):HF fn (C9 fn) nt rs:=by
 simp only [AI,CF,BR] at h;refine ⟨h.1,?_,h.2.2.1,h.2.2.2,h2⟩;unfold C9;cases hb:fn.body with
 | none=>rw [hb] at h; exact absurd h.2.1 (by decide)
 | some c=>rfl
noncomputable def PD:Code:=C9 Tryz.f3
theorem yT:HF Tryz.f3 PD 83 [.tmp 10]:=DA
noncomputable def I6:Code:=C9 Tryz.f5
theorem yM:HF Tryz.f5 I6 63 [.cell 2 37]:=DA
noncomputable def gL:Code:=C9 Tryz.f6
theorem yL:HF Tryz.f6 gL 58 [.cell 4 33]:=DA
noncomputable def gK:Code:=C9 Tryz.f7
theorem yK:HF Tryz.f7 gK 24 [.tmp 6]:=DA
noncomputable def QX:Code:=C9 Tryz.f8
theorem y2:HF Tryz.f8 QX 109 [.cell 4 45]:=DA
noncomputable def gN:Code:=C9 Tryz.f9
theorem yQ:HF Tryz.f9 gN 38 [.tmp 4]:=DA
noncomputable def NQ:Code:=C9 Tryz.f10
theorem Ai:HF Tryz.f10 NQ 13 [.cell 4 45]:=DA
noncomputable def iR:Code:=C9 Tryz.f11
theorem Ah:HF Tryz.f11 iR 26 [.tmp 4]:=DA
noncomputable def UI:Code:=C9 Tryz.f12
theorem Al:HF Tryz.f12 UI 22 [.cell 2 45]:=DA
noncomputable def UH:Code:=C9 Tryz.f13
theorem Aj:HF Tryz.f13 UH 165 [.tmp 2]:=DA
noncomputable def gP:Code:=C9 Tryz.f14
theorem yS:HF Tryz.f14 gP 60 [.tmp 0]:=DA
noncomputable def iN:Code:=C9 Tryz.f16
theorem Ad:HF Tryz.f16 iN 16 [.cell 2 31]:=DA
noncomputable def gO:Code:=C9 Tryz.f18
theorem yR:HF Tryz.f18 gO 15 [.tmp 4]:=DA
noncomputable def IP:Code:=C9 Tryz.f19
theorem yP:HF Tryz.f19 IP 113 [.tmp 4]:=DA
noncomputable def NN:Code:=C9 Tryz.f20
theorem yN:HF Tryz.f20 NN 32 [.cell 4 31]:=DA
noncomputable def NO:Code:=C9 Tryz.f21
theorem y0:HF Tryz.f21 NO 139 [.tmp 4]:=DA
noncomputable def gS:Code:=C9 Tryz.f22
theorem y5:HF Tryz.f22 gS 28 [.cell 2 31]:=DA
noncomputable def PE:Code:=C9 Tryz.f23
theorem yW:HF Tryz.f23 PE 108 [.tmp 6]:=DA
noncomputable def JR:Code:=C9 Tryz.f24
theorem yV:HF Tryz.f24 JR 87 [.tmp 8]:=DA
noncomputable def gQ:Code:=C9 Tryz.f25
theorem yZ:HF Tryz.f25 gQ 16 [.cell 2 43]:=DA
noncomputable def QY:Code:=C9 Tryz.f26
theorem y4:HF Tryz.f26 QY 31 [.tmp 6,.tmp 7,.tmp 8]:=DA
noncomputable def gT:Code:=C9 Tryz.f27
theorem y7:HF Tryz.f27 gT 35 [.cell 6 31,.cell 7 31]:=DA
noncomputable def NL:Code:=C9 Tryz.f28
theorem yJ:HF Tryz.f28 NL 26 [.tmp 4]:=DA
noncomputable def iL:Code:=C9 Tryz.f29
theorem Ab:HF Tryz.f29 iL 41 [.tmp 4]:=DA
noncomputable def iB:Code:=C9 Tryz.f31
theorem zR:HF Tryz.f31 iB 86 [.tmp 6]:=DA
noncomputable def iC:Code:=C9 Tryz.f32
theorem zS:HF Tryz.f32 iC 9 [.cell 2 43,.tmp 3]:=DA
noncomputable def JT:Code:=C9 Tryz.f33
theorem Aa:HF Tryz.f33 JT 75 [.tmp 8]:=DA
noncomputable def MQ:Code:=C9 Tryz.f34
theorem zT:HF Tryz.f34 MQ 31 [.tmp 6,.tmp 7,.tmp 8]:=DA
noncomputable def uJ:Code:=C9 Tryz.f35
theorem yG:HF Tryz.f35 uJ 32 [.cell 6 31,.cell 7 31]:=DA
noncomputable def gM:Code:=C9 Tryz.f36
theorem yO:HF Tryz.f36 gM 14 [.cell 0 37]:=DA
noncomputable def ZO:Code:=C9 Tryz.f37
theorem zU:HF Tryz.f37 ZO 24 [.tmp 8]:=DA
noncomputable def iP:Code:=C9 Tryz.f38
theorem Af:HF Tryz.f38 iP 16 [.tmp 2]:=DA
noncomputable def gY:Code:=C9 Tryz.f40
theorem zF:HF Tryz.f40 gY 32 [.tmp 2]:=DA
noncomputable def IQ:Code:=C9 Tryz.f41
theorem zG:HF Tryz.f41 IQ 77 [.tmp 2]:=DA
noncomputable def gV:Code:=C9 Tryz.f42
theorem y9:HF Tryz.f42 gV 27 [.tmp 4]:=DA
noncomputable def gU:Code:=C9 Tryz.f43
theorem y8:HF Tryz.f43 gU 15 [.tmp 2]:=DA
noncomputable def QZ:Code:=C9 Tryz.f44
theorem y6:HF Tryz.f44 QZ 69 [.tmp 6,.tmp 7,.tmp 8]:=DA
noncomputable def gR:Code:=C9 Tryz.f45
theorem y3:HF Tryz.f45 gR 24 [.cell 4 31]:=DA
noncomputable def KC:Code:=C9 Tryz.f46
theorem zE:HF Tryz.f46 KC 46 [.tmp 6]:=DA
noncomputable def GM:Code:=C9 Tryz.f47
theorem yX:HF Tryz.f47 GM 133 [.tmp 8]:=DA
noncomputable def gW:Code:=C9 Tryz.f48
theorem zC:HF Tryz.f48 gW 24 [.cell 4 29]:=DA
noncomputable def LH:Code:=C9 Tryz.f49
theorem zY:HF Tryz.f49 LH 54 [.tmp 2]:=DA
noncomputable def iQ:Code:=C9 Tryz.f50
theorem Ag:HF Tryz.f50 iQ 35 [.tmp 4]:=DA
noncomputable def iO:Code:=C9 Tryz.f51
theorem Ae:HF Tryz.f51 iO 71 [.tmp 4]:=DA
noncomputable def gI:Code:=C9 Tryz.f52
theorem yH:HF Tryz.f52 gI 12 [.tmp 2]:=DA
noncomputable def F1:Code:=C9 Tryz.f53
theorem yE:HF Tryz.f53 F1 69 [.tmp 6,.tmp 7,.tmp 8]:=DA
noncomputable def NJ:Code:=C9 Tryz.f54
theorem yD:HF Tryz.f54 NJ 62 [.tmp 6,.tmp 7]:=DA
noncomputable def hU:Code:=C9 Tryz.f55
theorem zO:HF Tryz.f55 hU 23 [.tmp 4]:=DA
noncomputable def g8:Code:=C9 Tryz.f56
theorem zM:HF Tryz.f56 g8 54 [.tmp 6,.tmp 7,.tmp 8]:=DA
noncomputable def gJ:Code:=C9 Tryz.f57
theorem yI:HF Tryz.f57 gJ 16 [.cell 2 43]:=DA
noncomputable def iE:Code:=C9 Tryz.f58
theorem zX:HF Tryz.f58 iE 24 [.tmp 6]:=DA
noncomputable def iV:Code:=C9 Tryz.f59
theorem Aq:HF Tryz.f59 iV 15 [.tmp 4]:=DA
noncomputable def iM:Code:=C9 Tryz.f60
theorem Ac:HF Tryz.f60 iM 14 [.cell 6 43]:=DA
noncomputable def iT:Code:=C9 Tryz.f61
theorem Ao:HF Tryz.f61 iT 29 [.cell 4 29,.cell 5 29]:=DA
noncomputable def iD:Code:=C9 Tryz.f62
theorem zV:HF Tryz.f62 iD 23 [.tmp 4]:=DA
noncomputable def KD:Code:=C9 Tryz.f64
theorem z1:HF Tryz.f64 KD 54 [.tmp 4]:=DA
noncomputable def gZ:Code:=C9 Tryz.f66
theorem zH:HF Tryz.f66 gZ 66 [.tmp 2]:=DA
noncomputable def IR:Code:=C9 Tryz.f67
theorem zI:HF Tryz.f67 IR 94 [.tmp 4]:=DA
noncomputable def QW:Code:=C9 Tryz.f68
theorem yU:HF Tryz.f68 QW 43 [.tmp 4,.tmp 5,.tmp 6]:=DA
noncomputable def g7:Code:=C9 Tryz.f69
theorem zK:HF Tryz.f69 g7 23 [.tmp 4]:=DA
noncomputable def g6:Code:=C9 Tryz.f70
theorem zJ:HF Tryz.f70 g6 42 [.cell 2 89,.tmp 3]:=DA
noncomputable def gB:Code:=C9 Tryz.f71
theorem xX:HF Tryz.f71 gB 25 [.tmp 4]:=DA
noncomputable def iS:Code:=C9 Tryz.f72
theorem Am:HF Tryz.f72 iS 9 [.tmp 4]:=DA
noncomputable def iF:Code:=C9 Tryz.f73
theorem zZ:HF Tryz.f73 iF 22 [.tmp 3]:=DA
noncomputable def H6:Code:=C9 Tryz.f74
theorem Au:HF Tryz.f74 H6 94 [.tmp 4]:=DA
noncomputable def iU:Code:=C9 Tryz.f75
theorem Ap:HF Tryz.f75 iU 8 [.tmp 2]:=DA
noncomputable def NK:Code:=C9 Tryz.f76
theorem yF:HF Tryz.f76 NK 43 [.tmp 4,.tmp 5,.tmp 6]:=DA
noncomputable def iA:Code:=C9 Tryz.f77
theorem zQ:HF Tryz.f77 iA 16 [.tmp 2]:=DA
noncomputable def g9:Code:=C9 Tryz.f78
theorem zN:HF Tryz.f78 g9 10 [.cell 4 31]:=DA
noncomputable def hZ:Code:=C9 Tryz.f79
theorem zP:HF Tryz.f79 hZ 15 [.cell 4 31]:=DA
noncomputable def KE:Code:=C9 Tryz.f80
theorem z2:HF Tryz.f80 KE 33 [.tmp 6]:=DA
noncomputable def iX:Code:=C9 Tryz.f81
theorem As:HF Tryz.f81 iX 12 [.cell 4 29]:=DA
noncomputable def iW:Code:=C9 Tryz.f82
theorem Ar:HF Tryz.f82 iW 2 [.cell 0 29]:=DA
noncomputable def iI:Code:=C9 Tryz.f84
theorem z7:HF Tryz.f84 iI 33 [.cell 2 89,.tmp 3]:=DA
noncomputable def PF:Code:=C9 Tryz.f87
theorem yY:HF Tryz.f87 PF 105 [.tmp 4]:=DA
noncomputable def JS:Code:=C9 Tryz.f88
theorem zL:HF Tryz.f88 JS 41 [.tmp 4]:=DA
noncomputable def gX:Code:=C9 Tryz.f89
theorem zD:HF Tryz.f89 gX 31 [.tmp 4]:=DA
noncomputable def MR:Code:=C9 Tryz.f90
theorem An:HF Tryz.f90 MR 19 [.tmp 4]:=DA
noncomputable def NP:Code:=C9 Tryz.f91
theorem zW:HF Tryz.f91 NP 79 [.tmp 4]:=DA
noncomputable def iY:Code:=C9 Tryz.f92
theorem Av:HF Tryz.f92 iY 15 [.tmp 4]:=DA
noncomputable def gE:Code:=C9 Tryz.f93
theorem x2:HF Tryz.f93 gE 14 [.tmp 6]:=DA
noncomputable def gC:Code:=C9 Tryz.f94
theorem xY:HF Tryz.f94 gC 18 [.tmp 6]:=DA
noncomputable def iJ:Code:=C9 Tryz.f95
theorem z8:HF Tryz.f95 iJ 11 [.tmp 5]:=DA
noncomputable def iG:Code:=C9 Tryz.f96
theorem z5:HF Tryz.f96 iG 32 [.tmp 2]:=DA
noncomputable def JU:Code:=C9 Tryz.f99
theorem Aw:HF Tryz.f99 JU 46 [.tmp 4,.cell 5 89]:=DA
noncomputable def gF:Code:=C9 Tryz.f100
theorem yA:HF Tryz.f100 gF 21 [.tmp 4]:=DA
noncomputable def gG:Code:=C9 Tryz.f101
theorem yB:HF Tryz.f101 gG 21 [.tmp 4]:=DA
noncomputable def gH:Code:=C9 Tryz.f102
theorem yC:HF Tryz.f102 gH 7 [.tmp 2]:=DA
noncomputable def iH:Code:=C9 Tryz.f103
theorem z6:HF Tryz.f103 iH 43 [.tmp 2]:=DA
noncomputable def gD:Code:=C9 Tryz.f104
theorem xZ:HF Tryz.f104 gD 30 [.tmp 8]:=DA
noncomputable def iK:Code:=C9 Tryz.f116
theorem z9:HF Tryz.f116 iK 9 [.tmp 2]:=DA
open Go Go.Proofs Go.RowKit
theorem Keep.freeze {O:Nat→Prop} (w:World) (a:Addr) (n:Nat) (h:O a.block):Keep O w (w.freeze a n):=by
 unfold World.freeze;split
 ·exact Keep.refl _ _
 ·exact ⟨rfl,rfl,rfl,by simp,fun b _ hn=>by simp only [Array.getElem?_modify]; rw [A7 (fun e:a.block=b=>hn (e ▸ h))]⟩
end Go.FM
namespace Go.Proofs
open Go.Shelf
def Tryz.lays189_ren:Go.Shelf.Ren:=⟨fun | 189=>85 | 125=>98 | 257=>97 | 128=>114 | 129=>115 | 294=>105 | 295=>106 | 296=>107 | 297=>108 | 298=>109 | 299=>110 | 216=>111 | 300=>112 | 301=>113 | 328=>117 | 329=>118 | 330=>119 | 331=>120 | 332=>121 | 215=>122 | 343=>123 | n=>n,fun | 28=>22 | 3=>3 | 46=>112 | 0=>0 | 51=>150 | 53=>91 | 4=>4 | 183=>144 | 182=>143 | 131=>53 | 5=>5 | 9=>9 | 218=>152 | 222=>156 | 228=>158 | 229=>159 | n=>n,fun | n=>n⟩
theorem Tryz.lays189:Go.Proofs.Lays.n189 Tryz.prog Tryz.lays189_ren:= by constructor <;> first | kernel_rfl | (intro _; kernel_rfl)
open Go.Sort Go.RowKit in
theorem Tryz.slices_Sort_int (blk off cap:Nat) (zs:List Int) (w:World) (hH:Holds (Value.int .i64) w blk off zs.toArray) (hblk:blk < w.heap.size) (hsz:zs.length < 4611686018427387904) :
 Calls Tryz.prog 85 #[.slice (some ⟨blk,off,none⟩) zs.length cap] w fun e w'=>
  e = .returned (.tuple #[])∧∃ n os,w'=grow (putRow (Value.int .i64) (Sort.ahead w n) blk off (zs.mergeSort fun x y=>decide (x≤y)).toArray) os:=Any.slices_Sort_int Tryz.lays189 blk off cap zs w hH hblk hsz
def Tryz.laysNm220_ren:Go.Shelf.Ren:=⟨fun | 20=>86 | n=>n,fun | 22=>22 | 3=>3 | 4=>4 | 0=>0 | n=>n,fun | n=>n⟩
theorem Tryz.laysNm220:Go.Proofs.Lays2.n20 Tryz.prog Tryz.laysNm220_ren:={
 mixed:=by kernel_rfl
 f20:=Tryz.func86.trans (congrArg some (by kernel_rfl))
 t0:=Tryz.underlying0
 a0:=Tryz.isAgg0
 z0:=Tryz.sizeOf0
 v0:=Tryz.zeroValue0
 t3:=Tryz.underlying3
 a3:=Tryz.isAgg3
 z3:=Tryz.sizeOf3
 v3:=Tryz.zeroValue3
 t4:=Tryz.underlying4
 a4:=Tryz.isAgg4
 z4:=Tryz.sizeOf4
 v4:=Tryz.zeroValue4
 t22:=Tryz.underlying22
 a22:=Tryz.isAgg22
 z22:=Tryz.sizeOf22
 v22:=Tryz.zeroValue22
 i3:=by kernel_rfl }
open Go.RowKit Go.Lib Go.Sort in
theorem Tryz.slices_Compact_int (blk off cap:Nat) (zs:List Int) (w:World) (hH:Holds (Value.int .i64) w blk off zs.toArray) (hsz:zs.length≤9223372036854775807) (hcap:zs.length≤cap) :
 Calls Tryz.prog 86 #[.slice (some ⟨blk,off,none⟩) zs.length cap] w fun e w'=>e = .returned (.slice (some ⟨blk,off,none⟩) (Lib.compact zs).length cap)∧∃ q,w'=putRow (Value.int .i64) (Sort.ahead w q) blk off (Lib.compact zs++List.replicate (zs.length - (Lib.compact zs).length) 0).toArray:=Any.slices_Compact_int Tryz.laysNm220 blk off cap zs w hH hsz hcap
open Go.RowKit Go.Lib Go.Sort in
theorem Tryz.slices_Compact_int_empty (a:Option Addr) (cap:Nat) (w:World) :
 Calls Tryz.prog 86 #[.slice a 0 cap] w fun e w'=>e = .returned (.slice a 0 cap)∧w'=w:=Any.slices_Compact_int_empty Tryz.laysNm220 a cap w
open Go.RowKit Go.Sort in
theorem Tryz.slices_Sort_int_none (p:Option Addr) (cap:Nat) (w:World) :
 Calls Tryz.prog 85 #[.slice p 0 cap] w fun e w'=>e = .returned (.tuple #[])∧w'=w:=Any.slices_Sort_int_none Tryz.lays189 p cap w
def Tryz.laysSlH6_f83_ren:Go.Shelf.Ren:=⟨fun | 6=>83 | n=>n,fun | 22=>22 | 23=>3 | 25=>110 | 3=>3 | 0=>0 | 4=>4 | n=>n,fun | n=>n⟩
theorem Tryz.laysSlH6_f83:Go.Proofs.SlLaysH.n6 Tryz.prog Tryz.laysSlH6_f83_ren:={
 mixed:=by kernel_rfl
 f6:=⟨Tryz.f83.name,by decide,Tryz.func83.trans (congrArg some (by kernel_rfl))⟩
 t0:=Tryz.underlying0
 a0:=Tryz.isAgg0
 z0:=Tryz.sizeOf0
 v0:=Tryz.zeroValue0
 t3:=Tryz.underlying3
 a3:=Tryz.isAgg3
 z3:=Tryz.sizeOf3
 v3:=Tryz.zeroValue3
 t4:=Tryz.underlying4
 a4:=Tryz.isAgg4
 z4:=Tryz.sizeOf4
 v4:=Tryz.zeroValue4
 t22:=Tryz.underlying22
 a22:=Tryz.isAgg22
 z22:=Tryz.sizeOf22
 v22:=Tryz.zeroValue22
 a23:=Tryz.isAgg3
 z23:=Tryz.sizeOf3
 t25:=Tryz.underlying110
 a25:=Tryz.isAgg110
 z25:=Tryz.sizeOf110
 v25:=Tryz.zeroValue110 }
open Go.RowKit Go.Lib in
theorem Tryz.slices_IndexFunc_empty {α:Type} [Inhabited α] (a:Option Addr) (c:Nat) (fv:Value) (w:World) :
 Calls Tryz.prog 83 #[.slice a 0 c,fv] w fun e w'=>e = .returned (.int .i64 (-1))∧w'=w:=AnyE.slices_IndexFunc_empty Tryz.laysSlH6_f83 a c fv w
def Tryz.laysSlH10_f63_ren:Go.Shelf.Ren:=⟨fun | 10=>63 | 6=>83 | n=>n,fun | 22=>22 | 23=>3 | 25=>110 | 3=>3 | 4=>4 | 0=>0 | n=>n,fun | n=>n⟩
theorem Tryz.laysSlH10_f63:Go.Proofs.SlLaysH.n10 Tryz.prog Tryz.laysSlH10_f63_ren:={
 mixed:=by kernel_rfl
 f6:=⟨Tryz.f83.name,by decide,Tryz.func83.trans (congrArg some (by kernel_rfl))⟩
 f10:=⟨Tryz.f63.name,by decide,Tryz.func63.trans (congrArg some (by kernel_rfl))⟩
 t0:=Tryz.underlying0
 a0:=Tryz.isAgg0
 z0:=Tryz.sizeOf0
 v0:=Tryz.zeroValue0
 t3:=Tryz.underlying3
 a3:=Tryz.isAgg3
 z3:=Tryz.sizeOf3
 v3:=Tryz.zeroValue3
 t4:=Tryz.underlying4
 a4:=Tryz.isAgg4
 z4:=Tryz.sizeOf4
 v4:=Tryz.zeroValue4
 t22:=Tryz.underlying22
 a22:=Tryz.isAgg22
 z22:=Tryz.sizeOf22
 v22:=Tryz.zeroValue22
 a23:=Tryz.isAgg3
 z23:=Tryz.sizeOf3
 t25:=Tryz.underlying110
 a25:=Tryz.isAgg110
 z25:=Tryz.sizeOf110
 v25:=Tryz.zeroValue110 }
open Go.RowKit Go.Lib Go.Sort in
theorem Tryz.slices_DeleteFunc {α:Type} [Inhabited α] (enc:α→Value) (hO:OneCell enc) (p:α→Bool) (g:Nat) (lb:Array Value) (eg:∀ args w,(callFunc g args).run Tryz.prog w = .ok (.enter g args) w) (zr:α) (v23:∀ w,(zeroValue 3).run Tryz.prog w = .ok (enc zr) w) (blk off cap:Nat) (d:Array α) (w:World) (hp:PredAt Tryz.prog g lb enc p w) (hpo:PredOver Tryz.prog g lb enc p blk off d.size w) (hH:Holds enc w blk off d) (hsz:d.size≤9223372036854775807) (hcap:d.size≤cap) :
 Calls Tryz.prog 63 #[.slice (some ⟨blk,off,none⟩) d.size cap,.func (.func g) #[] lb] w fun e w'=>e = .returned (.slice (some ⟨blk,off,none⟩) (d.toList.filter fun x=>!p x).length cap)∧∃ q,w'=putRow enc (Sort.ahead w q) blk off ((d.toList.filter fun x=>!p x)++List.replicate (d.size - (d.toList.filter fun x=>!p x).length) zr).toArray:=AnyE.slices_DeleteFunc Tryz.laysSlH10_f63 enc hO p g lb eg zr v23 blk off cap d w hp hpo hH hsz hcap
end Go.Proofs
namespace Go.FM
open Go Go.Proofs Go.RowKit Go.Sort Go.Lib
open Go Go.RowKit
open Go Go.Proofs Go.RowKit
structure GF (h:Nat→Option Obj):Prop where
 unit:True
def B0:BT:={ T:=999999,e:=5,ng:=0,F:=GF }
theorem Keep.below {w w':World} (h:Below w.heap.size w w'):Keep (fun _=>False) w w':=⟨h.os,h.tape,h.output,h.size,fun b hb _=>h.block b hb⟩
theorem Keep.drewN {O:Nat→Prop} (w:World):∀ n,Keep O w (w.drewN n):=fun _=>⟨rfl,rfl,rfl,AP _,fun _ _ _=>rfl⟩
theorem Keep.grow (w:World) (os:Array Obj):Keep (fun _=>False) w (Go.Sort.grow w os):=⟨rfl,rfl,rfl,by simp [Go.Sort.grow],fun b hb _=>by simp [Go.Sort.grow,Array.getElem?_append_left hb]⟩
def SpsOK:List (Nat × C2)→Prop
 | []=>True
 | (f,sp) :: r=>C5 PR B0 f sp∧SpsOK r
theorem SpsOK.get:∀ {l:List (Nat × C2)},SpsOK l→∀ f sp,lk l f=some sp→C5 PR B0 f sp
 | [],_,f,sp,h=>by simp [lk] at h
 | (g,sg) :: r,hs,f,sp,h=>by
  simp only [lk] at h;split at h
  ·rename_i hb;simp only [AB] at h;subst h;rw [← EA.1 hb];exact hs.1
  ·exact SpsOK.get hs.2 f sp h
theorem DC {f:Nat} {fn:Func} {code:Code} {rs:List ResultVar} {nt:Nat} (sps:List (Nat × C2)) (lp:List (Nat × KP)) (sp:C2) (rks:List (List Kd)) (hf:PR.funcs[f]?=some fn)
  (hc:(fn.name == "runtime.NumGoroutine")=false∧fn.body=some code∧fn.ntmps=nt∧BI nt 900000=true∧fn.results.toList=rs) (hs:SpsOK sps)
  (h:∀ vs r,(K4 vs (EC vs)→OF vs)→(sp vs).get=some r→∃ N,C6 (DB sps lp nt N) code rs rks vs=some r):C5 PR B0 f sp:=
 o6 (DB sps lp nt) sp rks hf hc (fun _=>rfl) l9 (fun _=>rB rfl rA) (fun _=>j3 rfl jZ) (fun _=>hs.get) (fun _ f p hp=>by cases hp) (fun _ h=>fT h) h
def IpsOK:List (Nat × Ip)→Prop
 | []=>True
 | (f,p) :: r=>MD PR f p∧IpsOK r
theorem IpsOK.get:∀ {l:List (Nat × Ip)},IpsOK l→∀ f p,lk l f=some p→MD PR f p
 | [],_,f,p,h=>by simp [lk] at h
 | (g,pg) :: r,hs,f,p,h=>by
  simp only [lk] at h;split at h
  ·rename_i hb;simp only [AB] at h;subst h;rw [← EA.1 hb];exact hs.1
  ·exact IpsOK.get hs.2 f p h
theorem o7 {f:Nat} {fn:Func} {code:Code} {rs:List ResultVar} {nt:Nat} (sps:List (Nat × C2)) (ips:List (Nat × Ip)) (lp:List (Nat × KP)) (sp:C2) (rks:List (List Kd)) (hf:PR.funcs[f]?=some fn)
  (hc:(fn.name == "runtime.NumGoroutine")=false∧fn.body=some code∧fn.ntmps=nt∧BI nt 900000=true∧fn.results.toList=rs) (hs:SpsOK sps) (hi:IpsOK ips)
  (h:∀ vs r,(K4 vs (EC vs)→OF vs)→(sp vs).get=some r→∃ N,C6 (XS sps ips lp nt N) code rs rks vs=some r):C5 PR B0 f sp:=
 o6 (XS sps ips lp nt) sp rks hf hc (fun _=>rfl) l9 (fun _=>rB rfl rA) (fun _=>j3 rfl jZ) (fun _=>hs.get) (fun _=>hi.get) (fun _ h=>fT h) h
open Go Go.RowKit
theorem DV {n:Int} (h0 : -9223372036854775808≤n) (h1:n≤9223372036854775807):AA .i64 n=n:=by
 have e:AA .i64 n=(n+9223372036854775808) % 18446744073709551616 - 9223372036854775808:=by
  simp [AA,AJ,vag];omega
 rw [e];omega
theorem IB {α:Type} {l:List α} {i:Nat} (h:i < l.length):decide ((i:Int) < ic l.length)=true:=by simp [ic]; omega
theorem JB {α:Type} {l:List α} {i:Nat} (h:l.length≤i):decide ((i:Int) < ic l.length)=false:=by simp [ic]; omega
theorem IA {i:Nat}:decide (0≤(i:Int))=true:=by simp
theorem FN {i:Nat} (h:i < 9223372036854775807):AA .i64 ((i:Int)+1)=((i+1:Nat):Int):=by rw [DV (by omega) (by omega)]; rfl
theorem IW {α:Type} [Inhabited α] {l:List α} {i:Nat} (h:i < l.length):l.getD (i:Int).toNat default=l[i]:=by simp [h]
theorem ZJ (a b:Int):(a==b)=decide (a=b):=rfl
theorem CP {α:Type _} (a b:α):cond true a b=a:=Eq.trans (Eq.refl a) (Eq.refl a)
theorem CS {α:Type _} (a b:α):cond false a b=b:=Eq.trans (Eq.refl b) (Eq.refl b)
open Go
def CZ (n:Int):Int:=AA .i64 n
def E2 (n:Int):Int:=AA .u64 n
def JK (lo hi:Int):Int:=CZ (CZ (hi - lo)+1)
def CX (n lo hi:Int):Int:=cond (decide (n.tmod (JK lo hi) < 0)) (CZ (lo+CZ (CZ (CZ (n.tmod (JK lo hi)+hi) - lo)+1))) (CZ (lo+n.tmod (JK lo hi)))
def JO:C2
 | [.int .i64 n,.int .i64 lo,.int .i64 hi]=>.br (decide (JK lo hi=0)) .no (.ok (.int .i64 (CX n lo hi)) [])
 | _=>.no
open Go Go.Proofs
def sA (N:Nat):Env:=DB [] [] 24 N
theorem Cp (N:Nat) (n lo hi:Int):C6 (sA N) gK [.tmp 6] [[.z]] [.i n,.i lo,.i hi] =
 (cond (decide (AA AC (AA AC (hi - lo)+1)=0))
 none
 (cond (decide (Int.tmod n (AA AC (AA AC (hi - lo)+1)) < 0))
 (some ((.i (AA AC (lo+AA AC (AA AC (AA AC (Int.tmod n (AA AC (AA AC (hi - lo)+1))+hi) - lo)+1)))),[]))
 (some ((.i (AA AC (lo+Int.tmod n (AA AC (AA AC (hi - lo)+1))))),[])))):=by kernel_rfl
open Go Go.Proofs
theorem VS:C5 PR B0 7 JO:=by
 refine DC [] [] JO [[.z]] Tryz.func7 yK trivial ?_;intro vs r hwf h;unfold JO at h;split at h
 ·rename_i n lo hi;refine ⟨0,?_⟩;rw [← h];refine (Cp 0 n lo hi).trans ?_;simp only [R.get_br,R.get_ok,R.get_no];unfold CX JK CZ;cases decide (AA AC (AA AC (hi - lo)+1)=0) <;> cases decide (Int.tmod n (AA AC (AA AC (hi - lo)+1)) < 0) <;> rfl
 ·simp [R.get] at h
open Go
open Go
theorem Mx {n m:Int} (h:0 < m) : -m < n.tmod m∧n.tmod m < m:=by
 constructor
 ·rcases Int.lt_or_le n 0 with hn | hn
  ·have e:n.tmod m = -((-n).tmod m):=by rw [Int.neg_tmod,Int.neg_neg]
   have:=Int.tmod_lt_of_pos (-n) h
   omega
  ·have:=Int.tmod_nonneg m hn
   omega
 ·exact Int.tmod_lt_of_pos n h
theorem I3 {n lo hi:Int} (h:lo≤hi) (h0 : -2000000000000000000≤lo) (h1:hi≤2000000000000000000):JK lo hi=hi - lo+1∧lo≤CX n lo hi∧CX n lo hi≤hi:=by
 have e1:CZ (hi - lo)=hi - lo:=DV (by omega) (by omega);have e2:JK lo hi=hi - lo+1:=by
  unfold JK;rw [e1];exact DV (by omega) (by omega)
 refine ⟨e2,?_⟩;unfold CX;rw [e2];obtain ⟨t0,t1⟩:=Mx (n:=n) (m:=hi - lo+1) (by omega);generalize n.tmod (hi - lo+1)=q at t0 t1 ⊢;cases hq:decide (q < 0) with
 | true=>
  have hq:=A4 hq;simp only [BO];have a1:CZ (q+hi)=q+hi:=DV (by omega) (by omega);have a2:CZ (q+hi - lo)=q+hi - lo:=DV (by omega) (by omega);have a3:CZ (q+hi - lo+1)=q+hi - lo+1:=DV (by omega) (by omega);have a4:CZ (lo+(q+hi - lo+1))=lo+(q+hi - lo+1):=DV (by omega) (by omega);rw [a1,a2,a3,a4];omega
 | false=>
  have hq:=A8 hq;simp only [BB];have a1:CZ (lo+q)=lo+q:=DV (by omega) (by omega);rw [a1];omega
theorem OD (n:Int):AA .u64 n=n % 18446744073709551616:=by simp [AA,AJ,vag]
open Go
structure Qy where
 k:Int
 c:Int
 a0:Int
 b0:Int
 a1:Int
 b1:Int
 a2:Int
 b2:Int
 a3:Int
 b3:Int
 a4:Int
 b4:Int
 lo:Int
 hi:Int
 ft:Int
 fl:Bool
 bu:Int
def Qy.V (q:Qy):V:=.agg [.int .i64 q.k,.int .i64 q.c,.int .i64 q.a0,.int .i64 q.b0,.int .i64 q.a1,.int .i64 q.b1,.int .i64 q.a2,.int .i64 q.b2,.int .i64 q.a3,.int .i64 q.b3,.int .i64 q.a4,.int .i64 q.b4,.int .i64 q.lo,.int .i64 q.hi,.int .i64 q.ft,.bool q.fl,.int .i64 q.bu]
def Qy.none:Qy:=⟨0,0,0,0,0,0,0,0,0,0,0,0,0,0,0,false,0⟩
def Qy.eq (p q:Qy):Bool:=
 (p.k==q.k)&&((p.c==q.c)&&((p.a0==q.a0)&&((p.b0==q.b0)&&((p.a1==q.a1)&&((p.b1==q.b1)&&((p.a2==q.a2)&&((p.b2==q.b2)&&((p.a3==q.a3)&&((p.b3==q.b3)&&((p.a4==q.a4)&&((p.b4==q.b4)&&((p.lo==q.lo)&&((p.hi==q.hi)&&((p.ft==q.ft)&&((p.fl==q.fl)&&((p.bu==q.bu)&&true))))))))))))))))
open Go
def D3 (l:LI) (i:Int):Int:=cond (ic l.length==0) 0 (l.getD (i.tmod (ic l.length)).toNat default).toInt
def MH:C2
 | [.list false [.z] l,.int .i64 i]=>.br (decide (0≤i)) (.ok (.int .i64 (D3 l i)) []) .no
 | _=>.no
def DL (n:Int):Bool:=decide (-2147483648≤n)&&decide (n≤2147483647)
def MK:C2
 | [.int .i64 n,.int .i64 w]=>.br (decide (w=32)) (.ok (.bool (DL n)) []) .no
 | _=>.no
def K6 (lf:Bool) (v f a l r:Int):Bool:=
 cond lf (DL v&&((f==0)&&((a==0)&&((l==0)&&(r==0)))))
  ((v==0)&&(decide (0≤f)&&(decide (f < 4)&&(DL a&&(decide (1≤l)&&(decide (l < 31)&&(decide (1≤r)&&decide (r < 31))))))))
def OX:C2
 | [.agg [.bool lf,.int .i64 v,.int .i64 f,.int .i64 a,.int .i64 l,.int .i64 r]]=>.ok (.bool (K6 lf v f a l r)) []
 | _=>.no
def EG (a b:Int):Int:=E2 (ic (BS (AN (AJ AH) a &&& AN (AJ AH) b)))
def P4 (a b:Int):Int:=E2 (ic (BS (AN (AJ AH) a ||| AN (AJ AH) b)))
def JJ (a:Int) (k:Nat):Int:=E2 (a*2 ^ k)
def G9 (lf:Bool) (v f a l r:Int):Int:=
 cond (K6 lf v f a l r)
  (cond lf (P4 9223372036854775808 (EG (E2 v) 4294967295))
   (P4 (P4 (P4 (EG (E2 a) 4294967295) (JJ (E2 f) 32)) (JJ (E2 l) 40)) (JJ (E2 r) 48)))
  0
def ML:C2
 | [.agg [.bool lf,.int .i64 v,.int .i64 f,.int .i64 a,.int .i64 l,.int .i64 r]]=>.ok (.int .u64 (G9 lf v f a l r)) []
 | _=>.no
def l8 (lf:Bool) (v f a l r:Int):IV:=.agg [.bool lf,.int v,.int f,.int a,.int l,.int r]
def U0 (v:Int):IV:=l8 true v 0 0 0 0
def cP (x:IV):IV:=.int (G9 (x.cell 0).toBool (x.cell 1).toInt (x.cell 2).toInt (x.cell 3).toInt (x.cell 4).toInt (x.cell 5).toInt)
structure Ns where
 nodes:LI
 leaves:LI
def GB (part:LI) (i:Nat) (s:Ns):Int:=CX (part.getD i default).toInt 0 (ic s.leaves.length - 1)
def NZ (part:LI) (i:Nat) (s:Ns):Int:=(s.leaves.getD (GB part i s).toNat default).toInt
def IG (part byl atl val:LI) (dim:Int) (i:Nat) (s:Ns):Ns:=
 ⟨s.nodes.set (NZ part i s).toNat (l8 false 0 (CX (D3 byl (i:Int)) 0 (dim - 1)) (CX (D3 atl (i:Int)) 0 9) (ic s.nodes.length) (ic s.nodes.length+1)) ++
   [U0 (CX (D3 val (2*(i:Int)+1)) (-3000) 3000),U0 (CX (D3 val (2*(i:Int)+2)) (-3000) 3000)],
  s.leaves.take (GB part i s).toNat++s.leaves.drop ((GB part i s).toNat+1)++[.int (ic s.nodes.length),.int (ic s.nodes.length+1)]⟩
def VD (part byl atl val:LI) (dim:Int):Nat→Nat→Ns→Ns
 | 0,_,s=>s
 | d+1,i,s=>VD part byl atl val dim d (i+1) (IG part byl atl val dim i s)
def N0 (part byl atl val:LI) (dim:Int):Ns:=VD part byl atl val dim (min part.length 7) 0 ⟨[U0 (CX (D3 val 0) (-3000) 3000)],[.int 0]⟩
def RH (part byl atl val:LI) (dim:Int):LI:=(N0 part byl atl val dim).nodes.map cP
def SS:C2
 | [.agg [.int .i64 _,.list false [.z] part,.list false [.z] byl,.list false [.z] atl,.list false [.z] val],.int .i64 dim]=>
  .br (decide (1≤dim)&&decide (dim≤4)) (.ok (.list false [.int .u64] (RH part byl atl val dim)) []) .no
 | _=>.no
def Q4 (d:Int):Int:=CX d 1 3
def PH (c:Int):Int:=CX c 1 3
def PC (c:Int) (bias:LI) (j:Int):Int:=cond (decide (j < PH c)) (CX (D3 bias j) (-500) 500) 0
def rD (d c:Int) (t:IV):IV:=.agg [.int (CX (t.cell 0).toInt 0 (PH c - 1)),.list (RH (t.cell 1).toList (t.cell 2).toList (t.cell 3).toList (t.cell 4).toList (Q4 d))]
def eG (d c:Int) (ts:LI):LI:=(ts.take 4).map (rD d c)
def V6:C2
 | [.agg [.int .i64 d,.int .i64 c,.list false [.z] bias,.list true [.z,.list false [.z],.list false [.z],.list false [.z],.list false [.z]] ts]]=>
  .ok (.agg [.int .i64 (Q4 d),.int .i64 (PH c),.int .i64 (PC c bias 0),.int .i64 (PC c bias 1),.int .i64 (PC c bias 2),.list true [.z,.list false [.int .u64]] (eG d c ts)]) []
 | _=>.no
def EP (d:Int) (l:LI) (i:Int):Int:=cond (decide (i < d)) (CX (D3 l (2*i)) (-2) 9) 0
def EQ (d:Int) (l:LI) (i:Int):Int:=cond (decide (i < d)) (CX (D3 l (2*i)) (-2) 9+CX (D3 l (2*i+1)) 0 11) 0
def SQ:C2
 | [.agg [.int .i64 d,.int .i64 _,.int .i64 _,.int .i64 _,.int .i64 _,.list true [.z,.list false [.int .u64]] _],.list false [.z] l]=>
  .br (decide (0≤d)&&decide (d≤4)) (.ok (.agg [.int .i64 (EP d l 0),.int .i64 (EQ d l 0),.int .i64 (EP d l 1),.int .i64 (EQ d l 1),.int .i64 (EP d l 2),.int .i64 (EQ d l 2),.int .i64 (EP d l 3),.int .i64 (EQ d l 3),.int .i64 0,.int .i64 0]) []) .no
 | _=>.no
structure Ak where
 k:Int
 c:Int
 lo:Int
 size:Int
 ft:Int
 bu:Int
 fl:Bool
 sp:LI
def RD (a:Ak) (cls:Int):Int:=cond (CX a.k 1 3==2&&decide (cls < 2)) 1 (CX a.k 1 3)
def bI (a:Ak):Int:=CX a.lo (-9000) 9000
def HC (a:Ak) (dim cls:Int):Qy:=
 ⟨RD a cls,CX a.c 0 (cls - 1),EP dim a.sp 0,EQ dim a.sp 0,EP dim a.sp 1,EQ dim a.sp 1,EP dim a.sp 2,EQ dim a.sp 2,EP dim a.sp 3,EQ dim a.sp 3,0,0,
  cond (RD a cls==1) (bI a) 0,cond (RD a cls==1) (bI a+CX a.size 0 18000) 0,cond (RD a cls==3) (CX a.ft 0 (dim - 1)) 0,cond (RD a cls==3) a.fl false,CX a.bu 0 65536⟩
def V5:C2
 | [.agg [.int .i64 k,.int .i64 c,.int .i64 lo,.int .i64 size,.int .i64 ft,.int .i64 bu,.bool fl,.list false [.z] sp],.agg [.int .i64 dim,.int .i64 cls,.int .i64 _,.int .i64 _,.int .i64 _,.list true [.z,.list false [.int .u64]] _]]=>
  .br ((decide (1≤dim)&&decide (dim≤4))&&(decide (1≤cls)&&decide (cls≤3)))
   (.ok (.agg [.int .i64 (HC ⟨k,c,lo,size,ft,bu,fl,sp⟩ dim cls).k,.int .i64 (HC ⟨k,c,lo,size,ft,bu,fl,sp⟩ dim cls).c,
    .int .i64 (HC ⟨k,c,lo,size,ft,bu,fl,sp⟩ dim cls).a0,.int .i64 (HC ⟨k,c,lo,size,ft,bu,fl,sp⟩ dim cls).b0,.int .i64 (HC ⟨k,c,lo,size,ft,bu,fl,sp⟩ dim cls).a1,.int .i64 (HC ⟨k,c,lo,size,ft,bu,fl,sp⟩ dim cls).b1,
    .int .i64 (HC ⟨k,c,lo,size,ft,bu,fl,sp⟩ dim cls).a2,.int .i64 (HC ⟨k,c,lo,size,ft,bu,fl,sp⟩ dim cls).b2,.int .i64 (HC ⟨k,c,lo,size,ft,bu,fl,sp⟩ dim cls).a3,.int .i64 (HC ⟨k,c,lo,size,ft,bu,fl,sp⟩ dim cls).b3,
    .int .i64 (HC ⟨k,c,lo,size,ft,bu,fl,sp⟩ dim cls).a4,.int .i64 (HC ⟨k,c,lo,size,ft,bu,fl,sp⟩ dim cls).b4,.int .i64 (HC ⟨k,c,lo,size,ft,bu,fl,sp⟩ dim cls).lo,.int .i64 (HC ⟨k,c,lo,size,ft,bu,fl,sp⟩ dim cls).hi,
    .int .i64 (HC ⟨k,c,lo,size,ft,bu,fl,sp⟩ dim cls).ft,.bool (HC ⟨k,c,lo,size,ft,bu,fl,sp⟩ dim cls).fl,.int .i64 (HC ⟨k,c,lo,size,ft,bu,fl,sp⟩ dim cls).bu]) []) .no
 | _=>.no
end Go.FM
