/-
  A small machine that reads a function of the program and reckons what a call of it comes to; what Go's library on the road comes to; the functions of the program, one by one. No conditions beyond each specification's own. (THE SMALL MACHINE (22): what comes back from a call., THE SMALL MACHINE (23): what a function is said to do; a cal, THE SMALL MACHINE (24): a call., and so on.)
-/
import Derived.Test.YtehhekmihbaghaaGreatDoorTa
import Derived.Lib.ConvBytes
import Derived.Orders
import Derived.DeepKeys
import Derived.KernelRfl
import Derived.Lib.AtoiAll
import Derived.Lib.ItoaLen
import Derived.Lib.Split
import Derived.Lib.IndexMore
import Derived.Lib.LaidTab
import Derived.Lib.SplitLaws
import Derived.Lib.TrimByte
import Derived.Lib.Repeat
import Derived.Lib.ItoaNum
import Derived.Lib.Join
import Derived.Test.YtehhekmihbaghaaGreatDoorProg
import Derived.Shelf.Strings.BuilderK
set_option linter.all false
set_option maxRecDepth 100000
namespace Go.FM
open Go Go.RowKit
theorem zrr:∀ l:List V,yhj l=l.map fun _=>.any
 | []=>rfl
 | _ :: r=>by simp [yhj,zrr r]
section
variable {B:BT} {nt:Nat} {w0:World} {X:Zone} {γ:Nat→Value} {st st':St} {a:Act} {w:World} {P:Program} {E:Env}
theorem zlq {B':BT} {own:Nat→Prop} {O1:Nat→Prop} {g:Nat→Value} (nm:Nat):∀ (r:List V) (j0:Nat) {γ:Nat→Value} {st:St} {F:Nat→Prop},nm+j0+r.length≤900000→Rel B nt w0 ⟨own,F⟩ γ st a w →
  (∀ b,z0c ⟨own,F⟩ γ st.o b→O1 b) →
  (∀ j e ag ks l,r[j]?=some (.vec e ag ks l)→ObRel B' γ [] w O1 (g (j0+j)) (.row true e ag ks l)∧∀ b,(g (j0+j)).ownBlock=some b→F b∧(w0.heap.size≤b∨own b)) →
  (∀ i j e ag ks l e' ag' ks' l' b,i≠j→r[i]?=some (.vec e ag ks l)→r[j]?=some (.vec e' ag' ks' l')→(g (j0+i)).ownBlock=some b→(g (j0+j)).ownBlock=some b→False) →
  ∃ γd F',Rel B nt w0 ⟨own,F'⟩ γd (st.ups (zil (nm+j0) r)) a w∧(∀ b,F' b→F b)∧(∀ b,F b→(∀ j e ag ks l,r[j]?=some (.vec e ag ks l)→(g (j0+j)).ownBlock≠some b)→F' b) ∧
   (∀ b,z0c ⟨own,F'⟩ γd (st.ups (zil (nm+j0) r)).o b→z0c ⟨own,F⟩ γ st.o b) ∧
   (∀ j e ag ks l,r[j]?=some (.vec e ag ks l)→γd (nm+j0+j)=g (j0+j)∧z09 (st.ups (zil (nm+j0) r)).o (nm+j0+j)=some (.row true e ag ks l)) ∧
   (∀ m,(m < nm+j0∨nm+j0+r.length≤m)→γd m=γ m∧(∀ cs:List V,z09 st.o m=some (.box (yhj cs))→z09 (st.ups (zil (nm+j0) r)).o m=some (.box (yhj cs))) ∧
    (∀ e ag ks l,z09 st.o m=some (.row true e ag ks l)→z09 (st.ups (zil (nm+j0) r)).o m=some (.row true e ag ks l)))
 | [],j0,γ,st,F,_,h,hO,hr,hd=>⟨γ,F,h,fun _ h=>h,fun _ h _=>h,fun _ h=>h,fun j e ag ks l hj=>by simp at hj,fun m _=>⟨rfl,fun _ h=>h,fun _ _ _ _ h=>h⟩⟩
 | v :: r,j0,γ,st,F,h9,h,hO,hr,hd=>by
  rw [v03] at h9
  by_cases hv:∃ e ag ks l,v = .vec e ag ks l
  ·obtain ⟨e,ag,ks,l,rfl⟩:=hv
   obtain ⟨hr0,hb0⟩:=hr 0 e ag ks l (by simp)
   rw [v1s] at hr0 hb0;have h1:=h.add (nm+j0) (by omega) (.row true e ag ks l) (g j0) (fun b hb=>hb0 b hb) (fun O' hO'=>by
    simp only [ObRel] at hr0 ⊢
    obtain ⟨k1,k2,xs,k3,k4⟩:=hr0;exact ⟨k1,k2,xs,k3,fun i y hy=>Kd.RelAll.mono (Keep.refl _ w) (fun b _ hb=>hO b (hO' b hb)) (fun _ _ hu=>hu) (k4 i y hy)⟩)
   have hO2:∀ b,z0c ⟨own,fun b=>F b∧¬ z0q (g j0) (.row true e ag ks l) b⟩ (fun m=>if nm+j0=m then g j0 else γ m) (st.up (.new (nm+j0) (.row true e ag ks l))).o b→z0c ⟨own,F⟩ γ st.o b:=by
    rintro b (⟨m,ob1,hm,hb1⟩ | hb)
    ·rw [z0g] at hm
     split at hm
     ·rename_i e1
      subst e1;simp only [v00] at hm;subst hm;simp only [v1t] at hb1;exact .inr (hb0 b hb1).1
     ·rename_i e1
      obtain ⟨ob0,h0,hs⟩:=z57 hm;simp only [v0y e1] at hb1;exact .inl ⟨m,ob0,h0,((z9a hs).2 _ _).1 hb1⟩
    ·exact .inr hb.1
   obtain ⟨γd,F',r1,r2,r3,r4,r5,r6⟩:=zlq (B':=B') nm r (j0+1) (by omega) h1 (fun b hb=>hO b (hO2 b hb)) (fun j e' ag' ks' l' hj=>by
     obtain ⟨q1,q2⟩:=hr (j+1) e' ag' ks' l' (by simpa using hj)
     rw [show j0+(j+1)=j0+1+j by omega] at q1 q2
     refine ⟨ys7 q1,fun b hb=>⟨⟨(q2 b hb).1,fun hb'=>?_⟩,(q2 b hb).2⟩⟩
     exact hd 0 (j+1) e ag ks l e' ag' ks' l' b (by omega) (by simp) (by simpa using hj) hb' (by rw [show j0+(j+1)=j0+1+j by omega]; exact hb))
    (fun i j e1 ag1 ks1 l1 e2 ag2 ks2 l2 b hij h1 h2 hb1 hb2=>hd (i+1) (j+1) e1 ag1 ks1 l1 e2 ag2 ks2 l2 b (by omega) (by simpa using h1) (by simpa using h2) (by rw [show j0+(i+1)=j0+1+i by omega]; exact hb1) (by rw [show j0+(j+1)=j0+1+j by omega]; exact hb2))
   refine ⟨γd,F',r1,fun b hb=>(r2 b hb).1,fun b hb hn=>r3 b ⟨hb,fun hb'=>hn 0 e ag ks l (by simp) hb'⟩ (fun j e' ag' ks' l' hj=>by
     have:=hn (j+1) e' ag' ks' l' (by simpa using hj)
     rwa [show j0+(j+1)=j0+1+j by omega] at this),fun b hb=>hO2 b (r4 b hb),?_,?_⟩
   ·intro j e' ag' ks' l' hj
    cases j with
    | zero=>
     simp only [v0s,v00,V.vec.injEq] at hj;obtain ⟨rfl,rfl,rfl,rfl⟩:=hj;obtain ⟨p1,_,p3⟩:=r6 (nm+j0) (.inl (by omega))
     refine ⟨by rw [v1s,v1s,p1]; simp,?_⟩
     rw [v1s];exact p3 e ag ks l (by rw [z0g,v1b rfl])
    | succ j=>
     obtain ⟨p1,p2⟩:=r5 j e' ag' ks' l' (by simpa using hj)
     rw [show nm+(j0+1)+j=nm+j0+(j+1) by omega] at p1 p2
     exact ⟨by rw [p1]; congr 1; omega,p2⟩
   ·intro m hm
    have hne:nm+j0≠m:=by
     simp only [v03] at hm;omega
    obtain ⟨p1,p2,p3⟩:=r6 m (by simp only [v03] at hm; omega)
    refine ⟨by rw [p1,v0y hne],fun cs hc=>p2 cs ?_,fun e' ag' ks' l' hc=>p3 e' ag' ks' l' ?_⟩
    ·rw [z0g,v0y hne,hc]
     simp only [z6n,zrr,v43,v00,Ob.box.injEq]
     rfl
    ·rw [z0g,v0y hne,hc]
     rfl
  ·have hu:zil (nm+j0) (v :: r)=zil (nm+(j0+1)) r:=by
    cases v <;> first | rfl | exact absurd ⟨_,_,_,_,rfl⟩ hv
   rw [hu];obtain ⟨γd,F',r1,r2,r3,r4,r5,r6⟩:=zlq (B':=B') nm r (j0+1) (by omega) h hO (fun j e' ag' ks' l' hj=>by
     obtain ⟨q1,q2⟩:=hr (j+1) e' ag' ks' l' (by simpa using hj)
     rw [show j0+(j+1)=j0+1+j by omega] at q1 q2
     exact ⟨q1,q2⟩)
    (fun i j e1 ag1 ks1 l1 e2 ag2 ks2 l2 b hij h1 h2 hb1 hb2=>hd (i+1) (j+1) e1 ag1 ks1 l1 e2 ag2 ks2 l2 b (by omega) (by simpa using h1) (by simpa using h2) (by rw [show j0+(i+1)=j0+1+i by omega]; exact hb1) (by rw [show j0+(j+1)=j0+1+j by omega]; exact hb2))
   refine ⟨γd,F',r1,r2,fun b hb hn=>r3 b hb (fun j e' ag' ks' l' hj=>by
     have:=hn (j+1) e' ag' ks' l' (by simpa using hj)
     rwa [show j0+(j+1)=j0+1+j by omega] at this),r4,?_,?_⟩
   ·intro j e' ag' ks' l' hj
    cases j with
    | zero=>
     simp only [v0s,v00] at hj;exact absurd ⟨_,_,_,_,hj⟩ hv
    | succ j=>
     obtain ⟨p1,p2⟩:=r5 j e' ag' ks' l' (by simpa using hj)
     rw [show nm+(j0+1)+j=nm+j0+(j+1) by omega] at p1 p2
     exact ⟨by rw [p1]; congr 1; omega,p2⟩
   ·intro m hm
    exact r6 m (by simp only [v03] at hm; omega)
end
open Go Go.RowKit
def zm8:V→Bool
 | .agg l=>l.all zc1
 | .tup l=>l.all fun v=>match v with | .agg l=>l.all zc1 | v=>zc1 v
 | v=>zc1 v
def okR:V→Bool
 | .bor cs=>cs.all okC
 | .vec _ _ _ _=>true
 | v=>zm8 v
def y4c:List V→List V→Bool
 | [.bld _],[.bld _]=>true
 | [.bld _],_=>false
 | _,cs=>cs.all okC
def zcn (vs:List V) (r:V) (out:List (List V)) (g g':Value):Prop:=
 match z82 vs,out with
 | none,[]=>okR r=true
 | some cs,[cs']=>zm8 r=true∧y4c cs cs'=true∧zod g'=zod g
 | _,_=>False
def Does (P:Program) (f:FuncId) (xs:List Value) (w:World) (R:Ending→World→Prop):Prop:=
 match (callFunc f xs.toArray).run P w with
 | .ok (.enter g args) w'=>Calls P g args w' R
 | .ok (.value x) w'=>R (.returned x) w'
 | .ok (.row row args) w'=>Rows P row args w' fun x w''=>R (.returned x) w''
 | _=>False
theorem Does.mono {P:Program} {f:FuncId} {xs:List Value} {w:World} {R R':Ending→World→Prop} (h:Does P f xs w R) (hr:∀ e w',R e w'→R' e w'):Does P f xs w R':=by
 unfold Does at h ⊢
 split at h
 ·exact Calls.mono h hr
 ·exact hr _ _ h
 ·exact Rows.mono h (fun v w'=>hr _ _)
 ·exact h.elim
theorem Does.enter {P:Program} {f:FuncId} {fn:Func} (hf:P.funcs[f]?=some fn) (hn:(fn.name == "runtime.NumGoroutine")=false) (hb:fn.body.isNone=false) {xs:List Value} {w:World} {R:Ending→World→Prop} (h:Calls P f xs.toArray w R):Does P f xs w R:=by
 have:(callFunc f xs.toArray).run P w = .ok (.enter f xs.toArray) w:=by
  unfold callFunc;have hn':¬ fn.name = "runtime.NumGoroutine":=by simpa using hn
  have hb':¬ fn.body=none:=fun h=>by rw [h] at hb; cases hb
  simp [hf,hn',hb']
 unfold Does;rw [this];exact h
def Snd (P:Program) (B:BT) (f:FuncId) (sp:ypt):Prop:=
 ∀ (w:World) (X:Zone) (γ:Nat→Value) (vs:List V) (xs:List Value) (r:V) (out:List (List V)),sp vs=some (r,out)→Glob B w→(∀ b,X.own b→B.ng≤b) →
  Rel B.base 0 w X γ ⟨[],zeu vs⟩ y2a w→VRels γ (zeu vs) w (z0c X γ (zeu vs)) (vs.map zab) xs →
  Does P f xs w fun e w'=>∃ x,e = .returned x∧∃ γ',Rel B.base 0 w X γ' ⟨[],z4j r out⟩ y2a w'∧VRel γ' (z4j r out) w' (z0c X γ' (z4j r out)) (yd8 r) x∧zcn vs r out (γ 900000) (γ' 900000)
theorem zp0 {γ γ':Nat→Value} {o o':Store} {w:World} {O O':Nat→Prop} {v:V} (hf:zc1 v=true) (hO:isL v=true→∀ b,b < w.heap.size→O' b→O b) {x:Value} (h:VRel γ o w O v x):VRel γ' o' w O' v x:=by
 cases v <;> simp only [zc1] at hf <;> first | (cases hf; done) | (exact zdv rfl (VRel.mono (Keep.refl _ w) (hO rfl) h)) | (simp only [VRel] at h ⊢; try exact h)
theorem zva:∀ {l:List V} {v:V},v∈l→isL v=true→zt6 l=true
 | u :: r,v,hm,hv=>by
  simp only [zt6];cases hu:isL u with
  | true=>rfl
  | false=>
   rcases v17.1 hm with h1 | h1
   ·subst h1
    rw [hv] at hu;cases hu
   ·exact zva h1 hv
theorem zsd {γ γ':Nat→Value} {o o':Store} {w:World} {O O':Nat→Prop}:∀ {l:List V} {xs:List Value},l.all zc1=true→(zt6 l=true→∀ b,b < w.heap.size→O' b→O b)→VRels γ o w O l xs→VRels γ' o' w O' l xs
 | [],[],_,_,_=>by simp only [VRels]
 | [],_ :: _,_,_,h=>by simp only [VRels] at h
 | _ :: _,[],_,_,h=>by simp only [VRels] at h
 | v :: l,x :: xs,hf,hO,h=>by
  simp only [VRels] at h ⊢
  simp only [v30,v02] at hf;exact ⟨zp0 hf.1 (fun hv=>hO (zva (v09 ..) hv)) h.1,zsd hf.2 (fun hl=>hO (by simp only [zt6]; split <;> first | rfl | exact hl)) h.2⟩
theorem zyi {γ γ':Nat→Value} {o o':Store} {w:World} {O O':Nat→Prop} {v:V} (hf:zm8 v=true) (hO:z4y v=true→∀ b,b < w.heap.size→O' b→O b) {x:Value} (h:VRel γ o w O v x):VRel γ' o' w O' v x:=by
 by_cases ha:∃ l,v = .agg l
 ·obtain ⟨l,rfl⟩:=ha
  simp only [VRel] at h ⊢
  obtain ⟨cs,hx,hr⟩:=h;exact ⟨cs,hx,zsd hf hO hr⟩
 by_cases ht:∃ l,v = .tup l
 ·obtain ⟨l,rfl⟩:=ht
  simp only [VRel] at h ⊢
  obtain ⟨cs,hx,hr⟩:=h;refine ⟨cs,hx,?_⟩;simp only [zm8] at hf;have key:∀ (l:List V) (xs:List Value),(l.all fun v=>match v with | .agg l=>l.all zc1 | v=>zc1 v)=true→(z4y.go l=true→∀ b,b < w.heap.size→O' b→O b)→VRels γ o w O l xs→VRels γ' o' w O' l xs:=by
   intro l
   induction l with
   | nil=>
    intro xs _ _ h;cases xs with
    | nil=>simp only [VRels]
    | cons _ _=>simp only [VRels] at h
   | cons v l ih=>
    intro xs hf hO h;cases xs with
    | nil=>simp only [VRels] at h
    | cons x xs=>
     simp only [VRels] at h ⊢
     simp only [v30,v02] at hf;have h2:z4y.go l=true→z4y.go (v :: l)=true:=fun hl=>by cases v <;> simp only [z4y.go] <;> first | exact hl | (split <;> first | rfl | exact hl)
     refine ⟨?_,ih xs hf.2 (fun hl=>hO (h2 hl)) h.2⟩
     by_cases hv:∃ l',v = .agg l'
     ·obtain ⟨l',rfl⟩:=hv
      have h1:=h.1;simp only [VRel] at h1 ⊢
      obtain ⟨cs,hx,hr⟩:=h1;exact ⟨cs,hx,zsd hf.1 (fun hl=>hO (by simp only [z4y.go,hl])) hr⟩
     ·have hf1:zc1 v=true:=by
       have:=hf.1
       split at this
       ·exact absurd ⟨_,rfl⟩ hv
       ·exact this
      exact zp0 hf1 (fun hl=>hO (by cases v <;> simp_all [z4y.go])) h.1
  exact key l _ hf hO hr
 have h1:zc1 v=true:=by cases v <;> first | exact hf | exact absurd ⟨_,rfl⟩ ha | exact absurd ⟨_,rfl⟩ ht
 exact zp0 h1 (fun hl=>hO (by cases v <;> first | exact hl | (simp only [isL] at hl; cases hl))) h
theorem zdp {v:V} (h:zm8 v=true):yd8 v=v:=by
 cases v <;> first | rfl | (simp only [zm8,zc1] at h; cases h)
theorem yer {o:Store} {bs:List V} {tk:Option Kd} {v:V} (h:zg6.lentC [v]=[]):∀ cs,zap o bs tk v≠.bor cs:=by
 intro cs hc;cases v
 case ptr n i c=>simp [zg6.lentC] at h
 all_goals simp only [zap] at hc
 all_goals (repeat' split at hc)
 all_goals (cases hc)
theorem yad {o:Store} {bs:List V} {tk:Option Kd} {v:V} {cs:List V} (h:zap o bs tk v = .bor cs):cs=bs:=by
 cases v <;> simp only [zap] at h <;> try (cases h; done)
 all_goals (repeat' split at h)
 all_goals first | (cases h; done) | (cases h; rfl)
theorem y8i {o:Store} {bs:List V}:∀ {l:List V},(z82.borC (l.map (zap o bs none))=none∨z82.borC (l.map (zap o bs none))=some bs)∧(zg6.lentC l=[]→z82.borC (l.map (zap o bs none))=none)
 | []=>by simp [z82.borC]
 | v :: r=>by
  have ih:=y8i (o:=o) (bs:=bs) (l:=r);have hl:zg6.lentC (v :: r)=[]→zg6.lentC [v]=[]∧zg6.lentC r=[]:=by cases v <;> simp [zg6.lentC]
  simp only [v0d];cases hv:zap o bs none v
  case bor cs=>
   simp only [z82.borC];refine ⟨.inr (by rw [yad hv]),fun h=>absurd hv (yer (hl h).1 cs)⟩
  all_goals (simp only [z82.borC]; exact ⟨ih.1,fun h=>ih.2 (hl h).2⟩)
theorem zhz {o:Store} {bs:List V}:∀ {l:List V} {tks:List (List Kd)},(z82 (z7j o bs tks l)=none∨z82 (z7j o bs tks l)=some bs)∧(zg6 l=[]→z82 (z7j o bs tks l)=none)
 | [],tks=>by cases tks <;> simp [z7j,z82]
 | v :: r,tks=>by
  obtain ⟨ks,tks',he⟩:∃ ks tks',z7j o bs tks (v :: r)=ybe o bs ks v :: z7j o bs tks' r:=by
   cases tks with
   | nil=>exact ⟨[],[],rfl⟩
   | cons k ks=>exact ⟨k,ks,rfl⟩
  have ih:=zhz (o:=o) (bs:=bs) (l:=r) (tks:=tks');rw [he];have hl:zg6 (v :: r)=[]→zg6 [v]=[]∧zg6 r=[]:=by cases v <;> simp [zg6]
  by_cases hc:∃ f l,v = .clo f l
  ·obtain ⟨f,l,rfl⟩:=hc
   have hb:=y8i (o:=o) (bs:=bs) (l:=l);simp only [ybe,z82];cases hx:z82.borC (l.map (zap o bs none)) with
   | none=>exact ⟨ih.1,fun h=>ih.2 (hl h).2⟩
   | some cs=>
    simp only;refine ⟨.inr ?_,fun h=>?_⟩
    ·rcases hb.1 with h1 | h1 <;> rw [hx] at h1
     ·cases h1
     ·exact h1
    ·have:=hb.2 (by have:=(hl h).1; simpa [zg6] using this)
     rw [hx] at this;cases this
  ·by_cases ha:∃ l,v = .agg l
   ·obtain ⟨l,rfl⟩:=ha
    simp only [ybe,z82];exact ⟨ih.1,fun h=>ih.2 (hl h).2⟩
   ·have h1:ybe o bs ks v=zap o bs ks.head? v:=by
     cases v <;> first | rfl | exact absurd ⟨_,rfl⟩ ha | exact absurd ⟨_,_,rfl⟩ hc
    rw [h1];cases hv:zap o bs ks.head? v
    case bor cs=>
     simp only [z82];refine ⟨.inr (by rw [yad hv]),fun h=>absurd hv (yer (v:=v) ?_ cs)⟩
     have:=(hl h).1
     cases v <;> simp_all [zg6,zg6.lentC]
    case clo f l=>
     exfalso;cases v <;> simp only [zap] at hv <;> try (cases hv; done)
     all_goals (repeat' split at hv)
     all_goals (cases hv)
    all_goals (simp only [z82]; exact ⟨ih.1,fun h=>ih.2 (hl h).2⟩)
open Go Go.RowKit
section
variable {B:BT} {nt:Nat} {w0:World} {X:Zone} {γ:Nat→Value} {st st':St} {a:Act} {w:World} {P:Program} {E:Env}
theorem ze6 (h:Rel B nt w0 X γ st a w) (ns:List Nat) {b:Nat} (hb:z0c X γ (st.ups (z0p st.o ns)).o b):z0c X γ st.o b∧∀ m∈ns,¬ RowOf γ st.o m b:=by
 obtain ⟨h1,h2,h3,h4,h5⟩:=z56 st.o ns (FrzLe.refl _) h;refine ⟨h2.owned hb,?_⟩
 rintro m hm ⟨e,ag,ks,l,ho,hob⟩
 rcases hb with ⟨m',ob',hm',hb'⟩ | hb
 ·by_cases e1:m=m'
  ·subst e1
   rcases h2 m with h6 | ⟨e',ag',ks',l',h6,h7⟩
   ·rw [h6,ho] at hm'
    have:=h4 m hm true e ag ks l (by rw [h6,ho])
    cases this
   ·rw [h7,v00] at hm'
    subst hm';exact hb'.elim
  ·rcases h2 m' with h6 | ⟨e',ag',ks',l',h6,h7⟩
   ·rw [h6] at hm'
    exact h.dis m m' _ ob' b e1 ho hm' hob hb'
   ·rw [h7,v00] at hm'
    subst hm';exact hb'.elim
 ·exact h.near ⟨m,_,ho,hob⟩ hb
theorem zrv (h:Rel B nt w0 X γ st a w) (hg:GX B w0 X) {f:FuncId} {sp:ypt} (hS:Snd P B f sp) {vs:List V} {xs:List Value} (hv:VRels γ st.o w (z0c X γ st.o) vs xs) (hl:zg6 vs=[]) {tks:List (List Kd)} {v:V} {out:List (List V)}
  (hsp:sp (z7j st.o [] tks vs)=some (v,out)) :
  Does P f xs w fun e w'=>∃ x,e = .returned x∧∃ γ',Rel B.base 0 w ⟨fun _=>False,fun b=>z0c X γ st.o b∧∀ m∈z1j vs,¬ RowOf γ st.o m b⟩ γ' ⟨[],z4j v out⟩ y2a w' ∧
   VRel γ' (z4j v out) w' (z0c ⟨fun _=>False,fun b=>z0c X γ st.o b∧∀ m∈z1j vs,¬ RowOf γ st.o m b⟩ γ' (z4j v out)) (yd8 v) x∧okR v=true∧out=[]:=by
 have hb:z82 (z7j st.o [] tks vs)=none:=zhz.2 hl;have hm:zeu (z7j st.o [] tks vs)=[]:=by simp only [zeu,hb]
 have hR:Rel B.base 0 w ⟨fun _=>False,fun b=>z0c X γ st.o b∧∀ m∈z1j vs,¬ RowOf γ st.o m b⟩ γ ⟨[],[]⟩ y2a w:=by
  refine ⟨rfl,rfl,fun i=>by simp only [St.get,lkd,VRel],fun n ob hn=>?_,?_,?_,Keep.refl _ w,?_,?_,fun p hp=>by cases hp⟩
  ·simp only [z09,lkd] at hn; cases hn
  ·rintro b ⟨n,ob,hn,_⟩; simp only [z09,lkd] at hn; cases hn
  ·intro n m ob ob' b _ hn; simp only [z09,lkd] at hn; cases hn
  ·rintro b ⟨n,ob,hn,_⟩; simp only [z09,lkd] at hn; cases hn
  ·rintro b ⟨hb | hb,_⟩
   ·exact (h.lt b hb).1
   ·exact h.fl b hb
 have:=hS w ⟨fun _=>False,fun b=>z0c X γ st.o b∧∀ m∈z1j vs,¬ RowOf γ st.o m b⟩ γ (z7j st.o [] tks vs) xs v out hsp (h.glob hg) (fun _ hf=>hf.elim) (by rw [hm]; exact hR) (by
  rw [hm];refine zop h (fun b _ hb=>?_) [] hv (fun m hm b hr hb=>?_) (fun m hm=>by rw [hl] at hm; cases hm)
  ·rcases hb with ⟨n,ob,hn,_⟩ | hb
   ·simp only [z09,lkd] at hn; cases hn
   ·exact hb.1
  ·rcases hb with ⟨n,ob,hn,_⟩ | hb
   ·simp only [z09,lkd] at hn; cases hn
   ·exact hb.2 m hm hr)
 refine this.mono ?_
 rintro e w' ⟨x,he,γ',h1,h2,h3⟩
 refine ⟨x,he,γ',h1,h2,?_⟩;simp only [zcn,hb] at h3;cases out with
 | nil=>exact ⟨h3,rfl⟩
 | cons _ _=>exact h3.elim
theorem zo0 (h:Rel B nt w0 X γ st a w) {w':World} {X':Zone} (hX:∀ b,¬ X'.own b) {γ':Nat→Value} {st':St} {a':Act} (hc:Rel B.base 0 w X' γ' st' a' w') (F:Nat→Prop) (hF:∀ b,F b→X.far b∨(w.heap.size≤b∧b < w'.heap.size)):Rel B nt w0 ⟨X.own,F⟩ γ st a w':=
 (h.fresh (hc.keep) (fun b _ hb=>(hX b hb).elim)).shrink hF
theorem zli {cs:List V} (h:cs.all okC=true):z9u cs=(900000,some (.box (z8o 900001 cs))) :: zjm 900001 cs:=by
 refine y6j (fun s he=>?_)
 subst he;simp [okC,zc1] at h
theorem y1j {w':World} {X':Zone} {γ':Nat→Value} {cs:List V} (hok:cs.all okC=true) (_:Rel B.base 0 w X' γ' ⟨[],z9u cs⟩ y2a w') {c:Array Value}
  (hr:VRels γ' (z9u cs) w' (z0c X' γ' (z9u cs)) (z8o 900001 cs) c.toList) {γf:Nat→Value} {of:Store} {nm:Nat}
  (hrow:∀ j e ag ks l,cs[j]?=some (.vec e ag ks l)→γf (nm+j)=γ' (900001+j)∧z09 of (nm+j)=some (.row true e ag ks l)) {O':Nat→Prop} (hO:zt6 cs=true→∀ b,b < w'.heap.size→O' b→z0c X' γ' (z9u cs) b) :
  VRels γf of w' O' (z8o nm cs) c.toList:=by
 have hl:=hr.length;rw [zb7] at hl;refine VRels.of_get (by rw [zb7,hl]) (fun j v x hv hx=>?_)
 rw [zlb] at hv;cases hcj:cs[j]? with
 | none=>rw [hcj] at hv; cases hv
 | some u=>
  rw [hcj] at hv;simp only [v2k,v00] at hv;have hb:(z8o 900001 cs)[j]?=some (match (generalizing:=false) u with | .vec _ _ _ l=>.row (900001+j) 0 l.length | v=>v):=by rw [zlb,hcj]; rfl
  have hux:=hr.get' hb hx;have huok:okC u=true:=v35.1 hok u (v1r hcj)
  by_cases hvec:∃ e ag ks l,u = .vec e ag ks l
  ·obtain ⟨e,ag,ks,l,rfl⟩:=hvec
   simp only at hv hux;subst hv;obtain ⟨h1,h2⟩:=hrow j e ag ks l hcj;have hat:=zon (nr:=900001) hcj;have hat':z09 (z9u cs) (900001+j)=some (.row true e ag ks l):=by
    rw [zli hok,z02,v0y (by omega)]
    exact hat
   simp only [VRel,hat'] at hux;simp only [VRel,h2,h1];exact hux
  ·have hf:zc1 u=true:=by cases u <;> first | exact huok | exact absurd ⟨_,_,_,_,rfl⟩ hvec
   have hvu:v=u:=by cases u <;> first | exact hv.symm | exact absurd ⟨_,_,_,_,rfl⟩ hvec
   have hux':VRel γ' (z9u cs) w' (z0c X' γ' (z9u cs)) u x:=by cases u <;> first | exact hux | exact absurd ⟨_,_,_,_,rfl⟩ hvec
   subst hvu;exact zp0 hf (fun hv=>hO (zva (v1r hcj) hv)) hux'
theorem y9z {w':World} {X':Zone} {γ':Nat→Value} {cs:List V} (hok:cs.all okC=true) (hc:Rel B.base 0 w X' γ' ⟨[],z9u cs⟩ y2a w') :
  (∀ (γ:Nat→Value) j e ag ks l,cs[j]?=some (.vec e ag ks l)→ObRel B.base γ [] w' (fun b=>zt6 cs=true→z0c X' γ' (z9u cs) b) (γ' (900001+j)) (.row true e ag ks l)∧∀ b,(γ' (900001+j)).ownBlock=some b→z1y γ' (z9u cs) b) ∧
  (∀ i j e ag ks l e' ag' ks' l' b,i≠j→cs[i]?=some (.vec e ag ks l)→cs[j]?=some (.vec e' ag' ks' l')→(γ' (900001+i)).ownBlock=some b→(γ' (900001+j)).ownBlock=some b→False) ∧
  (∀ j e ag ks l b,cs[j]?=some (.vec e ag ks l)→(γ' (900001+j)).ownBlock=some b→z12 γ' (z9u cs) 900000 b→False):=by
 have hat:∀ {j e ag ks l},cs[j]?=some (V.vec e ag ks l)→z09 (z9u cs) (900001+j)=some (.row true e ag ks l):=by
  intro j e ag ks l hj;rw [zli hok,z02,v0y (by omega)]
  exact zon hj
 refine ⟨fun γ j e ag ks l hj=>⟨?_,fun b hb=>⟨_,_,hat hj,hb⟩⟩,?_,?_⟩
 ·have hr:=hc.ob _ _ (hat hj)
  simp only [ObRel] at hr ⊢
  obtain ⟨k1,k2,xs,k3,k4⟩:=hr;refine ⟨k1,k2,xs,k3,fun i y hy=>Kd.RelAll.mono (Keep.refl _ w') (fun b _ hb=>?_) (fun _ _ hu=>hu) (k4 i y hy)⟩
  exact hb (zva (v1r hj) rfl)
 ·intro i j e ag ks l e' ag' ks' l' b hij h1 h2 hb1 hb2
  exact hc.dis _ _ _ _ b (by omega) (hat h1) (hat h2) hb1 hb2
 ·rintro j e ag ks l b hj hb ⟨ob,h1,h2⟩
  exact hc.dis _ _ _ _ b (by omega) (hat hj) h1 hb h2
theorem yis (h:Rel B nt w0 X γ st a w) (hg:GX B w0 X) {f:FuncId} {sp:ypt} (hS:Snd P B f sp) {vs:List V} {xs:List Value} (hv:VRels γ st.o w (z0c X γ st.o) vs xs) (hl:zg6 vs=[]) {tks:List (List Kd)} {v:V} {out:List (List V)}
  (hsp:sp (z7j st.o [] tks vs)=some (v,out)) (hnb:∀ cs,v≠.bor cs) (hnv:∀ e ag ks l,v≠.vec e ag ks l) :
  Does P f xs w fun e w'=>∃ x,e = .returned x∧∃ γ',Rel B nt w0 X γ' (st.ups (z0p st.o (match z4y v with | true=>z1j vs | false=>[]))) a w' ∧
   VRel γ' (st.ups (z0p st.o (match z4y v with | true=>z1j vs | false=>[]))).o w' (z0c X γ' (st.ups (z0p st.o (match z4y v with | true=>z1j vs | false=>[]))).o) v x:=by
 refine (zrv h hg hS hv hl hsp).mono ?_
 rintro e w' ⟨x,he,γ',h1,h2,h3,rfl⟩
 have hf:zm8 v=true:=by cases v <;> first | exact h3 | exact absurd rfl (hnb _) | exact absurd rfl (hnv _ _ _ _)
 have hmo:z4j v []=[]:=by cases v <;> first | rfl | exact absurd rfl (hnb _) | exact absurd rfl (hnv _ _ _ _)
 rw [hmo] at h1 h2;rw [zdp hf] at h2;have hz:=(z56 st.o (match z4y v with | true=>z1j vs | false=>[]) (FrzLe.refl _) h).1
 have hp:=zo0 hz (fun b hb=>hb) h1 X.far (fun b hb=>.inl hb)
 refine ⟨x,he,γ,hp,zyi hf (fun hhl b _ hb=>?_) h2⟩
 have:=ze6 h _ hb
 rw [hhl] at this;exact .inr this
theorem ykw (h:Rel B nt w0 X γ st a w) (hg:GX B w0 X) {f:FuncId} {sp:ypt} (hS:Snd P B f sp) {vs:List V} {xs:List Value} (hv:VRels γ st.o w (z0c X γ st.o) vs xs) (hl:zg6 vs=[]) {tks:List (List Kd)} {cs:List V} {out:List (List V)}
  (hsp:sp (z7j st.o [] tks vs)=some (.bor cs,out)) (d:Nat) (hd9:d≠900000) (hn9:1000*(d+1)+cs.length≤900000) :
  Does P f xs w fun e w'=>∃ x,e = .returned x∧∃ γ',Rel B nt w0 X γ' (st.ups (z0p st.o (match zt6 cs with | true=>z1j vs | false=>[])++(zil (1000*(d+1)) cs++[.new d (.box (z8o (1000*(d+1)) cs))]))) a w' ∧
   VRel γ' (st.ups (z0p st.o (match zt6 cs with | true=>z1j vs | false=>[])++(zil (1000*(d+1)) cs++[.new d (.box (z8o (1000*(d+1)) cs))]))).o w'
    (z0c X γ' (st.ups (z0p st.o (match zt6 cs with | true=>z1j vs | false=>[])++(zil (1000*(d+1)) cs++[.new d (.box (z8o (1000*(d+1)) cs))]))).o) (.ptr d 0 0) x:=by
 refine (zrv h hg hS hv hl hsp).mono ?_
 rintro e w' ⟨x,he,γ',h1,h2,h3,rfl⟩
 simp only [okR] at h3;have hmo:z4j (.bor cs) []=z9u cs:=rfl;rw [hmo] at h1 h2;generalize hX':(⟨fun _=>False,fun b=>z0c X γ st.o b∧∀ m∈z1j vs,¬ RowOf γ st.o m b⟩:Zone)=X' at h1 h2
 have hXo:∀ b,¬ X'.own b:=fun b hb=>by rw [← hX'] at hb; exact hb
 have hz:=(z56 st.o (match zt6 cs with | true=>z1j vs | false=>[]) (FrzLe.refl _) h).1
 have hPf:∀ b,z1y γ' (z9u cs) b→w.heap.size≤b∧b < w'.heap.size:=fun b hb=>by
  obtain ⟨q1,q2⟩:=h1.lt b hb;exact ⟨q2.resolve_right (hXo b),q1⟩
 have hp:=zo0 hz hXo h1 (fun b=>X.far b∨z1y γ' (z9u cs) b) (fun b hb=>hb.imp_right (hPf b))
 obtain ⟨br1,br2,br3⟩:=y9z h3 h1;have hO1:∀ b,z0c ⟨X.own,fun b=>X.far b∨z1y γ' (z9u cs) b⟩ γ (st.ups (z0p st.o (match zt6 cs with | true=>z1j vs | false=>[]))).o b→(zt6 cs=true→z0c X' γ' (z9u cs) b):=by
  intro b hb hal;rw [hal] at hb;have key:z0c X γ (st.ups (z0p st.o (z1j vs))).o b∨z1y γ' (z9u cs) b:=by
   rcases hb with hb | hb | hb
   ·exact .inl (.inl hb)
   ·exact .inl (.inr hb)
   ·exact .inr hb
  rcases key with hb | hb
  ·have:=ze6 h _ hb
   exact .inr (by rw [← hX']; exact this)
  ·exact .inl hb
 obtain ⟨γd,F',r1,r2,r3,r4,r5,r6⟩:=zlq (B':=B.base) (g:=fun j=>γ' (900001+j)) (1000*(d+1)) cs 0 (by omega) hp hO1 (fun j e ag ks l hj=>by
   rw [v0p];obtain ⟨q1,q2⟩:=br1 γ j e ag ks l hj;exact ⟨q1,fun b hb=>⟨.inr (q2 b hb),.inl (v1n h.keep.size (hPf b (q2 b hb)).1)⟩⟩)
  (fun i j e ag ks l e' ag' ks' l' b hij q1 q2 q3 q4=>by
   rw [v0p] at q3 q4;exact br2 i j e ag ks l e' ag' ks' l' b hij q1 q2 q3 q4)
 simp only [v1s,v0p] at r1 r3 r4 r5 r6;have hob0:z09 (z9u cs) 900000=some (.box (z8o 900001 cs)):=by rw [zli h3,z02,v1b rfl]
 have hor:=h1.ob _ _ hob0;simp only [ObRel] at hor;obtain ⟨b0,c,T,hg,hh,hr⟩:=hor;have hb0P:z1y γ' (z9u cs) b0:=⟨900000,_,hob0,⟨_,hg,rfl⟩⟩;have hadd:=r1.add d hd9 (.box (z8o (1000*(d+1)) cs)) (γ' 900000) (fun b hb=>by
   obtain ⟨ad,q1,q2⟩:=hb;rw [hg] at q1;simp only [Value.pointer.injEq,v00] at q1;subst q1;simp only at q2;subst q2;exact ⟨r3 b0 (.inr hb0P) (fun j e ag ks l hj hb=>br3 j e ag ks l b0 hj hb ⟨_,hob0,_,hg,rfl⟩),.inl (v1n h.keep.size (hPf b0 hb0P).1)⟩)
  (fun O' hO'=>by
   simp only [ObRel];refine ⟨b0,c,T,hg,hh,y1j h3 h1 hr (fun j e ag ks l hj=>?_) (fun hal b _ hb=>hO1 b (r4 b (hO' b hb)) hal)⟩
   obtain ⟨q1,q2⟩:=r5 j e ag ks l hj;refine ⟨by rw [v0y (by omega)]; exact q1,?_⟩
   rw [z0g,v0y (by omega),q2]
   rfl)
 have hfin:=hadd.shrink (F:=X.far) (fun b hb=>by
   have hlt:=h.fl b hb;refine ⟨r3 b (.inl hb) (fun j e ag ks l hj hbj=>?_),fun hbb=>?_⟩
   ·have:=hPf b ((br1 γ j e ag ks l hj).2 b hbj)
    omega
   ·obtain ⟨ad,q1,q2⟩:=hbb
    rw [hg] at q1;simp only [Value.pointer.injEq,v00] at q1;subst q1;simp only at q2;subst q2
    have:=hPf b0 hb0P
    omega)
 refine ⟨x,he,_,by rw [z3o,z3o]; exact hfin,?_⟩
 rw [z3o,z3o];simp only [St.ups,VRel,z0g,v1t];simp only [yd8,zab,VRel,hob0] at h2;exact h2
theorem ynq (h:Rel B nt w0 X γ st a w) (hg:GX B w0 X) {f:FuncId} {sp:ypt} (hS:Snd P B f sp) {vs:List V} {xs:List Value} (hv:VRels γ st.o w (z0c X γ st.o) vs xs) (hl:zg6 vs=[]) {tks:List (List Kd)} {e:Nat} {ag:Bool} {ks:List Kd} {l:List IV} {out:List (List V)}
  (hsp:sp (z7j st.o [] tks vs)=some (.vec e ag ks l,out)) (d:Nat) (hd9:d≠900000) :
  Does P f xs w fun e' w'=>∃ x,e' = .returned x∧∃ γ',Rel B nt w0 X γ' (st.ups (z0p st.o (z1j vs)++[.new d (.row true e ag ks l)])) a w' ∧
   VRel γ' (st.ups (z0p st.o (z1j vs)++[.new d (.row true e ag ks l)])).o w' (z0c X γ' (st.ups (z0p st.o (z1j vs)++[.new d (.row true e ag ks l)])).o) (.row d 0 l.length) x:=by
 refine (zrv h hg hS hv hl hsp).mono ?_
 rintro e' w' ⟨x,he,γ',h1,h2,h3,rfl⟩
 have hmo:z4j (.vec e ag ks l) []=[(900000,some (.row true e ag ks l))]:=rfl;rw [hmo] at h1 h2;generalize hX':(⟨fun _=>False,fun b=>z0c X γ st.o b∧∀ m∈z1j vs,¬ RowOf γ st.o m b⟩:Zone)=X' at h1 h2
 have hXo:∀ b,¬ X'.own b:=fun b hb=>by rw [← hX'] at hb; exact hb
 have hz:=(z56 st.o (z1j vs) (FrzLe.refl _) h).1;have hPf:∀ b,z1y γ' [(900000,some (.row true e ag ks l))] b→w.heap.size≤b∧b < w'.heap.size:=fun b hb=>by
  obtain ⟨q1,q2⟩:=h1.lt b hb;exact ⟨q2.resolve_right (hXo b),q1⟩
 have hp:=zo0 hz hXo h1 (fun b=>X.far b∨z1y γ' [(900000,some (.row true e ag ks l))] b) (fun b hb=>hb.imp_right (hPf b))
 have hO1:∀ b,z0c ⟨X.own,fun b=>X.far b∨z1y γ' [(900000,some (.row true e ag ks l))] b⟩ γ (st.ups (z0p st.o (z1j vs))).o b→z0c X' γ' [(900000,some (.row true e ag ks l))] b:=by
  intro b hb;have key:z0c X γ (st.ups (z0p st.o (z1j vs))).o b∨z1y γ' [(900000,some (.row true e ag ks l))] b:=by
   rcases hb with hb | hb | hb
   ·exact .inl (.inl hb)
   ·exact .inl (.inr hb)
   ·exact .inr hb
  rcases key with hb | hb
  ·have:=ze6 h _ hb
   exact .inr (by rw [← hX']; exact this)
  ·exact .inl hb
 have hob0:z09 [(900000,some (.row true e ag ks l))] 900000=some (.row true e ag ks l):=by rw [z02,v1b rfl]
 have hor:=h1.ob _ _ hob0;simp only [ObRel] at hor;obtain ⟨k1,k2,ys,k3,k4⟩:=hor;have hg0:∀ b,z0q (γ' 900000) (.row true e ag ks l) b→z1y γ' [(900000,some (.row true e ag ks l))] b:=fun b hb=>⟨900000,_,hob0,hb⟩
 have hadd:=hp.add d hd9 (.row true e ag ks l) (γ' 900000) (fun b hb=>⟨.inr (hg0 b hb),.inl (v1n h.keep.size (hPf b (hg0 b hb)).1)⟩)
  (fun O' hO'=>by
   simp only [ObRel];exact ⟨k1,k2,ys,k3,fun i y hy=>Kd.RelAll.mono (Keep.refl _ w') (fun b _ hb=>hO1 b (hO' b hb)) (fun _ _ hu=>hu) (k4 i y hy)⟩)
 have hfin:=hadd.shrink (F:=X.far) (fun b hb=>by
   have hlt:=h.fl b hb;refine ⟨.inl hb,fun hbb=>?_⟩
   have:=hPf b (hg0 b hbb)
   omega)
 refine ⟨x,he,_,by rw [z3o]; exact hfin,?_⟩
 rw [z3o];simp only [St.ups,VRel,z0g,v1t];simp only [yd8,VRel,hob0] at h2;exact h2
end
open Go Go.RowKit
mutual
theorem VRel.leaves {γ γ':Nat→Value} {o o':Store} {w:World} {O:Nat→Prop} (h1:∀ n lo hi x,VRel γ o w O (.row n lo hi) x→VRel γ' o' w O (.row n lo hi) x) (h2:∀ n i c x,VRel γ o w O (.ptr n i c) x→VRel γ' o' w O (.ptr n i c) x)
  (h3:∀ n c cap sz len x,VRel γ o w O (.bview n c cap sz len) x→VRel γ' o' w O (.bview n c cap sz len) x):∀ {v:V} {x:Value},VRel γ o w O v x→VRel γ' o' w O v x
 | .any,_,_=>by simp only [VRel]
 | .int _ _,_,h=>by simpa only [VRel] using h
 | .bool _,_,h=>by simpa only [VRel] using h
 | .str _,_,h=>by simpa only [VRel] using h
 | .list _ _ _,_,h=>by simpa only [VRel] using h
 | .zs,_,h=>by simpa only [VRel] using h
 | .row _ _ _,_,h=>h1 _ _ _ _ h
 | .ptr _ _ _,_,h=>h2 _ _ _ _ h
 | .iptr _ _ _,_,h=>by simpa only [VRel] using h
 | .bview _ _ _ _ _,_,h=>h3 _ _ _ _ _ _ h
 | .agg l,x,h=>by
  simp only [VRel] at h ⊢
  obtain ⟨cs,hx,hr⟩:=h;exact ⟨cs,hx,VRels.leaves h1 h2 h3 hr⟩
 | .tup l,x,h=>by
  simp only [VRel] at h ⊢
  obtain ⟨cs,hx,hr⟩:=h;exact ⟨cs,hx,VRels.leaves h1 h2 h3 hr⟩
 | .err _,_,h=>by simpa only [VRel] using h
 | .nilp,_,h=>by simpa only [VRel] using h
 | .clo _ l,x,h=>by
  simp only [VRel] at h ⊢
  obtain ⟨cs,hx,hr⟩:=h;exact ⟨cs,hx,VRels.leaves h1 h2 h3 hr⟩
 | .bor _,_,h=>by simp only [VRel] at h
 | .vec _ _ _ _,_,h=>by simp only [VRel] at h
 | .bld _,_,h=>by simp only [VRel] at h
theorem VRels.leaves {γ γ':Nat→Value} {o o':Store} {w:World} {O:Nat→Prop} (h1:∀ n lo hi x,VRel γ o w O (.row n lo hi) x→VRel γ' o' w O (.row n lo hi) x) (h2:∀ n i c x,VRel γ o w O (.ptr n i c) x→VRel γ' o' w O (.ptr n i c) x)
  (h3:∀ n c cap sz len x,VRel γ o w O (.bview n c cap sz len) x→VRel γ' o' w O (.bview n c cap sz len) x):∀ {l:List V} {xs:List Value},VRels γ o w O l xs→VRels γ' o' w O l xs
 | [],[],_=>by simp only [VRels]
 | [],_ :: _,h=>by simp only [VRels] at h
 | _ :: _,[],h=>by simp only [VRels] at h
 | v :: vs,x :: xs,h=>by
  simp only [VRels] at h ⊢
  exact ⟨VRel.leaves h1 h2 h3 h.1,VRels.leaves h1 h2 h3 h.2⟩
end
section
variable {B:BT} {nt:Nat} {w0:World} {X:Zone} {γ:Nat→Value} {st st':St} {a:Act} {w:World} {P:Program} {E:Env}
theorem y8v:∀ (hs:List Nat) {st:St} {X:Zone},Rel B nt w0 X γ st a w →
  Rel B nt w0 ⟨X.own,fun b=>X.far b∨∃ m∈hs,z12 γ st.o m b⟩ γ (st.ups (zem hs)) a w∧(st.ups (zem hs)).t=st.t∧∀ m,z09 (st.ups (zem hs)).o m=if m∈hs then none else z09 st.o m
 | [],st,X,h=>⟨h.shrink (fun b hb=>by simpa using hb),rfl,fun m=>by simp [zem,St.ups]⟩
 | n :: r,st,X,h=>by
  obtain ⟨h1,h2,h3⟩:=y8v r (h.kill n);have hob:∀ m,z09 (st.up (.kill n)).o m=if n=m then none else z09 st.o m:=fun m=>by simp only [St.up,z02]
  refine ⟨?_,h2,fun m=>?_⟩
  ·simp only [zem,St.ups]
   refine h1.shrink (fun b hb=>?_)
   rcases hb with hb | ⟨m,hm,hb⟩
   ·exact .inl (.inl hb)
   ·by_cases e:n=m
    ·subst e
     exact .inl (.inr hb)
    ·rcases v17.1 hm with h4 | h4
     ·exact absurd h4.symm e
     ·obtain ⟨ob,p1,p2⟩:=hb
      exact .inr ⟨m,h4,ob,by rw [hob,v0y e]; exact p1,p2⟩
  ·simp only [zem,St.ups]
   rw [h3,hob]
   by_cases h4:m∈r
   ·simp [h4]
   ·by_cases h5:n=m
    ·subst h5
     simp
    ·have:¬ m=n:=fun e=>h5 e.symm
     simp [h4,h5,this]
theorem y24 (h:Rel B nt w0 X γ st a w) (ns:List Nat) {n:Nat} {ob:Ob} (ho:z09 st.o n=some ob) (hb:∀ e ag ks l,ob≠.row true e ag ks l):z09 (st.ups (z0p st.o ns)).o n=some ob:=by
 obtain ⟨_,h2,_⟩:=z56 st.o ns (FrzLe.refl _) h;rcases h2 n with h3 | ⟨e,ag,ks,l,h3,_⟩
 ·rw [h3,ho]
 ·rw [ho,v00] at h3
  exact absurd h3 (hb _ _ _ _)
theorem Rel.boundB (h:Rel B nt w0 X γ st a w) {n:Nat} {s:ByteArray} (ho:z09 st.o n=some (.bld s)) {w1:World} {own1 F:Nat→Prop} (hk:Keep own1 w1 w)
  (hF:∀ b,F b→z0c X γ st.o b∧¬ z12 γ st.o n b) (hown:∀ b,z12 γ st.o n b→w1.heap.size≤b∨own1 b) :
  Rel B.base 0 w1 ⟨own1,F⟩ (fun _=>γ n) ⟨[],z9u [.bld s]⟩ y2a w∧∀ b,z1y (fun _=>γ n) (z9u [.bld s]) b→z12 γ st.o n b:=by
 have hP:∀ b,z1y (fun _=>γ n) (z9u [.bld s]) b→z12 γ st.o n b:=by
  rintro b ⟨m,ob,hm,hb⟩
  simp only [z9u] at hm;rw [z02] at hm
  split at hm
  ·simp only [v00] at hm
   subst hm;exact ⟨_,ho,hb⟩
  ·simp only [z09,lkd] at hm; cases hm
 refine ⟨⟨rfl,rfl,fun i=>by simp only [St.get,lkd,VRel],fun m ob hm=>?_,fun b hb=>?_,?_,hk,?_,?_,fun p hp=>by cases hp⟩,hP⟩
 ·simp only [z9u] at hm
  rw [z02] at hm
  split at hm
  ·simp only [v00] at hm
   subst hm
   have:=h.ob n _ ho
   simpa only [ObRel,BT.base] using this
  ·simp only [z09,lkd] at hm; cases hm
 ·obtain ⟨ob,h1,h2⟩:=hP b hb
  exact ⟨(h.lt b ⟨n,ob,h1,h2⟩).1,hown b (hP b hb)⟩
 ·intro m1 m2 ob1 ob2 b hne h1 h2 _ _
  simp only [z9u] at h1 h2;rw [z02] at h1 h2
  split at h1
  ·split at h2
   ·omega
   ·simp only [z09,lkd] at h2; cases h2
  ·simp only [z09,lkd] at h1; cases h1
 ·intro b hb hf
  exact (hF b hf).2 (hP b hb)
 ·intro b hb
  rcases (hF b hb).1 with h1 | h1
  ·exact (h.lt b h1).1
  ·exact h.fl b h1
theorem yop (h:Rel B nt w0 X γ st a w) (hg:GX B w0 X) {f:FuncId} {sp:ypt} (hS:Snd P B f sp) {vs:List V} {xs:List Value} (hv:VRels γ st.o w (z0c X γ st.o) vs xs) {n:Nat} (hl:zg6 vs=[n]) {s s':ByteArray} (ho:z09 st.o n=some (.bld s))
  {tks:List (List Kd)} {v:V} (hsp:sp (z7j st.o [.bld s] tks vs)=some (v,[[.bld s']])) (hib:ynr (z82 (z7j st.o [.bld s] tks vs))=true) :
  Does P f xs w fun e w'=>∃ x,e = .returned x∧∃ γ',Rel B nt w0 X γ' (st.ups (z0p st.o (match z4y v with | true=>z1j vs | false=>[])++[.set n (.bld s')])) a w' ∧
   VRel γ' (st.ups (z0p st.o (match z4y v with | true=>z1j vs | false=>[])++[.set n (.bld s')])).o w' (z0c X γ' (st.ups (z0p st.o (match z4y v with | true=>z1j vs | false=>[])++[.set n (.bld s')])).o) v x:=by
 have hL:∀ b,z12 γ st.o n b→w.heap.size≤b∨z12 γ st.o n b:=fun b hb=>.inr hb
 obtain ⟨hR,hP⟩:=h.boundB ho (w1:=w) (own1:=z12 γ st.o n) (F:=fun b=>z0c X γ st.o b∧¬ z12 γ st.o n b∧∀ m∈z1j vs,¬ RowOf γ st.o m b) (Keep.refl _ w) (fun b hb=>⟨hb.1,hb.2.1⟩) hL
 generalize hX':(⟨z12 γ st.o n,fun b=>z0c X γ st.o b∧¬ z12 γ st.o n b∧∀ m∈z1j vs,¬ RowOf γ st.o m b⟩:Zone)=X' at hR
 have hXf:∀ b,X'.far b↔(z0c X γ st.o b∧¬ z12 γ st.o n b∧∀ m∈z1j vs,¬ RowOf γ st.o m b):=fun b=>by rw [← hX']
 have hXo:∀ b,X'.own b↔z12 γ st.o n b:=fun b=>by rw [← hX']
 have hnP:∀ b,z12 γ st.o n b→z1y γ st.o b:=fun b ⟨ob,h1,h2⟩=>⟨n,ob,h1,h2⟩
 rcases (zhz (o:=st.o) (bs:=[.bld s]) (l:=vs) (tks:=tks)).1 with hb | hb
 ·rw [hb] at hib
  cases hib
 ·have hm:zeu (z7j st.o [.bld s] tks vs)=z9u [.bld s]:=by simp only [zeu,hb]
  have hcall:=hS w X' (fun _=>γ n) (z7j st.o [.bld s] tks vs) xs v [[.bld s']] hsp (h.glob hg) (fun b hb=>h.high hg (hnP b ((hXo b).1 hb))) (by rw [hm]; exact hR) (by
   rw [hm];refine zop h (fun b _ hb=>?_) [.bld s] hv (fun m hm b hr hb=>?_) (fun m hm=>?_)
   ·rcases hb with hb | hb
    ·exact .inl (hnP b (hP b hb))
    ·exact ((hXf b).1 hb).1
   ·rcases hb with hb | hb
    ·obtain ⟨e,ag,ks,l,h5,h6⟩:=hr
     obtain ⟨ob,h7,h8⟩:=hP b hb;have hne:n≠m:=by
      rintro rfl
      rw [ho] at h5;cases h5
     exact h.dis n m ob _ b hne h7 h5 h8 h6
    ·exact ((hXf b).1 hb).2.2 m hm hr
   ·rw [hl] at hm
    simp only [v1v] at hm;subst hm;exact ⟨rfl,.inr ⟨s,s,ho,by simp [z9u,z02]⟩⟩)
  refine hcall.mono ?_
  rintro e w' ⟨x,he,γ',h1,h2,h3⟩
  simp only [zcn,hb] at h3;obtain ⟨hf,_,had⟩:=h3;have hmo:z4j v [[.bld s']]=z9u [.bld s']:=by cases v <;> rfl
  rw [hmo] at h1 h2;rw [zdp hf] at h2;refine ⟨x,he,?_⟩;generalize hF0:(match z4y v with | true=>z1j vs | false=>[])=F0
  have hz:=(z56 st.o F0 (FrzLe.refl _) h).1;have hon:=y24 h F0 ho (fun _ _ _ _=>by simp)
  have hob0:z09 (z9u [.bld s']) 900000=some (.bld s'):=by simp [z9u,z02]
  have hor:=h1.ob _ _ hob0;have hor0:=h.ob _ _ ho;simp only [ObRel] at hor hor0;obtain ⟨b1,v1,p1,hg1,_⟩:=hor;obtain ⟨b0,v0,p0,hg0,_⟩:=hor0;have hbb:b1=b0:=by
   rw [hg1,hg0] at had
   simpa [zod] using had
  subst hbb;have hbl:∀ b,z12 γ (st.ups (z0p st.o F0)).o n b↔z12 γ st.o n b:=fun b=>by simp only [z12,hon,ho]
  have hOP:∀ b,z0q (γ' 900000) (.bld s') b→z1y γ' (z9u [.bld s']) b:=fun b hb=>⟨_,_,hob0,hb⟩
  have hsz:=h1.keep.size;have hlend:=hz.lend (n:=n) (ob':=.bld s') (g':=γ' 900000) hon had h1.keep (K:=X'.own) (fun b _ hb=>.inl ((hbl b).2 ((hXo b).1 hb)))
   (fun b hb=>by
    obtain ⟨q1,q2⟩:=h1.lt b (hOP b hb);exact ⟨q1,q2.elim .inr (fun hb=>.inl ((hbl b).2 ((hXo b).1 hb)))⟩)
   (fun O v x hvx=>VRel.leaves (fun m lo hi x hx=>by
     simp only [VRel] at hx ⊢
     rw [z02]
     by_cases e:n=m
     ·subst e; simp only [v1t]
     ·simp only [v0y e]; exact hx) (fun m i c x hx=>by
     simp only [VRel] at hx ⊢
     rw [z02]
     by_cases e:n=m
     ·subst e
      simp only [v1t];rw [hon] at hx;obtain ⟨rfl,b,v',hg,hxx⟩:=hx;rw [hg0] at hg;simp only [Value.tuple.injEq,Array.mk.injEq,v2y,Value.pointer.injEq,v00,Addr.mk.injEq,v1c] at hg;refine ⟨rfl,b1,v1,hg1,?_⟩;rw [hxx,hg.1]
     ·simp only [v0y e]; exact hx) (fun m c cap sz len x hx=>by
     simp only [VRel] at hx ⊢
     rw [z02]
     by_cases e:n=m
     ·subst e; simp only [v1t]
     ·simp only [v0y e]; exact hx) hvx)
   (by
    have hor:=h1.ob _ _ hob0
    simpa only [ObRel,BT.base] using hor)
  have hfin:=hlend.shrink (F:=X.far) (fun b hb=>⟨.inl hb,fun hbb=>by
   obtain ⟨q1,q2⟩:=h1.lt b (hOP b hbb)
   have:=h.fl b hb
   rcases q2 with q2 | q2
   ·omega
   ·exact h.nr b (hnP b ((hXo b).1 q2)) hb⟩)
  refine ⟨_,by rw [z3o]; exact hfin,?_⟩
  rw [z3o];refine zyi hf (fun hhl b hlt hb=>?_) h2
  rw [hhl] at hF0;simp only at hF0;rcases hb with ⟨m,ob,hm,hbm⟩ | hb
  ·simp only [St.ups,St.up] at hm
   rw [z02] at hm
   by_cases e:n=m
   ·subst e
    simp only [v1t,v00] at hm hbm;subst hm;exact .inl (hOP b hbm)
   ·simp only [v0y e] at hm hbm
    obtain ⟨q1,q2⟩:=ze6 h F0 (b:=b) (.inl ⟨m,ob,hm,hbm⟩);refine .inr ((hXf b).2 ⟨q1,fun hbn=>?_,by rw [hF0]; exact q2⟩)
    obtain ⟨ob2,q3,q4⟩:=(hbl b).2 hbn;exact hz.dis n m ob2 ob b e q3 hm q4 hbm
  ·refine .inr ((hXf b).2 ⟨.inr hb,fun hbn=>h.nr b (hnP b hbn) hb,fun m _ ⟨e,ag,ks,l,q1,q2⟩=>h.nr b ⟨m,_,q1,q2⟩ hb⟩)
theorem zlr {o:Store} {all:List Nat} {n:Nat}:∀ {cs:List V},n∈z74 o all cs→∃ lo hi own e ag ks l,.row n lo hi∈cs∧z09 o n=some (.row own e ag ks l)∧(own&&(Nat.beq lo 0&&Nat.beq (occ n all) 1))=false
 | [],h=>by simp [z74] at h
 | v :: r,h=>by
  have up:n∈z74 o all r→∃ lo hi own e ag ks l,.row n lo hi∈v :: r∧z09 o n=some (.row own e ag ks l)∧(own&&(Nat.beq lo 0&&Nat.beq (occ n all) 1))=false:=fun h'=>by
   obtain ⟨lo,hi,own,e,ag,ks,l,h1,h2,h3⟩:=zlr h';exact ⟨lo,hi,own,e,ag,ks,l,v0b _ h1,h2,h3⟩
  cases v
  case row m lo hi=>
   simp only [z74] at h
   split at h
   ·rename_i own e ag ks l hob
    split at h
    ·exact up h
    ·rename_i hb
     rcases v17.1 h with h1 | h1
     ·subst h1
      exact ⟨lo,hi,own,e,ag,ks,l,v09 ..,hob,hb⟩
     ·exact up h1
   ·exact up h
  all_goals exact up h
theorem yny (h:Rel B nt w0 X γ st a w) (hg:GX B w0 X) {f:FuncId} {sp:ypt} (hS:Snd P B f sp) {vs:List V} {xs:List Value} (hv:VRels γ st.o w (z0c X γ st.o) vs xs) {n:Nat} (hl:zg6 vs=[n]) {cs:List V} (ho:z09 st.o n=some (.box cs)) {all:List Nat} (hall:z1m cs++z1j vs=all)
  {tks:List (List Kd)} {v:V} {out:List V} (hsp:sp (z7j st.o (cs.map (z4w st.o all)) tks vs)=some (v,[out])) (hib:ynr (z82 (z7j st.o (cs.map (z4w st.o all)) tks vs))=true) {nm:Nat} (hlen:out.length=cs.length) (hnm:n < nm∨nm+out.length≤n) (hn9:nm+out.length≤900000) :
  Does P f xs w fun e w'=>∃ x,e = .returned x∧∃ γ',Rel B nt w0 X γ' (st.ups (z0p st.o (z74 st.o all cs++(match z4y v||zt6 out with | true=>z1j vs | false=>[])) ++
     (zem (z5e st.o all cs)++(.set n (.box (yhj cs)) :: (zil nm out++[.set n (.box (z8o nm out))]))))) a w' ∧
   VRel γ' (st.ups (z0p st.o (z74 st.o all cs++(match z4y v||zt6 out with | true=>z1j vs | false=>[])) ++
     (zem (z5e st.o all cs)++(.set n (.box (yhj cs)) :: (zil nm out++[.set n (.box (z8o nm out))]))))).o w' (z0c X γ' (st.ups (z0p st.o (z74 st.o all cs++(match z4y v||zt6 out with | true=>z1j vs | false=>[])) ++
     (zem (z5e st.o all cs)++(.set n (.box (yhj cs)) :: (zil nm out++[.set n (.box (z8o nm out))]))))).o) v x:=by
 let L:Nat→Prop:=fun b=>z12 γ st.o n b∨∃ m∈z5e st.o all cs,z12 γ st.o m b
 have hLP:∀ b,L b→z1y γ st.o b:=by
  rintro b (⟨ob,h1,h2⟩ | ⟨m,_,ob,h1,h2⟩)
  ·exact ⟨n,ob,h1,h2⟩
  ·exact ⟨m,ob,h1,h2⟩
 have hbound:=h.bound ho (z1j vs) (w1:=w) (own1:=L) (F:=fun b=>z0c X γ st.o b∧¬ L b∧(∀ m∈z74 st.o all cs,¬ z12 γ st.o m b)∧∀ m∈z1j vs,¬ RowOf γ st.o m b) (Keep.refl _ w)
  (fun b hb=>⟨hb.1,fun h1=>hb.2.1 (.inl h1),fun m hm h1=>hb.2.1 (.inr ⟨m,by rw [← hall]; exact hm,h1⟩),by rw [hall]; exact hb.2.2.1⟩) (fun b hb=>.inr (by rw [hall] at hb; exact hb))
 rw [hall] at hbound;obtain ⟨γb,hR,hg0,hP⟩:=hbound;generalize hX':(⟨L,fun b=>z0c X γ st.o b∧¬ L b∧(∀ m∈z74 st.o all cs,¬ z12 γ st.o m b)∧∀ m∈z1j vs,¬ RowOf γ st.o m b⟩:Zone)=X' at hR
 have hXf:∀ b,X'.far b↔(z0c X γ st.o b∧¬ L b∧(∀ m∈z74 st.o all cs,¬ z12 γ st.o m b)∧∀ m∈z1j vs,¬ RowOf γ st.o m b):=fun b=>by rw [← hX']
 have hXo:∀ b,X'.own b↔L b:=fun b=>by rw [← hX']
 have hb:z82 (z7j st.o (cs.map (z4w st.o all)) tks vs)=some (cs.map (z4w st.o all)):=by
  rcases (zhz (o:=st.o) (bs:=cs.map (z4w st.o all)) (l:=vs) (tks:=tks)).1 with hb | hb
  ·rw [hb] at hib; cases hib
  ·exact hb
 have hm:zeu (z7j st.o (cs.map (z4w st.o all)) tks vs)=z9u (cs.map (z4w st.o all)):=by simp only [zeu,hb]
 have hargs:∀ m∈z1j vs,∀ b,RowOf γ st.o m b→¬ L b:=by
  intro m hm b hr hLb;obtain ⟨e,ag,ks,l,h5,h6⟩:=hr;rcases hLb with ⟨ob,h7,h8⟩ | ⟨m2,h9,ob,h7,h8⟩
  ·have hne:n≠m:=by
    rintro rfl
    rw [ho] at h5;cases h5
   exact h.dis n m ob _ b hne h7 h5 h8 h6
  ·by_cases hne:m2=m
   ·subst hne
    obtain ⟨hi2,e2,ag2,ks2,l2,k1,k2,k3⟩:=z9p.1 h9;rw [← hall,zb9] at k3;have q1:=zk0 (zcp k1);have q2:=zk0 hm;omega
   ·exact h.dis m2 m ob _ b hne h7 h5 h8 h6
 have hok0:∀ v,okC (z4w st.o all v)=true:=by
  intro v;rcases zfc st.o all v with ⟨_,_,_,_,_,_,_,_,_,h1⟩ | ⟨h1,_⟩
  ·rw [h1]; rfl
  ·cases hcc:z4w st.o all v <;> first | rfl | (rw [hcc] at h1; cases h1)
 have hcall:=hS w X' γb (z7j st.o (cs.map (z4w st.o all)) tks vs) xs v [out] hsp (h.glob hg) (fun b hb=>h.high hg (hLP b ((hXo b).1 hb))) (by rw [hm]; exact hR) (by
  rw [hm];refine zop h (fun b _ hb=>?_) _ hv (fun m hm b hr hb=>?_) (fun m hm=>?_)
  ·rcases hb with hb | hb
   ·exact .inl (hLP b (hP b hb))
   ·exact ((hXf b).1 hb).1
  ·rcases hb with hb | hb
   ·exact hargs m hm b hr (hP b hb)
   ·exact ((hXf b).1 hb).2.2.2 m hm hr
  ·rw [hl] at hm
   simp only [v1v] at hm;subst hm;exact ⟨hg0,.inl ⟨cs,_,ho,by rw [zli (v35.2 (fun v hv=>by obtain ⟨u,_,rfl⟩:=List.mem_map.1 hv; exact hok0 u)),z02,v1b rfl]⟩⟩)
 refine hcall.mono ?_
 rintro e w' ⟨x,he,γ',h1,h2,h3⟩
 simp only [zcn,hb] at h3;obtain ⟨hf,hsk,had⟩:=h3;have hok:out.all okC=true:=by
  unfold y4c at hsk
  split at hsk
  ·rename_i s s' hcs
   cases cs with
   | nil=>simp at hcs
   | cons u r=>
    simp only [v0d,v2y] at hcs
    have:=hok0 u
    rw [hcs.1] at this;cases this
  ·cases hsk
  ·exact hsk
 have hmo:z4j v [out]=z9u out:=by cases v <;> rfl
 rw [hmo] at h1 h2;rw [zdp hf] at h2;refine ⟨x,he,?_⟩;generalize hF0:z74 st.o all cs++(match z4y v||zt6 out with | true=>z1j vs | false=>[])=F0
 have hz:=(z56 st.o F0 (FrzLe.refl _) h).1;have hzf:=(z56 st.o F0 (FrzLe.refl _) h).2.1;have hon:=y24 h F0 ho (fun _ _ _ _=>by simp)
 obtain ⟨hk,hkt,hko⟩:=y8v (z5e st.o all cs) hz;have hnh:n ∉ z5e st.o all cs:=by
  intro hn;obtain ⟨_,_,_,_,_,_,q,_⟩:=z9p.1 hn;rw [ho] at q;cases q
 have hon2:z09 ((st.ups (z0p st.o F0)).ups (zem (z5e st.o all cs))).o n=some (.box cs):=by rw [hko,v0y hnh]; exact hon
 have hor0:=h.ob _ _ ho;simp only [ObRel] at hor0;obtain ⟨b0,c0,T0,hgn,hh0,hr0⟩:=hor0;have hob0:z09 (z9u out) 900000=some (.box (z8o 900001 out)):=by rw [zli hok,z02,v1b rfl]
 have hor:=h1.ob _ _ hob0;simp only [ObRel] at hor;obtain ⟨b1,c,T,hg,hh,hr⟩:=hor;have hbb:b1=b0:=by
  rw [hg,hg0,hgn] at had
  simpa [zod] using had
 subst hbb;have hg':γ' 900000=γ n:=by rw [hg,hgn]
 have hsz:=h1.keep.size;have hbn:∀ b,z12 γ st.o n b↔b=b1:=by
  intro b;constructor
  ·rintro ⟨ob,h5,h6⟩
   rw [ho] at h5;cases h5;obtain ⟨ad,h7,h8⟩:=h6;rw [hgn] at h7;cases h7;exact h8.symm
  ·rintro rfl
   exact ⟨_,ho,_,hgn,rfl⟩
 have hbn2:∀ b,z12 γ ((st.ups (z0p st.o F0)).ups (zem (z5e st.o all cs))).o n b↔b=b1:=by
  intro b;rw [← hbn b];simp only [z12,hon2,ho]
 have hbx:∀ l b,z0q (γ n) (.box l) b↔b=b1:=by
  intro l b;rw [← hbn b];simp only [z12,ho,v00,exists_eq_left',z0q]
 have hhb:∀ m∈z5e st.o all cs,∀ b,z12 γ st.o m b→z12 γ (st.ups (z0p st.o F0)).o m b:=by
  rintro m hm b ⟨ob,h5,h6⟩
  obtain ⟨hi2,e2,ag2,ks2,l2,k1,k2,k3⟩:=z9p.1 hm;refine ⟨ob,?_,h6⟩;rw [(z56 st.o F0 (FrzLe.refl _) h).2.2.2.2 m ?_]
  ·exact h5
  ·intro hmF
   rw [← hF0] at hmF;rcases v0o.1 hmF with h7 | h7
   ·obtain ⟨lo3,hi3,own3,e3,ag3,ks3,l3,q1,q2,q3⟩:=zlr h7
    obtain ⟨i1,hi1⟩:=List.mem_iff_getElem?.1 k1;obtain ⟨i2,hi2⟩:=List.mem_iff_getElem?.1 q1;rw [← hall,zb9] at k3;rcases Nat.lt_trichotomy i1 i2 with hlt | hlt | hlt
    ·have:=znd hlt hi1 hi2
     omega
    ·subst hlt
     rw [hi1] at hi2;simp only [v00,V.row.injEq,v45] at hi2;obtain ⟨rfl,rfl⟩:=hi2;rw [k2] at q2;simp only [v00,Ob.row.injEq] at q2;obtain ⟨rfl,_⟩:=q2;rw [← hall,zb9,k3] at q3;simp at q3
    ·have:=znd hlt hi2 hi1
     omega
   ·have q1:m∈z1j vs:=by
     split at h7
     ·exact h7
     ·cases h7
    rw [← hall,zb9] at k3
    have:=zk0 (zcp k1)
    have:=zk0 q1
    omega
 have hlend:=hk.lend (n:=n) (ob':=.box (yhj cs)) (g':=γ n) hon2 rfl h1.keep (K:=X'.own)
  (fun b hlt hb=>by
   have hLb:=(hXo b).1 hb;rcases hLb with h5 | ⟨m,h6,h7⟩
   ·exact .inl ((hbn2 b).2 ((hbn b).1 h5))
   ·refine .inr ⟨.inr ⟨m,h6,hhb m h6 b h7⟩,?_⟩
    exact (h.lt b (hLP b (.inr ⟨m,h6,h7⟩))).2)
  (fun b hb=>by
   have:=(hbx _ b).1 hb
   subst this;exact ⟨v1f (h.lt _ ⟨n,_,ho,(hbx _ _).2 rfl⟩).1 hsz,.inl ((hbn2 _).2 rfl)⟩)
  (fun O v x hvx=>by
   refine VRel.cmp ?_ hvx;intro m ob1 hm;refine ⟨by by_cases e:n=m <;> simp [e],?_⟩
   rw [z02] at hm
   by_cases e:n=m
   ·subst e
    simp only [v1t,v00] at hm;subst hm;exact ⟨_,hon2,by simp [Ob.fits,zrr]⟩
   ·rw [v0y e] at hm
    exact ⟨ob1,hm,ob1.fits_refl⟩)
  (by
   simp only [ObRel];refine ⟨b1,c,T,hgn,hh,?_⟩;have hcl:=hr.length;rw [zb7,hlen] at hcl;refine VRels.of_get (by rw [zrr,v14,hcl]) (fun j v x hv hx=>?_)
   rw [zrr,v11] at hv;cases hcj:cs[j]? with
   | none=>rw [hcj] at hv; cases hv
   | some u=>
    rw [hcj] at hv;simp only [v2k,v00] at hv;subst hv;simp only [VRel])
 obtain ⟨br1,br2,br3⟩:=y9z hok h1;have hPf:∀ b,z1y γ' (z9u out) b→(w.heap.size≤b∧b < w'.heap.size)∨L b:=fun b hb=>by
  obtain ⟨q1,q2⟩:=h1.lt b hb;rcases q2 with q2 | q2
  ·exact .inl ⟨q2,q1⟩
  ·exact .inr ((hXo b).1 q2)
 have hb1P:z1y γ' (z9u out) b1:=⟨900000,_,hob0,⟨_,hg,rfl⟩⟩;have hLb1:L b1:=.inl ((hbn b1).2 rfl);have hsh:=hlend.shrink (F:=fun b=>(X.far b∨z1y γ' (z9u out) b)∧b≠b1) (fun b hb=>by
  refine ⟨?_,fun hbb=>hb.2 ((hbx _ b).1 hbb)⟩
  rcases hb.1 with h5 | h5
  ·exact .inl (.inl h5)
  ·rcases hPf b h5 with h6 | h6 | ⟨m,h6,h7⟩
   ·exact .inr h6
   ·exact absurd ((hbn b).1 h6) hb.2
   ·exact .inl (.inr ⟨m,h6,hhb m h6 b h7⟩))
 have hfarX:∀ b,X.far b→X'.far b:=fun b hb=>(hXf b).2 ⟨.inr hb,fun hL=>h.nr b (hLP b hL) hb,fun m _ ⟨ob,q1,q2⟩=>h.nr b ⟨m,ob,q1,q2⟩ hb,fun m _ ⟨e,ag,ks,l,q1,q2⟩=>h.nr b ⟨m,_,q1,q2⟩ hb⟩
 have hO1:∀ b,z0c ⟨X.own,fun b=>(X.far b∨z1y γ' (z9u out) b)∧b≠b1⟩ (fun m=>if n=m then γ n else γ m) (((st.ups (z0p st.o F0)).ups (zem (z5e st.o all cs))).up (.set n (.box (yhj cs)))).o b →
   ((z4y v||zt6 out)=true→z0c X' γ' (z9u out) b):=by
  intro b hb hflag;rcases hb with ⟨m,ob,hm,hbm⟩ | ⟨hb | hb,_⟩
  ·simp only [St.up] at hm
   rw [z02] at hm
   by_cases e:n=m
   ·subst e
    simp only [v1t,v00] at hm hbm;subst hm
    have:=(hbx _ b).1 hbm
    subst this;exact .inl hb1P
   ·simp only [v0y e] at hm hbm
    rw [hko] at hm
    split at hm
    ·cases hm
    rename_i hmh;obtain ⟨q1,q2⟩:=ze6 h F0 (b:=b) (.inl ⟨m,ob,hm,hbm⟩);refine .inr ((hXf b).2 ⟨q1,fun hL=>?_,fun m' hm' hbl=>?_,fun m' hm'=>?_⟩)
    ·rcases hL with h5 | ⟨m2,h5,h6⟩
     ·obtain ⟨ob2,q3,q4⟩:z12 γ (st.ups (z0p st.o F0)).o n b:=⟨_,hon,(hbx _ b).2 ((hbn b).1 h5)⟩
      exact hz.dis n m ob2 ob b e q3 hm q4 hbm
     ·obtain ⟨ob2,q3,q4⟩:=hhb m2 h5 b h6
      exact hz.dis m2 m ob2 ob b (fun e=>hmh (e ▸ h5)) q3 hm q4 hbm
    ·obtain ⟨lo3,hi3,own3,e3,ag3,ks3,l3,p1,p2,p3⟩:=zlr hm'
     obtain ⟨ob2,q3,q4⟩:=hbl;rw [p2,v00] at q3;subst q3;cases own3 with
     | false=>exact q4.elim
     | true=>exact q2 m' (by rw [← hF0]; exact v3d _ hm') ⟨e3,ag3,ks3,l3,p2,q4⟩
    ·refine q2 m' ?_
     rw [← hF0,hflag];exact v3a _ hm'
  ·exact .inr (hfarX b hb)
  ·exact .inl hb
 have hrows:=zlq (B':=B.base) (O1:=fun b=>zt6 out=true→z0c X' γ' (z9u out) b) (g:=fun j=>γ' (900001+j)) nm out 0 (by omega) hsh (fun b hb hal=>hO1 b hb (by simp [hal])) (fun j e ag ks l hj=>by
   rw [v0p];obtain ⟨q1,q2⟩:=br1 (fun m=>if n=m then γ n else γ m) j e ag ks l hj
   refine ⟨q1,fun b hb=>⟨⟨.inr (q2 b hb),?_⟩,?_⟩⟩
   ·rintro rfl
    exact br3 j e ag ks l _ hj hb ⟨_,hob0,_,hg,rfl⟩
   ·rcases hPf b (q2 b hb) with h5 | h5
    ·exact .inl (v1n h.keep.size h5.1)
    ·exact (h.lt b (hLP b h5)).2)
  (fun i j e ag ks l e' ag' ks' l' b hij q1 q2 q3 q4=>by
   rw [v0p] at q3 q4;exact br2 i j e ag ks l e' ag' ks' l' b hij q1 q2 q3 q4)
 obtain ⟨γ4,F4,r1,r2,r3,r4,r5,r6⟩:=hrows;simp only [v1s,v0p] at r1 r3 r4 r5 r6;obtain ⟨hγn,hobn,_⟩:=r6 n hnm;have hon4:=hobn cs (by simp only [St.up,z02,v1t])
 simp only [v1t] at hγn;have hset:=r1.set (n:=n) (ob':=.box (z8o nm out)) hon4 (by simp only [Ob.fits,zrr,v14,zb7,hlen]) (Keep.refl _ w') (fun b hb=>hb) (fun hown hcmp=>by
  simp only [ObRel];refine ⟨b1,c,T,by rw [hγn,hgn],hh,y1j hok h1 hr (fun j e ag ks l hj=>?_) (fun hal b _ hb=>hO1 b (r4 b (hown b hb)) (by simp [hal]))⟩
  obtain ⟨q1,q2⟩:=r5 j e ag ks l hj;refine ⟨q1,?_⟩;have hjl:j < out.length:=by
   rcases v1y j out.length with h' | h'
   ·exact h'
   ·rw [v0t h'] at hj; cases hj
  rw [z02,v0y (by omega)]
  exact q2)
 have hfin:=hset.shrink (F:=X.far) (fun b hb=>by
  refine r3 b ⟨.inl hb,fun e=>h.nr b (hLP b (e ▸ hLb1)) hb⟩ (fun j e ag ks l hj hbj=>?_)
  rcases hPf b ((br1 γ j e ag ks l hj).2 b hbj) with h5 | h5
  ·have:=h.fl b hb
   omega
  ·exact h.nr b (hLP b h5) hb)
 have hst:(st.ups (z0p st.o F0++(zem (z5e st.o all cs)++(.set n (.box (yhj cs)) :: (zil nm out++[.set n (.box (z8o nm out))]))))) =
   (((((st.ups (z0p st.o F0)).ups (zem (z5e st.o all cs))).up (.set n (.box (yhj cs)))).ups (zil nm out)).up (.set n (.box (z8o nm out)))):=by
  rw [z3o,z3o];simp only [St.ups];rw [z3o]
  rfl
 rw [hst];refine ⟨_,hfin,zyi hf (fun hhl b _ hb=>?_) h2⟩
 rcases hb with ⟨m,ob,hm,hbm⟩ | hb
 ·simp only [St.up] at hm
  rw [z02] at hm;refine hO1 b (r4 b (.inl ?_)) (by simp [hhl])
  by_cases e:n=m
  ·subst e
   simp only [v1t,v00] at hm;subst hm;exact ⟨n,_,hon4,hbm⟩
  ·rw [v0y e] at hm
   exact ⟨m,ob,hm,hbm⟩
 ·exact .inr (hfarX b hb)
end
open Go Go.RowKit
section
variable {B:BT} {nt:Nat} {w0:World} {X:Zone} {γ:Nat→Value} {st st':St} {a:Act} {w:World} {P:Program} {E:Env}
theorem y82 (h:Rel B nt w0 X γ st a w) (hg:GX B w0 X) {f:FuncId} {sp:z0o} (hS:Snd P B f (fun vs=>(sp vs).get)) {vs:List V} {xs:List Value} (hv:VRels γ st.o w (z0c X γ st.o) vs xs) {d:Nat} (hd9:d≠900000) {tks:List (List Kd)} {v:V} {us:List Upd} (he:(y7m st.o d tks sp vs).get=some (v,us)) :
  Does P f xs w fun e w'=>∃ x,e = .returned x∧∃ γ',Rel B nt w0 X γ' (st.ups us) a w'∧VRel γ' (st.ups us).o w' (z0c X γ' (st.ups us).o) v x:=by
 unfold y7m at he
 split at he
 ·rename_i hl
  obtain ⟨r,out,hsp,he⟩:=R.toT_get he;unfold zog at he
  split at he
  ·split at he
   ·rename_i cs
    split at he
    ·rename_i hc
     simp only [T.get,v00,v06] at he;obtain ⟨rfl,rfl⟩:=he;exact ykw h hg hS hv hl hsp d hd9 (v04 hc)
    ·simp [T.get] at he
   ·simp only [T.get,v00,v06] at he
    obtain ⟨rfl,rfl⟩:=he;exact ynq h hg hS hv hl hsp d hd9
   ·rename_i hnb hnv
    simp only [T.get,v00,v06] at he;obtain ⟨rfl,rfl⟩:=he;exact yis h hg hS hv hl hsp hnb hnv
  ·simp [T.get] at he
 ·rename_i n hl
  split at he
  ·rename_i cs ho
   split at he
   ·rename_i hib
    obtain ⟨r,outs,hsp,he⟩:=R.toT_get he;unfold ya0 at he
    split at he
    ·split at he
     ·rename_i hc
      simp only [T.get,v00,v06] at he;obtain ⟨rfl,rfl⟩:=he;simp only [v02,v2n] at hc;refine yny h hg hS hv hl ho rfl hsp hib (z1w.1 hc.1) (hc.2.1.imp (fun h=>v04 h) (fun h=>v04 h)) (v04 hc.2.2)
     ·simp [T.get] at he
    ·simp [T.get] at he
   ·simp [T.get] at he
  ·rename_i s ho
   split at he
   ·rename_i hib
    obtain ⟨r,outs,hsp,he⟩:=R.toT_get he;unfold y8s at he
    split at he
    ·simp only [T.get,v00,v06] at he
     obtain ⟨rfl,rfl⟩:=he;exact yop h hg hS hv hl ho hsp hib
    ·simp [T.get] at he
   ·simp [T.get] at he
  ·simp [T.get] at he
 ·simp [T.get] at he
def zfp (l:List IV):List Value:=l.map fun x=>Value.int .i64 x.toInt
def ytf:V→Value
 | .int k n=>.int k n
 | _=>undef
def zsx (w:World) (v:Value):List V→List Value→Prop
 | [],[]=>True
 | [.clo f [.bor cs]],[y]=>∃ b c T,y = .func (.func f) #[] #[.pointer (some ⟨b,0,none⟩)]∧w.heap[b]?=some (.cells c T (0,0))∧c.toList=cs.map ytf∧v.ownBlock≠some b
 | _,_=>False
def y4e (P:Program) (f:FuncId) (p:Ip):Prop:=
 ∀ (w:World) (v:Value) (l l':List IV) (rs:List V) (ys:List Value),w.ownsRow 0 p.e 1 v l.length (zfp l)→(∀ x∈l,IntKind.i64.min≤x.toInt∧x.toInt≤IntKind.i64.max)→l.length≤strMax →
  zsx w v rs ys→p.g rs l=some l' →
  Does P f (v :: ys) w fun e w'=>∃ x,e = .returned x∧w.grownBy w' v.ownBlock∧(∀ x∈l',IntKind.i64.min≤x.toInt∧x.toInt≤IntKind.i64.max) ∧
   (p.ret=true→w'.ownsRow 0 p.e 1 x l'.length (zfp l')∧∀ b,x.ownBlock=some b→v.ownBlock=some b∨w.heap.size≤b) ∧
   (p.ret=false→w'.ownsRow 0 p.e 1 v l'.length (zfp l'))
theorem yib {w:World} {O:Nat→Prop} {l:List IV} {xs:List Value} (hl:xs.length=l.length*1)
  (h:∀ i y,l[i]?=some y→Kd.RelAll w O [.int .i64] (z3r false y) 0 (fun j u=>xs[i*1+j]?=some u)):xs=zfp l∧∀ x∈l,IntKind.i64.min≤x.toInt∧x.toInt≤IntKind.i64.max:=by
 have one:∀ (i:Nat) (y:IV),l[i]?=some y→xs[i]?=some (.int .i64 y.toInt)∧IntKind.i64.min≤y.toInt∧y.toInt≤IntKind.i64.max:=fun i y hy=>by
  have:=h i y hy
  simp only [Kd.RelAll,z3r,v1c,v49,v1s] at this;obtain ⟨u,hu,hk⟩:=this;simp only [Kd.Rel] at hk;rw [hu,hk.1];exact ⟨rfl,hk.2⟩
 constructor
 ·apply List.ext_getElem?
  intro i;unfold zfp;rw [v11];cases hy:l[i]? with
  | none=>
   rw [List.getElem?_eq_none_iff] at hy;rw [v0t (by omega)]
   rfl
  | some y=>rw [(one i y hy).1]; rfl
 ·intro x hx
  obtain ⟨i,hi⟩:=v3c hx;exact (one i x hi).2
theorem zqr {w:World} {O:Nat→Prop} {l:List IV} (h:∀ x∈l,IntKind.i64.min≤x.toInt∧x.toInt≤IntKind.i64.max) (i:Nat) (y:IV) (hy:l[i]?=some y) :
  Kd.RelAll w O [.int .i64] (z3r false y) 0 (fun j u=>(zfp l)[i*1+j]?=some u):=by
 simp only [Kd.RelAll,z3r,v1c,v49,v1s];refine ⟨.int .i64 y.toInt,?_,?_⟩
 ·unfold zfp
  rw [v11,hy]
  rfl
 ·simp only [Kd.Rel]
  exact ⟨trivial,h y (v1r hy)⟩
theorem zwx {γ:Nat→Value} {o:Store} {w:World} {O:Nat→Prop}:∀ {cs:List V} {xs:List Value},yoh cs=true→VRels γ o w O cs xs→xs=cs.map ytf
 | [],[],_,_=>rfl
 | [],_ :: _,_,h=>by simp only [VRels] at h
 | v :: cs,[],h,h'=>by simp only [VRels] at h'
 | v :: cs,x :: xs,h,h'=>by
  simp only [VRels] at h';unfold yoh at h
  split at h
  ·rename_i h0; cases h0
  ·rename_i n r h0
   injection h0 with h1 h2
   subst h1 h2;have h3:=h'.1;simp only [VRel] at h3;rw [v0d,← zwx h h'.2,h3.1]
   rfl
  ·cases h
theorem yfe (h:Rel B nt w0 X γ st a w) {v:Value} (hv:∀ m cs b,z09 st.o m=some (.box cs)→z0q (γ m) (.box cs) b→v.ownBlock≠some b) {rest rs:List V} {ys:List Value} (hr:VRels γ st.o w (z0c X γ st.o) rest ys) (he:zya st.o rest=some rs):zsx w v rs ys:=by
 unfold zya at he
 split at he
 ·simp only [v00] at he
  subst he;cases ys with
  | nil=>trivial
  | cons y ys=>simp only [VRels] at hr
 ·rename_i f m i c
  split at he
  ·rename_i cs hic ho
   split at he
   ·rename_i hi
    simp only [v00] at he;subst he;simp only [v02] at hic;obtain rfl:=z1w.1 hic.1;obtain rfl:=z1w.1 hic.2
    match ys,hr with
    | [y],hr=>
     simp only [VRels,v1c] at hr;simp only [VRel] at hr;obtain ⟨cs',rfl,hc⟩:=hr;obtain ⟨b,c,T,hg,hh,hcs⟩:=h.ob m _ ho;have hc1:∃ x0,cs' = #[x0]∧x0 = .pointer (some ⟨b,0,none⟩):=by
      obtain ⟨l⟩:=cs'
      match l,hc with
      | [x0],hc=>
       simp only [VRels,v1c,VRel,ho] at hc;obtain ⟨_,b',hb',rfl⟩:=hc;rw [hg] at hb';simp only [Value.pointer.injEq,v00,Addr.mk.injEq,v1c] at hb';subst hb';exact ⟨_,rfl,rfl⟩
      | [],hc=>simp only [VRels] at hc
      | _ :: _ :: _,hc=>simp only [VRels,and_false] at hc
     obtain ⟨x0,rfl,rfl⟩:=hc1;exact ⟨b,c,T,rfl,hh,zwx hi hcs,hv m cs b ho ⟨_,hg,rfl⟩⟩
    | [],hr=>simp only [VRels] at hr
    | _ :: _ :: _,hr=>simp only [VRels,and_false] at hr
   ·cases he
  ·cases he
 ·cases he
theorem ytb (h:Rel B nt w0 X γ st a w) {f:FuncId} {p:Ip} (hI:y4e P f p) {vs:List V} {xs:List Value} (hv:VRels γ st.o w (z0c X γ st.o) vs xs) {d:Option Nat} (hd9:∀ d',d=some d'→d'≠900000) {v:V} {us:List Upd} (he:(ipT st.o d p vs).get=some (v,us)) :
  Does P f xs w fun e w'=>∃ x,e = .returned x∧∃ γ',Rel B nt w0 X γ' (st.ups us) a w'∧VRel γ' (st.ups us).o w' (z0c X γ' (st.ups us).o) v x:=by
 unfold ipT at he
 split at he
 ·rename_i n lo hi rest
  cases xs with
  | nil=>simp only [VRels] at hv
  | cons sv ys=>
  simp only [VRels] at hv;obtain ⟨hs,hrest⟩:=hv
  split at he
  ·rename_i e l rs hob hra
   split at he
   ·rename_i hc
    simp only [v02] at hc;obtain ⟨hc1,hc3,hc4⟩:=hc;have he2:=T.get_when he;clear he;obtain ⟨hc2,he⟩:=he2;obtain rfl:=z1w.1 hc1;obtain rfl:=z1w.1 hc2;obtain rfl:=z1w.1 hc3;have he6:p.e < 1000000:=v04 hc4;simp only [VRel,hob] at hs;obtain ⟨hlen,q,len,cap,q',hg,hvv,_,h2,h3,hm,_,h5⟩:=hs;rw [h5 rfl,v2v,v2v] at hvv;have hor:=h.ob n _ hob;simp only [ObRel] at hor;obtain ⟨hkp,hstr,xs,hx,hrx⟩:=hor;have hx':=hx.plain he6;have hlen':len=l.length:=by
     rcases hx'.2 with ⟨h6,h7⟩ | ⟨g,cap',cur,h6,_⟩
     ·rw [hg] at h6; simp only [Value.slice.injEq] at h6; omega
     ·rw [hg] at h6; simp only [Value.slice.injEq] at h6; exact h6.2.1
    subst hlen';have hsv:sv=γ n:=by rw [hvv,hg]
    subst hsv;obtain ⟨rfl,hrng⟩:=yib hx.1 hrx
    split at he
    ·rename_i l' hgl
     have hrok:=yfe h (v:=γ n) (fun m cs b hm hb hne=>by
      have hnm:n≠m:=fun e=>by subst e; rw [hob] at hm; cases hm
      exact h.dis n m _ _ b hnm hob hm (by simp only [z0q]; exact hne) hb) hrest hra
     have hdoes:=hI w (γ n) l l' rs ys hx' hrng hstr hrok hgl
     split at he
     ·rename_i d' hret
      obtain ⟨hk,he⟩:=T.get_when he;simp only [T.get,v00,v06] at he;obtain ⟨rfl,rfl⟩:=he;have hk:=v04 hk;refine hdoes.mono ?_
      rintro e w' ⟨x,rfl,hgrow,hrng',hr1,_⟩
      obtain ⟨hown,hblk⟩:=hr1 hret;refine ⟨x,rfl,fun m=>if d'=m then x else γ m,?_,?_⟩
      ·refine Rel.new h [n] d' (hd9 d' rfl) (.row true p.e false [.int .i64] l') x (Keep.grown hgrow (fun g hg'=>⟨n,by simp,_,hob,hg'⟩)) (fun b hb=>⟨(hown.lt b hb).2,?_⟩) (fun O' hO hcmp=>?_)
       ·rcases hblk b hb with h1 | h1
        ·exact .inr ⟨n,by simp,_,hob,h1⟩
        ·exact .inl h1
       ·simp only [ObRel]
        exact ⟨by simp,by omega,zfp l',OwnRow.of hown he6,fun i y hy=>zqr hrng' i y hy⟩
      ·simp only [St.ups,St.up,VRel,z02,v1t]
       refine ⟨v0a _,?_⟩;rcases hown.2 with ⟨h6,h7⟩ | ⟨g,cap',cur,h6,_,_,h8,h9,_⟩
       ·refine ⟨none,0,0,none,h6,?_,v0x _,by omega,v0a _,by simp [maxLen],.inr rfl,fun _=>rfl⟩
        rw [h6,h7]
       ·refine ⟨some ⟨g,0,none⟩,l'.length,cap',some ⟨g,0,none⟩,h6,by rw [h6]; simp,v0x _,v0a _,h8,h9,.inl ?_,fun _=>rfl⟩
        simp [Addr.add]
     ·rename_i hret
      obtain ⟨hk,he⟩:=T.get_when he;simp only [T.get,v00,v06] at he;obtain ⟨rfl,rfl⟩:=he;have hk:=z1w.1 hk;refine hdoes.mono ?_
      rintro e w' ⟨x,rfl,hgrow,hrng',_,hr2⟩
      have hown:=hr2 hret;refine ⟨x,rfl,γ,?_,by simp only [VRel]⟩
      refine Rel.set h (ob':=.row true p.e false [.int .i64] l') hob ⟨rfl,hk.symm⟩ (Keep.grown hgrow (fun g hg'=>hg')) (fun b hb=>hb) (fun hO hcmp=>?_)
      simp only [ObRel];exact ⟨by simp,by omega,zfp l',OwnRow.of hown he6,fun i y hy=>zqr hrng' i y hy⟩
     ·simp [T.get] at he
    ·simp [T.get] at he
   ·simp [T.get] at he
  ·simp [T.get] at he
 ·rename_i rest
  cases xs with
  | nil=>simp only [VRels] at hv
  | cons sv ys=>
  simp only [VRels] at hv;obtain ⟨hs,hrest⟩:=hv;simp only [VRel] at hs;subst hs
  split at he
  ·rename_i rs hra
   split at he
   ·rename_i hgl
    have hrok:=yfe h (v:=.slice none 0 0) (fun m cs b _ _ hne=>by simp [Value.ownBlock] at hne) hrest hra
    have hdoes:=hI w (.slice none 0 0) [] [] rs ys (World.ownsRow_nil w 0 p.e _) (fun x hx=>by cases hx) (by simp) hrok hgl
    split at he
    ·rename_i d' hret
     obtain ⟨hk,he⟩:=T.get_when he;simp only [T.get,v00,v06] at he;obtain ⟨rfl,rfl⟩:=he;have he6:p.e < 1000000:=v04 hk;refine hdoes.mono ?_
     rintro e w' ⟨x,rfl,hgrow,hrng',hr1,_⟩
     obtain ⟨hown,hblk⟩:=hr1 hret;refine ⟨x,rfl,fun m=>if d'=m then x else γ m,?_,?_⟩
     ·refine Rel.new h [] d' (hd9 d' rfl) (.row true p.e false [.int .i64] []) x (Keep.grown hgrow (fun g hg'=>by simp [Value.ownBlock] at hg')) (fun b hb=>⟨(hown.lt b hb).2,?_⟩) (fun O' hO hcmp=>?_)
      ·rcases hblk b hb with h1 | h1
       ·simp [Value.ownBlock] at h1
       ·exact .inl h1
      ·simp only [ObRel]
       exact ⟨by simp,by simp,zfp [],OwnRow.of hown he6,fun i y hy=>zqr hrng' i y hy⟩
     ·simp only [St.ups,St.up,VRel,z02,v1t]
      refine ⟨v0a _,?_⟩;rcases hown.2 with ⟨h6,h7⟩ | ⟨g,cap',cur,h6,_,_,h8,h9,_⟩
      ·refine ⟨none,0,0,none,h6,?_,v0x _,by omega,v0a _,by simp [maxLen],.inr rfl,fun _=>rfl⟩
       rw [h6]
      ·refine ⟨some ⟨g,0,none⟩,0,cap',some ⟨g,0,none⟩,h6,by rw [h6]; simp,v0x _,v0a _,v0x _,h9,.inl ?_,fun _=>rfl⟩
       simp [Addr.add]
    ·rename_i hret
     simp only [T.get,v00,v06] at he;obtain ⟨rfl,rfl⟩:=he;refine hdoes.mono ?_
     rintro e w' ⟨x,rfl,hgrow,_,_,_⟩
     refine ⟨x,rfl,γ,Rel.world h (Keep.grown hgrow (fun g hg'=>by simp [Value.ownBlock] at hg')),by simp only [VRel]⟩
    ·simp [T.get] at he
   ·simp [T.get] at he
  ·simp [T.get] at he
 ·simp [T.get] at he
def SpOK (P:Program) (B:BT) (E:Env) (w0:World) (X:Zone):Prop:=GX B w0 X∧(∀ f sp,lk E.sp f=some sp→Snd P B f (fun vs=>(sp vs).get))∧∀ f p,lk E.ip f=some p→y4e P f p
theorem SpOK.get (h:SpOK P B E w0 X) (f:FuncId):Snd P B f (fun vs=>(lkd (fun _=>R.no) E.sp f vs).get):=by
 rw [y1t];cases hf:lk E.sp f with
 | none=>
  intro w X γ vs xs r out hsp;simp [R.get] at hsp
 | some sp=>exact h.2.1 f sp hf
theorem zv6 (h:Rel B nt w0 X γ st a w):∀ l:List Operand,VRels γ st.o w (z0c X γ st.o) (y27 (opd st) l) (l.map a.eval)
 | []=>by simp only [y27,v16,VRels]
 | x :: r=>by
  simp only [y27,v0d,VRels];exact ⟨z2a h x,zv6 h r⟩
theorem ybh (o:Oper) {f:FuncId} {xs:List Value} {v:V} {us:List Upd} (hr:(execOp a.eval o).run P w=(callFunc f xs.toArray).run P w)
  (hd:Does P f xs w fun e w'=>∃ x,e = .returned x∧∃ γ',Rel B nt w0 X γ' (st.ups us) a w'∧VRel γ' (st.ups us).o w' (z0c X γ' (st.ups us).o) v x):OpWp P B nt w0 X a w o st v us:=by
 intro K Q hK;unfold Oper.wp;rw [hr];unfold Does at hd
 split at hd
 ·rename_i g args w' hc
  rw [hc,Oper.upon_enter];refine hd.mono ?_
  rintro e w'' ⟨x,rfl,γ',h1,h2⟩
  exact hK γ' x w'' h1 h2
 ·rename_i x w' hc
  rw [hc,Oper.upon_value];obtain ⟨x',he,γ',h1,h2⟩:=hd;cases he;exact hK γ' x w' h1 h2
 ·rename_i row args w' hc
  rw [hc,Oper.upon_row];refine Rows.mono hd ?_
  rintro x w'' ⟨x',he,γ',h1,h2⟩
  cases he;exact hK γ' x w'' h1 h2
 ·exact hd.elim
theorem yq2 (hT:TiOK P B E) (hSp:SpOK P B E w0 X) (h:Rel B nt w0 X γ st a w) (o:Oper) (hd9:∀ d,o.dst=some d→d≠900000) {c:Call} (ho:o.op = .call c) {v:V} {us:List Upd}
  (he:(z6a E st.o (opd st) o.dst o.op).get=some (v,us)):OpWp P B nt w0 X a w o st v us:=by
 obtain ⟨callee,args,ats⟩:=c;cases callee with
 | builtin b=>exact yh6 hT h o hd9 ho he
 | invoke recv name=>
  rw [ho] at he;simp only [z6a,zqg] at he;simp [T.get] at he
 | value x=>
  rw [ho] at he;obtain ⟨args⟩:=args;have clo:∀ (x:Operand),o.op = .call ⟨.value x,⟨args⟩,ats⟩→∀ d,o.dst=some d→(match opd st x with
    | .clo f caps=>match zwz caps with
     | true=>y7m st.o d (yfl E ats.toList) (lkd (fun _=>R.no) E.sp f) (y27 (opd st) args++caps)
     | false=>.no
    | _=>.no).get=some (v,us)→OpWp P B nt w0 X a w o st v us:=by
   intro x ho d hd he
   split at he
   ·rename_i f caps hclo
    split at he
    case h_2=>simp [T.get] at he
    have hx:=z2a h x;rw [hclo] at hx;simp only [VRel] at hx;obtain ⟨cs,hx1,hx2⟩:=hx;have hrel:=y82 h hSp.1 (hSp.get f) ((zv6 h args).append hx2) (hd9 d hd) he;refine ybh o (xs:=args.map a.eval++cs.toList) ?_ hrel;obtain ⟨dst,op,type,pos,after,guard⟩:=o;simp only at ho;subst ho
    have:execOp a.eval { dst,op:=.call { callee:=.value x,args:=⟨args⟩,argTypes:=ats },type,pos,after,guard }=(do let d ← Deferred.ofValue (a.eval x) ((⟨args⟩:Array Operand).map a.eval); invoke d.target d.args):=rfl
    rw [this,hx1];have hla:(args.map a.eval).toArray++cs=(args.map a.eval++cs.toList).toArray:=by
     apply Array.ext';simp
    simp [Deferred.ofValue,invoke,hla]
   ·simp [T.get] at he
  cases x with
  | func f=>
   simp only [z6a,zqg,yqu] at he;have hrun:∀ {f:Nat},o.op = .call ⟨.value (.func f),⟨args⟩,ats⟩→(execOp a.eval o).run P w=(callFunc f (args.map a.eval).toArray).run P w:=fun {f} ho=>by
    obtain ⟨dst,op,type,pos,after,guard⟩:=o;simp only at ho;subst ho
    have:execOp a.eval { dst,op:=.call { callee:=.value (.func f),args:=⟨args⟩,argTypes:=ats },type,pos,after,guard }=callFunc f (#[]++(⟨args⟩:Array Operand).map a.eval++#[]):=rfl
    rw [this];simp
   split at he
   ·rename_i p hp
    exact ybh o (xs:=args.map a.eval) (hrun ho) (ytb h (hSp.2.2 f p hp) (zv6 h args) hd9 he)
   ·split at he
    ·rename_i d hd
     exact ybh o (xs:=args.map a.eval) (hrun ho) (y82 h hSp.1 (hSp.get f) (zv6 h args) (hd9 d hd) he)
    ·simp [T.get] at he
  | tmp t=>
   simp only [z6a,zqg] at he;cases hd:o.dst with
   | none=>rw [hd] at he; simp [T.get] at he
   | some d=>rw [hd] at he; exact clo _ ho d hd he
  | const t=>
   simp only [z6a,zqg] at he;cases hd:o.dst with
   | none=>rw [hd] at he; simp [T.get] at he
   | some d=>rw [hd] at he; exact clo _ ho d hd he
  | global t=>
   simp only [z6a,zqg] at he;cases hd:o.dst with
   | none=>rw [hd] at he; simp [T.get] at he
   | some d=>rw [hd] at he; exact clo _ ho d hd he
theorem ydo (hT:TiOK P B E) (h:Rel B nt w0 X γ st a w) (o:Oper) (hd9:∀ d,o.dst=some d→d≠900000) {s t:Nat} {x:Operand} (ho:o.op = .convert s t x) {v:V} {u:Upd} {us:List Upd}
  (he:(z6a E st.o (opd st) o.dst o.op).get=some (v,u :: us)):OpWp P B nt w0 X a w o st v (u :: us):=by
 have hx:=z2a h x;rw [ho] at he;simp only [z6a] at he
 split at he
 ·split at he
  ·simp [T.get] at he
  ·simp [T.get] at he
 ·rename_i b hop
  rw [hop] at hx;simp only [VRel] at hx
  split at he
  ·simp [T.get] at he
  ·rename_i e k1 kss hd hks hkss
   split at he
   ·rename_i d hdst hde hkse
    simp only [T.get,v00,v06,v2y] at he;obtain ⟨rfl,rfl,rfl⟩:=he;have hu1:=zdt hT hd;obtain ⟨d',hd1',_,_⟩:=(hT.kinds (t:=s) (by rw [hkss]; simp)).und
    obtain ⟨d'',hd1'',_,hd2''⟩:=(hT.kinds (t:=e) (by rw [hkse]; simp)).und
    rw [hde] at hd2'';obtain rfl:=hd2''.1 _ hkse;have hrun:(execOp a.eval o).run P w = .ok (.value (.slice (some ⟨w.heap.size,0,none⟩) b.size (grownCap w b.size 0 e))) (Lib.bytesWorld w e b):=by
     unfold execOp;simp only [ho,hx.1,Sem.run_bind,Lib.run_convert_string_bytes w s t e b hd1' hu1 hd1'',Result.andThen_ok,Sem.run_pure]
    have hsm:=zp7;have hcg:=grownCap_ge w b.size 0 e;have hcm:grownCap w b.size 0 e≤maxLen:=grownCap_le_maxLen w b.size 0 e (v1n hx.2 hsm);have hcs:(Lib.bytesCells w e b).size=grownCap w b.size 0 e:=by
     have:b.data.size=b.size:=rfl
     simp only [Lib.bytesCells,Array.size_append,Array.size_map,v3n,this];omega
    have hkp:Keep (fun _=>False) w (Lib.bytesWorld w e b):=by
     refine ⟨?_,?_,?_,by rw [Lib.bytesWorld_size]; omega,fun j hj _=>Lib.bytesWorld_at_old w e b j hj⟩
     ·simp [Lib.bytesWorld,World.freeze]; rfl
     ·simp [Lib.bytesWorld,World.freeze]
     ·simp [Lib.bytesWorld,World.freeze]; rfl
    have hn:=Rel.new h [] d (hd9 d hdst) (.row true (e+1000000) false [.int .u8] (b.data.toList.map fun b=>.int (b.toNat:Int))) (.slice (some ⟨w.heap.size,0,none⟩) b.size (grownCap w b.size 0 e)) (w':=Lib.bytesWorld w e b) (hkp.mono (fun _ _ h=>h.elim))
     (by
      intro b1 hb;simp only [z0q,Value.ownBlock,v00] at hb;subst hb;rw [Lib.bytesWorld_size];exact ⟨by omega,.inl (v0a _)⟩)
     (by
      intro O' hO hcmp;simp only [ObRel];have hln:(b.data.toList.map fun b=>IV.int (b.toNat:Int)).length=b.size:=by simp
      refine ⟨by simp,by rw [hln]; exact hx.2,b.data.toList.map fun b=>.int .u8 b.toNat,?_,fun i y hy=>?_⟩
      ·rw [hln]
       refine ⟨by simp,.inr ⟨w.heap.size,grownCap w b.size 0 e,_,_,_,rfl,Lib.bytesWorld_at_new w e b,hcg,hcm,by rw [hcs]; simp,?_,.inr ⟨by omega,v0a _⟩⟩⟩
       simp only [Lib.bytesCells,v2m,v03,v0i];rw [List.take_append_of_le_length (by simp)]
       rw [v13 (by simp)]
       simp
      ·rw [v11] at hy
       cases hbi:b.data.toList[i]? with
       | none=>rw [hbi] at hy; cases hy
       | some c=>
        rw [hbi] at hy;simp only [v2k,v00] at hy;subst hy;simp only [Kd.RelAll,z3r,Kd.Rel,IV.toInt,v03,v0i];refine ⟨⟨.int .u8 c.toNat,by simp [hbi],rfl,?_,?_⟩,trivial⟩
        ·simp [IntKind.min,IntKind.signed]
        ·have:=c.toNat_lt
         simp [IntKind.max,IntKind.signed,IntKind.bits];omega)
    refine OpWp.value hrun hn ?_;simp only [St.ups,VRel,z0g,v1t];refine ⟨by simp,some ⟨w.heap.size,0,none⟩,b.size,grownCap w b.size 0 e,some ⟨w.heap.size,0,none⟩,rfl,by simp,v0x _,v0a _,hcg,hcm,.inl ?_,fun _=>rfl⟩
    simp [Addr.add]
   ·simp [T.get] at he
  ·simp [T.get] at he
 ·split at he
  ·split at he
   ·simp [T.get] at he
   ·simp [T.get] at he
  ·simp [T.get] at he
def BldOK (P:Program) (B:BT) (E:Env):Prop:=(E.tyd B.T).d = .bld→∃ i,P.info? B.T=some i∧i.zero=some (.agg #[.pointer none,.slice none 0 0])
theorem ypc (hT:TiOK P B E) (hE:∀ t,t∈E.eqs→EqSnd P t (E.tyd t).ks) (hSp:SpOK P B E w0 X) (hB:BldOK P B E) (h:Rel B nt w0 X γ st a w) (o:Oper) (hd9:∀ d,o.dst=some d→d≠900000) {v:V} {us:List Upd}
  (he:(z6a E st.o (opd st) o.dst o.op).get=some (v,us)):OpWp P B nt w0 X a w o st v us:=by
 cases ho:o.op with
 | move x=>exact yk4 h o (.inl ho) he
 | assign x=>exact yk4 h o (.inr ho) he
 | pick c x y=>exact yq0 h o ho he
 | alloc t=>exact yp1 hT h o hd9 ho hB he
 | box t x=>exact ytm h o hd9 ho he
 | build t parts=>exact yp2 hT h o ho he
 | buildSlice t len parts=>exact y5g hT h o hd9 ho he
 | load t x=>exact yrq hT h o ho he
 | store t p x=>exact yo1 hT h o ho he
 | nilCheck x=>exact ybr h o ho he
 | binOp op t x y t'=>exact ysl hT hE h o ho he
 | unOp op t x=>exact yul h o ho he
 | convert s t x=>
  cases us with
  | nil=>exact yhf hT h o ho he
  | cons u us=>exact ydo hT h o hd9 ho he
 | makeFunc f first caps=>exact yci h o ho he
 | makeSlice t n m=>exact y9y hT h o hd9 ho he
 | slice t x lo hi mx=>exact ynx hT h o ho he
 | fieldAddr s x f=>exact y92 hT h o ho he
 | field t x f=>exact ynl hT h o ho he
 | indexAddr t x ix=>exact y8e hT h o ho he
 | index t x ix=>exact yn6 hT h o ho he
 | extract x i=>exact yiw h o ho he
 | call c=>exact yq2 hT hSp h o hd9 ho he
 | _=>rw [ho] at he; simp [z6a,T.get] at he
end
open Go Go.RowKit
theorem zpd:∀ {l:List V} {n:Nat},n∈z4q l→n∈zcl.go l
 | v :: r,n,h=>by
  simp only [z4q,v0o] at h;rcases h with h | h
  ·cases v <;> simp only [zaq] at h <;> first | (cases h; done) | (simp only [zcl.go,v0o]; exact .inl h)
  ·cases v <;> simp only [zcl.go,v0o] <;> exact .inr (zpd h)
def Agree (o o':Store) (l:List Nat):Prop:=∀ n∈l,z09 o' n=z09 o n
theorem Agree.left {o o':Store} {l l':List Nat} (h:Agree o o' (l++l')):Agree o o' l:=fun n hn=>h n (v3d _ hn)
theorem Agree.right {o o':Store} {l l':List Nat} (h:Agree o o' (l++l')):Agree o o' l':=fun n hn=>h n (v3a _ hn)
theorem ztl {o o':Store} {v:V} (h:Agree o o' (zaq v)):zdu o' v=zdu o v:=by
 cases v <;> simp only [zdu]
 all_goals rw [h _ (by simp [zaq])]
theorem zw6 {o o':Store} {v:V} (h:Agree o o' (zaq v)):okV o' v=okV o v:=by
 cases v <;> simp only [okV] <;> exact ztl h
theorem znp {o o':Store}:∀ {l:List V},Agree o o' (z4q l)→y41 o' l=y41 o l
 | [],_=>rfl
 | v :: r,h=>by simp only [y41,ztl h.left,znp (l:=r) h.right]
theorem zp3 {o o':Store} {v:V} (h:Agree o o' (zaq v)):zii o' v=zii o v:=by
 cases v <;> simp only [zii]
 rw [h _ (by simp [zaq])]
theorem zpt {o o':Store} {v:V} (h:Agree o o' (zaq v)):zfs o' v=zfs o v:=by
 cases v <;> simp only [zfs]
 rw [h _ (by simp [zaq])]
theorem y8b {o o':Store} {k:Kd} {v:V} (h:Agree o o' (zaq v)):zms o' k v=zms o k v:=by
 cases k <;> cases v <;> simp only [zms]
 rw [h _ (by simp [zaq])]
theorem zaa {o o':Store}:∀ {ks:List Kd} {l:List V},Agree o o' (z4q l)→z5j o' ks l=z5j o ks l
 | [],[],_=>rfl
 | [],_ :: _,_=>rfl
 | _ :: _,[],_=>rfl
 | k :: ks,v :: r,h=>by simp only [z5j,y8b h.left,zaa (l:=r) h.right]
theorem zag {v:V} {n:Nat} (h:n∈zaq v):n∈zcl v:=by
 cases v <;> simp only [zaq] at h <;> first | exact h | cases h
theorem yat {o o':Store} {ag:Bool} {ks:List Kd} {v:V} (h:Agree o o' (zcl v)):zk7 o' ag ks v=zk7 o ag ks v:=by
 cases ag with
 | false=>
  simp only [zk7];rw [zaa (o:=o) (o':=o') (fun n hn=>h n (zag (by simpa [z4q] using hn)))]
 | true=>
  cases v <;> simp only [zk7]
  rw [zaa h]
theorem ztm:∀ (a b:List V),z4q (a++b)=z4q a++z4q b
 | [],b=>rfl
 | v :: r,b=>by simp [z4q,ztm r b]
theorem y9v {l:List V} {v:V} {n:Nat} (hv:v∈l) (hn:n∈zaq v):n∈z4q l:=by
 induction l with
 | nil=>cases hv
 | cons u r ih=>
  simp only [z4q,v0o];rcases v17.1 hv with h | h
  ·subst h; exact .inl hn
  ·exact .inr (ih h)
theorem zxj {l l':List V} (h:∀ v∈l,v∈l') {n:Nat} (hn:n∈z4q l):n∈z4q l':=by
 induction l with
 | nil=>simp [z4q] at hn
 | cons u r ih=>
  simp only [z4q,v0o] at hn;rcases hn with hn | hn
  ·exact y9v (h u (v09 ..)) hn
  ·exact ih (fun v hv=>h v (v0b _ hv)) hn
theorem zhw {o o':Store} {ag:Bool} {ks:List Kd} {sz:Nat}:∀ {n:Nat} {cs:List V},Agree o o' (z4q cs)→zoj ag ks o' cs sz n=zoj ag ks o cs sz n
 | 0,cs,_=>rfl
 | n+1,cs,h=>by
  simp only [zoj];rw [zhw (n:=n) (cs:=zo4 cs sz) (fun m hm=>h m (by rw [zd2] at hm; exact zxj (fun v hv=>v32 hv) hm))]
  cases ag with
  | true=>
   rw [yat];intro m hm;simp only [zcl,zih] at hm;exact h m (zxj (fun v hv=>v33 hv) hm)
  | false=>
   simp only [zk7];rw [zaa (o:=o) (o':=o')];intro m hm;rw [zwd] at hm;cases hc:cs[0]? with
   | none=>rw [hc] at hm; simp [z4q,zaq] at hm
   | some u=>
    rw [hc] at hm;simp only [v2c,z4q,v2a] at hm;exact h m (y9v (v1r hc) hm)
theorem zb1 {l:List V} {n:Nat} (h:n∈z1m l):n∈z4q l:=by
 induction l with
 | nil=>simp [z1m] at h
 | cons v r ih=>
  simp only [z4q,v0o];cases v <;> simp only [z1m,v17] at h <;> first | exact .inr (ih h) | skip
  rcases h with h | h
  ·exact .inl (by simp [zaq,h])
  ·exact .inr (ih h)
theorem zbo {o o':Store}:∀ {l:List Nat},Agree o o' l→z0p o' l=z0p o l
 | [],_=>rfl
 | n :: r,h=>by
  simp only [z0p];rw [h n (v09 ..),zbo (l:=r) (fun m hm=>h m (v0b _ hm))]
theorem znm {o o':Store} {place:Nat→Option (Nat × Nat)}:∀ {cs:List V} {l:List (Nat × V)},(∀ i v,(i,v)∈l→Agree o o' (zcl v))→zm9 o' place cs l=zm9 o place cs l
 | cs,[],_=>rfl
 | cs,(i,v) :: r,h=>by
  simp only [zm9];have h1:okV o' v=okV o v:=zw6 (fun n hn=>h i v (v09 ..) n (zag hn))
  rw [h1]
  split
  ·split
   ·exact znm (fun i v hv=>h i v (v0b _ hv))
   ·rfl
  ·rfl
theorem zet {o o':Store} {d e:Nat} {ag:Bool} {ks:List Kd} {bytes:Nat} {s:V} {l:List IV} (h:Agree o o' (zaq s)):zed o' d e ag ks bytes s l=zed o d e ag ks bytes s l:=by
 cases s <;> simp only [zed]
 rw [h _ (by simp [zaq])]
theorem zib {o:Store} {n m:Nat} {cs:List V}:∀ {l:List Nat},n∈l→z09 o n=some (.box cs)→m∈z4q cs→m∈y6p o l
 | x :: r,hn,ho,hm=>by
  simp only [y6p];rcases v17.1 hn with h | h
  ·subst h
   rw [ho];exact v3d _ hm
  ·have:=zib h ho hm
   split
   ·exact v3a _ this
   ·exact this
theorem y4k {o o':Store} {d et:Nat} {e:TI} {tk:List Kd} {s x:V} (h:Agree o o' (zaq s)):zro o' d et e tk s x=zro o d et e tk s x:=by
 unfold zro;simp only [zet h]
theorem y5x {o o':Store} {d et:Nat} {e:TI} {s x:V} (h:Agree o o' (zaq s)) (h':Agree o o' (zaq x++y6p o (zaq x))):zo6 o' d et e s x=zo6 o d et e s x:=by
 have gen:(match zii o' x,zfs o' x with
   | some l,some (ag,ks)=>match zz4 (.list e.agg e.ks) (.list ag ks) with
    | true=>zed o' d et e.agg e.ks e.bytes s l
    | false=>.no
   | _,_=>.no)=(match zii o x,zfs o x with
   | some l,some (ag,ks)=>match zz4 (.list e.agg e.ks) (.list ag ks) with
    | true=>zed o d et e.agg e.ks e.bytes s l
    | false=>.no
   | _,_=>.no):=by
  simp only [zp3 h'.left,zpt h'.left,zet h]
 cases x
 case bview n c cap sz len=>
  simp only [zo6];rw [h' n (by simp [zaq])]
  split
  ·rename_i cs ho
   simp only [zet h]
   split
   ·congr 1
    funext m
    rw [zhw (o:=o) (o':=o')];intro k hk;rw [zd2] at hk;exact h' k (v3a _ (zib (by simp [zaq]) ho (zxj (fun v hv=>v32 hv) hk)))
   ·rfl
  ·rfl
 case zs=>simp only [zo6,zet h]
 all_goals exact gen
theorem zlo {o o':Store} {bs:List V} {tk:Option Kd} {v:V} (h:Agree o o' (zaq v)):zap o' bs tk v=zap o bs tk v:=by
 cases v <;> simp only [zap]
 all_goals rw [h _ (by simp [zaq])]
theorem zrp {o o':Store} {bs:List V}:∀ {l:List V} {ks:List Kd},Agree o o' (z4q l)→ybf (fun k v=>zhm (zap o' bs k v)) ks l=ybf (fun k v=>zhm (zap o bs k v)) ks l
 | [],ks,_=>by cases ks <;> rfl
 | v :: l,[],h=>by simp only [ybf,zlo h.left,zrp (l:=l) h.right]
 | v :: l,k :: ks,h=>by simp only [ybf,zlo h.left,zrp (l:=l) h.right]
theorem zmt {o o':Store} {bs:List V} {tk:Option Kd}:∀ {l:List V},Agree o o' (z4q l)→l.map (zap o' bs tk)=l.map (zap o bs tk)
 | [],_=>rfl
 | v :: l,h=>by simp only [v0d,zlo h.left,zmt (l:=l) h.right]
theorem y2w {o o':Store} {bs:List V} {ks:List Kd} {v:V} (h:Agree o o' (zcl v)):ybe o' bs ks v=ybe o bs ks v:=by
 by_cases ha:∃ l,v = .agg l
 ·obtain ⟨l,rfl⟩:=ha
  simp only [ybe,zrp (o:=o) (o':=o') h]
 by_cases hc:∃ f l,v = .clo f l
 ·obtain ⟨f,l,rfl⟩:=hc
  simp only [ybe,zmt (o:=o) (o':=o') (l:=l) (fun n hn=>h n (zpd hn))]
 have h1:∀ o,ybe o bs ks v=zap o bs ks.head? v:=by
  intro o;cases v <;> first | rfl | exact absurd ⟨_,rfl⟩ ha | exact absurd ⟨_,_,rfl⟩ hc
 rw [h1,h1];exact zlo (fun n hn=>h n (zag hn))
theorem zno {o o':Store} {bs:List V}:∀ {l:List V} {tks:List (List Kd)},Agree o o' (z5n l)→z7j o' bs tks l=z7j o bs tks l
 | [],tks,_=>by cases tks <;> rfl
 | v :: l,[],h=>by simp only [z7j,y2w h.left,zno (l:=l) h.right]
 | v :: l,t :: ts,h=>by simp only [z7j,y2w h.left,zno (l:=l) h.right]
theorem yed {o o':Store} {all:List Nat} {v:V} (h:Agree o o' (zaq v)):z4w o' all v=z4w o all v:=by
 cases v <;> simp only [z4w]
 rw [h _ (by simp [zaq])]
theorem zlf {o o':Store} {all:List Nat}:∀ {l:List V},Agree o o' (z4q l)→l.map (z4w o' all)=l.map (z4w o all)
 | [],_=>rfl
 | v :: l,h=>by simp only [v0d,yed h.left,zlf (l:=l) h.right]
theorem zti {o o':Store} {all:List Nat}:∀ {l:List V},Agree o o' (z4q l)→z5e o' all l=z5e o all l
 | [],_=>rfl
 | v :: l,h=>by
  have ih:=zti (all:=all) (l:=l) h.right;cases v <;> simp only [z5e,ih]
  rw [h.left _ (by simp [zaq])]
theorem zt8 {o o':Store} {all:List Nat}:∀ {l:List V},Agree o o' (z4q l)→z74 o' all l=z74 o all l
 | [],_=>rfl
 | v :: l,h=>by
  have ih:=zt8 (all:=all) (l:=l) h.right;cases v <;> simp only [z74,ih]
  rw [h.left _ (by simp [zaq])]
theorem yhm {v:V} {n:Nat} (h:n∈zji v):n∈zcl v:=by
 cases v <;> simp only [zji] at h <;> try (cases h; done)
 case row=>simpa [zcl,zaq] using h
 case agg=>exact zb1 h
 case clo=>exact zpd (zb1 h)
 case tup l=>
  simp only [zcl]
  induction l with
  | nil=>simp [zji.go] at h
  | cons v r ih=>
   cases v <;> simp only [zji.go,zcl.go,v17,v0o] at h ⊢ <;> first | exact .inr (ih h) | skip
   ·rcases h with h | h
    ·exact .inl (by simp [zaq,h])
    ·exact .inr (ih h)
   ·rcases h with h | h
    ·exact .inl (zb1 h)
    ·exact .inr (ih h)
theorem znt:∀ {l:List V} {n:Nat},n∈z1j l→n∈z5n l
 | v :: l,n,h=>by
  simp only [z1j,z5n,v0o] at h ⊢
  exact h.imp yhm znt
theorem zko:∀ {l:List V} {n:Nat},n∈zg6 l→n∈z5n l
 | v :: l,n,h=>by
  simp only [z5n,v0o];cases v <;> simp only [zg6,v17,v0o] at h <;> first | exact .inr (zko h) | skip
  ·rcases h with h | h
   ·exact .inl (by simp [zcl,zaq,h])
   ·exact .inr (zko h)
  ·rename_i f caps
   rcases h with h | h
   ·refine .inl ?_
    simp only [zcl];refine zpd ?_;clear zko
    induction caps with
    | nil=>simp [zg6.lentC] at h
    | cons v r ih=>
     simp only [z4q,v0o];cases v <;> simp only [zg6.lentC,v17] at h <;> first | exact .inr (ih h) | skip
     rcases h with h | h
     ·exact .inl (by simp [zaq,h])
     ·exact .inr (ih h)
   ·exact .inr (zko h)
theorem zxs {o o':Store} {d:Nat} {tks:List (List Kd)} {sp:z0o} {vs:List V} (h:Agree o o' (z5n vs++y6p o (z5n vs))):y7m o' d tks sp vs=y7m o d tks sp vs:=by
 have hA:∀ bs,z7j o' bs tks vs=z7j o bs tks vs:=fun bs=>zno h.left
 have hF:∀ l,(∀ n∈l,n∈z5n vs++y6p o (z5n vs))→z0p o' l=z0p o l:=fun l hl=>zbo (fun n hn=>h n (hl n hn))
 have hFv:z0p o' (z1j vs)=z0p o (z1j vs):=hF _ (fun n hn=>v3d _ (znt hn))
 have hF0:z0p o' []=z0p o []:=rfl;have hPl:zog o' d vs=zog o d vs:=by
  funext v out
  unfold zog
  split
  ·split
   ·rename_i cs
    cases zt6 cs <;> simp only [hFv,hF0]
   ·simp only [hFv]
   ·cases z4y v <;> simp only [hFv,hF0]
  ·rfl
 unfold y7m;simp only [hA,hPl]
 split
 ·rfl
 ·rename_i n hl
  have hn:n∈z5n vs:=zko (by rw [hl]; exact v09 ..)
  rw [h n (v3d _ hn)]
  split
  ·rename_i cs ho
   have hcs:Agree o o' (z4q cs):=fun m hm=>h m (v3a _ (zib hn ho hm))
   have hsh:∀ m∈z74 o (z1m cs++z1j vs) cs,m∈z5n vs++y6p o (z5n vs):=by
    intro m hm;obtain ⟨lo,hi,_,_,_,_,_,h1,_⟩:=zlr hm;exact v3a _ (zib hn ho (zb1 (zcp h1)))
   have hBx:ya0 o' d n cs vs=ya0 o d n cs vs:=by
    funext v outs
    unfold ya0;rw [zti hcs,zt8 hcs]
    split
    ·rename_i out
     have h1:z0p o' (z74 o (z1m cs++z1j vs) cs++z1j vs)=z0p o (z74 o (z1m cs++z1j vs) cs++z1j vs):=hF _ (fun m hm=>(v0o.1 hm).elim (hsh m) (fun hm=>v3d _ (znt hm)))
     have h2:z0p o' (z74 o (z1m cs++z1j vs) cs++[])=z0p o (z74 o (z1m cs++z1j vs) cs++[]):=hF _ (fun m hm=>hsh m (by simpa using hm))
     cases (z4y v||zt6 out) <;> simp only [h1,h2]
    ·rfl
   rw [zlf hcs,hBx]
  ·have hBd:y8s o' n vs=y8s o n vs:=by
    funext v outs
    unfold y8s
    split
    ·cases z4y v <;> simp only [hFv,hF0]
    ·rfl
   rw [hBd]
  ·rfl
 ·rfl
theorem zta {o o':Store} {l:List V} (h:Agree o o' (z5n l)):zya o' l=zya o l:=by
 unfold zya
 split
 ·rfl
 ·rename_i f m i c
  rw [h m (by simp [z5n,zcl,zcl.go,zaq])]
 ·rfl
theorem yjv {o o':Store} {d:Option Nat} {p:Ip} {vs:List V} (h:Agree o o' (z5n vs)):ipT o' d p vs=ipT o d p vs:=by
 unfold ipT
 split
 ·rename_i n lo hi rest
  rw [h n (by simp [z5n,zcl,zaq]),zta (fun k hk=>h k (by simp only [z5n,v0o]; exact .inr hk))]
 ·rename_i rest
  rw [zta (fun k hk=>h k (by simp only [z5n,v0o]; exact .inr hk))]
 ·rfl
theorem zve:∀ (cs:List V) (n:Nat) (vs:List V) {m:Nat},m∈z4q (zll cs n vs)→m∈z4q cs∨m∈z4q vs
 | cs,n,[],m,h=>by cases cs <;> cases n <;> exact .inl h
 | [],n,v :: vs,m,h=>by cases n <;> simp [zll,z4q] at h
 | c :: r,0,v :: vs,m,h=>by
  simp only [zll,z4q,v0o] at h ⊢
  rcases h with h | h
  ·exact .inr (.inl h)
  ·rcases zve r 0 vs h with h | h
   ·exact .inl (.inr h)
   ·exact .inr (.inr h)
 | c :: r,n+1,v :: vs,m,h=>by
  simp only [zll,z4q,v0o] at h ⊢
  rcases h with h | h
  ·exact .inl (.inl h)
  ·rcases zve r n (v :: vs) h with h | h
   ·exact .inl (.inr h)
   ·exact .inr (by simpa [z4q] using h)
theorem y17 {v:V} {m:Nat} (h:m∈z4q (cells v)):m∈zcl v:=by
 by_cases ha:∃ l,v = .agg l
 ·obtain ⟨l,rfl⟩:=ha
  exact h
 ·have:cells v=[v]:=by cases v <;> first | rfl | exact absurd ⟨_,rfl⟩ ha
  rw [this] at h;exact zag (by simpa [z4q] using h)
theorem zez {l:List V} {v:V} {n:Nat} (hv:v∈l) (hn:n∈zcl v):n∈z5n l:=by
 induction l with
 | nil=>cases hv
 | cons u r ih=>
  simp only [z5n,v0o];rcases v17.1 hv with h | h
  ·subst h; exact .inl hn
  ·exact .inr (ih h)
theorem y14 {o:Store} {place:Nat→Option (Nat × Nat)}:∀ {l:List (Nat × V)} {cs cs':List V},zm9 o place cs l=some cs'→∀ m∈z4q cs',m∈z4q cs∨∃ i v,(i,v)∈l∧m∈zcl v
 | [],cs,cs',h,m,hm=>by
  simp only [zm9,v00] at h;subst h;exact .inl hm
 | (i,v) :: r,cs,cs',h,m,hm=>by
  simp only [zm9] at h
  split at h
  ·split at h
   ·rcases y14 h m hm with h1 | ⟨j,u,h1,h2⟩
    ·rcases zve _ _ _ h1 with h2 | h2
     ·exact .inl h2
     ·exact .inr ⟨i,v,v09 ..,y17 h2⟩
    ·exact .inr ⟨j,u,v0b _ h1,h2⟩
   ·cases h
  ·cases h
theorem zto {z:List V}:∀ {n m:Nat},m∈z4q (zfr z n)→m∈z4q z
 | 0,m,h=>by simp [zfr,z4q] at h
 | n+1,m,h=>by
  simp only [zfr,ztm,v0o] at h;exact h.elim id (zto (n:=n))
theorem zsp (ρ:Operand→V):∀ {l:List (Nat × Operand)} {i:Nat} {v:V},(i,v)∈zdx ρ l→v∈(l.map (·.2)).map ρ
 | (j,x) :: r,i,v,h=>by
  simp only [zdx,v17,v06] at h;simp only [v0d,v17];rcases h with ⟨_,rfl⟩ | h
  ·exact .inl rfl
  ·exact .inr (zsp ρ h)
theorem y32:∀ {l:List V} {n:Nat},n∈z5n l→∃ v∈l,n∈zcl v
 | v :: r,n,h=>by
  simp only [z5n,v0o] at h;rcases h with h | h
  ·exact ⟨v,v09 ..,h⟩
  ·obtain ⟨u,h1,h2⟩:=y32 h
   exact ⟨u,v0b _ h1,h2⟩
theorem y35 {o:Store} {m:Nat}:∀ {l:List Nat},m∈y6p o l→∃ n∈l,∃ cs,z09 o n=some (.box cs)∧m∈z4q cs
 | n :: r,h=>by
  simp only [y6p] at h
  split at h
  ·rename_i cs ho
   rcases v0o.1 h with h | h
   ·exact ⟨n,v09 ..,cs,ho,h⟩
   ·obtain ⟨k,h1,h2⟩:=y35 h
    exact ⟨k,v0b _ h1,h2⟩
  ·obtain ⟨k,h1,h2⟩:=y35 h
   exact ⟨k,v0b _ h1,h2⟩
theorem yej {o:Store} {l l':List Nat} (hs:∀ k∈l,k∈l') {n:Nat} (h:n∈y6p o l):n∈y6p o l':=by
 obtain ⟨k,h1,cs,h2,h3⟩:=y35 h;exact zib (hs k h1) h2 h3
theorem yjz {v:V} {n:Nat}:∀ {l:List V},zwz l=true→v∈l→n∈zcl v→n∈zcl.go l
 | u :: r,hok,hv,hn=>by
  rcases v17.1 hv with h | h
  ·subst h
   cases v <;> simp only [zwz] at hok <;> first | (cases hok; done) | (simp only [zcl,zaq] at hn; simp only [zcl.go,zaq,v0o]; first | exact .inl hn | (cases hn; done))
  ·have hr:zwz r=true:=by cases u <;> simp only [zwz] at hok <;> first | exact hok | (cases hok; done)
   have:=yjz hr h hn
   cases u <;> simp only [zcl.go,v0o] <;> exact .inr this
theorem y2f {E:Env} {o o':Store} {ρ:Operand→V} {d:Option Nat} {op:Op} (h:Agree o o' (reads E o ρ op)):z6a E o' ρ d op=z6a E o ρ d op:=by
 cases hq:yt7 op with
 | true=>cases op <;> first | rfl | cases hq
 | false=>
 unfold reads at h;rw [hq] at h;replace h:Agree o o' (yf5 E o ρ op):=h;unfold yf5 at h;have hz:=h.left.right;have hd:=h.right;have hv:=h.left.left;clear h;have one:∀ {x:Operand} {n:Nat},x∈op.operands.toList→n∈zcl (ρ x)→z09 o' n=z09 o n:=fun hx hn=>hv _ (zez (v3g hx) hn)
 have two:∀ {x:Operand} {n:Nat} {cs:List V},x∈op.operands.toList→n∈zcl (ρ x)→z09 o n=some (.box cs)→Agree o o' (z4q cs):=fun hx hn ho m hm=>hd _ (zib (zez (v3g hx) hn) ho hm)
 cases op
 case box t x=>
  simp only [z6a];rw [zw6 (fun n hn=>one (x:=x) (by simp [Op.operands]) (zag hn))]
 case build t parts=>
  have hp:∀ i v,(i,v)∈zdx ρ parts.toList→Agree o o' (zcl v):=fun i v hm n hn=>hv _ (zez (by have:=zsp ρ hm; simpa [Op.operands] using this) hn)
  simp only [z6a,znm hp]
 case buildSlice t len parts=>
  have hp:∀ i v,(i,v)∈zdx ρ parts.toList→Agree o o' (zcl v):=fun i v hm n hn=>hv _ (zez (by have:=zsp ρ hm; simpa [Op.operands] using this) hn)
  simp only [z6a]
  split
  ·rename_i d e hd1
   simp only [y62,hd1] at hz;rw [znm hp]
   split
   ·rename_i cs hf
    have hcs:Agree o o' (z4q cs):=by
     intro m hm;rcases y14 hf m hm with h1 | ⟨i,v,h1,h2⟩
     ·exact hz m (zto h1)
     ·exact hp i v h1 m h2
    rw [zhw hcs,zbo (fun m hm=>hcs m (zb1 hm))]
   ·rfl
  ·rfl
 case load t x=>
  simp only [z6a]
  split
  ·rename_i n i c hx
   rw [one (x:=x) (by simp [Op.operands]) (by rw [hx]; simp [zcl,zaq])]
  ·rfl
  ·rfl
 case nilCheck x=>
  simp only [z6a]
  split
  ·rename_i n i c hx
   rw [one (x:=x) (by simp [Op.operands]) (by rw [hx]; simp [zcl,zaq])]
  ·rfl
 case fieldAddr s x f=>
  simp only [z6a]
  split
  ·split
   ·split
    ·rename_i n i c hx
     rw [one (x:=x) (by simp [Op.operands]) (by rw [hx]; simp [zcl,zaq])]
    ·rfl
    ·rfl
   ·rfl
  ·rfl
 case binOp op t x y t'=>
  simp only [z6a];unfold yu1
  split <;> try rfl
  rename_i n i c hx hy;rw [one (x:=x) (by simp [Op.operands]) (by rw [hx]; simp [zcl,zaq])]
 case convert s t x=>
  simp only [z6a]
  split <;> try rfl
  rw [zp3 (fun n hn=>one (x:=x) (by simp [Op.operands]) (zag hn)),zpt (fun n hn=>one (x:=x) (by simp [Op.operands]) (zag hn))]
 case slice t x lo hi mx=>
  simp only [z6a]
  split <;> try rfl
  ·rename_i n a b hx
   rw [one (x:=x) (by simp [Op.operands]) (by rw [hx]; simp [zcl,zaq])]
  ·rename_i n a c hx
   rw [one (x:=x) (by simp [Op.operands]) (by rw [hx]; simp [zcl,zaq])]
 case indexAddr t x ix=>
  simp only [z6a]
  split
  ·split
   ·rfl
   ·rename_i n lo hi hx
    rw [one (x:=x) (by simp [Op.operands]) (by rw [hx]; simp [zcl,zaq])]
   ·rename_i n c cap sz len hx
    rw [one (x:=x) (by simp [Op.operands]) (by rw [hx]; simp [zcl,zaq])]
   ·rfl
  ·split
   ·rename_i n i0 c hx
    rw [one (x:=x) (by simp [Op.operands]) (by rw [hx]; simp [zcl,zaq])]
   ·rfl
   ·rfl
  ·rfl
 case store t p x=>
  simp only [z6a];have hx:Agree o o' (zcl (ρ x)):=fun n hn=>one (x:=x) (by simp [Op.operands]) hn
  have hc:Agree o o' (z4q (cells (ρ x))):=fun n hn=>hx n (y17 hn)
  unfold zlg
  split
  ·rename_i n i c hp
   rw [one (x:=p) (by simp [Op.operands]) (by rw [hp]; simp [zcl,zaq]),zw6 (fun n hn=>hx n (zag hn)),znp hc,zbo (fun m hm=>hc m (zb1 hm))]
   simp only [zaa hc]
  ·rfl
 case makeSlice t n m=>
  simp only [z6a]
  split
  ·rename_i d e k1 n1 k2 m1 hd1 _ _
   simp only [y62,hd1] at hz;rw [zhw hz]
   split
   ·rw [zbo (fun m hm=>hz m (zb1 hm))]
   ·rfl
  ·rfl
 case call c=>
  obtain ⟨callee,args,ats⟩:=c;simp only [z6a,zqg];have hmem:∀ {x:Operand},x∈args.toList→x∈(Op.call ⟨callee,args,ats⟩).operands.toList:=fun {x} hx=>by
   simp only [Op.operands,Call.operands,v2m,v0o];exact .inr hx
  have harg:∀ {x:Operand},x∈args.toList→Agree o o' (zcl (ρ x)):=fun {x} hx n hn=>one (x:=x) (hmem hx) hn
  have hdp:∀ {x:Operand},x∈args.toList→Agree o o' (zaq (ρ x)++y6p o (zaq (ρ x))):=fun {x} hx n hn=>by
   rcases v0o.1 hn with hn | hn
   ·exact harg hx n (zag hn)
   ·refine hd n (yej (fun k hk=>zez (v3g (hmem hx)) (zag hk)) hn)
  have hsub:∀ (l:List V),(∀ v∈l,∃ y∈(Op.call ⟨callee,args,ats⟩).operands.toList,∀ n∈zcl v,n∈zcl (ρ y))→Agree o o' (z5n l++y6p o (z5n l)):=by
   intro l hl n hn;have h1:∀ k∈z5n l,k∈z5n ((Op.call ⟨callee,args,ats⟩).operands.toList.map ρ):=by
    intro k hk;obtain ⟨v,hv1,hv2⟩:=y32 hk;obtain ⟨y,hy1,hy2⟩:=hl v hv1;exact zez (v3g hy1) (hy2 k hv2)
   rcases v0o.1 hn with hn | hn
   ·exact hv n (h1 n hn)
   ·exact hd n (yej h1 hn)
  split
  ·split
   ·rename_i x t hx _
    have hxm:x∈args.toList:=by rw [hx]; simp
    have:=hdp hxm
    unfold yu9
    split <;> try rfl
    ·rename_i n lo hi hr
     rw [this.left n (by rw [hr]; simp [zaq])]
    ·rename_i n c cap sz len hr
     rw [this.left n (by rw [hr]; simp [zaq])]
   ·rfl
  ·split
   ·rename_i s x t t' hx _
    have hsm:s∈args.toList:=by rw [hx]; simp
    have hxm:x∈args.toList:=by rw [hx]; simp
    simp only [y5x (hdp hsm).left (hdp hxm),y4k (hdp hsm).left]
   ·rfl
  ·split
   ·rename_i x y t t' hx _
    have hxm:x∈args.toList:=by rw [hx]; simp
    have hym:y∈args.toList:=by rw [hx]; simp
    unfold yp3
    split
    ·rename_i n c cap sz len n' c' cap' sz' len' h1 h2
     rw [(hdp hxm).left n (by rw [h1]; simp [zaq]),(hdp hym).left n' (by rw [h2]; simp [zaq])]
     split
     ·rename_i cs cs' e ho ho' hde
      rw [znp (o:=o) (o':=o') (l:=cs') (fun m hm=>(hdp hym).right m (zib (by rw [h2]; simp [zaq]) ho' hm))]
     ·rfl
    ·rfl
   ·rfl
  ·rfl
  ·rfl
  ·rename_i f d hcal
   have hs:=hsub (args.toList.map ρ) (fun v hv=>by
    obtain ⟨y,hy,rfl⟩:=List.mem_map.1 hv;exact ⟨y,hmem hy,fun n hn=>hn⟩)
   unfold yqu;rw [zx7]
   split
   ·rw [yjv hs.left]
   ·split
    ·rw [zxs hs]
    ·rfl
  ·split
   ·rename_i f caps hx
    split
    ·rename_i hok
     rw [zx7,zxs (hsub _ (fun v hv=>by
      rcases v0o.1 hv with hv | hv
      ·obtain ⟨y,hy,rfl⟩:=List.mem_map.1 hv
       exact ⟨y,hmem hy,fun n hn=>hn⟩
      ·refine ⟨_,by simp only [Op.operands,Call.operands,v2m,v0o]; exact .inl (v09 ..),fun n hn=>?_⟩
       rw [hx];simp only [zcl];exact yjz hok hv hn))]
    ·rfl
   ·rfl
  ·rfl
 case makeFunc f a b=>cases f <;> rfl
 all_goals rfl
open Go Go.RowKit
theorem zk4 {ρ ρ':Operand→V}:∀ {l:List (Nat × Operand)},(∀ x∈l.map (·.2),ρ x=ρ' x)→zdx ρ l=zdx ρ' l
 | [],_=>rfl
 | (i,x) :: r,h=>by
  simp only [zdx,h x (by simp),zk4 (l:=r) (fun y hy=>h y (v0b _ hy))]
theorem zsc {ρ ρ':Operand→V}:∀ {l:List Operand},(∀ x∈l,ρ x=ρ' x)→y27 ρ l=y27 ρ' l
 | [],_=>rfl
 | x :: r,h=>by simp only [y27,h x (v09 ..),zsc (l:=r) (fun y hy=>h y (v0b _ hy))]
theorem zt5 {ρ ρ':Operand→V} {x:Option Operand} (h:∀ y∈x.toArray.toList,ρ y=ρ' y):x.map ρ=x.map ρ':=by
 cases x with
 | none=>rfl
 | some x=>simp only [v2k,h x (by simp)]
theorem ygp {E:Env} {o:Store} {ρ ρ':Operand→V} {d:Option Nat} {op:Op} (h:∀ x∈op.operands.toList,ρ x=ρ' x):z6a E o ρ d op=z6a E o ρ' d op:=by
 cases op
 case build t ps=>simp only [z6a,zk4 (l:=ps.toList) (fun x hx=>h x (by simpa [Op.operands] using hx))]
 case buildSlice t n ps=>simp only [z6a,zk4 (l:=ps.toList) (fun x hx=>h x (by simpa [Op.operands] using hx))]
 case makeFunc f first caps=>
  cases f <;> simp only [z6a]
  rw [zsc (l:=caps.toList) (fun x hx=>h x (by simp only [Op.operands,v2m,v0o]; exact .inr hx))]
 case slice t x lo hi mx=>
  have h1:ρ x=ρ' x:=h x (by simp [Op.operands])
  have h2:lo.map ρ=lo.map ρ':=zt5 (fun y hy=>h y (by simp only [Op.operands,v2m,v0o]; exact .inl (.inl (.inr hy))))
  have h3:hi.map ρ=hi.map ρ':=zt5 (fun y hy=>h y (by simp only [Op.operands,v2m,v0o]; exact .inl (.inr hy)))
  simp only [z6a,h1,h2,h3]
 case call c=>
  obtain ⟨callee,args,ats⟩:=c;have ha:∀ x∈args.toList,ρ x=ρ' x:=fun x hx=>h x (by simp only [Op.operands,Call.operands,v2m,v0o]; exact .inr hx)
  have hm:y27 ρ args.toList=y27 ρ' args.toList:=zsc ha;simp only [z6a,zqg]
  split
  ·split
   ·rename_i x t hx _
    rw [ha x (by rw [hx]; simp)]
   ·rfl
  ·split
   ·rename_i s x t t' hx _
    rw [ha s (by rw [hx]; simp),ha x (by rw [hx]; simp)]
   ·rfl
  ·split
   ·rename_i x y t t' hx _
    rw [ha x (by rw [hx]; simp),ha y (by rw [hx]; simp)]
   ·rfl
  ·simp only [hm]
  ·simp only [hm]
  ·simp only [hm]
  ·rename_i x _ _
   have hxx:ρ x=ρ' x:=h x (by simp [Op.operands,Call.operands])
   simp only [hm,hxx]
  ·rfl
 all_goals first
  | rfl
  | (simp only [Op.operands] at h; simp only [z6a]; simp (config:={decide:=false}) only [v17,v1w,v3f,forall_eq_or_imp,forall_eq] at h; simp only [h])
structure SEq (s s':St):Prop where
 t:∀ i,s.get i=s'.get i
 o:∀ n,z09 s.o n=z09 s'.o n
theorem SEq.refl (s:St):SEq s s:=⟨fun _=>rfl,fun _=>rfl⟩
theorem SEq.symm {s s':St} (h:SEq s s'):SEq s' s:=⟨fun i=>(h.t i).symm,fun n=>(h.o n).symm⟩
theorem SEq.trans {a b c:St} (h:SEq a b) (k:SEq b c):SEq a c:=⟨fun i=>(h.t i).trans (k.t i),fun n=>(h.o n).trans (k.o n)⟩
theorem SEq.opd {s s':St} (h:SEq s s'):opd s=opd s':=by
 funext x
 cases x <;> simp only [FM.opd,h.t]
theorem SEq.put {s s':St} (h:SEq s s') (d:Option Nat) (v:V):SEq (s.put d v) (s'.put d v):=by
 cases d with
 | none=>exact h
 | some d=>exact ⟨fun i=>by simp only [St.put,St.get,zd0]; split <;> first | rfl | exact h.t i,h.o⟩
theorem yqd (s:St) (d:Nat) (v:V) (i:Nat):(s.put (some d) v).get i=if d=i then v else s.get i:=by simp only [St.put,St.get,zd0]
theorem SEq.up {s s':St} (h:SEq s s') (u:Upd):SEq (s.up u) (s'.up u):=by
 cases u with
 | new n ob=>exact ⟨fun i=>by rw [zh5,zh5,h.t],fun m=>by rw [z0g,z0g,h.o]⟩
 | set n ob=>exact ⟨h.t,fun m=>by simp only [St.up,z02,h.o]⟩
 | kill n=>exact ⟨h.t,fun m=>by simp only [St.up,z02,h.o]⟩
theorem SEq.ups:∀ {us:List Upd} {s s':St},SEq s s'→SEq (s.ups us) (s'.ups us)
 | [],_,_,h=>h
 | u :: r,_,_,h=>SEq.ups (us:=r) (h.up u)
theorem SEq.lit {s:St} {j:Nat} {b:Bool} (h:s.get j = .bool b):SEq s (yeq s j b):=
 ⟨fun i=>by
  simp only [yeq,St.get,zd0]
  split
  ·rename_i e; subst e; exact h
  ·rfl,fun _=>rfl⟩
theorem zlp:∀ {us:List Upd} {o o':Store},(∀ n,z09 o n=z09 o' n)→∀ n,z09 (y0l us o) n=z09 (y0l us o') n
 | [],_,_,h=>h
 | .set m ob :: r,o,o',h=>zlp (us:=r) (fun n=>by rw [z02,z02,h])
 | .new m ob :: r,o,o',h=>zlp (us:=r) (fun n=>by rw [z02,z02,h])
 | .kill m :: r,o,o',h=>zlp (us:=r) (fun n=>by rw [z02,z02,h])
theorem zgh:∀ {us:List Upd} {o:Store} {n:Nat},n ∉ z8q us→z09 (y0l us o) n=z09 o n
 | [],_,_,_=>rfl
 | .set m ob :: r,o,n,h=>by
  simp only [z8q,v17,not_or] at h;rw [y0l,zgh h.2,z02,v0y (fun e=>h.1 e.symm)]
 | .new m ob :: r,o,n,h=>by
  simp only [z8q,v17,not_or] at h;rw [y0l,zgh h.2,z02,v0y (fun e=>h.1 e.symm)]
 | .kill m :: r,o,n,h=>by
  simp only [z8q,v17,not_or] at h;rw [y0l,zgh h.2,z02,v0y (fun e=>h.1 e.symm)]
theorem ybi:∀ {us:List Upd} {o o':Store} {n:Nat},n∈z8q us→z09 (y0l us o) n=z09 (y0l us o') n
 | [],_,_,_,h=>by simp [z8q] at h
 | u :: r,o,o',n,h=>by
  by_cases hr:n∈z8q r
  ·cases u <;> simp only [y0l] <;> exact ybi hr
  ·cases u <;> simp only [z8q,v17,hr,v3f] at h <;> subst h <;> simp only [y0l] <;> rw [zgh hr,zgh hr,z02,z02,v1b rfl,v1b rfl]
theorem SEq.apD {s s':St} (h:SEq s s') (x:Dn):SEq (apD s x) (apD s' x):=⟨(h.put x.dst x.v).t,zlp h.o⟩
theorem SEq.apDs:∀ {l:List Dn} {s s':St},SEq s s'→SEq (apDs s l) (apDs s' l)
 | [],_,_,h=>h
 | x :: r,_,_,h=>SEq.apDs (l:=r) (h.apD x)
theorem znb:∀ (l l':List Dn) (s:St),apDs s (l++l')=apDs (apDs s l) l'
 | [],_,_=>rfl
 | x :: r,l',s=>znb r l' (apD s x)
theorem ykh {n:Nat} {v:V} (hc:y31 v=true) (hn:n ∉ zaq v):z3e.leaf n v=v:=by
 cases v <;> simp only [y31] at hc <;> first | (cases hc; done) | rfl | skip
 ·simp only [zaq,v1v] at hn
  simp only [z3e.leaf,z5k.2 (fun e=>hn e.symm)]
 ·simp only [zaq,v1v] at hn
  simp only [z3e.leaf,z5k.2 (fun e=>hn e.symm)]
theorem zoe {n:Nat}:∀ {l:List V},zqy l=true→n ∉ z4q l→l.map (z3e.leaf n)=l
 | [],_,_=>rfl
 | v :: r,hc,hn=>by
  simp only [zqy] at hc
  split at hc
  ·rename_i h1
   simp only [z4q,v0o,not_or] at hn;simp only [v0d,ykh h1 hn.1,zoe hc hn.2]
  ·cases hc
theorem zqx {n:Nat}:∀ {l:List V},zkm.go l=true→n ∉ zcl.go l→l.map (z3e.leaf2 n)=l
 | [],_,_=>rfl
 | v :: r,hc,hn=>by
  by_cases ha:∃ l,v = .agg l
  ·obtain ⟨l,rfl⟩:=ha
   simp only [zkm.go] at hc
   split at hc
   ·rename_i h1
    simp only [zcl.go,v0o,not_or] at hn;simp only [v0d,z3e.leaf2,zoe h1 hn.1,zqx hc hn.2]
   ·cases hc
  ·have h0:z3e.leaf2 n v=z3e.leaf n v:=by cases v <;> first | rfl | exact absurd ⟨_,rfl⟩ ha
   have h1:y31 v=true∧zkm.go r=true:=by
    cases v <;> simp only [zkm.go,y31] at hc ⊢ <;> first | (simp at hc; done) | (simpa using hc) | (cases hc; done) | exact absurd ⟨_,rfl⟩ ha
   have h2:n ∉ zaq v∧n ∉ zcl.go r:=by
    cases v <;> simp only [zcl.go,v0o,not_or] at hn <;> first | exact hn | exact absurd ⟨_,rfl⟩ ha
   simp only [v0d,h0,ykh h1.1 h2.1,zqx h1.2 h2.2]
theorem yg9 {n:Nat} {v:V} (hc:zkm v=true) (hn:n ∉ zcl v):z3e n v=v:=by
 cases v <;> simp only [zkm] at hc <;> first | rfl | skip
 case row a b c=>simp only [zcl,zaq,v1v] at hn; simp only [z3e,z5k.2 (fun e=>hn e.symm)]
 case ptr a b c=>simp only [zcl,zaq,v1v] at hn; simp only [z3e,z5k.2 (fun e=>hn e.symm)]
 case bview a b c d e=>simp only [zcl,zaq,v1v] at hn; simp only [z3e,z5k.2 (fun e=>hn e.symm)]
 case agg l=>simp only [z3e,zoe hc hn]
 case tup l=>simp only [z3e,zqx hc hn]
 case clo f l=>
  have:n ∉ z4q l:=fun h=>hn (zpd h)
  simp only [z3e,zoe hc this]
theorem y8k {n:Nat}:∀ {l:List V},y3j l=true→n ∉ z5n l→l.map (z3e n)=l
 | [],_,_=>rfl
 | v :: r,hc,hn=>by
  simp only [y3j] at hc
  split at hc
  ·rename_i h1
   simp only [z5n,v0o,not_or] at hn;simp only [v0d,yg9 h1 hn.1,y8k hc hn.2]
  ·cases hc
theorem zqd {n:Nat} {ob:Ob} (hc:ydz ob=true) (hn:n ∉ y7i ob):z6n n (some ob)=some ob:=by
 cases ob with
 | box cs=>simp only [z6n,y8k hc hn]
 | row _ _ _ _ _=>rfl
 | bld _=>rfl
theorem yeg {p:Nat→Bool} {n:Nat} (hp:p n=true) (v:V):z3e.leaf n (z4m.leaf p v)=z4m.leaf p v:=by
 cases v <;> simp only [z4m.leaf] <;> first | rfl | skip
 all_goals
  rename_i m _ _;cases hm:p m with
  | true=>rfl
  | false=>
   simp only [z3e.leaf];rw [z5k.2 (fun e=>by subst e; rw [hp] at hm; cases hm)]
theorem zls {p:Nat→Bool} {n:Nat} (hp:p n=true):∀ (l:List V),(z4m.go p l).map (z3e.leaf n)=z4m.go p l
 | []=>rfl
 | v :: r=>by simp only [z4m.go,v0d,yeg hp,zls hp r]
theorem yk3 {p:Nat→Bool} {n:Nat} (hp:p n=true) (v:V):z3e.leaf2 n (z4m.leaf2 p v)=z4m.leaf2 p v:=by
 by_cases ha:∃ l,v = .agg l
 ·obtain ⟨l,rfl⟩:=ha
  simp only [z4m.leaf2,z3e.leaf2,zls hp]
 ·have h0:z4m.leaf2 p v=z4m.leaf p v:=by cases v <;> first | rfl | exact absurd ⟨_,rfl⟩ ha
  rw [h0]
  have:=yeg hp v
  cases hx:z4m.leaf p v <;> rw [hx] at this <;> first | exact this | skip
  exfalso;cases v <;> simp only [z4m.leaf] at hx <;> try (cases hx; done)
  all_goals (split at hx <;> cases hx)
theorem zwi {p:Nat→Bool} {n:Nat} (hp:p n=true):∀ (l:List V),(z4m.go2 p l).map (z3e.leaf2 n)=z4m.go2 p l
 | []=>rfl
 | v :: r=>by simp only [z4m.go2,v0d,yk3 hp,zwi hp r]
theorem y8f {p:Nat→Bool} {n:Nat} (hp:p n=true) (v:V):z3e n (z4m p v)=z4m p v:=by
 have key:∀ m,p m=false→Nat.beq m n=false:=fun m hm=>z5k.2 (fun e=>by subst e; rw [hp] at hm; cases hm)
 cases v <;> simp only [z4m] <;> try rfl
 case row m _ _=>cases hm:p m <;> simp only [z3e,key m,hm]
 case ptr m _ _=>cases hm:p m <;> simp only [z3e,key m,hm]
 case bview m _ _ _ _=>cases hm:p m <;> simp only [z3e,key m,hm]
 case agg l=>simp only [z3e,zls hp]
 case tup l=>simp only [z3e,zwi hp]
 case clo f l=>simp only [z3e,zls hp]
theorem y54 (f:V→V):∀ l,z9y.mapV f l=l.map f
 | []=>rfl
 | v :: r=>by simp only [z9y.mapV,v0d,y54 f r]
theorem ygs {p:Nat→Bool} {n:Nat} (hp:p n=true) (x:Option Ob):z6n n (z9y p x)=z9y p x:=by
 match x with
 | none=>rfl
 | some (.row _ _ _ _ _)=>rfl
 | some (.bld _)=>rfl
 | some (.box cs)=>
  simp only [z9y,z6n,y54,v43]
  congr 2
  exact List.map_congr_left (fun v _=>y8f hp v)
structure Fr (n:Nat) (s:St):Prop where
 t:∀ i,z3e n (s.get i)=s.get i
 o:∀ m,z6n n (z09 s.o m)=z09 s.o m
theorem Fr.congr {n:Nat} {s s':St} (h:Fr n s) (e:SEq s s'):Fr n s':=⟨fun i=>by rw [← e.t]; exact h.t i,fun m=>by rw [← e.o]; exact h.o m⟩
theorem zp8 {n:Nat} {l:List Nat}:y3t n l=false↔n ∉ l:=by
 rw [← zpq]; simp
theorem zm2:∀ {l l':List Nat},ynj l l'=true↔∀ n∈l,n ∉ l'
 | [],l'=>by simp [ynj]
 | m :: r,l'=>by
  simp only [ynj];cases hb:y3t m l' with
  | true=>simp [zpq.1 hb]
  | false=>simp [zp8.1 hb,zm2 (l:=r)]
theorem y3u:∀ {us:List Upd} {s:St},(∀ n∈zuc us,Fr n s)→yj1 us=true→SEq (s.ups us) ⟨s.t,y0l us s.o⟩
 | [],s,_,_=>SEq.refl s
 | .kill m :: r,s,hf,ho=>by
  simp only [St.ups,y0l];exact y3u (us:=r) (s:=s.up (.kill m)) (fun n hn=>⟨(hf n hn).t,fun k=>by
   simp only [St.up,z02]
   split
   ·rfl
   ·exact (hf n hn).o k⟩) ho
 | .set m ob :: r,s,hf,ho=>by
  simp only [yj1,v02] at ho;simp only [St.ups,y0l];exact y3u (us:=r) (s:=s.up (.set m ob)) (fun n hn=>⟨(hf n hn).t,fun k=>by
   simp only [St.up,z02]
   split
   ·exact zqd ho.1 (zm2.1 ho.2.1 n hn)
   ·exact (hf n hn).o k⟩) ho.2.2
 | .new m ob :: r,s,hf,ho=>by
  simp only [yj1,v02] at ho;simp only [St.ups,y0l];have hm:Fr m s:=hf m (by simp [zuc])
  have e:SEq (s.up (.new m ob)) (s.up (.set m ob)):=⟨fun i=>by rw [zh5,hm.t]; rfl,fun k=>by rw [z0g,hm.o]; simp only [St.up,z02]⟩
  refine (e.ups (us:=r)).trans ?_;exact y3u (us:=r) (s:=s.up (.set m ob)) (fun n hn=>⟨(hf n (by simp [zuc,hn])).t,fun k=>by
   simp only [St.up,z02]
   split
   ·exact zqd ho.1 (zm2.1 ho.2.1 n hn)
   ·exact (hf n (by simp [zuc,hn])).o k⟩) ho.2.2
open Go Go.RowKit
def CmpP (p:Nat→Bool) (γ:Nat→Value) (o:Store) (γ':Nat→Value) (o':Store):Prop:=
 ∀ n ob',p n=false→z09 o' n=some ob'→γ' n=γ n∧∃ ob,z09 o n=some ob∧ob.fits ob'
section
variable {γ γ':Nat→Value} {o o':Store} {w:World} {O:Nat→Prop} {p:Nat→Bool}
theorem CmpP.but (hc:CmpP p γ o γ' o') {n:Nat} (hn:p n=false) {v:V} (hv:v = .any∨(∃ lo hi,v = .row n lo hi)∨(∃ i c,v = .ptr n i c)∨∃ c cap sz len,v = .bview n c cap sz len) {x:Value} (h:VRel γ o w O v x):VRel γ' o' w O v x:=by
 let f:Nat→Value:=fun m=>if m=n then γ' n else γ m
 rcases hv with rfl | ⟨lo,hi,rfl⟩ | ⟨i,c,rfl⟩ | ⟨c,cap,sz,len,rfl⟩
 ·simp only [VRel]
 ·simp only [VRel] at h ⊢
  cases h':z09 o' n with
  | none=>trivial
  | some ob'=>
   obtain ⟨hg,ob,ho,hf⟩:=hc n ob' hn h';rw [ho] at h;rw [hg];cases ob <;> cases ob' <;> simp only [Ob.fits] at hf <;> try trivial
   obtain ⟨rfl,hl⟩:=hf;exact ⟨by rw [← hl]; exact h.1,h.2⟩
 ·simp only [VRel] at h ⊢
  cases h':z09 o' n with
  | none=>trivial
  | some ob'=>
   obtain ⟨hg,ob,ho,hf⟩:=hc n ob' hn h';rw [ho] at h;rw [hg];cases ob <;> cases ob' <;> simp only [Ob.fits] at hf
   ·exact h
   ·obtain ⟨rfl,hl⟩:=hf
    exact ⟨by rw [← hl]; exact h.1,h.2⟩
   ·exact h
 ·simp only [VRel] at h ⊢
  cases h':z09 o' n with
  | none=>trivial
  | some ob'=>
   obtain ⟨hg,ob,ho,hf⟩:=hc n ob' hn h';rw [ho] at h;rw [hg];cases ob <;> cases ob' <;> simp only [Ob.fits] at hf <;> try trivial
   exact ⟨h.1,h.2.1,by rw [← hf]; exact h.2.2.1,h.2.2.2⟩
theorem y9d (hc:CmpP p γ o γ' o') {v:V} {x:Value} (h:VRel γ o w O v x):VRel γ' o' w O (z4m.leaf p v) x:=by
 cases v <;> simp only [z4m.leaf]
 case row n lo hi=>
  cases hb:p n with
  | true=>simp only [VRel]
  | false=>exact hc.but hb (.inr (.inl ⟨_,_,rfl⟩)) h
 case ptr n i c=>
  cases hb:p n with
  | true=>simp only [VRel]
  | false=>exact hc.but hb (.inr (.inr (.inl ⟨_,_,rfl⟩))) h
 all_goals first
  | (simp only [VRel] at h ⊢; exact h)
  | simp only [VRel]
theorem zhs (hc:CmpP p γ o γ' o'):∀ {l:List V} {xs:List Value},VRels γ o w O l xs→VRels γ' o' w O (z4m.go p l) xs
 | [],[],_=>by simp only [z4m.go,VRels]
 | [],_ :: _,h=>by simp only [VRels] at h
 | _ :: _,[],h=>by simp only [VRels] at h
 | v :: vs,x :: xs,h=>by
  simp only [VRels,z4m.go] at h ⊢
  exact ⟨y9d hc h.1,zhs hc h.2⟩
theorem yhw (hc:CmpP p γ o γ' o') {v:V} {x:Value} (h:VRel γ o w O v x):VRel γ' o' w O (z4m.leaf2 p v) x:=by
 cases v <;> simp only [z4m.leaf2] <;> try exact y9d hc h
 simp only [VRel] at h ⊢
 obtain ⟨cs,hx,hr⟩:=h;exact ⟨cs,hx,zhs hc hr⟩
theorem ztn (hc:CmpP p γ o γ' o'):∀ {l:List V} {xs:List Value},VRels γ o w O l xs→VRels γ' o' w O (z4m.go2 p l) xs
 | [],[],_=>by simp only [z4m.go2,VRels]
 | [],_ :: _,h=>by simp only [VRels] at h
 | _ :: _,[],h=>by simp only [VRels] at h
 | v :: vs,x :: xs,h=>by
  simp only [VRels,z4m.go2] at h ⊢
  exact ⟨yhw hc h.1,ztn hc h.2⟩
theorem y2k (hc:CmpP p γ o γ' o') {v:V} {x:Value} (h:VRel γ o w O v x):VRel γ' o' w O (z4m p v) x:=by
 cases v <;> simp only [z4m]
 case row n lo hi=>
  cases hb:p n with
  | true=>simp only [VRel]
  | false=>exact hc.but hb (.inr (.inl ⟨_,_,rfl⟩)) h
 case ptr n i c=>
  cases hb:p n with
  | true=>simp only [VRel]
  | false=>exact hc.but hb (.inr (.inr (.inl ⟨_,_,rfl⟩))) h
 case bview n c cap sz len=>
  cases hb:p n with
  | true=>simp only [VRel]
  | false=>exact hc.but hb (.inr (.inr (.inr ⟨_,_,_,_,rfl⟩))) h
 case agg l=>
  simp only [VRel] at h ⊢
  obtain ⟨cs,hx,hr⟩:=h;exact ⟨cs,hx,zhs hc hr⟩
 case tup l=>
  simp only [VRel] at h ⊢
  obtain ⟨cs,hx,hr⟩:=h;exact ⟨cs,hx,ztn hc hr⟩
 case clo f l=>
  simp only [VRel] at h ⊢
  obtain ⟨cs,hx,hr⟩:=h;exact ⟨cs,hx,zhs hc hr⟩
 all_goals (simp only [VRel] at h ⊢; try exact h)
theorem zz2 (hc:CmpP p γ o γ' o'):∀ {l:List V} {xs:List Value},VRels γ o w O l xs→VRels γ' o' w O (l.map (z4m p)) xs
 | [],[],_=>by simp only [v16,VRels]
 | [],_ :: _,h=>by simp only [VRels] at h
 | _ :: _,[],h=>by simp only [VRels] at h
 | v :: vs,x :: xs,h=>by
  simp only [VRels,v0d] at h ⊢
  exact ⟨y2k hc h.1,zz2 hc h.2⟩
end
theorem zsh (p:Nat→Bool):∀ (o:Store) (n:Nat),z09 (y1z p o) n=match p n with | true=>none | false=>z9y p (z09 o n)
 | [],n=>by simp only [y1z,z09,lkd]; cases p n <;> rfl
 | (m,x) :: r,n=>by
  simp only [y1z]
  by_cases e:m=n
  ·subst e
   cases hp:p m <;> simp only [z02,v1t]
  ·cases hp:p m <;> simp only [z02,v0y e,zsh p r n]
theorem y77 {p:Nat→Bool} {x:Option Ob} {ob:Ob} (h:z9y p x=some ob):∃ ob0,x=some ob0∧z9y p (some ob0)=some ob:=by
 cases x with
 | none=>simp [z9y] at h
 | some ob0=>exact ⟨ob0,rfl,h⟩
theorem zdm {p:Nat→Bool} {ob0 ob:Ob} (h:z9y p (some ob0)=some ob):ob0.fits ob∧∀ g b,z0q g ob b↔z0q g ob0 b:=by
 cases ob0 <;> simp only [z9y,v00] at h <;> subst h
 ·exact ⟨by simp [Ob.fits,y54],fun _ _=>Iff.rfl⟩
 ·exact ⟨⟨rfl,rfl⟩,fun _ _=>Iff.rfl⟩
 ·exact ⟨trivial,fun _ _=>Iff.rfl⟩
section
variable {B:BT} {nt:Nat} {w0:World} {X:Zone} {γ:Nat→Value} {st st':St} {a:Act} {w:World} {P:Program} {E:Env}
theorem Rel.less (h:Rel B nt w0 X γ st a w) {st':St} (ht:∀ i,st'.get i=st.get i∨st'.get i = .any) (ho:∀ n ob,z09 st'.o n=some ob→z09 st.o n=some ob):Rel B nt w0 X γ st' a w:=by
 have hP:∀ b,z1y γ st'.o b→z1y γ st.o b:=fun b ⟨n,ob,h1,h2⟩=>⟨n,ob,ho n ob h1,h2⟩
 have hO:∀ b,b < w.heap.size→z0c X γ st'.o b→z0c X γ st.o b:=fun b _ hb=>hb.imp_left (hP b)
 have hc:Cmp γ st.o γ st'.o:=fun n ob hn=>⟨rfl,ob,ho n ob hn,ob.fits_refl⟩
 refine ⟨h.sz,h.df,fun i=>?_,fun n ob hn=>(h.ob n ob (ho n ob hn)).later (fun _ _=>rfl) (Keep.refl _ w) hO hc,fun b hb=>h.lt b (hP b hb),fun n m ob ob' b hne h1 h2=>h.dis n m ob ob' b hne (ho n ob h1) (ho m ob' h2),h.keep,fun b hb=>h.nr b (hP b hb),h.fl,fun p hp ob h1=>h.pn p hp ob (ho _ ob h1)⟩
 rcases ht i with h1 | h1
 ·rw [h1]
  exact VRel.mono (Keep.refl _ w) hO (VRel.cmp hc (h.tm i))
 ·rw [h1]
  simp only [VRel]
theorem Rel.lit (h:Rel B nt w0 X γ st a w) {i:Nat} {v:V} (hv:st.get i=v):Rel B nt w0 X γ ⟨(i,v) :: st.t,st.o⟩ a w:=by
 refine h.less (fun j=>?_) (fun _ _ h=>h)
 simp only [St.get,zd0]
 by_cases e:i=j
 ·subst e
  simp only [v1t];exact .inl hv.symm
 ·simp only [v0y e]
  exact .inl trivial
theorem zqh:∀ (ops:List Oper) (j d:Nat),zu1 ops j=some d→(ops[j]?).bind (·.dst)=some d
 | [],j,d,h=>by simp [zu1] at h
 | o :: r,0,d,h=>by simpa [zu1] using h
 | o :: r,j+1,d,h=>by simpa [zu1] using zqh r j d (by simpa [zu1] using h)
theorem yfj (h:Rel B nt w0 X γ st a w) {i:Nat} {c:Bool} (hv:st.get i = .bool c):a.tmps[i]?=some (.bool c):=by
 have:=h.tm i
 rw [hv] at this;simp only [VRel,v2j] at this;cases ht:a.tmps[i]? with
 | none=>rw [ht] at this; simp [undef] at this
 | some u=>rw [ht] at this; simp only [v2c] at this; rw [this]
theorem y84 (h:Rel B nt w0 X γ st a w) {i:Nat} (hv:st.get i = .tup []):a.tmps[i]?=none∨a.tmps[i]?=some (.tuple #[]):=by
 have:=h.tm i
 rw [hv] at this;simp only [VRel,v2j] at this;obtain ⟨cs,h1,h2⟩:=this;cases hl:cs.toList with
 | nil=>
  have e:cs = #[]:=by simpa using hl
  rw [e] at h1;cases ht:a.tmps[i]? with
  | none=>exact .inl rfl
  | some u=>rw [ht] at h1; simp only [v2c] at h1; rw [h1]; exact .inr rfl
 | cons x l=>rw [hl] at h2; simp only [VRels] at h2
theorem Rel.clear (h:Rel B nt w0 X γ st a w) (ds:List Nat):Rel B nt w0 X γ (zgc ds st) a w:=by
 have hget:∀ n ob,z09 (zgc ds st).o n=some ob→zuw ds n=false∧∃ ob0,z09 st.o n=some ob0∧z9y (zuw ds) (some ob0)=some ob:=by
  intro n ob hn;simp only [zgc,zsh] at hn
  split at hn
  ·cases hn
  ·rename_i hp
   exact ⟨hp,y77 hn⟩
 have hP:∀ b,z1y γ (zgc ds st).o b→z1y γ st.o b:=by
  rintro b ⟨n,ob,h1,h2⟩
  obtain ⟨_,ob0,h3,h4⟩:=hget n ob h1;exact ⟨n,ob0,h3,((zdm h4).2 _ _).1 h2⟩
 have hO:∀ b,b < w.heap.size→z0c X γ (zgc ds st).o b→z0c X γ st.o b:=fun b _ hb=>hb.imp_left (hP b)
 have hc:CmpP (zuw ds) γ st.o γ (zgc ds st).o:=by
  intro n ob' _ hn;obtain ⟨_,ob0,h3,h4⟩:=hget n ob' hn;exact ⟨rfl,ob0,h3,(zdm h4).1⟩
 refine ⟨h.sz,h.df,fun i=>?_,fun n ob hn=>?_,fun b hb=>h.lt b (hP b hb),fun n m ob ob' b hne h1 h2 hb1 hb2=>?_,h.keep,fun b hb=>h.nr b (hP b hb),h.fl,fun p hp ob h1=>?_⟩
 ·have:(zgc ds st).get i=z4m (zuw ds) (st.get i):=by
   simp only [zgc,St.get];exact zh1 _ _ rfl _ _
  rw [this];exact VRel.mono (Keep.refl _ w) hO (y2k hc (h.tm i))
 ·obtain ⟨_,ob0,h3,h4⟩:=hget n ob hn
  have hor:=h.ob n ob0 h3;cases ob0 with
  | box l=>
   simp only [z9y,v00] at h4;subst h4;simp only [ObRel] at hor ⊢
   obtain ⟨b,c,T,hg,hh,hr⟩:=hor;rw [y54];exact ⟨b,c,T,hg,hh,VRels.mono (Keep.refl _ w) hO (zz2 hc hr)⟩
  | row own e ag ks l=>
   simp only [z9y,v00] at h4;subst h4;exact hor.later (fun _ _=>rfl) (Keep.refl _ w) hO (fun m ob1 hm=>by
    obtain ⟨_,ob0,h5,h6⟩:=hget m ob1 hm;exact ⟨rfl,ob0,h5,(zdm h6).1⟩)
  | bld s=>
   simp only [z9y,v00] at h4;subst h4
   simpa only [ObRel] using hor
 ·obtain ⟨_,ob0,h3,h4⟩:=hget n ob h1
  obtain ⟨_,ob1,h5,h6⟩:=hget m ob' h2;exact h.dis n m ob0 ob1 b hne h3 h5 (((zdm h4).2 _ _).1 hb1) (((zdm h6).2 _ _).1 hb2)
 ·obtain ⟨_,ob0,h3,_⟩:=hget _ ob h1
  exact h.pn p hp ob0 h3
theorem Rel.seq (h:Rel B nt w0 X γ st a w) (e:SEq st st'):Rel B nt w0 X γ st' a w:=
 h.less (fun i=>.inl (e.t i).symm) (fun n ob hn=>by rw [e.o]; exact hn)
end
theorem yn4 {ds:List Nat} {n:Nat} (hn:zuw ds n=true) (s:St):Fr n (zgc ds s):=by
 refine ⟨fun i=>?_,fun m=>?_⟩
 ·have:(zgc ds s).get i=z4m (zuw ds) (s.get i):=by
   simp only [zgc,St.get];exact zh1 _ _ rfl _ _
  rw [this];exact y8f hn _
 ·simp only [zgc,zsh]
  split
  ·rfl
  ·exact ygs hn _
def StepOK (E:Env) (all:List Oper) (o:Oper) (s:St) (D:Dn):Prop:=
 zy7 E o.dst=true∧D.dst=o.dst∧D.tm=zm6 all o ∧
 match o.guard with
 | none=>(z6a E s.o (opd s) o.dst o.op).get=some (D.v,D.us)∧D.rd=reads E s.o (opd s) o.op
 | some (j,b)=>(∃ dj c,zu1 all j=some dj∧s.get dj = .bool c ∧
  ((c=b∧(z6a E s.o (opd s) o.dst o.op).get=some (D.v,D.us)∧D.rd=reads E s.o (opd s) o.op)∨(c≠b∧D.v = .tup []∧D.us=[]))) ∨
  (∃ dj,zu1 all j=some dj∧s.get dj = .tup []∧D.v = .tup []∧D.us=[])
def Steps (E:Env) (all:List Oper):List Oper→St→List Dn→Prop
 | [],_,[]=>True
 | o :: r,s,D :: Ds=>StepOK E all o s D∧Steps E all r (apD s D) Ds
 | _,_,_=>False
theorem StepOK.congr {E:Env} {all:List Oper} {o:Oper} {s s':St} {D:Dn} (h:StepOK E all o s D) (e:SEq s s'):StepOK E all o s' D:=by
 have hag:∀ (ρ:Operand→V) d op,z6a E s'.o ρ d op=z6a E s.o ρ d op:=fun ρ d op=>y2f (fun n _=>(e.o n).symm)
 have hdp:∀ l,y6p s'.o l=y6p s.o l:=by
  intro l
  induction l with
  | nil=>rfl
  | cons n r ih=>simp only [y6p,ih,e.o]
 have hrd:∀ (ρ:Operand→V) op,reads E s'.o ρ op=reads E s.o ρ op:=fun ρ op=>by unfold reads yf5; rw [hdp]
 unfold StepOK at h ⊢
 refine ⟨h.1,h.2.1,h.2.2.1,?_⟩;have h3:=h.2.2.2;rw [← e.opd];simp only [hag,hrd]
 split at h3
 ·exact h3
 ·rcases h3 with ⟨dj,c,h4,h5,h6⟩ | ⟨dj,h4,h5,h6⟩
  ·exact .inl ⟨dj,c,h4,by rw [← e.t]; exact h5,h6⟩
  ·exact .inr ⟨dj,h4,by rw [← e.t]; exact h5,h6⟩
theorem Steps.congr {E:Env} {all:List Oper}:∀ {l:List Oper} {s s':St} {Ds:List Dn},Steps E all l s Ds→SEq s s'→Steps E all l s' Ds
 | [],_,_,[],_,_=>trivial
 | [],_,_,_ :: _,h,_=>by simp [Steps] at h
 | _ :: _,_,_,[],h,_=>by simp [Steps] at h
 | o :: r,s,s',D :: Ds,h,e=>by
  simp only [Steps] at h ⊢
  exact ⟨h.1.congr e,Steps.congr h.2 (e.apD D)⟩
theorem yax {E:Env} {all:List Oper} {res:V × List (List V)}:∀ (l:List Oper) {s:St} {acc:List Dn} {k:List Dn→St→Res},evD E all l s acc k=some res →
  ∃ Ds s',Steps E all l s Ds∧SEq s' (apDs s Ds)∧k (Ds.reverse++acc) s'=some res
 | [],s,acc,k,h=>⟨[],s,trivial,SEq.refl s,by simpa [evD] using h⟩
 | o :: r,s,acc,k,h=>by
  simp only [evD] at h;have hd:zy7 E o.dst=true:=by
   cases hd:zy7 E o.dst with
   | true=>rfl
   | false=>rw [hd] at h; cases h
  rw [hd] at h;simp only at h;have fin:∀ (s1:St) (D:Dn),SEq s s1→StepOK E all o s1 D→evD E all r (apD s1 D) (D :: acc) k=some res →
    ∃ Ds s',Steps E all (o :: r) s Ds∧SEq s' (apDs s Ds)∧k (Ds.reverse++acc) s'=some res:=by
   intro s1 D e hs he;obtain ⟨Ds,s',h1,h2,h3⟩:=yax r he;refine ⟨D :: Ds,s',⟨hs.congr e.symm,h1.congr (e.symm.apD D)⟩,h2.trans ((e.symm.apD D).apDs),?_⟩
   simpa using h3
  split at h
  ·rename_i hg
   obtain ⟨v,us,h1,h2⟩:=T.run_some h;exact fin s _ (SEq.refl s) ⟨hd,rfl,rfl,by rw [hg]; exact ⟨h1,rfl⟩⟩ h2
  ·rename_i j b hg
   split at h
   ·rename_i dj hdj
    split at h
    ·rename_i c hc
     have hl:∀ c',(yeq s dj c').get dj = .bool c':=fun c'=>by simp [yeq,St.get,zd0]
     cases c with
     | true=>
      have e:=SEq.lit hc;cases b with
      | true=>
       simp only at h;obtain ⟨v,us,h1,h2⟩:=T.run_some h;exact fin _ _ e ⟨hd,rfl,rfl,by rw [hg]; exact .inl ⟨dj,true,hdj,hl _,.inl ⟨rfl,h1,rfl⟩⟩⟩ h2
      | false=>exact fin _ _ e ⟨hd,rfl,rfl,by rw [hg]; exact .inl ⟨dj,true,hdj,hl _,.inr ⟨by simp,rfl,rfl⟩⟩⟩ h
     | false=>
      have e:=SEq.lit hc;cases b with
      | false=>
       simp only at h;obtain ⟨v,us,h1,h2⟩:=T.run_some h;exact fin _ _ e ⟨hd,rfl,rfl,by rw [hg]; exact .inl ⟨dj,false,hdj,hl _,.inl ⟨rfl,h1,rfl⟩⟩⟩ h2
      | true=>exact fin _ _ e ⟨hd,rfl,rfl,by rw [hg]; exact .inl ⟨dj,false,hdj,hl _,.inr ⟨by simp,rfl,rfl⟩⟩⟩ h
    ·rename_i hc
     exact fin _ _ (SEq.refl s) ⟨hd,rfl,rfl,by rw [hg]; exact .inr ⟨dj,hdj,hc,rfl,rfl⟩⟩ h
    ·cases h
   ·cases h
theorem Steps.length {E:Env} {all:List Oper}:∀ {l:List Oper} {s:St} {Ds:List Dn},Steps E all l s Ds→Ds.length=l.length
 | [],_,[],_=>rfl
 | [],_,_ :: _,h=>by simp [Steps] at h
 | _ :: _,_,[],h=>by simp [Steps] at h
 | _ :: _,_,_ :: _,h=>by simp only [v03,Steps.length h.2]
theorem Steps.get {E:Env} {all:List Oper}:∀ {l:List Oper} {s:St} {Ds:List Dn} {i:Nat} {o:Oper} {D:Dn},Steps E all l s Ds→l[i]?=some o→Ds[i]?=some D→StepOK E all o (apDs s (Ds.take i)) D
 | [],_,_,_,_,_,_,h,_=>by simp at h
 | _ :: _,_,[],_,_,_,_,_,h=>by simp at h
 | o :: r,s,D :: Ds,0,_,_,h,h1,h2=>by
  simp only [v0s,v00] at h1 h2;subst h1; subst h2;exact h.1
 | o :: r,s,D :: Ds,i+1,_,_,h,h1,h2=>by
  simp only [v1l] at h1 h2;simp only [v3q,apDs];exact Steps.get h.2 h1 h2
def sel (L:Nat→Bool):Nat→List Dn→List Dn
 | _,[]=>[]
 | i,D :: r=>match L i with | true=>D :: sel L (i+1) r | false=>sel L (i+1) r
theorem zh6 {L L':Nat→Bool}:∀ (l:List Dn) (i:Nat),(∀ j,i≤j→j < i+l.length→L j=L' j)→sel L i l=sel L' i l
 | [],_,_=>rfl
 | D :: r,i,h=>by
  simp only [sel];rw [h i (v0a i) (by simp),zh6 r (i+1) (fun j h1 h2=>h j (by omega) (by simp only [v03]; omega))]
theorem zpi:∀ (l:List Dn) (i:Nat),sel (fun _=>false) i l=[]
 | [],_=>rfl
 | D :: r,i=>by simp only [sel,zpi r]
theorem yjn:∀ (l:List Dn) (i:Nat),sel (fun _=>true) i l=l
 | [],_=>rfl
 | D :: r,i=>by simp only [sel,yjn r]
theorem yps (k:Nat):∀ (l:List Dn) (i:Nat),sel (fun j=>decide (j < i+k)) i l=l.take k
 | [],i=>by simp [sel]
 | D :: r,i=>by
  cases k with
  | zero=>
   rw [zh6 (L':=fun _=>false) _ _ (fun j h1 h2=>by simp; omega),zpi]
   rfl
  | succ k=>
   simp only [sel];rw [show decide (i < i+(k+1))=true by simp]
   simp only [v3q,v2y,v45]
   have:=yps k r (i+1)
   rw [show i+(k+1)=i+1+k by omega]
   exact this
theorem ziq {L L':Nat→Bool} {n:Nat}:∀ (l:List Dn) (i:Nat) {s s':St},z09 s.o n=z09 s'.o n→(∀ j D,l[j]?=some D→n∈z8q D.us→L (i+j)=L' (i+j))→z09 (apDs s (sel L i l)).o n=z09 (apDs s' (sel L' i l)).o n
 | [],_,_,_,h,_=>h
 | D :: r,i,s,s',h,hl=>by
  have hr:∀ j E,r[j]?=some E→n∈z8q E.us→L (i+1+j)=L' (i+1+j):=fun j E hj hn=>by
   have:=hl (j+1) E (by simpa using hj) hn
   rwa [show i+(j+1)=i+1+j by omega] at this
  have one:∀ {s:St},n ∉ z8q D.us→z09 (apD s D).o n=z09 s.o n:=fun h=>zgh h
  by_cases hn:n∈z8q D.us
  ·have h0:=hl 0 D rfl hn
   simp only [v1s] at h0;simp only [sel,h0];cases L' i with
   | true=>exact ziq r (i+1) (ybi hn) hr
   | false=>exact ziq r (i+1) h hr
  ·simp only [sel]
   cases L i <;> cases L' i <;> simp only [apDs]
   ·exact ziq r (i+1) h hr
   ·exact ziq r (i+1) (h.trans (one hn).symm) hr
   ·exact ziq r (i+1) ((one hn).trans h) hr
   ·exact ziq r (i+1) ((one hn).trans (h.trans (one hn).symm)) hr
theorem zf8 (s:St) (D:Dn) (t:Nat):(apD s D).get t=if D.dst=some t then D.v else s.get t:=by
 unfold apD;cases hd:D.dst with
 | none=>simp [St.put,St.get]
 | some d=>
  have:=yqd s d D.v t
  simp only [v00];exact this
theorem zij {L L':Nat→Bool} {t:Nat}:∀ (l:List Dn) (i:Nat) {s s':St},s.get t=s'.get t→(∀ j D,l[j]?=some D→D.dst=some t→L (i+j)=L' (i+j))→(apDs s (sel L i l)).get t=(apDs s' (sel L' i l)).get t
 | [],_,_,_,h,_=>h
 | D :: r,i,s,s',h,hl=>by
  have hr:∀ j E,r[j]?=some E→E.dst=some t→L (i+1+j)=L' (i+1+j):=fun j E hj hn=>by
   have:=hl (j+1) E (by simpa using hj) hn
   rwa [show i+(j+1)=i+1+j by omega] at this
  by_cases hn:D.dst=some t
  ·have h0:=hl 0 D rfl hn
   simp only [v1s] at h0;simp only [sel,h0];cases L' i with
   | true=>exact zij r (i+1) (by rw [zf8,zf8,v1b hn,v1b hn]) hr
   | false=>exact zij r (i+1) h hr
  ·simp only [sel]
   cases L i <;> cases L' i <;> simp only [apDs]
   ·exact zij r (i+1) h hr
   ·exact zij r (i+1) (by rw [zf8,v0y hn]; exact h) hr
   ·exact zij r (i+1) (by rw [zf8,v0y hn]; exact h) hr
   ·exact zij r (i+1) (by rw [zf8,zf8,v0y hn,v0y hn]; exact h) hr
theorem ykz {L:Nat→Bool} {n:Nat}:∀ (l:List Dn) (i:Nat) {s:St},Fr n s→(∀ j D,l[j]?=some D→L (i+j)=true→zkm D.v=true∧n ∉ zcl D.v∧∀ u∈D.us,∀ m ob,(u = .new m ob∨u = .set m ob)→z6n n (some ob)=some ob)→Fr n (apDs s (sel L i l))
 | [],_,_,h,_=>h
 | D :: r,i,s,h,hl=>by
  have hr:∀ j E,r[j]?=some E→L (i+1+j)=true→zkm E.v=true∧n ∉ zcl E.v∧∀ u∈E.us,∀ m ob,(u = .new m ob∨u = .set m ob)→z6n n (some ob)=some ob:=fun j E hj hn=>by
   refine hl (j+1) E (by simpa using hj) ?_
   rwa [show i+(j+1)=i+1+j by omega]
  simp only [sel];cases hL:L i with
  | false=>exact ykz r (i+1) h hr
  | true=>
   refine ykz r (i+1) ?_ hr;obtain ⟨h1,h2,h3⟩:=hl 0 D rfl hL;refine ⟨fun t=>?_,?_⟩
   ·rw [zf8]
    split
    ·exact yg9 h1 h2
    ·exact h.t t
   ·have key:∀ (us:List Upd) (o:Store),(∀ u∈us,∀ m ob,(u = .new m ob∨u = .set m ob)→z6n n (some ob)=some ob)→(∀ m,z6n n (z09 o m)=z09 o m)→∀ m,z6n n (z09 (y0l us o) m)=z09 (y0l us o) m:=by
     intro us
     induction us with
     | nil=>intro o _ h; exact h
     | cons u us ih=>
      intro o hu ho;have hu':=fun u' hu'=>hu u' (v0b _ hu')
      cases u with
      | kill k=>exact ih _ hu' (fun m=>by rw [z02]; split <;> first | rfl | exact ho m)
      | set k ob=>exact ih _ hu' (fun m=>by rw [z02]; split <;> first | exact hu _ (v09 ..) k ob (.inr rfl) | exact ho m)
      | new k ob=>exact ih _ hu' (fun m=>by rw [z02]; split <;> first | exact hu _ (v09 ..) k ob (.inl rfl) | exact ho m)
    exact key D.us s.o h3 h.o
theorem zyj {L:Nat→Bool}:∀ (l l':List Dn) (i:Nat),sel L i (l++l')=sel L i l++sel L (i+l.length) l'
 | [],l',i=>by simp [sel]
 | D :: r,l',i=>by
  simp only [v1u,sel,v03];rw [show i+(r.length+1)=i+1+r.length by omega]
  cases L i <;> simp [zyj r l' (i+1)]
open Go Go.RowKit
theorem zr9:∀ (l:List (List Nat)) (i:Nat),zqn l i=(l[i]?).getD []
 | [],i=>by simp [zqn]
 | x :: r,0=>rfl
 | x :: r,i+1=>by simp only [zqn,zr9 r i,v1l]
theorem zlj {acc:List (List Nat)} {j:Nat}:∀ {es:List Edge},j∈zth acc es→∃ e∈es,Region.binds .any e=true∧(j=e.on∨j∈zqn acc e.on)
 | [],h=>by simp [zth] at h
 | e :: r,h=>by
  simp only [zth] at h
  split at h
  ·rename_i hb
   simp only [v17,v0o] at h;rcases h with h | h | h
   ·exact ⟨e,v09 ..,hb,.inl h⟩
   ·exact ⟨e,v09 ..,hb,.inr h⟩
   ·obtain ⟨e',h1,h2⟩:=zlj h
    exact ⟨e',v0b _ h1,h2⟩
  ·obtain ⟨e',h1,h2⟩:=zlj h
   exact ⟨e',v0b _ h1,h2⟩
def yn8 (acc:List Nat):List Nat→List Nat
 | []=>acc
 | n :: r=>match y3t n acc with
  | true=>yn8 acc r
  | false=>yn8 (n :: acc) r
theorem zo1 (k:List Nat→List (List Nat)):∀ (l acc:List Nat),ytv acc l k=k (yn8 acc l)
 | [],_=>rfl
 | n :: r,acc=>by
  simp only [ytv,yn8];cases y3t n acc with
  | true=>exact zo1 k r acc
  | false=>exact zo1 k r (n :: acc)
theorem y6k {j:Nat}:∀ {l acc:List Nat},j∈yn8 acc l→j∈acc∨j∈l
 | [],_,h=>.inl h
 | n :: r,acc,h=>by
  simp only [yn8] at h;cases hb:y3t n acc with
  | true=>
   rw [hb] at h;exact (y6k h).imp_right (v0b _)
  | false=>
   rw [hb] at h;rcases y6k h with h1 | h1
   ·rcases v17.1 h1 with rfl | h1
    ·exact .inr (v09 ..)
    ·exact .inl h1
   ·exact .inr (v0b _ h1)
theorem ykp {j:Nat} {l:List Nat} (h:j∈yn8 [] l):j∈l:=(y6k h).resolve_left (by simp)
theorem zny:∀ (l:List Oper) (acc:List (List Nat)) (i:Nat),i < acc.length→zqn (z63 acc l) i=zqn acc i
 | [],_,_,_=>rfl
 | o :: r,acc,i,h=>by
  simp only [z63,zo1];rw [zny r _ i (by simp; omega),zr9,zr9,v40 h]
theorem zna:∀ (l:List Oper) (acc:List (List Nat)) (i:Nat) (o:Oper),l[i]?=some o →
  ∃ acc',acc'.length=acc.length+i∧zqn (z63 acc l) (acc.length+i)=yn8 [] (zth acc' o.after.toList)∧∀ k,k < acc'.length→zqn acc' k=zqn (z63 acc l) k
 | [],_,_,_,h=>by simp at h
 | o :: r,acc,0,o',h=>by
  simp only [v0s,v00] at h;subst h;refine ⟨acc,rfl,?_,fun k hk=>?_⟩
  ·simp only [z63,zo1,v1s]
   rw [zny r _ acc.length (by simp),zr9]
   simp
  ·simp only [z63,zo1]
   rw [zny r _ k (by simp; omega),zr9,zr9,v40 hk]
 | o :: r,acc,i+1,o',h=>by
  simp only [v1l] at h;obtain ⟨acc',h1,h2,h3⟩:=zna r (acc++[yn8 [] (zth acc o.after.toList)]) i o' h;simp only [v08,v03,v0i] at h1 h2;refine ⟨acc',by omega,?_,fun k hk=>by rw [z63,zo1]; exact h3 k hk⟩
  rw [show acc.length+(i+1)=acc.length+(0+1)+i by omega,z63,zo1]
  exact h2
theorem zi6:∀ {l:List Oper} {k i:Nat} {o:Oper} {e:Edge},zi3 k l=true→l[i]?=some o→e∈o.after.toList→Region.binds .any e=true→e.on < k+i
 | [],_,_,_,_,_,h,_,_=>by simp at h
 | o :: r,k,0,o',e,hu,h,he,hb=>by
  simp only [v0s,v00] at h;subst h;simp only [zi3,v02] at hu;have key:∀ (es:List Edge),zi3.go k es=true→e∈es→e.on < k:=by
   intro es
   induction es with
   | nil=>intro _ h; cases h
   | cons x es ih=>
    intro hg hm;simp only [zi3.go] at hg;rcases v17.1 hm with h1 | h1
    ·subst h1
     rw [hb] at hg;simp only [v02] at hg;exact v04 hg.1
    ·split at hg
     ·simp only [v02] at hg
      exact ih hg.2 h1
     ·exact ih hg h1
  exact key _ hu.1 he
 | o :: r,k,i+1,o',e,hu,h,he,hb=>by
  simp only [v1l] at h;simp only [zi3,v02] at hu
  have:=zi6 hu.2 h he hb
  omega
section
variable {ops:List Oper}
def ypn (ops:List Oper) (L:Nat→Bool):Prop:=∀ i o,ops[i]?=some o→L i=true→∀ e∈o.after.toList,Region.binds .any e=true→L e.on=true
theorem yeo (hu:zi3 0 ops=true):∀ (i:Nat) {o:Oper},ops[i]?=some o→∀ j∈zqn (z63 [] ops) i,j < i:=by
 intro i
 induction i using Nat.strongRecOn with
 | _ i ih=>
  intro o ho j hj;obtain ⟨acc',h1,h2,h3⟩:=zna ops [] i o ho;simp only [v0i,v0p] at h1 h2;rw [h2] at hj;obtain ⟨e,he,hb,h4⟩:=zlj (ykp hj);have hlt:=zi6 hu ho he hb;rw [v0p] at hlt;rcases h4 with h4 | h4
  ·omega
  ·have hk:e.on < acc'.length:=by omega
   rw [h3 _ hk] at h4;have hlen:i < ops.length:=(List.getElem?_eq_some_iff.1 ho).1
   have:=ih e.on hlt (o:=ops[e.on]'(by omega)) (by simp [Nat.lt_trans hlt hlen]) j h4
   omega
theorem zxm {L:Nat→Bool} (hu:zi3 0 ops=true) (hL:ypn ops L):∀ (i:Nat) {o:Oper},ops[i]?=some o→(∀ e∈o.after.toList,Region.binds .any e=true→L e.on=true)→∀ j∈zqn (z63 [] ops) i,L j=true:=by
 intro i
 induction i using Nat.strongRecOn with
 | _ i ih=>
  intro o ho hr j hj;obtain ⟨acc',h1,h2,h3⟩:=zna ops [] i o ho;simp only [v0i,v0p] at h1 h2;rw [h2] at hj;obtain ⟨e,he,hb,h4⟩:=zlj (ykp hj);have hlt:=zi6 hu ho he hb;rw [v0p] at hlt;rcases h4 with h4 | h4
  ·subst h4
   exact hr e he hb
  ·have hk:e.on < acc'.length:=by omega
   rw [h3 _ hk] at h4;have hlen:i < ops.length:=(List.getElem?_eq_some_iff.1 ho).1;have hg:ops[e.on]?=some (ops[e.on]'(by omega)):=by simp [Nat.lt_trans hlt hlen]
   exact ih e.on hlt hg (hL e.on _ hg (hr e he hb)) j h4
end
theorem yl7 {d:Option Nat} {l:List Nat} (h:yto d l=false):∀ t,d=some t→t ∉ l:=by
 rintro t rfl
 exact zp8.1 h
theorem yk7 {d e:Option Nat} (h:yqo d e=false):∀ t,d=some t→e≠some t:=by
 rintro t rfl h'
 subst h';simp only [yqo] at h;exact z5k.1 h rfl
theorem y2p {ps:List (List Nat)} {pi:List Nat} {i:Nat} {x:Dn}:∀ {l:List Dn} {k j:Nat} {y:Dn},y1f ps pi i x k l=true→l[j]?=some y→i≠k+j→y7l pi (zqn ps (k+j)) i (k+j) x y=true
 | [],_,_,_,_,h,_=>by simp at h
 | z :: r,k,0,y,h,hy,hne=>by
  simp only [v0s,v00] at hy;subst hy;simp only [y1f,v02,v2n] at h;rcases h.1 with h1 | h1
  ·exact absurd (z1w.1 h1) hne
  ·exact h1
 | z :: r,k,j+1,y,h,hy,hne=>by
  simp only [v1l] at hy;simp only [y1f,v02] at h
  have:=y2p (k:=k+1) h.2 hy (by omega)
  rw [show k+(j+1)=k+1+j by omega]
  exact this
theorem y2h {ps:List (List Nat)} {all:List Dn}:∀ {l:List Dn} {k i:Nat} {x:Dn},ya6 ps all k l=true→l[i]?=some x→y1f ps (zqn ps (k+i)) (k+i) x 0 all=true
 | [],_,_,_,_,h=>by simp at h
 | z :: r,k,0,x,h,hx=>by
  simp only [v0s,v00] at hx;subst hx;simp only [ya6,v02] at h;exact h.1
 | z :: r,k,i+1,x,h,hx=>by
  simp only [v1l] at hx;simp only [ya6,v02] at h
  have:=y2h (k:=k+1) h.2 hx
  rw [show k+(i+1)=k+1+i by omega]
  exact this
theorem y22 {ds:List Nat}:∀ {l:List Nat},yet ds l=true→∀ n∈l,zuw ds n=true
 | [],_,n,h=>by cases h
 | m :: r,h,n,hn=>by
  simp only [yet,v02] at h;rcases v17.1 hn with e | e
  ·subst e; exact h.1
  ·exact y22 h.2 n e
theorem zws {ds:List Nat}:∀ {l:List Dn} {i:Nat} {x:Dn},yk5 ds l=true→l[i]?=some x→zkm x.v=true∧yj1 x.us=true∧∀ n∈zuc x.us,zuw ds n=true
 | [],_,_,_,h=>by simp at h
 | z :: r,0,x,h,hx=>by
  simp only [v0s,v00] at hx;subst hx;simp only [yk5,v02] at h;exact ⟨h.1,h.2.1,y22 h.2.2.1⟩
 | z :: r,i+1,x,h,hx=>by
  simp only [v1l] at hx;simp only [yk5,v02] at h;exact zws h.2.2.2 hx
theorem ygi {n:Nat}:∀ {us:List Upd},yj1 us=true→n ∉ ypk us→∀ u∈us,∀ m ob,(u = .new m ob∨u = .set m ob)→z6n n (some ob)=some ob
 | [],_,_,u,hu,_,_,_=>by cases hu
 | u :: r,ho,hn,u',hu',m,ob,he=>by
  have h1:yj1 r=true∧n ∉ ypk r∧(∀ m ob,(u = .new m ob∨u = .set m ob)→z6n n (some ob)=some ob):=by
   cases u with
   | kill k=>exact ⟨ho,hn,fun m ob h=>by rcases h with h | h <;> cases h⟩
   | set k ob'=>
    simp only [yj1,v02] at ho;simp only [ypk,v0o,not_or] at hn;refine ⟨ho.2.2,hn.2,fun m ob h=>?_⟩
    rcases h with h | h <;> cases h
    exact zqd ho.1 hn.1
   | new k ob'=>
    simp only [yj1,v02] at ho;simp only [ypk,v0o,not_or] at hn;refine ⟨ho.2.2,hn.2,fun m ob h=>?_⟩
    rcases h with h | h <;> cases h
    exact zqd ho.1 hn.1
  rcases v17.1 hu' with h | h
  ·subst h
   exact h1.2.2 m ob he
  ·exact ygi h1.1 h1.2.1 u' h m ob he
theorem zrl {t:Nat}:∀ {l:List Operand},Operand.tmp t∈l→t∈zxn l
 | x :: r,h=>by
  rcases v17.1 h with h1 | h1
  ·subst h1; exact v09 ..
  ·cases x <;> simp only [zxn,v17] <;> first | exact .inr (zrl h1) | exact zrl h1
theorem y8a {α:Type} {p q:α→Bool}:∀ {l:List α},(∀ x∈l,q x=true→p x=true)→(∃ x∈l,p x=true∧q x=false)→l.countP q < l.countP p
 | [],_,⟨_,h,_⟩=>by cases h
 | y :: r,h,⟨x,hx,h1,h2⟩=>by
  have hr:r.countP q≤r.countP p:=by
   clear hx;have h':∀ x∈r,q x=true→p x=true:=fun x hx=>h x (v0b _ hx)
   exact List.countP_mono_left h'
  rcases v17.1 hx with e | e
  ·subst e
   rw [v3r h1,List.countP_cons_of_neg (by simp [h2])]
   omega
  ·have:=y8a (l:=r) (fun x hx=>h x (v0b _ hx)) ⟨x,e,h1,h2⟩
   by_cases hq:q y=true
   ·rw [v3r (h y (v09 ..) hq),v3r hq]
    omega
   ·rw [List.countP_cons_of_neg hq]
    by_cases hp:p y=true
    ·rw [v3r hp]; omega
    ·rw [List.countP_cons_of_neg hp]; omega
section
variable {B:BT} {nt:Nat} {w0:World} {X:Zone} {γ:Nat→Value} {st st':St} {a:Act} {w:World} {P:Program} {E:Env}
variable (hT:TiOK P B E) (hE:∀ t,t∈E.eqs→EqSnd P t (E.tyd t).ks) (hSp:SpOK P B E w0 X) (hB:BldOK P B E) (hnt:E.nt=nt) (hn9:nt≤900000)
include hT hE hSp hB hnt hn9
theorem yom {Q:Exit→Act→World→Prop} {ops:Array Oper} {s0:St} {Ds:List Dn} (hs:Steps E ops.toList ops.toList s0 Ds) (hfree:yqq ops.toList Ds=true)
  (hfr:∀ n,zuw (zwu ops.toList) n=true→Fr n s0) (hQ:∀ γ' a' w',Rel B nt w0 X γ' (apDs s0 Ds) a' w'→Q .normal a' w') :
  ∀ (fuel:Nat) (listed:Array Bool) {γ:Nat→Value} {a:Act} {w:World},listed.size=ops.size→ypn ops.toList (fun i=>listed.getD i false) →
   (List.range ops.size).countP (fun i=>!listed.getD i false)≤fuel→Rel B nt w0 X γ (apDs s0 (sel (fun i=>listed.getD i false) 0 Ds)) a w→wpAny P .any ops Q fuel listed a w:=by
 have hlen:Ds.length=ops.size:=by simpa using hs.length
 simp only [yqq,v02] at hfree;obtain ⟨hup,hone,hpairs⟩:=hfree;have hgd:∀ (listed:Array Bool) (i:Nat),listed.size=ops.size→i < ops.size→listed.getD i true=listed.getD i false:=fun listed i h1 h2=>by
  simp [Array.getD,h1,h2]
 have hready:∀ (listed:Array Bool) (i:Nat),listed.size=ops.size→(i∈Region.ready .any ops listed↔∃ o,ops.toList[i]?=some o∧listed.getD i false=false∧∀ e∈o.after.toList,Region.binds .any e=true→listed.getD e.on false=true):=by
  intro listed i hsz;simp only [Region.ready,List.mem_filter,List.mem_range,v02,v12];constructor
  ·rintro ⟨h1,h2,h3⟩
   refine ⟨ops[i],by simp [h1],by rw [← hgd listed i hsz h1]; exact h2,fun e he hb=>?_⟩
   simp only [Array.getElem?_eq_getElem h1,v2k,v2c,Array.all_eq_true_iff_forall_mem,v2n,v12] at h3;rcases h3 e (by simpa using he) with h4 | h4
   ·rw [hb] at h4; cases h4
   ·exact h4
  ·rintro ⟨o,ho,h2,h3⟩
   obtain ⟨h1,rfl⟩:=List.getElem?_eq_some_iff.1 ho;simp only [v19] at h1;refine ⟨h1,by rw [hgd listed i hsz h1]; exact h2,?_⟩
   simp only [Array.getElem?_eq_getElem h1,v2k,v2c,Array.all_eq_true_iff_forall_mem,v2n,v12];intro e he;cases hb:Region.binds .any e with
   | false=>exact .inl rfl
   | true=>exact .inr (h3 e (by simpa using he) hb)
 have hend:∀ (listed:Array Bool) {γ:Nat→Value} {a:Act} {w:World},(∀ i,i < ops.size→listed.getD i false=true)→Rel B nt w0 X γ (apDs s0 (sel (fun i=>listed.getD i false) 0 Ds)) a w→Q .normal a w:=by
  intro listed γ a w hall h;rw [zh6 (L':=fun _=>true) _ _ (fun j _ h2=>hall j (by omega)),yjn] at h
  exact hQ γ a w h
 have hnil:∀ (listed:Array Bool),listed.size=ops.size→Region.ready .any ops listed=[]→∀ i,i < ops.size→listed.getD i false=true:=by
  intro listed hsz hr i
  induction i using Nat.strongRecOn with
  | _ i ih=>
   intro hi;cases hL:listed.getD i false with
   | true=>rfl
   | false=>
    exfalso;have hm:i∈Region.ready .any ops listed:=by
     refine (hready listed i hsz).2 ⟨ops[i],by simp [hi],hL,fun e he hb=>?_⟩
     have:=zi6 (i:=i) hup (by simp [hi]:ops.toList[i]?=some ops[i]) he hb
     exact ih e.on (by omega) (by omega)
    rw [hr] at hm;cases hm
 intro fuel
 induction fuel with
 | zero=>
  intro listed γ a w hsz hcl hcount h;have hall:∀ i,i < ops.size→listed.getD i false=true:=by
   intro i hi;have h0:(List.range ops.size).countP (fun i=>!listed.getD i false)=0:=by omega
   have:=(List.countP_eq_zero.1 h0) i (List.mem_range.2 hi)
   simpa using this
  refine ⟨?_,hend listed hall h⟩;refine List.eq_nil_iff_forall_not_mem.2 (fun i hi=>?_)
  obtain ⟨o,ho,h2,_⟩:=(hready listed i hsz).1 hi;have h1:i < ops.size:=by simpa using (List.getElem?_eq_some_iff.1 ho).1
  rw [hall i h1] at h2;cases h2
 | succ fuel ih=>
  intro listed γ a w hsz hcl hcount h;refine ⟨fun hr=>hend listed (hnil listed hsz hr) h,fun i hi=>?_⟩
  obtain ⟨o,ho,hLi,hedges⟩:=(hready listed i hsz).1 hi;have hi':i < ops.size:=by simpa using (List.getElem?_eq_some_iff.1 ho).1
  have hoi:ops[i]?=some o:=by simpa using ho
  obtain ⟨D,hD⟩:∃ D,Ds[i]?=some D:=⟨Ds[i]'(by omega),by simp [hlen,hi']⟩
  generalize hLdef:(fun i=>listed.getD i false)=L at *
  have hL:∀ j,listed.getD j false=L j:=fun j=>congrFun hLdef j
  simp only [hL] at hLi hedges;have hin:∀ j∈zqn (z63 [] ops.toList) i,L j=true:=zxm hup hcl i ho hedges;have hout:∀ j D',Ds[j]?=some D'→L j=true→i ∉ zqn (z63 [] ops.toList) j:=by
   intro j D' hj hLj hm;have hj':j < ops.size:=by have:=(List.getElem?_eq_some_iff.1 hj).1; omega
   have hoj:ops.toList[j]?=some ops[j]:=by simp [hj']
   have:=zxm hup hcl j hoj (hcl j _ hoj hLj) i hm
   rw [hLi] at this;cases this
  have hlt:∀ j,j∈zqn (z63 [] ops.toList) i→j < i:=yeo hup i ho;have hltj:∀ j D',Ds[j]?=some D'→i∈zqn (z63 [] ops.toList) j→i < j:=by
   intro j D' hj hm;have hj':j < ops.size:=by have:=(List.getElem?_eq_some_iff.1 hj).1; omega
   exact yeo hup j (by simp [hj']:ops.toList[j]?=some ops[j]) i hm
  have hpair:∀ j D',Ds[j]?=some D'→i≠j→y7l (zqn (z63 [] ops.toList) i) (zqn (z63 [] ops.toList) j) i j D D'=true:=by
   intro j D' hj hne;have h1:=y2h (k:=0) hpairs hD;rw [v0p] at h1;have h2:=y2p (k:=0) h1 hj (by omega)
   rwa [v0p] at h2
  have hunord:∀ j D',Ds[j]?=some D'→i≠j→i ∉ zqn (z63 [] ops.toList) j→j ∉ zqn (z63 [] ops.toList) i →
    (∀ t,D'.dst=some t→t ∉ D.tm)∧(∀ t,D.dst=some t→D'.dst≠some t)∧(∀ n∈z8q D'.us,n ∉ D.rd)∧(∀ n∈z8q D.us,n ∉ z8q D'.us):=by
   intro j D' hj hne h1 h2;have hp:=hpair j D' hj hne;simp only [y7l,zp8.2 h1,zp8.2 h2,v02,v12] at hp;exact ⟨yl7 hp.2.1,yk7 hp.2.2.1,zm2.1 hp.2.2.2.1,zm2.1 hp.2.2.2.2⟩
  have hdiff:∀ j D',Ds[j]?=some D'→L j≠decide (j < i)→i≠j∧i ∉ zqn (z63 [] ops.toList) j∧j ∉ zqn (z63 [] ops.toList) i:=by
   intro j D' hj hne;cases hLj:L j with
   | true=>
    rw [hLj] at hne;have hji:¬ j < i:=fun h=>hne (by simp [h])
    have hij:i≠j:=fun e=>by subst e; rw [hLi] at hLj; cases hLj
    exact ⟨hij,hout j D' hj hLj,fun hm=>hji (hlt j hm)⟩
   | false=>
    rw [hLj] at hne;have hji:j < i:=by
     rcases v1y j i with h | h
     ·exact h
     ·exact absurd (by simp; omega) hne
    refine ⟨by omega,fun hm=>?_,fun hm=>?_⟩
    ·have:=hltj j D' hj hm; omega
    ·have:=hin j hm; rw [hLj] at this; cases this
  have hstep:=Steps.get hs ho hD;have htake:apDs s0 (Ds.take i)=apDs s0 (sel (fun j=>decide (j < i)) 0 Ds):=by
   have:=yps i Ds 0
   rw [v0p] at this;rw [this]
  rw [htake] at hstep;have hobj:∀ n∈D.rd,z09 (apDs s0 (sel L 0 Ds)).o n=z09 (apDs s0 (sel (fun j=>decide (j < i)) 0 Ds)).o n:=by
   intro n hn;refine ziq Ds 0 rfl (fun j D' hj hnm=>?_)
   rw [v0p];refine Decidable.byContradiction (fun hne=>?_)
   obtain ⟨h1,h2,h3⟩:=hdiff j D' hj hne;exact (hunord j D' hj h1 h2 h3).2.2.1 n hnm hn
  have htm:∀ t∈D.tm,(apDs s0 (sel L 0 Ds)).get t=(apDs s0 (sel (fun j=>decide (j < i)) 0 Ds)).get t:=by
   intro t ht;refine zij Ds 0 rfl (fun j D' hj hnm=>?_)
   rw [v0p];refine Decidable.byContradiction (fun hne=>?_)
   obtain ⟨h1,h2,h3⟩:=hdiff j D' hj hne;exact (hunord j D' hj h1 h2 h3).1 t hnm ht
  have hafter:SEq (apD (apDs s0 (sel L 0 Ds)) D) (apDs s0 (sel (fun j=>(listed.setIfInBounds i true).getD j false) 0 Ds)):=by
   have hset:∀ j,(listed.setIfInBounds i true).getD j false=(L j||Nat.beq j i):=by
    intro j;rw [← hL j];simp only [v2j,Array.getElem?_setIfInBounds,hsz]
    by_cases e:i=j
    ·subst e
     simp [hi',v3j]
    ·rw [v0y e,z5k.2 (fun h=>e h.symm),v3s]
   rw [show (fun j=>(listed.setIfInBounds i true).getD j false)=(fun j=>L j||Nat.beq j i) from funext hset]
   have hsplit:Ds=Ds.take i++D :: Ds.drop (i+1):=by
    have hi2:i < Ds.length:=by omega
    have h1:Ds[i]=D:=by have:=List.getElem?_eq_some_iff.1 hD; exact this.2
    rw [← h1];simp
   have hlate:∀ j D',(Ds.drop (i+1))[j]?=some D'→L (i+1+j)=true→(∀ t,D.dst=some t→D'.dst≠some t)∧∀ n∈z8q D.us,n ∉ z8q D'.us:=by
    intro j D' hj hLj;have hj':Ds[i+1+j]?=some D':=by rw [← hj,v27]
    have h2:=hout _ D' hj' hLj;have h3:i+1+j ∉ zqn (z63 [] ops.toList) i:=fun hm=>by have:=hlt _ hm; omega
    exact ⟨(hunord _ D' hj' (by omega) h2 h3).2.1,(hunord _ D' hj' (by omega) h2 h3).2.2.2⟩
   have hli:(Ds.take i).length=i:=by simp; omega
   have hR:∀ s,apDs s (sel (fun j=>L j||Nat.beq j i) 0 Ds)=apDs (apD (apDs s (sel L 0 (Ds.take i))) D) (sel L (i+1) (Ds.drop (i+1))):=by
    intro s;rw [show sel (fun j=>L j||Nat.beq j i) 0 Ds=sel (fun j=>L j||Nat.beq j i) 0 (Ds.take i++D :: Ds.drop (i+1)) by rw [← hsplit]]
    rw [zyj,znb,hli,v0p];simp only [sel,v3j,Bool.or_true,apDs];rw [zh6 (L':=L) (Ds.take i) 0 (fun j _ h2=>by rw [z5k.2 (by omega),v3s]),zh6 (L':=L) (Ds.drop (i+1)) (i+1) (fun j h1 _=>by rw [z5k.2 (by omega),v3s])]
   have hLs:∀ s,apDs s (sel L 0 Ds)=apDs (apDs s (sel L 0 (Ds.take i))) (sel L (i+1) (Ds.drop (i+1))):=by
    intro s;rw [show sel L 0 Ds=sel L 0 (Ds.take i++D :: Ds.drop (i+1)) by rw [← hsplit]]
    rw [zyj,znb,hli,v0p];simp only [sel,hLi]
   rw [hR,hLs];generalize apDs s0 (sel L 0 (Ds.take i))=s1;refine ⟨fun t=>?_,fun n=>?_⟩
   ·by_cases e:D.dst=some t
    ·rw [zf8,v1b e]
     have:(apDs (apD s1 D) (sel L (i+1) (Ds.drop (i+1)))).get t=(apDs (apD s1 D) (sel (fun _=>false) (i+1) (Ds.drop (i+1)))).get t:=by
      refine zij _ _ rfl (fun j D' hj hd=>?_)
      cases hLj:L (i+1+j) with
      | false=>rfl
      | true=>exact absurd hd ((hlate j D' hj hLj).1 t e)
     rw [this,zpi];simp only [apDs];rw [zf8,v1b e]
    ·rw [zf8,v0y e]
     exact zij _ _ (by rw [zf8,v0y e]) (fun _ _ _ _=>rfl)
   ·by_cases e:n∈z8q D.us
    ·have:z09 (apDs (apD s1 D) (sel L (i+1) (Ds.drop (i+1)))).o n=z09 (apDs (apD s1 D) (sel (fun _=>false) (i+1) (Ds.drop (i+1)))).o n:=by
      refine ziq _ _ rfl (fun j D' hj hd=>?_)
      cases hLj:L (i+1+j) with
      | false=>rfl
      | true=>exact absurd hd ((hlate j D' hj hLj).2 n e)
     rw [this,zpi];exact ybi e
    ·have h1:z09 (apD (apDs s1 (sel L (i+1) (Ds.drop (i+1)))) D).o n=z09 (apDs s1 (sel L (i+1) (Ds.drop (i+1)))).o n:=zgh e
     rw [h1];exact ziq _ _ (zgh e).symm (fun _ _ _ _=>rfl)
  have hnext:∀ γ' a' w',Rel B nt w0 X γ' (apD (apDs s0 (sel L 0 Ds)) D) a' w'→wpAny P .any ops Q fuel (listed.setIfInBounds i true) a' w':=by
   intro γ' a' w' h';have hset:∀ j,(listed.setIfInBounds i true).getD j false=(L j||Nat.beq j i):=by
    intro j;rw [← hL j];simp only [v2j,Array.getElem?_setIfInBounds,hsz]
    by_cases e:i=j
    ·subst e
     simp [hi',v3j]
    ·rw [v0y e,z5k.2 (fun h=>e h.symm),v3s]
   refine ih (listed.setIfInBounds i true) (by simpa using hsz) ?_ ?_ (h'.seq hafter)
   ·intro j o' ho' hLj e he hb
    simp only [hset] at hLj ⊢
    by_cases e':j=i
    ·subst e'
     rw [ho] at ho';simp only [v00] at ho';subst ho';rw [hedges e he hb]
     rfl
    ·rw [z5k.2 e',v3s] at hLj
     rw [hcl j o' ho' hLj e he hb]
     rfl
   ·have:(List.range ops.size).countP (fun j=>!(listed.setIfInBounds i true).getD j false) < (List.range ops.size).countP (fun j=>!listed.getD j false):=by
     refine y8a (fun j _ hj=>?_) ⟨i,List.mem_range.2 hi',by rw [hL,hLi]; rfl,by rw [hset,v3j,Bool.or_true]; rfl⟩
     rw [hset] at hj;rw [hL];cases hLj:L j <;> simp_all
    simp only [hL] at this hcount;omega
  obtain ⟨hok,hdst,htms,hguard⟩:=hstep;have hclean:=zws hone hD;have run:(z6a E (apDs s0 (sel (fun j=>decide (j < i)) 0 Ds)).o (opd (apDs s0 (sel (fun j=>decide (j < i)) 0 Ds))) o.dst o.op).get=some (D.v,D.us)→D.rd=reads E (apDs s0 (sel (fun j=>decide (j < i)) 0 Ds)).o (opd (apDs s0 (sel (fun j=>decide (j < i)) 0 Ds))) o.op →
    (∀ x∈o.op.operands.toList,∀ t,x = .tmp t→t∈D.tm)→o.wp P a w (wpAny P .any ops Q fuel (listed.setIfInBounds i true)) Q:=by
   intro he hrd htmo;have h1:z6a E (apDs s0 (sel L 0 Ds)).o (opd (apDs s0 (sel L 0 Ds))) o.dst o.op=z6a E (apDs s0 (sel (fun j=>decide (j < i)) 0 Ds)).o (opd (apDs s0 (sel (fun j=>decide (j < i)) 0 Ds))) o.dst o.op:=by
    rw [ygp (ρ:=opd (apDs s0 (sel L 0 Ds))) (ρ':=opd (apDs s0 (sel (fun j=>decide (j < i)) 0 Ds))) (fun x hx=>?_)]
    ·exact y2f (fun n hn=>hobj n (by rw [hrd]; exact hn))
    ·cases x with
     | tmp t=>exact htm t (htmo _ hx t rfl)
     | _=>rfl
   rw [← h1] at he;have hn9':∀ d,o.dst=some d→d≠900000:=fun d hdd e=>by
    subst e;rw [hdd] at hok;simp only [zy7] at hok;have h8:900000+1≤E.nt:=v04 hok;omega
   refine ypc hT hE hSp hB h o hn9' he _ _ (fun γ' x w' h3 h4=>hnext γ' _ w' ?_)
   refine (h3.put hnt hok h4).seq ?_;have hfr':∀ n∈zuc D.us,Fr n (apDs s0 (sel L 0 Ds)):=by
    intro n hn;refine ykz Ds 0 (hfr n (hclean.2.2 n hn)) (fun j D' hj hLj=>?_)
    rw [v0p] at hLj;have hne:i≠j:=fun e=>by subst e; rw [hLi] at hLj; cases hLj
    have hp:=hpair j D' hj hne;simp only [y7l,zp8.2 (hout j D' hj hLj),v02] at hp;have hdj:=zm2.1 hp.1 n hn;simp only [v0o,not_or] at hdj;have hc':=zws hone hj;exact ⟨hc'.1,hdj.1,ygi hc'.2.1 hdj.2⟩
   have:=(y3u hfr' hclean.2.1).put o.dst D.v
   refine this.trans ?_;rw [← hdst];cases hdd:D.dst <;> exact ⟨fun t=>by simp only [apD,hdd,St.put]; try rfl,fun n=>by simp only [apD,St.put]⟩
  unfold wpOp;rw [hoi];simp only;have htmo:∀ x∈o.op.operands.toList,∀ t,x = .tmp t→t∈D.tm:=by
   rintro x hx t rfl
   have:=zrl hx
   rw [htms];unfold zm6
   split
   ·split
    ·exact v0b _ this
    ·exact this
   ·exact this
  split at hguard
  ·rename_i hg
   rw [v1b (by simp [Region.wanted,hg])]
   exact .inl (run hguard.1 hguard.2 htmo)
  ·rename_i j b hg
   have skip:D.v = .tup []→D.us=[]→Region.wanted o (yielded ops a.tmps)=false→(if Region.wanted o (yielded ops a.tmps)=true then o.wp P a w (wpAny P .any ops Q fuel (listed.setIfInBounds i true)) Q∨(o.asks P a w∧LetsOut Q) else wpAny P .any ops Q fuel (listed.setIfInBounds i true) (a.put o.dst undef) w):=by
    intro h1 h2 h3;rw [v0y (by rw [h3]; simp)]
    refine hnext γ _ w ?_;refine (h.put hnt hok (v:=.tup []) (x:=undef) (by simp only [VRel]; exact ⟨#[],rfl,by simp only [VRels]⟩)).seq ?_
    rw [← hdst,← h1];cases hdd:D.dst <;> exact ⟨fun t=>by simp only [apD,hdd,St.put]; try rfl,fun n=>by simp only [apD,St.put,h2,y0l]⟩
   have hdjm0:∀ dj,zu1 ops.toList j=some dj→dj∈D.tm:=by
    intro dj hdj;rw [htms];unfold zm6;rw [hg];simp only [hdj];exact v09 ..
   rcases hguard with ⟨dj,c,hdj,hc,hcase⟩ | ⟨dj,hdj,hc,h1,h2⟩
   case inr=>
    rw [← htm dj (hdjm0 dj hdj)] at hc;have hy:yielded ops a.tmps j=none:=by
     unfold yielded;rw [show ops[j]?=ops.toList[j]? by simp,zqh _ _ _ hdj]
     rcases y84 h hc with h0 | h0 <;> simp [h0]
    exact skip h1 h2 (by simp [Region.wanted,hg,hy])
   have hdjm:dj∈D.tm:=by
    rw [htms];unfold zm6;rw [hg];simp only [hdj];exact v09 ..
   rw [← htm dj hdjm] at hc;have hy:yielded ops a.tmps j=some c:=by
    unfold yielded;rw [show ops[j]?=ops.toList[j]? by simp,zqh _ _ _ hdj]
    simp [yfj h hc]
   rcases hcase with ⟨rfl,h1,h2⟩ | ⟨hne,h1,h2⟩
   ·rw [v1b (by simp [Region.wanted,hg,hy])]
    exact .inl (run h1 h2 htmo)
   ·exact skip h1 h2 (by simp [Region.wanted,hg,hy,hne])
theorem yix {Q:Exit→Act→World→Prop} (hm:P.follows .mixedOrders=true) {r:V × List (List V)} {id:Nat} {ops:Array Oper} {k:St→Res} {γ:Nat→Value} {st:St} {a:Act} {w:World}
  (he:ykv E ops.toList st k=some r) (h:Rel B nt w0 X γ st a w) (hk:∀ γ' st' a' w',Rel B nt w0 X γ' st' a' w'→k st'=some r→Q .normal a' w'):(Code.region id ops true).wp P Q a w:=by
 refine wp_region_any hm ?_;unfold ykv at he;obtain ⟨Ds,s',h1,h2,h3⟩:=yax ops.toList he
 split at h3
 ·rename_i hf
  simp only [v2a,List.reverse_reverse] at hf;have h0:Rel B nt w0 X γ (zgc (zwu ops.toList) st) a { w with drawn:=w.drawn+1 }:=(h.clear (zwu ops.toList)).world (Keep.drew _ w)
  refine yom hT hE hSp hB hnt hn9 h1 hf (fun n hn=>yn4 hn st) (fun γ' a' w' h'=>hk γ' s' a' w' (h'.seq h2.symm) h3) ops.size (Array.replicate ops.size false) (by simp) ?_ ?_ (γ:=γ) ?_
  ·intro i o ho hL
   have hi:i < ops.size:=by simpa using (List.getElem?_eq_some_iff.1 ho).1
   simp [Array.getD,hi] at hL
  ·refine v1n (List.countP_le_length) ?_
   simp
  ·rw [zh6 (L':=fun _=>false) _ _ (fun j _ _=>by simp [Array.getD]),zpi]
   exact h0
 ·cases h3
end
open Go Go.RowKit
section
variable {B:BT} {nt:Nat} {w0:World} {X:Zone} {γ:Nat→Value} {st st':St} {a:Act} {w:World} {P:Program} {E:Env}
theorem zq5 (s:St):∀ (l:List Nat) (i:Nat),lkd .any (ya2 s l) i=s.get i∨lkd .any (ya2 s l) i = .any
 | [],i=>.inr rfl
 | j :: r,i=>by
  simp only [ya2,zd0]
  by_cases e:j=i
  ·subst e; simp
  ·simp only [v0y e]
   exact zq5 s r i
theorem y8r (s:St):∀ (l:List Nat) (n:Nat) (ob:Ob),z09 (ymn s l) n=some ob→z09 s.o n=some ob
 | [],n,ob,h=>by simp [ymn,z09,lkd] at h
 | j :: r,n,ob,h=>by
  simp only [ymn,z02] at h
  split at h
  ·rename_i e
   subst e;exact h
  ·exact y8r s r n ob h
theorem Rel.prune (h:Rel B nt w0 X γ st a w) (kp:Option (List Nat)):Rel B nt w0 X γ (prune kp st) a w:=by
 cases kp with
 | none=>exact h
 | some l=>exact h.less (fun i=>zq5 st l i) (fun _ _ h=>h)
theorem VRels.putOne {γ:Nat→Value} {o:Store} {w:World} {O:Nat→Prop} {v:V} {x:Value} (hv:VRel γ o w O v x):∀ {cs:List V} {xs:List Value} {c:Nat},VRels γ o w O cs xs→xs[c]?=some x→VRels γ o w O (zll cs c [v]) xs
 | [],[],_,_,h=>by simp at h
 | [],_ :: _,_,h,_=>by simp only [VRels] at h
 | _ :: _,[],_,h,_=>by simp only [VRels] at h
 | u :: cs,y :: xs,0,h,hx=>by
  simp only [VRels] at h;simp only [v0s,v00] at hx;subst hx
  have:zll cs 0 []=cs:=by cases cs <;> rfl
  simp only [zll,this,VRels];exact ⟨hv,h.2⟩
 | u :: cs,y :: xs,c+1,h,hx=>by
  simp only [VRels] at h;simp only [v1l] at hx;simp only [zll,VRels];exact ⟨h.1,VRels.putOne hv h.2 hx⟩
def yv3 (γ:Nat→Value) (o:Store) (w:World) (a:Act) (x:Value):Loc→Prop
 | .tmp t=>x=a.tmps.getD t undef
 | .cell b c=>∃ cs bb T cc,z09 o b=some (.box cs)∧γ b = .pointer (some ⟨bb,0,none⟩)∧w.heap[bb]?=some (.cells cc T (0,0))∧cc.toList[c]?=some x
def yqi (γ:Nat→Value) (o:Store) (w:World) (a:Act) (x:Value):Loc→Prop
 | .tmp t=>x=a.tmps.getD t undef
 | .cell b c=>∀ cs,z09 o b=some (.box cs)→∃ bb T cc,γ b = .pointer (some ⟨bb,0,none⟩)∧w.heap[bb]?=some (.cells cc T (0,0))∧cc.toList[c]?=some x
theorem Rel.at (h:Rel B nt w0 X γ st a w) (l:Loc) {v:V} (hv:yuw st l=v) (hne:v≠.any):∃ x,VRel γ st.o w (z0c X γ st.o) v x ∧
  yv3 γ st.o w a x l:=by
 subst hv;cases l with
 | tmp t=>exact ⟨_,h.tm t,rfl⟩
 | cell b c=>
  simp only [yuw] at hne ⊢
  split at hne
  ·rename_i cs hob
   have hor:=h.ob b _ hob;simp only [ObRel] at hor;obtain ⟨bb,cc,T,hg,hh,hr⟩:=hor;rw [zwd] at hne ⊢
   cases hc:cs[c]? with
   | none=>rw [hc] at hne; exact absurd rfl hne
   | some u=>
    obtain ⟨x,hx,hrx⟩:=hr.get hc;exact ⟨x,hrx,cs,bb,T,cc,hob,hg,hh,hx⟩
  ·exact absurd rfl hne
theorem Rel.putLoc {γ2:Nat→Value} {st2:St} (h2:Rel B nt w0 X γ2 st2 a w) (l:Loc) {v:V} {x:Value} (hv:VRel γ2 st2.o w (z0c X γ2 st2.o) v x)
  (hx:yqi γ2 st2.o w a x l):Rel B nt w0 X γ2 (putLoc st2 v l) a w:=by
 cases l with
 | tmp t=>
  simp only [yqi] at hx;subst hx;refine ⟨h2.sz,h2.df,fun i=>?_,h2.ob,h2.lt,h2.dis,h2.keep,h2.nr,h2.fl,h2.pn⟩
  simp only [FM.putLoc,St.get,zd0]
  split
  ·rename_i e
   subst e;exact hv
  ·exact h2.tm i
 | cell b c=>
  simp only [FM.putLoc]
  split
  ·rename_i cs hob
   simp only [yqi] at hx;obtain ⟨bb,T,cc,hg,hh,hcx⟩:=hx cs hob;have hob':∀ m,z09 ((b,some (.box (zll cs c [v]))) :: st2.o) m=if b=m then some (.box (zll cs c [v])) else z09 st2.o m:=fun m=>z02 ..
   have hlen:(zll cs c [v]).length=cs.length:=by
    have key:∀ (cs:List V) (c:Nat),(zll cs c [v]).length=cs.length:=by
     intro cs
     induction cs with
     | nil=>intro c; cases c <;> rfl
     | cons u r ih=>
      intro c;cases c with
      | zero=>
       have:zll r 0 []=r:=by cases r <;> rfl
       simp [zll,this]
      | succ c=>simp [zll,ih]
    exact key cs c
   have hP:∀ b',z1y γ2 ((b,some (.box (zll cs c [v]))) :: st2.o) b'→z1y γ2 st2.o b':=by
    rintro b' ⟨m,ob,hm,hb⟩
    rw [hob'] at hm
    split at hm
    ·rename_i e
     subst e;simp only [v00] at hm;subst hm;exact ⟨_,_,hob,hb⟩
    ·exact ⟨m,ob,hm,hb⟩
   have hO:∀ b',b' < w.heap.size→z0c X γ2 ((b,some (.box (zll cs c [v]))) :: st2.o) b'→z0c X γ2 st2.o b':=fun b' _ hb=>hb.imp_left (hP b')
   have hc:Cmp γ2 st2.o γ2 ((b,some (.box (zll cs c [v]))) :: st2.o):=by
    intro m ob' hm;rw [hob'] at hm
    split at hm
    ·rename_i e
     subst e;simp only [v00] at hm;subst hm;exact ⟨rfl,_,hob,hlen.symm⟩
    ·exact ⟨rfl,ob',hm,ob'.fits_refl⟩
   refine ⟨h2.sz,h2.df,fun i=>VRel.mono (Keep.refl _ w) hO (VRel.cmp hc (h2.tm i)),fun m ob hm=>?_,fun b' hb=>h2.lt b' (hP b' hb),fun m1 m2 ob1 ob2 b' hne h3 h4 hb1 hb2=>?_,h2.keep,fun b' hb=>h2.nr b' (hP b' hb),h2.fl,fun p hp ob hm=>?_⟩
   ·simp only at hm ⊢
    rw [hob'] at hm
    split at hm
    ·rename_i e
     subst e;simp only [v00] at hm;subst hm;have hor:=h2.ob _ _ hob;simp only [ObRel] at hor ⊢
     obtain ⟨bb',cc',T',hg',hh',hr'⟩:=hor;rw [hg] at hg';simp only [Value.pointer.injEq,v00,Addr.mk.injEq,v1c] at hg';subst hg';rw [hh] at hh';simp only [v00,Obj.cells.injEq] at hh';obtain ⟨rfl,rfl,_⟩:=hh';exact ⟨bb,cc,T,hg,hh,VRels.mono (Keep.refl _ w) hO (VRels.cmp hc (VRels.putOne hv hr' hcx))⟩
    ·exact (h2.ob m ob hm).later (fun _ _=>rfl) (Keep.refl _ w) hO hc
   ·have key:∀ m ob,z09 ((b,some (.box (zll cs c [v]))) :: st2.o) m=some ob→z0q (γ2 m) ob b'→∃ ob0,z09 st2.o m=some ob0∧z0q (γ2 m) ob0 b':=by
     intro m ob hm hb;rw [hob'] at hm
     split at hm
     ·rename_i e
      subst e;simp only [v00] at hm;subst hm;exact ⟨_,hob,hb⟩
     ·exact ⟨ob,hm,hb⟩
    obtain ⟨o1,q1,q2⟩:=key m1 ob1 h3 hb1;obtain ⟨o2,q3,q4⟩:=key m2 ob2 h4 hb2;exact h2.dis m1 m2 o1 o2 b' hne q1 q3 q2 q4
   ·simp only at hm
    rw [hob'] at hm
    split at hm
    ·rename_i e
     exact h2.pn p hp _ (e ▸ hob)
    ·exact h2.pn p hp ob hm
  ·exact h2
theorem Rel.canon1 (h:Rel B nt w0 X γ st a w) (c:Can):∃ γ',Rel B nt w0 X γ' (canon1 c st) a w:=by
 unfold FM.canon1
 split
 ·exact ⟨γ,h⟩
 rename_i h9;have h9:=z5k.1 h9
 split
 ·rename_i hv
  split
  ·rename_i hks
   have hks':0 < c.ks.length:=v04 hks;obtain ⟨x,hx,hat⟩:=h.at c.loc hv (by simp)
   simp only [VRel] at hx;have hadd:=h.add c.nm h9 (.row true c.e c.ag c.ks []) (.slice none 0 0) (fun b hb=>by simp [z0q,Value.ownBlock] at hb) (fun O' hO'=>by
    simp only [ObRel];exact ⟨hks',by simp [strMax],[],⟨by simp,.inl ⟨rfl,rfl⟩⟩,fun i y hy=>by simp at hy⟩)
   have hadd:=hadd.shrink (F:=X.far) (fun b hb=>⟨hb,fun hb'=>by simp [z0q,Value.ownBlock] at hb'⟩)
   refine ⟨_,hadd.putLoc c.loc (x:=x) ?_ ?_⟩
   ·simp only [VRel,z0g,v1t]
    subst hx;exact ⟨v0a _,none,0,0,none,rfl,rfl,v0a _,v0a _,v0a _,by simp [maxLen],.inl rfl,fun _=>rfl⟩
   ·revert hat
    cases c.loc with
    | tmp t=>exact fun hat=>hat
    | cell b k=>
     intro hat;obtain ⟨cs,bb,T,cc,q1,q2,q3,q4⟩:=hat;intro cs2 hcs2;rw [z0g] at hcs2
     split at hcs2
     ·cases hcs2
     ·rename_i hne
      exact ⟨bb,T,cc,by simp only [v0y hne]; exact q2,q3,q4⟩
  ·exact ⟨γ,h⟩
 ·rename_i n lo hi hv
  split
  ·rename_i e ag ks l hn hlo hob
   have hn':=z5k.1 hn;obtain rfl:=z1w.1 hlo;obtain ⟨x,hx,hat⟩:=h.at c.loc hv (by simp)
   simp only [VRel,hob] at hx;have hk:=h.kill n;have hor:=h.ob n _ hob;have hkb:∀ b,z0q (γ n) (.row true e ag ks l) b→z12 γ st.o n b:=fun b hb=>⟨_,hob,hb⟩
   have hadd:=hk.add c.nm h9 (.row true e ag ks l) (γ n) (fun b hb=>⟨.inr (hkb b hb),(h.lt b ⟨n,_,hob,hb⟩).2⟩) (fun O' hO'=>by
    simp only [ObRel] at hor ⊢
    obtain ⟨k1,k2,xs,k3,k4⟩:=hor;refine ⟨k1,k2,xs,k3,fun i y hy=>Kd.RelAll.mono (Keep.refl _ w) (fun b _ hb=>?_) (fun _ _ hu=>hu) (k4 i y hy)⟩
    rcases hO' b hb with h1 | h1 | h1
    ·obtain ⟨m,ob1,q1,q2⟩:=h1
     simp only [St.up] at q1;rw [z02] at q1
     split at q1
     ·cases q1
     ·exact .inl ⟨m,ob1,q1,q2⟩
    ·exact .inr h1
    ·obtain ⟨ob1,q1,q2⟩:=h1
     exact .inl ⟨n,ob1,q1,q2⟩)
   have hadd:=hadd.shrink (F:=X.far) (fun b hb=>⟨.inl hb,fun hb'=>h.nr b ⟨n,_,hob,hb'⟩ hb⟩)
   refine ⟨_,hadd.putLoc c.loc (x:=x) ?_ ?_⟩
   ·simp only [VRel,z0g,v1t]
    exact hx
   ·revert hat
    cases c.loc with
    | tmp t=>exact fun hat=>hat
    | cell b k=>
     intro hat;obtain ⟨cs,bb,T,cc,q1,q2,q3,q4⟩:=hat;intro cs2 hcs2;rw [z0g] at hcs2
     split at hcs2
     ·cases hcs2
     ·rename_i hne
      exact ⟨bb,T,cc,by simp only [v0y hne]; exact q2,q3,q4⟩
  ·exact ⟨γ,h⟩
 ·exact ⟨γ,h⟩
theorem Rel.canons:∀ (l:List Can) {γ:Nat→Value} {st:St},Rel B nt w0 X γ st a w→∃ γ',Rel B nt w0 X γ' (canons l st) a w
 | [],γ,st,h=>⟨γ,h⟩
 | c :: r,γ,st,h=>by
  obtain ⟨γ1,h1⟩:=h.canon1 c;exact Rel.canons r h1
theorem Rel.restrict (h:Rel B nt w0 X γ st a w) (kp:KP):∃ γ',Rel B nt w0 X γ' (restrict kp st) a w:=by
 have h1:Rel B nt w0 X γ ⟨ya2 st kp.t,st.o⟩ a w:=h.less (fun i=>zq5 st kp.t i) (fun _ _ h=>h)
 obtain ⟨γ',h2⟩:=h1.canons kp.c;exact ⟨γ',h2.less (fun i=>zq5 _ kp.t i) (fun n ob=>y8r _ kp.o n ob)⟩
variable (hT:TiOK P B E) (hE:∀ t,t∈E.eqs→EqSnd P t (E.tyd t).ks) (hSp:SpOK P B E w0 X) (hB:BldOK P B E) (hnt:E.nt=nt) (hn9:nt≤900000)
include hT hE hSp hB hnt hn9
theorem zyy {Q:Exit→Act→World→Prop} {r:V × List (List V)} {ops:Array Oper} {k:St→Res} :
  ∀ (l:List Oper) (i:Nat) {γ:Nat→Value} {st:St} {a:Act} {w:World},ops.toList.drop i=l→zul E ops.toList l st k=some r→Rel B nt w0 X γ st a w →
   (∀ γ' st' a' w',Rel B nt w0 X γ' st' a' w'→k st'=some r→Q .normal a' w')→wpOps P ops Q (List.range' i l.length) a w
 | [],i,γ,st,a,w,hl,he,h,hk=>by
  simp only [zul] at he;exact hk _ _ _ _ h he
 | o :: l,i,γ,st,a,w,hl,he,h,hk=>by
  have hoi:ops[i]?=some o:=by
   rw [← v28]
   have:=congrArg (·[0]?) hl
   simpa using this
  have hl':ops.toList.drop (i+1)=l:=by
   have:=congrArg (List.drop 1) hl
   simpa using this
  simp only [v03,List.range'_succ,wpOps,hoi];simp only [zul] at he;have hd:zy7 E o.dst=true:=by
   cases hd:zy7 E o.dst with
   | true=>rfl
   | false=>rw [hd] at he; cases he
  rw [hd] at he;simp only at he;have go:∀ {st:St},Rel B nt w0 X γ st a w→Region.wanted o (yielded ops a.tmps)=true→((z6a E st.o (opd st) o.dst o.op).run fun v us=>zul E ops.toList l ((st.ups us).put o.dst v) k)=some r →
    (if Region.wanted o (yielded ops a.tmps)=true then o.wp P a w (wpOps P ops Q (List.range' (i+1) l.length)) Q∨(o.asks P a w∧LetsOut Q) else wpOps P ops Q (List.range' (i+1) l.length) (a.put o.dst undef) w):=by
   intro st h hw he;rw [v1b hw];obtain ⟨v,us,h1,h2⟩:=T.run_some he;refine .inl (ypc hT hE hSp hB h o (fun d hdd e=>by subst e; rw [hdd] at hd; simp only [zy7] at hd; have h8:900000+1≤E.nt:=v04 hd; omega) h1 _ _ (fun γ' x w' h3 h4=>?_))
   exact zyy l (i+1) hl' h2 (h3.put hnt hd h4) hk
  have no:∀ {st:St},Rel B nt w0 X γ st a w→Region.wanted o (yielded ops a.tmps)=false→zul E ops.toList l (st.put o.dst (.tup [])) k=some r →
    (if Region.wanted o (yielded ops a.tmps)=true then o.wp P a w (wpOps P ops Q (List.range' (i+1) l.length)) Q∨(o.asks P a w∧LetsOut Q) else wpOps P ops Q (List.range' (i+1) l.length) (a.put o.dst undef) w):=by
   intro st h hw he;rw [v0y (by rw [hw]; simp)]
   exact zyy l (i+1) hl' he (h.put hnt hd (by simp only [VRel]; exact ⟨#[],rfl,by simp only [VRels]⟩)) hk
  split at he
  ·rename_i hg
   exact go h (by simp [Region.wanted,hg]) he
  ·rename_i j b hg
   split at he
   ·rename_i dj hdj
    split at he
    ·rename_i c hc
     have hy:yielded ops a.tmps j=some c:=by
      unfold yielded;rw [show ops[j]?=ops.toList[j]? by simp,zqh _ _ _ hdj]
      simp [yfj h hc]
     have hlit:=h.lit hc;cases c with
     | true=>
      simp only at he;cases b with
      | true=>exact go (st:=st.put (some dj) (.bool true)) hlit (by simp [Region.wanted,hg,hy]) he
      | false=>exact no (st:=st.put (some dj) (.bool true)) hlit (by simp [Region.wanted,hg,hy]) he
     | false=>
      simp only at he;cases b with
      | false=>exact go (st:=st.put (some dj) (.bool false)) hlit (by simp [Region.wanted,hg,hy]) he
      | true=>exact no (st:=st.put (some dj) (.bool false)) hlit (by simp [Region.wanted,hg,hy]) he
    ·rename_i hc
     have hy:yielded ops a.tmps j=none:=by
      unfold yielded;rw [show ops[j]?=ops.toList[j]? by simp,zqh _ _ _ hdj]
      rcases y84 h hc with h0 | h0 <;> simp [h0]
     exact no h (by simp [Region.wanted,hg,hy]) he
    ·cases he
   ·cases he
def ym8:Out→Exit
 | .normal=>.normal
 | .exit i=>.exit i
 | .ret=>.ret
omit hT hE hSp hB hnt hn9 in
theorem y9e (J:Nat→Prop) (h:∃ n,J n):∃ n,J n∧∀ m,J m→n≤m:=by
 obtain ⟨n,hn⟩:=h
 induction n using Nat.strongRecOn with
 | _ n ih=>
  by_cases hm:∃ m,m < n∧J m
  ·obtain ⟨m,h1,h2⟩:=hm
   exact ih m h1 h2
  ·exact ⟨n,hn,fun m hJ=>Nat.le_of_not_lt (fun hlt=>hm ⟨m,hlt,hJ⟩)⟩
theorem znf (hm:P.follows .mixedOrders=true) {r:V × List (List V)}:∀ (c:Code) {k:Out→St→Res} {Q:Exit→Act→World→Prop} {γ:Nat→Value} {st:St} {a:Act} {w:World},zl6 E c st k=some r→Rel B nt w0 X γ st a w →
  (∀ o γ' st' a' w',Rel B nt w0 X γ' st' a' w'→k o st'=some r→Q (ym8 o) a' w')→c.wp P Q a w
 | .skip,k,Q,γ,st,a,w,he,h,hk=>wp_skip (hk .normal γ st a w h he)
 | .exit id,k,Q,γ,st,a,w,he,h,hk=>wp_exit (hk (.exit id) γ st a w h he)
 | .ret,k,Q,γ,st,a,w,he,h,hk=>wp_ret (hk .ret γ st a w h he)
 | .label _,k,Q,γ,st,a,w,he,h,hk=>by simp [zl6,evG] at he
 | .goto _,k,Q,γ,st,a,w,he,h,hk=>by simp [zl6,evG] at he
 | .scope _,k,Q,γ,st,a,w,he,h,hk=>by simp [zl6,evG] at he
 | .rangeFunc _ _ _ _,k,Q,γ,st,a,w,he,h,hk=>by simp [zl6,evG] at he
 | .region id ops draw,k,Q,γ,st,a,w,he,h,hk=>by
  simp only [zl6,evG] at he;cases draw with
  | true=>
   simp only at he;exact yix hT hE hSp hB hnt hn9 hm he h (fun γ' st' a' w' h' hk'=>hk .normal γ' _ a' w' (h'.prune _) hk')
  | false=>
   simp only at he;refine wp_region ?_;rw [show ops.size=ops.toList.length by simp,v3z]
   exact zyy hT hE hSp hB hnt hn9 ops.toList 0 rfl he h (fun γ' st' a' w' h' hk'=>hk .normal γ' _ a' w' (h'.prune _) hk')
 | .seq x y,k,Q,γ,st,a,w,he,h,hk=>by
  simp only [zl6,evG] at he;refine wp_seq (znf hm x he h (fun o γ' st' a' w' h' hk'=>?_))
  cases o with
  | normal=>exact znf hm y hk' h' hk
  | exit i=>exact hk (.exit i) γ' st' a' w' h' hk'
  | ret=>exact hk .ret γ' st' a' w' h' hk'
 | .cond c x y,k,Q,γ,st,a,w,he,h,hk=>by
  simp only [zl6,evG] at he
  split at he
  ·rename_i b hc
   have hcr:=z2a h c;rw [hc] at hcr;simp only [VRel] at hcr;have hlit:Rel B nt w0 X γ (yua st c b) a w:=by
    unfold yua
    split
    ·exact h.lit hc
    ·exact h
   cases b with
   | true=>exact wp_cond_true hcr (znf hm x he hlit hk)
   | false=>exact wp_cond_false hcr (znf hm y he hlit hk)
  ·cases he
 | .block id c,k,Q,γ,st,a,w,he,h,hk=>by
  simp only [zl6,evG] at he;refine wp_block (znf hm c he h (fun o γ' st' a' w' h' hk'=>?_))
  cases o with
  | normal=>exact hk .normal γ' st' a' w' h' hk'
  | ret=>exact hk .ret γ' st' a' w' h' hk'
  | exit i=>
   simp only [ym8,Exit.inBlock];simp only [z05] at hk';cases hb:Nat.beq i id with
   | true=>
    rw [hb] at hk';rw [v1b (z1w.1 hb)];exact hk .normal γ' st' a' w' h' hk'
   | false=>
    rw [hb] at hk';rw [v0y (z5k.1 hb)];exact hk (.exit i) γ' st' a' w' h' hk'
 | .loop c,k,Q,γ,st,a,w,he,h,hk=>by
  simp only [zl6,evG] at he;generalize lkd ⟨[],[],[]⟩ E.lp (zlu c)=kp at he
  let J:Act→World→Nat→Prop:=fun a w n=>∃ γ st,Rel B nt w0 X γ st a w∧y0t c (evG y0t E c) kp n st k=some r
  obtain ⟨γr,hr⟩:=h.restrict kp;refine wp_loop (fun a w=>∃ n,J a w n) (fun a w=>(Classical.epsilon fun n=>J a w n∧∀ m,J a w m→n≤m)) ⟨_,γr,_,hr,he⟩ ?_
  intro a w hI;have hleast:=Classical.epsilon_spec (y9e (J a w) hI);generalize (Classical.epsilon fun n=>J a w n∧∀ m,J a w m→n≤m)=n at hleast
  obtain ⟨⟨γ1,st1,h1,he1⟩,_⟩:=hleast;cases n with
  | zero=>simp [y0t] at he1
  | succ n=>
   simp only [y0t] at he1;refine znf hm c he1 h1 (fun o γ' st' a' w' h' hk'=>?_)
   obtain ⟨γr,hr⟩:=h'.restrict kp;cases o with
   | normal=>
    simp only [ym8,Exit.then];have hJ:J a' w' n:=⟨γr,_,hr,hk'⟩;refine ⟨⟨n,hJ⟩,?_⟩
    have:=Classical.epsilon_spec (y9e (J a' w') ⟨n,hJ⟩)
    exact Nat.lt_succ_of_le (this.2 n hJ)
   | exit i=>exact hk (.exit i) γr _ a' w' hr hk'
   | ret=>exact hk .ret γr _ a' w' hr hk'
end
open Go Go.RowKit
theorem zs2 (o:Store) (bs:List V) (tk:Option Kd) (v:V):zc1 (zhm (zap o bs tk v))=true:=by
 cases v <;> simp only [zap] <;> repeat' split
 all_goals rfl
theorem zy0 (o:Store) (bs:List V):∀ (l:List V) (ks:List Kd),(ybf (fun k v=>zhm (zap o bs k v)) ks l).all zc1=true
 | [],ks=>by cases ks <;> rfl
 | v :: l,[]=>by simp [ybf,zs2,zy0 o bs l []]
 | v :: l,k :: ks=>by simp [ybf,zs2,zy0 o bs l ks]
theorem zxh (o:Store) (ks:List Kd) (v:V):(match ydn o ks v with | .agg l=>l.all zc1 | v=>zc1 v)=true∧∀ l,ydn o ks v≠.tup l:=by
 by_cases hc:∃ l,v = .agg l
 ·obtain ⟨l,rfl⟩:=hc
  simp only [ydn];exact ⟨zy0 o [] l ks,fun l' h=>by cases h⟩
 ·have h1:ydn o ks v=zhm (zap o [] ks.head? v):=by cases v <;> first | rfl | exact absurd ⟨_,rfl⟩ hc
  have h2:=zs2 o [] ks.head? v;rw [h1];cases hx:zhm (zap o [] ks.head? v) <;> rw [hx] at h2 <;> simp only [zc1] at h2 ⊢ <;> first | (cases h2; done) | (refine ⟨trivial,fun l h=>?_⟩; cases h)
theorem zw7 (o:Store) (ks:List (List Kd)) (v:V):zm8 (zo9 o ks v)=true:=by
 by_cases hc:∃ l,v = .tup l
 ·obtain ⟨l,rfl⟩:=hc
  simp only [zo9,zm8];have key:∀ (l:List V) (ks:List (List Kd)),((zo9.go o ks l).all fun v=>match v with | .agg l=>l.all zc1 | v=>zc1 v)=true:=by
   intro l
   induction l with
   | nil=>intro ks; cases ks <;> rfl
   | cons v l ih=>
    intro ks;cases ks with
    | nil=>simp only [zo9.go,v30,v02]; exact ⟨(zxh o [] v).1,ih []⟩
    | cons k ks=>simp only [zo9.go,v30,v02]; exact ⟨(zxh o k v).1,ih ks⟩
  exact key l ks
 ·have h1:zo9 o ks v=ydn o (ks.headD []) v:=by cases v <;> first | rfl | exact absurd ⟨_,rfl⟩ hc
  rw [h1];obtain ⟨h2,h3⟩:=zxh o (ks.headD []) v;cases hx:ydn o (ks.headD []) v <;> rw [hx] at h2 <;> simp only [zm8] at h2 ⊢ <;> first | exact h2 | exact absurd hx (h3 _)
theorem y37 (o:Store) (all:List Nat) (cs:List V):(cs.map (z4w o all)).all okC=true:=by
 refine v35.2 (fun v hv=>?_)
 obtain ⟨u,_,rfl⟩:=List.mem_map.1 hv;rcases zfc o all u with ⟨_,_,_,_,_,_,_,_,_,h1⟩ | ⟨h1,_⟩
 ·rw [h1]; rfl
 ·cases hcc:z4w o all u <;> first | rfl | (rw [hcc] at h1; cases h1)
section
variable {B:BT} {nt:Nat} {w0:World} {X:Zone} {γ:Nat→Value} {st st':St} {a:Act} {w:World} {P:Program} {E:Env}
theorem yil (h:Rel B nt w0 X γ st a w) {n:Nat} {cs:List V} (ho:z09 st.o n=some (.box cs)) {extra:List Nat} {m:Nat} (hm:m∈extra) {b:Nat} (hr:RowOf γ st.o m b) :
  ¬ (z12 γ st.o n b∨∃ m∈z5e st.o (z1m cs++extra) cs,z12 γ st.o m b):=by
 intro hLb;obtain ⟨e,ag,ks,l,h5,h6⟩:=hr;rcases hLb with ⟨ob,h7,h8⟩ | ⟨m2,h9,ob,h7,h8⟩
 ·have hne:n≠m:=by
   rintro rfl
   rw [ho] at h5;cases h5
  exact h.dis n m ob _ b hne h7 h5 h8 h6
 ·by_cases hne:m2=m
  ·subst hne
   obtain ⟨hi2,e2,ag2,ks2,l2,k1,k2,k3⟩:=z9p.1 h9;rw [zb9] at k3;have q1:=zk0 (zcp k1);have q2:=zk0 hm;omega
  ·exact h.dis m2 m ob _ b hne h7 h5 h8 h6
theorem yna {p:Value} (h:Rel ⟨B.T,B.e,some p,B.ng,B.F⟩ nt w0 X γ st a w) {v:V} {x:Value} (hv:VRel γ st.o w (z0c X γ st.o) v x) {ks:List (List Kd)} {vs:List V} {r:V} {out:List (List V)} (he:yng st.o ks (z82 vs) v=some (r,out)) {g0:Value} (hp:p=zod g0) :
  ∃ γ',Rel B.base 0 w0 X γ' ⟨[],z4j r out⟩ y2a w∧VRel γ' (z4j r out) w (z0c X γ' (z4j r out)) (yd8 r) x∧zcn vs r out g0 (γ' 900000):=by
 have hfar:∀ b,X.far b→z0c X γ st.o b∧∀ b',b'=b→¬ z1y γ st.o b':=fun b hb=>⟨.inr hb,fun b' e hP=>h.nr b' hP (e ▸ hb)⟩
 have hbd:∀ {n:Nat} {cs:List V} (ho:z09 st.o n=some (.box cs)) (extra:List Nat),∃ γb,Rel B.base 0 w0 X γb ⟨[],z9u (cs.map (z4w st.o (z1m cs++extra)))⟩ y2a w∧γb 900000=γ n ∧
   ∀ b,z1y γb (z9u (cs.map (z4w st.o (z1m cs++extra)))) b→z12 γ st.o n b∨∃ m∈z5e st.o (z1m cs++extra) cs,z12 γ st.o m b:=by
  intro n cs ho extra;exact h.bound ho extra (w1:=w0) (own1:=X.own) (F:=X.far) h.keep (fun b hb=>⟨.inr hb,fun ⟨ob,h1,h2⟩=>h.nr b ⟨n,ob,h1,h2⟩ hb,fun m _ ⟨ob,h1,h2⟩=>h.nr b ⟨m,ob,h1,h2⟩ hb,fun m _ ⟨ob,h1,h2⟩=>h.nr b ⟨m,ob,h1,h2⟩ hb⟩)
   (fun b hb=>by
    rcases hb with ⟨ob,h1,h2⟩ | ⟨m,_,ob,h1,h2⟩
    ·exact (h.lt b ⟨n,ob,h1,h2⟩).2
    ·exact (h.lt b ⟨m,ob,h1,h2⟩).2)
 have hbP:∀ {n b:Nat} {hs:List Nat},(z12 γ st.o n b∨∃ m∈hs,z12 γ st.o m b)→z1y γ st.o b:=by
  rintro n b hs (⟨ob,h1,h2⟩ | ⟨m,_,ob,h1,h2⟩)
  ·exact ⟨n,ob,h1,h2⟩
  ·exact ⟨m,ob,h1,h2⟩
 unfold yng at he
 split at he
 ·rename_i s0 hb
  split at he
  ·rename_i s hob
   simp only [v00,v06] at he;obtain ⟨rfl,rfl⟩:=he;obtain ⟨hR,hP⟩:=h.boundB hob (w1:=w0) (own1:=X.own) (F:=X.far) h.keep (fun b hb=>⟨.inr hb,fun ⟨ob,h1,h2⟩=>h.nr b ⟨_,ob,h1,h2⟩ hb⟩) (fun b ⟨ob,h1,h2⟩=>(h.lt b ⟨_,ob,h1,h2⟩).2)
   have hmo:z4j (zo9 st.o ks v) [[.bld s]]=z9u [.bld s]:=by cases zo9 st.o ks v <;> rfl
   have hf:=zw7 st.o ks v;refine ⟨_,by rw [hmo]; exact hR,?_,?_⟩
   ·rw [hmo,zdp hf]
    refine y66 h hv (fun b _ hb=>?_) (fun m hm b hr hb=>?_) ks
    ·exact hb.imp_left (fun hb=>by obtain ⟨ob,h1,h2⟩:=hP b hb; exact ⟨_,ob,h1,h2⟩)
    ·obtain ⟨e,ag,ks',l,q1,q2⟩:=hr
     rcases hb with hb | hb
     ·obtain ⟨ob,h1,h2⟩:=hP b hb
      refine h.dis 900000 m ob _ b ?_ h1 q1 h2 q2
      rintro rfl
      rw [hob] at q1;cases q1
     ·exact h.nr b ⟨m,_,q1,q2⟩ hb
   ·simp only [zcn,hb]
    exact ⟨hf,rfl,(h.pn p rfl _ hob).trans hp⟩
  ·cases he
 ·rename_i cs0 hnb hb
  split at he
  ·rename_i cs hob
   simp only [v00,v06] at he;obtain ⟨rfl,rfl⟩:=he;obtain ⟨γb,hR,hg,hP⟩:=hbd hob (zji v);have hmo:z4j (zo9 st.o ks v) [cs.map (z4w st.o (z1m cs++zji v))]=z9u (cs.map (z4w st.o (z1m cs++zji v))):=by cases zo9 st.o ks v <;> rfl
   have hf:=zw7 st.o ks v;refine ⟨γb,by rw [hmo]; exact hR,?_,?_⟩
   ·rw [hmo,zdp hf]
    refine y66 h hv (fun b _ hb=>hb.imp_left (fun hb=>hbP (hP b hb))) (fun m hm b hr hb=>?_) ks
    rcases hb with hb | hb
    ·exact yil h hob hm hr (hP b hb)
    ·obtain ⟨e,ag,ks',l,q1,q2⟩:=hr
     exact h.nr b ⟨m,_,q1,q2⟩ hb
   ·simp only [zcn,hb]
    refine ⟨hf,?_,?_⟩
    ·unfold y4c
     split
     ·exact absurd rfl (hnb _)
     ·exact absurd rfl (hnb _)
     ·exact y37 _ _ _
    ·rw [hg]
     exact (h.pn p rfl _ hob).trans hp
  ·cases he
 ·rename_i hb
  have fin9:∀ v,VRel γ st.o w (z0c X γ st.o) v x→∃ γ',Rel B.base 0 w0 X γ' ⟨[],z4j (zo9 st.o ks v) []⟩ y2a w∧VRel γ' (z4j (zo9 st.o ks v) []) w (z0c X γ' (z4j (zo9 st.o ks v) [])) (yd8 (zo9 st.o ks v)) x∧zcn vs (zo9 st.o ks v) [] g0 (γ' 900000):=by
   intro v hv;have hf:=zw7 st.o ks v;have hmo:z4j (zo9 st.o ks v) []=[]:=by
    cases hx:zo9 st.o ks v <;> first | rfl | (rw [hx] at hf; simp only [zm8,zc1] at hf; cases hf)
   refine ⟨γ,?_,?_,?_⟩
   ·rw [hmo]
    refine ⟨rfl,rfl,fun i=>by simp only [St.get,lkd,VRel],fun n ob hn=>?_,?_,?_,h.keep,?_,h.fl,fun p hp=>by cases hp⟩
    ·simp only [z09,lkd] at hn; cases hn
    ·rintro b ⟨n,ob,hn,_⟩; simp only [z09,lkd] at hn; cases hn
    ·intro n m ob ob' b _ hn; simp only [z09,lkd] at hn; cases hn
    ·rintro b ⟨n,ob,hn,_⟩; simp only [z09,lkd] at hn; cases hn
   ·rw [hmo,zdp hf]
    refine y66 h hv (fun b _ hb=>?_) (fun m hm b hr hb=>?_) ks
    ·rcases hb with ⟨n,ob,hn,_⟩ | hb
     ·simp only [z09,lkd] at hn; cases hn
     ·exact .inr hb
    ·rcases hb with ⟨n,ob,hn,_⟩ | hb
     ·simp only [z09,lkd] at hn; cases hn
     ·obtain ⟨e,ag,ks',l,q1,q2⟩:=hr
      exact h.nr b ⟨m,_,q1,q2⟩ hb
   ·simp only [zcn,hb]
    cases hx:zo9 st.o ks v <;> first | (rw [hx] at hf; exact hf) | (rw [hx] at hf; simp only [zm8,zc1] at hf; cases hf)
  split at he
  ·rename_i n i c
   split at he
   ·rename_i cs hob hc
    simp only [v00,v06] at he;obtain ⟨rfl,rfl⟩:=he;obtain rfl:=z1w.1 hc;obtain ⟨γb,hR,hg,hP⟩:=hbd hob [];refine ⟨γb,hR,?_,?_⟩
    ·simp only [VRel,hob] at hv
     simp only [z4j,yd8,zab,VRel];rw [zli (y37 _ _ _),z02,v1b rfl,hg];exact ⟨trivial,hv.2⟩
    ·simp only [zcn,hb,okR]
     exact y37 _ _ _
   ·cases he
  ·rename_i n lo hi
   split at he
   ·rename_i e ag ks' l hob
    split at he
    ·rename_i hlo
     simp only [v00,v06] at he;obtain ⟨rfl,rfl⟩:=he;obtain rfl:=z1w.1 hlo;obtain ⟨hpr,hpb⟩:=y3r (γ':=fun m=>if m=900000 then x else γ m) (o':=[(900000,some (Ob.row true e ag ks' (l.take hi)))]) h hob hv
     have hmo:z4j (.vec e ag ks' (l.take hi)) []=[(900000,some (.row true e ag ks' (l.take hi)))]:=rfl;have obs:∀ m ob,z09 [(900000,some (Ob.row true e ag ks' (l.take hi)))] m=some ob→m=900000∧ob = .row true e ag ks' (l.take hi):=fun m ob hn=>by
      rw [z02] at hn
      split at hn
      ·rename_i h9
       simp only [v00] at hn;exact ⟨h9.symm,hn.symm⟩
      ·simp [z09,lkd] at hn
     have ownP:∀ b,z1y (fun m=>if m=900000 then x else γ m) [(900000,some (Ob.row true e ag ks' (l.take hi)))] b→z12 γ st.o n b:=by
      rintro b ⟨m,ob,hn,hb⟩
      obtain ⟨rfl,rfl⟩:=obs m ob hn;exact hpb b (by simpa only [v1t] using hb)
     have hlt:∀ b,z12 γ st.o n b→z1y γ st.o b:=fun b ⟨ob,h1,h2⟩=>⟨n,ob,h1,h2⟩
     have hO:∀ b,b < w.heap.size→z0c X (fun m=>if m=900000 then x else γ m) [(900000,some (Ob.row true e ag ks' (l.take hi)))] b→z0c X γ st.o b:=fun b _ hb=>hb.imp_left (fun hb=>hlt b (ownP b hb))
     rw [hmo];refine ⟨fun m=>if m=900000 then x else γ m,⟨rfl,rfl,fun i=>by simp only [St.get,lkd,VRel],fun m ob hn=>?_,fun b hb=>h.lt b (hlt b (ownP b hb)),fun m m' ob ob' b hnm h1 h2=>?_,h.keep,fun b hb=>h.nr b (hlt b (ownP b hb)),h.fl,fun p hp=>by cases hp⟩,?_,?_⟩
     ·obtain ⟨rfl,rfl⟩:=obs m ob hn
      simp only [ObRel,v1t] at hpr ⊢
      obtain ⟨k1,k2,xs,k3,k4⟩:=hpr;exact ⟨k1,k2,xs,k3,fun i y hy=>Kd.RelAll.mono (Keep.refl _ w) hO (fun _ _ hu=>hu) (k4 i y hy)⟩
     ·obtain ⟨rfl,rfl⟩:=obs m ob h1
      obtain ⟨rfl,rfl⟩:=obs m' ob' h2;exact absurd rfl hnm
     ·simp only [yd8,VRel,z02,v1t]
      refine ⟨v0a _,?_⟩;simp only [VRel,hob] at hv;obtain ⟨hl,p,len,cap,p',hgm,hxx,_,h22,h33,hm4,_,h5⟩:=hv;have htl:(l.take hi).length=hi:=by rw [v0l,v2d hl]
      rw [htl];rw [v2v,v2v] at hxx;refine ⟨p',hi,cap,p',hxx,by rw [hxx]; simp,v0x _,v0a _,by omega,hm4,.inl ?_,fun _=>rfl⟩
      cases p' <;> simp [Addr.add]
     ·simp only [zcn,hb,okR]
    ·cases he
   ·simp only [v00,v06] at he
    obtain ⟨rfl,rfl⟩:=he;exact fin9 _ hv
  ·rename_i hnp
   simp only [v00,v06] at he;obtain ⟨rfl,rfl⟩:=he;exact fin9 _ hv
theorem y1p:∀ (vs:List V) (i j:Nat),lkd .any (y6x i vs) j=if i≤j∧j < i+vs.length then zab (vs.getD (j - i) .any) else .any
 | [],i,j=>by
  rw [v0y (by simp only [v0i]; omega)]
  rfl
 | v :: r,i,j=>by
  simp only [y6x,zd0,y1p r (i+1) j,v03]
  by_cases e:i=j
  ·subst e
   simp
  ·rw [v0y e]
   by_cases h:i+1≤j∧j < i+1+r.length
   ·rw [v1b h,v1b (by omega),show j - i=(j - (i+1))+1 by omega]
    simp
   ·rw [v0y h,v0y (by omega)]
theorem y4u (hT:TiOK P B E) {w:World}:∀ {rs:List ResultVar} {l:List V},ypv E st rs=some l→Rel B nt w0 X γ st a w →
  ∃ xs:List Value,(rs.mapM fun r=>match r with | .tmp t=>pure (a.tmps.getD t undef) | .cell ad t=>do loadVar t (← asAddr (a.tmps.getD ad undef)):Sem (List Value)).run P w = .ok xs w∧VRels γ st.o w (z0c X γ st.o) l xs
 | [],l,h,hR=>by
  simp only [ypv,v00] at h;subst h;exact ⟨[],by simp,by simp only [VRels]⟩
 | .tmp t :: r,l,h,hR=>by
  simp only [ypv] at h
  split at h
  ·rename_i l' hl'
   simp only [v00] at h;subst h;obtain ⟨xs,h1,h2⟩:=y4u hT hl' hR;refine ⟨a.tmps.getD t undef :: xs,?_,?_⟩
   ·simp only [List.mapM_cons,Sem.run_bind,Sem.run_pure,Result.andThen_ok,h1]
   ·simp only [VRels]
    exact ⟨hR.tm t,h2⟩
  ·cases h
 | .cell ad t :: r,l,h,hR=>by
  simp only [ypv] at h
  split at h
  ·rename_i n i c hop
   split at h
   ·rename_i cs hob
    split at h
    ·rename_i v l' hv hl'
     simp only [v00] at h;subst h;obtain ⟨xs,h1,h2⟩:=y4u hT hl' hR;have hx:=hR.tm ad;rw [hop] at hx;simp only [VRel,hob] at hx;obtain ⟨_,b,hg,hx⟩:=hx;have hor:=hR.ob n _ hob;simp only [ObRel] at hor;obtain ⟨b',cs',T,hg',hh,hr⟩:=hor;rw [hg] at hg';simp only [Value.pointer.injEq,v00,Addr.mk.injEq,v1c] at hg';subst hg';obtain ⟨y,hy,hr'⟩:=yb3 (hT.known (zx6 hv)) hv hh hr;refine ⟨y :: xs,?_,?_⟩
     ·have hy':(do loadVar t (← asAddr (a.tmps.getD ad undef)):Sem Value).run P w = .ok y w:=by
       rw [hx];exact hy
      simp only [Sem.run_bind] at hy';simp only [List.mapM_cons,Sem.run_bind,hy',Sem.run_pure,Result.andThen_ok,h1]
     ·simp only [VRels]
      exact ⟨hr',h2⟩
    ·cases h
   ·cases h
  ·cases h
theorem yj4 {f:FuncId} {fn:Func} {code:Code} (hf:P.funcs[f]?=some fn) (hn:(fn.name == "runtime.NumGoroutine")=false) (hb:fn.body=some code) (hnt:E.nt=fn.ntmps) (hn9:Nat.ble fn.ntmps 900000=true) {rs:List ResultVar} (hrs:fn.results.toList=rs)
  (rks:List (List Kd)) (hm:P.follows .mixedOrders=true) (hT:TiOK P B E) (hE:∀ t,t∈E.eqs→EqSnd P t (E.tyd t).ks) (hSp:∀ f sp,lk E.sp f=some sp→Snd P B f (fun vs=>(sp vs).get)) (hIp:∀ f p,lk E.ip f=some p→y4e P f p) (hB:BldOK P B E):Snd P B f (z0z E code rs rks):=by
 intro w X γ vs xs r out hsp hgl hxo hR hV;unfold z0z at hsp
 split at hsp
 case h_2=>cases hsp
 rename_i hle;have hle':=v04 hle;have hlen:xs.length=vs.length:=by rw [← hV.length,v14]
 refine Does.enter hf hn (by rw [hb]; rfl) (calls_of_wp hf hb ?_)
 let B':BT:=⟨B.T,B.e,some (zod (γ 900000)),B.ng,B.F⟩
 have hT':TiOK P B' E:=fun t x ht=>⟨(hT t x ht).info,(hT t x ht).ks,(hT t x ht).by1,(hT t x ht).one,(hT t x ht).und⟩
 have hSp':SpOK P B' E w X:=⟨⟨hgl,hxo⟩,fun f sp hfs=>hSp f sp hfs,hIp⟩
 have hB':BldOK P B' E:=hB;have hstart:Rel B' fn.ntmps w X γ ⟨y6x 0 vs,zeu vs⟩ { tmps:=xs.toArray++Array.replicate (fn.ntmps - xs.toArray.size) undef,defers:=[] } w:=by
  refine ⟨?_,rfl,fun i=>?_,fun n ob hnob=>?_,hR.lt,hR.dis,hR.keep,hR.nr,hR.fl,fun p hp ob _=>?_⟩
  ·simp
   omega
  ·simp only [St.get,y1p]
   split
   ·rename_i hi
    have hi':i < vs.length:=by omega
    have h1:(vs.map zab)[i]?=some (zab vs[i]):=by simp [hi']
    obtain ⟨x,hx,hvx⟩:=hV.get h1;have h2:vs.getD (i - 0) .any=vs[i]:=by simp [hi']
    rw [h2];have h3:(xs.toArray++Array.replicate (fn.ntmps - xs.toArray.size) undef).getD i undef=x:=by
     rw [v2j,v3i (by simp; omega)]
     simp [hx]
    simp only [h3];exact hvx
   ·simp only [VRel]
  ·have:=hR.ob n ob hnob
   cases ob with
   | box l=>simpa only [ObRel] using this
   | row own e ag ks l=>cases own <;> simpa only [ObRel] using this
   | bld s=>simpa only [ObRel,BT.base] using this
  ·simp only [B',v00] at hp
   exact hp
 refine znf hT' hE hSp' hB' hnt (v04 hn9) hm code hsp hstart (fun o γ' st' a' w' h' hk'=>?_)
 have fin:∀ l,ypv E st' rs=some l→yng st'.o rks (z82 vs) (ysh l)=some (r,out)→bodyPost P fn (fun e w'=>∃ x,e = .returned x∧∃ γ',Rel B.base 0 w X γ' ⟨[],z4j r out⟩ y2a w'∧VRel γ' (z4j r out) w' (z0c X γ' (z4j r out)) (yd8 r) x∧zcn vs r out (γ 900000) (γ' 900000)) .ret a' w':=by
  intro l hl he;obtain ⟨ys,hy1,hy2⟩:=y4u (P:=P) hT' hl h';have hval:(results fn a'.tmps).run P w' = .ok (if h:ys.toArray.size=1 then ys.toArray[0] else .tuple ys.toArray) w':=by
   unfold results;rw [show fn.results=rs.toArray by rw [← hrs]]
   rw [Array.mapM_eq_mapM_toList];simp only [Sem.run_bind,Sem.run_map]
   erw [hy1]
   rfl
  have hrel:VRel γ' st'.o w' (z0c X γ' st'.o) (ysh l) (if h:ys.toArray.size=1 then ys.toArray[0] else .tuple ys.toArray):=by
   match l,ys,hy2 with
   | [],[],_=>simp only [ysh,VRel]; exact ⟨#[],by simp,by simp only [VRels]⟩
   | [v],[y],h2=>simp only [VRels] at h2; simpa [ysh] using h2.1
   | v :: v' :: l,y :: y' :: ys,h2=>simp only [ysh,VRel]; exact ⟨(y :: y' :: ys).toArray,by simp,by simpa using h2⟩
  obtain ⟨γ2,q1,q2,q3⟩:=yna (B:=B) h' hrel he rfl;exact ⟨h'.df,_,hval,_,rfl,γ2,q1,q2,q3⟩
 cases o with
 | exit i=>simp [z2s] at hk'
 | normal=>
  simp only [z2s] at hk'
  split at hk'
  ·rename_i l hl
   exact fin l hl hk'
  ·cases hk'
 | ret=>
  simp only [z2s] at hk'
  split at hk'
  ·rename_i l hl
   exact fin l hl hk'
  ·cases hk'
end
open Go Go.RowKit
def zB:V→Value→Bool
 | .int k n,.int k' n'=>k==k'&&(n==n'&&yhq k n)
 | .bool b,.bool c=>b==c
 | .str s,.string s'=>s.size==0&&s'.size==0
 | .zs,.slice none 0 0=>true
 | .nilp,.pointer none=>true
 | .err true,.nilIface=>true
 | .any,_=>true
 | _,_=>false
def zBs:List V→List Value→Bool
 | [],[]=>true
 | v :: vs,x :: xs=>zB v x&&zBs vs xs
 | _,_=>false
def dB (P:Program) (T t:Nat) (ks:List Kd):TD→TypeDesc→Bool
 | .slice e,.slice e'=>e==e'
 | .struct fs,.struct fields=>fs==fields.toList.map (fun f=>(f.offset,f.type))&&fields.toList.all (fun f=>(P.info? f.type).isSome)
 | .array n e,.array n' e'=>n==n'&&e==e'
 | .ptr e,.pointer e'=>e==e'
 | .bld,_=>t==T
 | .iface,.interface _=>true
 | .leaf,d=>match ks with
  | [.int k]=>(match d with | .int k'=>k==k' | _=>false)
  | [.str]=>(match d with | .string=>true | _=>false)
  | [.bool]=>(match d with | .bool=>true | _=>false)
  | _=>true
 | _,_=>false
def tiB (P:Program) (T t:Nat) (x:TI):Bool:=
 match P.info? t,P.underlying t with
 | some i,some d=>match i.zero with
  | some z=>i.size==x.size&&(i.bytes==x.bytes&&(z.cells.size==x.size&&(zBs x.zero z.cells.toList&&(x.ks.length==x.size&&(Nat.ble 1 x.bytes&&((x.agg||x.size==1)&&(d.isRow==x.agg&&dB P T t x.ks x.d d)))))))
  | none=>false
 | _,_=>false
def ytq (P:Program) (T:Nat):List (Nat × TI)→Bool
 | []=>true
 | (t,x) :: r=>tiB P T t x&&ytq P T r
theorem yt3 {γ:Nat→Value} {o:Store} {w:World} {O:Nat→Prop} {v:V} {x:Value} (h:zB v x=true):VRel γ o w O v x:=by
 unfold zB at h
 split at h
 ·simp only [v02,v1h,yhq,v07] at h
  obtain ⟨rfl,rfl,h1,h2⟩:=h;simp only [VRel];exact ⟨trivial,h1,h2⟩
 ·simp only [v1h] at h
  subst h;simp only [VRel]
 ·rename_i s s'
  simp only [v02,v1h] at h;have e:∀ s:ByteArray,s.size=0→s=ByteArray.empty:=fun s hs=>by
   obtain ⟨⟨l⟩⟩:=s;cases l with
   | nil=>rfl
   | cons a l=>simp [ByteArray.size] at hs
  simp only [VRel];rw [e s h.1,e s' h.2];exact ⟨rfl,by simp [ByteArray.size_empty]⟩
 ·simp only [VRel]
 ·simp only [VRel]
 ·simp only [VRel]
 ·simp only [VRel]
 ·cases h
theorem yjq {γ:Nat→Value} {o:Store} {w:World} {O:Nat→Prop}:∀ {l:List V} {xs:List Value},zBs l xs=true→VRels γ o w O l xs
 | [],[],_=>by simp only [VRels]
 | [],_ :: _,h=>by simp [zBs] at h
 | _ :: _,[],h=>by simp [zBs] at h
 | v :: vs,x :: xs,h=>by
  simp only [zBs,v02] at h;simp only [VRels];exact ⟨yt3 h.1,yjq h.2⟩
theorem yqt {P:Program} {B:BT} {t:Nat} {x:TI} (h:tiB P B.T t x=true):TISnd P B t x:=by
 unfold tiB at h
 split at h
 ·rename_i i d hi hd
  split at h
  ·rename_i z hz
   simp only [v02,v1h,v2n] at h;obtain ⟨h1,h2,h3,h4,h5,h6,h7,h8,h9⟩:=h;refine ⟨⟨i,z,hi,h1,h2,hz,h3,fun γ o w O=>yjq h4⟩,h5,v04 h6,fun ha=>by rw [ha] at h7; simpa using h7,⟨d,hd,h8,?_⟩⟩
   cases hx:x.d with
   | slice e=>rw [hx] at h9; cases d <;> simp only [dB] at h9 <;> first | (cases h9; done) | (simp only [v1h] at h9; subst h9; rfl)
   | struct fs=>
    rw [hx] at h9;cases d <;> simp only [dB] at h9 <;> first | (cases h9; done) | skip
    rename_i fields;simp only [v02,v1h,v35] at h9;exact ⟨fields,rfl,h9.1,h9.2⟩
   | array n e=>
    rw [hx] at h9;cases d <;> simp only [dB] at h9 <;> first | (cases h9; done) | skip
    simp only [v02,v1h] at h9;obtain ⟨rfl,rfl⟩:=h9
    rfl
   | ptr e=>rw [hx] at h9; cases d <;> simp only [dB] at h9 <;> first | (cases h9; done) | (simp only [v1h] at h9; subst h9; rfl)
   | bld=>rw [hx] at h9; simp only [dB,v1h] at h9; exact h9
   | iface=>rw [hx] at h9; cases d <;> simp only [dB] at h9 <;> first | (cases h9; done) | exact ⟨_,rfl⟩
   | leaf=>
    rw [hx] at h9;refine ⟨fun k hk=>?_,fun hk=>?_,fun hk=>?_⟩ <;> rw [hk] at h9 <;> cases d <;> simp only [dB] at h9 <;> first | (cases h9; done) | (simp only [v1h] at h9; subst h9; rfl) | rfl
  ·cases h
 ·cases h
theorem ylv {P:Program} {B:BT} {E:Env} {ti:List (Nat × TI)} (he:E.ti=ti) (h:ytq P B.T ti=true):TiOK P B E:=by
 subst he;have key:∀ (l:List (Nat × TI)),ytq P B.T l=true→∀ t x,lk l t=some x→tiB P B.T t x=true:=by
  intro l
  induction l with
  | nil=>intro _ t x hx; simp [lk] at hx
  | cons p r ih=>
   obtain ⟨j,y⟩:=p;intro hl t x hx;simp only [ytq,v02] at hl;simp only [lk] at hx
   split at hx
   ·rename_i hb
    simp only [v00] at hx;subst hx;rw [← z1w.1 hb];exact hl.1
   ·exact ih hl.2 t x hx
 exact fun t x ht=>yqt (key E.ti h t x ht)
def y1a (P:Program) (t w:Nat):Bool:=match P.info? t with | some _=>P.cellsOf t==w | none=>false
def yqv (ks:List Kd):Nat→List Kd
 | 0=>[]
 | n+1=>ks++yqv ks n
def ysk (P:Program) (g:Nat→Option (List Kd)):List Field→Nat→Option (List Kd)
 | [],_=>some []
 | f :: r,o=>match g f.type with
  | some ks=>match f.name != "_"&&(f.offset==o&&y1a P f.type ks.length) with
   | true=>match ysk P g r (o+ks.length) with
    | some ks'=>some (ks++ks')
    | none=>none
   | false=>none
  | none=>none
def eqW (P:Program):Nat→Nat→Option (List Kd)
 | 0,_=>none
 | d+1,t=>match P.underlying t with
  | some (.int k)=>some [.int k]
  | some .bool=>some [.bool]
  | some (.struct fs)=>match P.stoodInHeld t with
   | true=>none
   | false=>ysk P (eqW P d) fs.toList 0
  | some (.array n e)=>match eqW P d e with
   | some ks=>match y1a P e ks.length with
    | true=>some (yqv ks n)
    | false=>none
   | none=>none
  | _=>none
def yu3 (P:Program) (ti:List (Nat × TI)):List Nat→Bool
 | []=>true
 | t :: r=>(!(P.eqGuardType P.depth t))&&((match P.underlying t with | some d=>d.isRow | none=>false)&&(match eqW P 10 t with | some ks=>zz4.kdsEq (lkd TI.none ti t).ks ks | none=>false))&&yu3 P ti r
theorem zc3:∀ {ks:List Kd} {l:List V},zah ks l=true→l.length=ks.length
 | [],[],_=>rfl
 | [],_ :: _,h=>by simp [zah] at h
 | k :: _,[],h=>by cases k <;> simp [zah] at h
 | k :: ks,v :: l,h=>by
  cases k <;> cases v <;> simp only [zah] at h <;> try (cases h; done)
  ·split at h
   ·simp [zc3 h]
   ·cases h
  ·simp [zc3 h]
theorem zgj:∀ {ks ks':List Kd} {l:List V},zah (ks++ks') l=true→zah ks (l.take ks.length)=true∧zah ks' (l.drop ks.length)=true
 | [],_,_,h=>⟨rfl,h⟩
 | k :: ks,ks',[],h=>by cases k <;> simp [zah] at h
 | k :: ks,ks',v :: l,h=>by
  cases k <;> cases v <;> simp only [v1u,zah] at h <;> try (cases h; done)
  ·split at h
   ·rename_i hk
    obtain ⟨h1,h2⟩:=zgj h;simp only [v03,v3q,v42,zah,hk];exact ⟨h1,h2⟩
   ·cases h
  ·obtain ⟨h1,h2⟩:=zgj h
   simp only [v03,v3q,v42,zah];exact ⟨h1,h2⟩
theorem zm0:∀ {a a':List V} {b b':List V} {c:Bool},a.length=a'.length→y2c (a++b) (a'++b')=some c→∃ c1 c2,y2c a a'=some c1∧y2c b b'=some c2∧c=(c1&&c2)
 | [],[],b,b',c,_,h=>⟨true,c,rfl,h,by simp⟩
 | [],_ :: _,_,_,_,hl,_=>by simp at hl
 | _ :: _,[],_,_,_,hl,_=>by simp at hl
 | x :: a,y :: a',b,b',c,hl,h=>by
  have hl':a.length=a'.length:=by simpa using hl
  cases x <;> cases y <;> simp only [v1u,y2c] at h ⊢ <;> try (cases h; done)
  ·split at h
   ·rename_i hk
    split at h
    ·rename_i c0 h0
     simp only [v00] at h;obtain ⟨c1,c2,h1,h2,h3⟩:=zm0 hl' h0;rw [h1];exact ⟨_,c2,rfl,h2,by rw [← h,h3,Bool.and_assoc]⟩
    ·cases h
   ·cases h
  ·split at h
   ·rename_i c0 h0
    simp only [v00] at h;obtain ⟨c1,c2,h1,h2,h3⟩:=zm0 hl' h0;rw [h1];exact ⟨_,c2,rfl,h2,by rw [← h,h3,Bool.and_assoc]⟩
   ·cases h
theorem zi9:∀ {a a':List V} {c:Bool},y2c a a'=some c→a.length=a'.length
 | [],[],_,_=>rfl
 | [],_ :: _,_,h=>by simp [y2c] at h
 | x :: _,[],_,h=>by cases x <;> simp [y2c] at h
 | x :: a,y :: a',c,h=>by
  cases x <;> cases y <;> simp only [y2c] at h <;> try (cases h; done)
  ·split at h
   ·split at h
    ·rename_i h0
     simp [zi9 h0]
    ·cases h
   ·cases h
  ·split at h
   ·rename_i h0
    simp [zi9 h0]
   ·cases h
section
variable {P:Program} {γ:Nat→Value} {o:Store} {w:World} {O:Nat→Prop}
def zsu (P:Program) (γ:Nat→Value) (o:Store) (w:World) (O:Nat→Prop) (t:Nat) (l:List V) (x:Value):Prop:=
 match P.underlying t with
 | some d=>match d.isRow with
  | true=>∃ xs,x = .agg xs∧VRels γ o w O l xs.toList
  | false=>∃ v,l=[v]∧VRel γ o w O v x
 | none=>False
theorem ykj {d t:Nat} {ks:List Kd} (h:eqW P d t=some ks):∃ k,P.underlying t=some k∧(k.isRow=false→ks.length=1):=by
 cases d with
 | zero=>simp [eqW] at h
 | succ d=>
  simp only [eqW] at h
  split at h
  ·rename_i hu; simp only [v00] at h; exact ⟨_,hu,fun _=>by rw [← h]; rfl⟩
  ·rename_i hu; simp only [v00] at h; exact ⟨_,hu,fun _=>by rw [← h]; rfl⟩
  ·rename_i hu; exact ⟨_,hu,fun h=>by simp [TypeDesc.isRow] at h⟩
  ·rename_i hu; exact ⟨_,hu,fun h=>by simp [TypeDesc.isRow] at h⟩
  ·cases h
theorem zif {t n off:Nat} {l:List V} {xs:Array Value} (hu:∃ k,P.underlying t=some k∧(k.isRow=false→n=1)) (hs:y1a P t n=true) (hr:VRels γ o w O l xs.toList) (hl:off+n≤l.length) (W:World) :
  ∃ y,(part t xs off).run P W = .ok y W∧zsu P γ o w O t ((l.drop off).take n) y:=by
 obtain ⟨k,hu,hn⟩:=hu;unfold y1a at hs
 split at hs
 ·rename_i i hi
  simp only [v1h] at hs;cases hrow:k.isRow with
  | true=>
   refine ⟨.agg (xs.extract off (off+n)),?_,?_⟩
   ·cases k <;> simp [TypeDesc.isRow] at hrow <;> simp [part,isAgg,run_underlying hu,run_sizeOf W hi,hs]
   ·unfold zsu
    rw [hu];simp only [hrow];refine ⟨_,rfl,?_⟩
    have:(xs.extract off (off+n)).toList=(xs.toList.drop off).take n:=by
     simp [v2g]
    rw [this];exact (hr.drop off).take n
  | false=>
   obtain rfl:=hn hrow;obtain ⟨v,hv⟩:∃ v,l[off]?=some v:=⟨l[off]'(by omega),v0h _⟩
   obtain ⟨y,hy,hyr⟩:=hr.get hv;have hy':xs[off]?=some y:=by simpa using hy
   refine ⟨y,?_,?_⟩
   ·cases k <;> simp [TypeDesc.isRow] at hrow <;> simp [part,isAgg,run_underlying hu,hy']
   ·unfold zsu
    rw [hu];simp only [hrow];refine ⟨v,?_,hyr⟩;rw [List.take_one,List.head?_drop,hv]
    rfl
 ·cases hs
def yqx (P:Program) (γ:Nat→Value) (o:Store) (w:World) (O:Nat→Prop) (dd t:Nat) (ks:List Kd):Prop:=∀ (W:World) (x y:Value) (l l':List V) (c:Bool),zah ks l=true→zsu P γ o w O t l x→zsu P γ o w O t l' y→y2c l l'=some c→(Op.equalIn dd t x y).run P W = .ok c W
theorem zc8 (l:List V) (off n:Nat):l.drop off=(l.drop off).take n++l.drop (off+n):=by
 rw [← v41]; exact (v3w n (l.drop off)).symm
theorem zt4 {dd:Nat} {g:Nat→Option (List Kd)} (hg:∀ t ks,g t=some ks→yqx P γ o w O dd t ks∧∃ k,P.underlying t=some k∧(k.isRow=false→ks.length=1)) {xs ys:Array Value} {l l':List V} (hx:VRels γ o w O l xs.toList) (hy:VRels γ o w O l' ys.toList) (hll:l.length=l'.length) (W:World) :
  ∀ (fs:List Field) (off:Nat) {ks:List Kd} {c:Bool},off≤l.length→ysk P g fs off=some ks→zah ks (l.drop off)=true→y2c (l.drop off) (l'.drop off)=some c→(Op.eqFields dd xs ys fs).run P W = .ok c W
 | [],off,ks,c,hoff,hf,hk,he=>by
  simp only [ysk,v00] at hf;subst hf;have h0:=zc3 hk;have h1:l.drop off=[]:=List.length_eq_zero_iff.1 h0;have h2:l'.drop off=[]:=by
   have:=zi9 he
   rw [h1] at this;exact List.length_eq_zero_iff.1 this.symm
  rw [h1,h2] at he;simp only [y2c,v00] at he;subst he;simp [Op.eqFields]
 | f :: r,off,ks,c,hoff,hf,hk,he=>by
  simp only [ysk] at hf
  split at hf
  ·rename_i ks1 hw
   split at hf
   ·rename_i hb
    split at hf
    ·rename_i ks2 hf2
     simp only [v00] at hf;subst hf;simp only [v02,v1h,bne_iff_ne,ne_eq] at hb;obtain ⟨hn,ho,hs⟩:=hb;obtain ⟨hrun,hu⟩:=hg _ _ hw;obtain ⟨hk1,hk2⟩:=zgj hk;rw [v41] at hk2;have hkl:=zc3 hk;simp only [v1g,v08] at hkl;have hle:off+ks1.length≤l.length:=by omega
     rw [zc8 l off ks1.length,zc8 l' off ks1.length] at he;obtain ⟨c1,c2,h1,h2,h3⟩:=zm0 (by simp; omega) he
     obtain ⟨a,ha,hac⟩:=zif (off:=off) hu hs hx hle W;obtain ⟨b,hb,hbc⟩:=zif (off:=off) hu hs hy (by omega) W
     have he1:=hrun W a b _ _ c1 hk1 hac hbc h1;have ih:=zt4 hg hx hy hll W r (off+ks1.length) hle hf2 hk2 h2;simp only [Op.eqFields,hn,ne_eq,not_false_eq_true,v1t,Sem.run_bind,ho,ha,hb,he1,Result.andThen_ok];subst h3;cases c1
     ·simp
     ·simpa using ih
    ·cases hf
   ·cases hf
  ·cases hf
theorem zvs {dd e:Nat} {ks:List Kd} (hrun:yqx P γ o w O dd e ks) (hu:∃ k,P.underlying e=some k∧(k.isRow=false→ks.length=1)) (hs:y1a P e ks.length=true) {xs ys:Array Value} {l l':List V} (hx:VRels γ o w O l xs.toList) (hy:VRels γ o w O l' ys.toList) (hll:l.length=l'.length) (W:World) :
  ∀ (m i:Nat) {c:Bool},i*ks.length+m*ks.length=l.length→zah (yqv ks m) (l.drop (i*ks.length))=true→y2c (l.drop (i*ks.length)) (l'.drop (i*ks.length))=some c→(Op.eqItems dd e ks.length xs ys (List.range' i m)).run P W = .ok c W
 | 0,i,c,hl,hk,he=>by
  rw [v1i (by omega),v1i (by omega)] at he
  simp only [y2c,v00] at he;subst he;simp [Op.eqItems]
 | m+1,i,c,hl,hk,he=>by
  rw [v2h,Nat.one_mul] at hl;obtain ⟨hk1,hk2⟩:=zgj (ks:=ks) (ks':=yqv ks m) hk;rw [v41] at hk2;rw [zc8 l (i*ks.length) ks.length,zc8 l' (i*ks.length) ks.length] at he;obtain ⟨c1,c2,h1,h2,h3⟩:=zm0 (by simp; omega) he
  obtain ⟨a,ha,hac⟩:=zif (off:=i*ks.length) hu hs hx (by omega) W
  obtain ⟨b,hb,hbc⟩:=zif (off:=i*ks.length) hu hs hy (by omega) W
  have he1:=hrun W a b _ _ c1 hk1 hac hbc h1;have ih:=zvs hrun hu hs hx hy hll W m (i+1) (by rw [v2h,Nat.one_mul]; omega) (by rw [v2h,Nat.one_mul]; exact hk2) (by rw [v2h,Nat.one_mul]; exact h2)
  simp only [List.range'_succ,Op.eqItems,Sem.run_bind,ha,hb,he1,Result.andThen_ok];subst h3;cases c1
  ·simp
  ·simpa using ih
theorem zxq (ks:List Kd):∀ n,(yqv ks n).length=n*ks.length
 | 0=>by simp [yqv]
 | n+1=>by simp only [yqv,v08,zxq ks n,v2h,Nat.one_mul]; omega
theorem ye9 (dd:Nat):∀ (d t:Nat) (ks:List Kd),eqW P d t=some ks→yqx P γ o w O (dd+d) t ks
 | 0,t,ks,h=>by simp [eqW] at h
 | d+1,t,ks,h=>by
  intro W x y l l' c hk hx hy he;have hll:=zi9 he;simp only [eqW] at h;unfold zsu at hx hy
  split at h
  ·rename_i k hu
   simp only [v00] at h;subst h;rw [hu] at hx hy;simp only at hx hy;obtain ⟨v,rfl,hx⟩:=hx;obtain ⟨v',rfl,hy⟩:=hy;cases v <;> simp only [zah] at hk <;> try (cases hk; done)
   cases v' <;> simp only [y2c] at he <;> try (cases he; done)
   simp only [VRel] at hx hy;obtain ⟨rfl,_⟩:=hx;obtain ⟨rfl,_⟩:=hy
   split at he
   ·rename_i hkk
    simp only [v00,v1d] at he;have hkk:=eq_of_beq hkk;subst hkk;rw [show dd+(d+1)=(dd+d)+1 from rfl,run_equalIn_int W _ t _ k _ _ hu,he]
   ·cases he
  ·rename_i hu
   simp only [v00] at h;subst h;rw [hu] at hx hy;simp only at hx hy;obtain ⟨v,rfl,hx⟩:=hx;obtain ⟨v',rfl,hy⟩:=hy;cases v <;> simp only [zah] at hk <;> try (cases hk; done)
   cases v' <;> simp only [y2c] at he <;> try (cases he; done)
   simp only [VRel] at hx hy;subst hx; subst hy;simp only [v00,v1d] at he;rw [show dd+(d+1)=(dd+d)+1 from rfl,run_equalIn_bool W _ t _ _ hu,he]
  ·rename_i fs hu
   rw [hu] at hx hy;simp only at hx hy;obtain ⟨xs,rfl,hx⟩:=hx;obtain ⟨ys,rfl,hy⟩:=hy
   split at h
   ·cases h
   ·rename_i hst
    have hfs:P.fieldsOf t=fs:=by simp [Program.fieldsOf,hu]
    rw [show dd+(d+1)=(dd+d)+1 from rfl,run_equalIn_struct W (dd+d) t xs ys (by rw [hfs]; exact hu) hst,hfs]
    exact zt4 (fun t ks ht=>⟨ye9 dd d t ks ht,ykj ht⟩) hx hy hll W fs.toList 0 (v0x _) h hk he
  ·rename_i m e hu
   rw [hu] at hx hy;simp only at hx hy;obtain ⟨xs,rfl,hx⟩:=hx;obtain ⟨ys,rfl,hy⟩:=hy
   split at h
   ·rename_i ks1 hw
    split at h
    ·rename_i hs
     simp only [v00] at h;subst h;have hs':=hs;unfold y1a at hs'
     split at hs'
     ·rename_i i hi
      simp only [v1h] at hs';have hkl:=zc3 hk;rw [zxq] at hkl;rw [show dd+(d+1)=(dd+d)+1 from rfl,run_equalIn_array W (dd+d) xs ys hu hi,hs',v3z]
      exact zvs (ye9 dd d e ks1 hw) (ykj hw) hs hx hy hll W m 0 (by omega) (by simpa using hk) (by simpa using he)
     ·cases hs'
    ·cases h
   ·cases h
  ·cases h
end
theorem ykm {P:Program} {E:Env} {ti:List (Nat × TI)} (hti:E.ti=ti) {l:List Nat} (h:yu3 P ti l=true):∀ t,t∈l→EqSnd P t (E.tyd t).ks:=by
 induction l with
 | nil=>intro t ht; cases ht
 | cons t r ih=>
  intro t' ht';simp only [yu3,v02,v12] at h;rcases v17.1 ht' with e | e
  ·subst e
   refine ⟨h.1.1,fun γ o w w' O l l' xs ys c hk hc hx hy=>?_⟩
   obtain ⟨⟨_,h2,h3⟩,_⟩:=h
   split at h3
   ·rename_i ks hn
    have hks:(E.tyd t').ks=ks:=by
     unfold Env.tyd;rw [hti];exact y4y h3
    rw [hks] at hk
    split at h2
    ·rename_i k hk2
     have hcx:∀ {l:List V} {xs:Array Value},VRels γ o w O l xs.toList→zsu P γ o w O t' l (.agg xs):=fun hx=>by
      unfold zsu;rw [hk2];simp only [h2];exact ⟨_,rfl,hx⟩
     exact ye9 (P:=P) (γ:=γ) (o:=o) (w:=w) (O:=O) 9990 10 t' ks hn w' (.agg xs) (.agg ys) l l' c hk (hcx hx) (hcx hy) hc
    ·cases h2
   ·cases h3
  ·exact ih h.2 t' e
open Go Go.RowKit
theorem Snd.mono {P:Program} {B:BT} {f:FuncId} {sp sp':ypt} (h:Snd P B f sp) (hs:∀ vs r,sp' vs=some r→sp vs=some r):Snd P B f sp':=
 fun w X γ vs xs r out hsp=>h w X γ vs xs r out (hs vs _ hsp)
def z32 (P:Program) (B:BT) (f:FuncId) (sp:z0o):Prop:=Snd P B f (fun vs=>(sp vs).get)
mutual
def wfK:Kd→IV→Prop
 | .int k,x=>k.min≤x.toInt∧x.toInt≤k.max
 | .bool,_=>True
 | .str,x=>x.toStr.size≤strMax
 | .list ag ks,x=>x.toList.length≤strMax∧∀ y∈x.toList,yqn ks (z3r ag y) 0
def yqn:List Kd→(Nat→IV)→Nat→Prop
 | [],_,_=>True
 | k :: ks,f,j=>wfK k (f j)∧yqn ks f (j+1)
end
def wfL:V→Prop
 | .int k n=>k.min≤n∧n≤k.max
 | .str s=>s.size≤strMax
 | .list ag ks l=>l.length≤strMax∧∀ y∈l,yqn ks (z3r ag y) 0
 | .vec _ ag ks l=>l.length≤strMax∧∀ y∈l,yqn ks (z3r ag y) 0
 | .bld s=>s.size≤strMax
 | _=>True
def wfLs:List V→Prop
 | []=>True
 | v :: r=>wfL v∧wfLs r
def wfV:V→Prop
 | .agg l=>wfLs l
 | .bor l=>wfLs l
 | v=>wfL v
def yn9:List V→Prop
 | []=>True
 | v :: r=>wfV v∧yn9 r
mutual
theorem Kd.Rel.wf {w:World} {O:Nat→Prop}:∀ {k:Kd} {x:IV} {v:Value},Kd.Rel w O k x v→wfK k x
 | .int k,x,v,h=>by simp only [Kd.Rel] at h; simp only [wfK]; exact h.2
 | .bool,x,v,h=>by simp only [wfK]
 | .str,x,v,h=>by simp only [Kd.Rel] at h; simp only [wfK]; exact h.2
 | .list ag ks,x,v,h=>by
  simp only [Kd.Rel] at h;obtain ⟨p,c,_,_,_,hl,hi⟩:=h;simp only [wfK];refine ⟨hl,fun y hy=>?_⟩
  obtain ⟨i,hi'⟩:=v3c hy;obtain ⟨b,o,_,_,_,hr⟩:=hi i y hi';exact Kd.RelAll.wf hr
theorem Kd.RelAll.wf {w:World} {O:Nat→Prop}:∀ {ks:List Kd} {f:Nat→IV} {j:Nat} {R:Nat→Value→Prop},Kd.RelAll w O ks f j R→yqn ks f j
 | [],_,_,_,_=>by simp only [yqn]
 | k :: ks,f,j,R,h=>by
  simp only [Kd.RelAll] at h;obtain ⟨⟨u,_,hr⟩,h2⟩:=h;simp only [yqn];exact ⟨Kd.Rel.wf hr,Kd.RelAll.wf h2⟩
end
theorem VRel.wfL {γ:Nat→Value} {o:Store} {w:World} {O:Nat→Prop} {v:V} {x:Value} (h:VRel γ o w O v x):wfL v:=by
 cases v <;> simp only [FM.wfL] <;> simp only [VRel] at h
 ·exact h.2
 ·exact h.2
 ·have:=Kd.Rel.wf h
  simp only [wfK,IV.toList] at this;exact this
theorem VRels.wfLs {γ:Nat→Value} {o:Store} {w:World} {O:Nat→Prop}:∀ {l:List V} {xs:List Value},VRels γ o w O l xs→wfLs l
 | [],[],_=>by simp only [FM.wfLs]
 | [],_ :: _,h=>by simp only [VRels] at h
 | _ :: _,[],h=>by simp only [VRels] at h
 | v :: vs,x :: xs,h=>by
  simp only [VRels] at h;simp only [FM.wfLs];exact ⟨h.1.wfL,VRels.wfLs h.2⟩
theorem yso {B:BT} {γ:Nat→Value} {o:Store} {w:World} {O:Nat→Prop} {g:Value} {e:Nat} {ag:Bool} {ks:List Kd} {l:List IV} (h:ObRel B γ o w O g (.row true e ag ks l)):wfL (.vec e ag ks l):=by
 simp only [ObRel] at h;obtain ⟨_,hl,xs,_,hr⟩:=h;simp only [FM.wfL];refine ⟨hl,fun y hy=>?_⟩
 obtain ⟨i,hi⟩:=v3c hy;exact Kd.RelAll.wf (hr i y hi)
theorem yqj {B:BT} {nt:Nat} {w0:World} {X:Zone} {γ:Nat→Value} {a:Act} {w:World} {cs:List V} (h:Rel B nt w0 X γ ⟨[],z9u cs⟩ a w):wfLs cs:=by
 by_cases hb:∃ s,cs=[.bld s]
 ·obtain ⟨s,rfl⟩:=hb
  have:=h.ob 900000 (.bld s) (by simp [z9u,z02])
  simp only [ObRel] at this;obtain ⟨b,v,p,_,_,_,_,_,hs⟩:=this;simp only [FM.wfLs,FM.wfL,v1c];exact hs
 ·have he:z9u cs=(900000,some (.box (z8o 900001 cs))) :: zjm 900001 cs:=y6j (fun s e=>hb ⟨s,e⟩)
  have hbox:=h.ob 900000 (.box (z8o 900001 cs)) (by rw [he,z02,v1b rfl])
  simp only [ObRel] at hbox;obtain ⟨b,c,T,_,_,hr⟩:=hbox;have hall:∀ (j:Nat) (v:V),cs[j]?=some v→FM.wfL v:=by
   intro j v hj
   by_cases hv:∃ e ag ks l,v = .vec e ag ks l
   ·obtain ⟨e,ag,ks,l,rfl⟩:=hv
    have hat:=zon (nr:=900001) hj
    have:=h.ob (900001+j) _ (show z09 (z9u cs) (900001+j)=_ by rw [he,z02,v0y (by omega)]; exact hat)
    exact yso this
   ·have hbk:(z8o 900001 cs)[j]?=some v:=by
     rw [zlb,hj];cases v <;> first | rfl | exact absurd ⟨_,_,_,_,rfl⟩ hv
    obtain ⟨x,_,hx⟩:=hr.get hbk;exact hx.wfL
  clear hr he hb h
  induction cs with
  | nil=>simp only [FM.wfLs]
  | cons v r ih=>
   simp only [FM.wfLs];exact ⟨hall 0 v rfl,ih (fun j u hj=>hall (j+1) u (by simpa using hj))⟩
theorem yln {B:BT} {nt:Nat} {w0:World} {X:Zone} {γ:Nat→Value} {a:Act} {w:World} {O:Nat→Prop} {o:Store} {cs:Option (List V)} (hcs:∀ l,cs=some l→wfLs l):∀ {vs:List V} {xs:List Value},(∀ l,.bor l∈vs→cs=some l)→VRels γ o w O (vs.map zab) xs→yn9 vs
 | [],_,_,_=>by simp only [yn9]
 | v :: r,[],_,h=>by simp only [v0d,VRels] at h
 | v :: r,x :: xs,hb,h=>by
  simp only [v0d,VRels] at h;simp only [yn9];refine ⟨?_,yln (B:=B) (nt:=nt) (w0:=w0) (X:=X) (a:=a) hcs (fun l hl=>hb l (v0b _ hl)) h.2⟩
  have h1:=h.1
  by_cases hbor:∃ l,v = .bor l
  ·obtain ⟨l,rfl⟩:=hbor
   simp only [wfV];exact hcs l (hb l (v09 ..))
  ·by_cases hagg:∃ l,v = .agg l
   ·obtain ⟨l,rfl⟩:=hagg
    simp only [zab,VRel] at h1;obtain ⟨cs',_,hr⟩:=h1;simp only [wfV];exact hr.wfLs
   ·have:wfV v=FM.wfL v:=by cases v <;> first | rfl | exact absurd ⟨_,rfl⟩ hbor | exact absurd ⟨_,rfl⟩ hagg
    rw [this];cases v <;> first | exact h1.wfL | exact absurd ⟨_,rfl⟩ hbor | exact absurd ⟨_,rfl⟩ hagg | (simp only [FM.wfL])
def zfa:List V→Option (List V)→Prop
 | [],_=>True
 | .bor l :: r,c=>c=some l∧zfa r c
 | _ :: r,c=>zfa r c
theorem zru:∀ {vs:List V} {c:Option (List V)},zfa vs c→∀ l,.bor l∈vs→c=some l
 | [],_,_,l,h=>by cases h
 | v :: r,c,ho,l,h=>by
  rcases v17.1 h with e | e
  ·subst e
   exact ho.1
  ·cases v <;> simp only [zfa] at ho <;> first | exact zru ho l e | exact zru ho.2 l e
theorem yk8 {P:Program} {B:BT} {f:FuncId} {fn:Func} (E:Nat→Env) (sp:z0o) (rks:List (List Kd)) (hf:P.funcs[f]?=some fn) {code:Code} {rs:List ResultVar} {nt:Nat}
  (hc:(fn.name == "runtime.NumGoroutine")=false∧fn.body=some code∧fn.ntmps=nt∧Nat.ble nt 900000=true∧fn.results.toList=rs) (hnt:∀ N,(E N).nt=nt) (hm:P.follows .mixedOrders=true)
  (hT:∀ N,TiOK P B (E N)) (hE:∀ N t,t∈(E N).eqs→EqSnd P t ((E N).tyd t).ks) (hSp:∀ N f sp,lk (E N).sp f=some sp→z32 P B f sp) (hIp:∀ N f p,lk (E N).ip f=some p→y4e P f p) (hB:∀ N,BldOK P B (E N))
  (h:∀ vs r,(zfa vs (z82 vs)→yn9 vs)→(sp vs).get=some r→∃ N,z0z (E N) code rs rks vs=some r):z32 P B f sp:=by
 intro w X γ vs xs r out hsp hg hx hR hV;have hwf:zfa vs (z82 vs)→yn9 vs:=fun ho=>by
  refine yln (B:=B.base) (nt:=0) (w0:=w) (X:=X) (a:=y2a) (cs:=z82 vs) (fun l hl=>?_) (zru ho) hV
  have hm:zeu vs=z9u l:=by simp only [zeu,hl]
  rw [hm] at hR;exact yqj hR
 obtain ⟨N,hN⟩:=h vs _ hwf hsp;exact yj4 hf hc.1 hc.2.1 ((hnt N).trans hc.2.2.1.symm) (by rw [hc.2.2.1]; exact hc.2.2.2.1) hc.2.2.2.2 rks hm (hT N) (hE N) (hSp N) (hIp N) (hB N) w X γ vs xs r out hN hg hx hR hV
abbrev ic (n:Nat):Int:=n
abbrev lpE (E:Env) (c:Code) (kp:KP) (n:Nat) (s:St) (k:Out→St→Res):Res:=y0t c (evG y0t E c) kp n s k
abbrev kSq (E:Env) (c:Code) (k:Out→St→Res):Out→St→Res:=yvb c (evG y0t E c) k
abbrev rnd (E:Env) (c:Code) (s:St) (k:Out→St→Res):Res:=evG y0t E c s k
theorem z06 (E:Env) (c:Code) (kp:KP) (n:Nat) (s:St) (k:Out→St→Res):lpE E c kp (n+1) s k=rnd E c s (z3t (fun s'=>lpE E c kp n s' k) kp k):=rfl
def z0e (fn:Func):Code:=match fn.body with | some c=>c | none=>.skip
def z0f:Code→List Nat→Code
 | c,[]=>c
 | .seq a _,0 :: r=>z0f a r
 | .seq _ b,_ :: r=>z0f b r
 | .cond _ a _,0 :: r=>z0f a r
 | .cond _ _ b,_ :: r=>z0f b r
 | .block _ c,_ :: r=>z0f c r
 | .loop c,_ :: r=>z0f c r
 | .scope c,_ :: r=>z0f c r
 | _,_=>.skip
open Go Go.RowKit
section
variable {P:Program} {B:BT} {f:FuncId}
theorem Does.of_calls {fn:Func} (hf:P.funcs[f]?=some fn) (hn:(fn.name == "runtime.NumGoroutine")=false) (hb:fn.body.isNone=false) {xs:List Value} {w:World} {R:Ending→World→Prop} (h:Calls P f xs.toArray w R):Does P f xs w R:=Does.enter hf hn hb h
theorem yhv {r:V} (h:∀ cs,r≠.bor cs) (hv:∀ e ag ks l,r≠.vec e ag ks l):z4j r []=[]:=by
 cases r <;> first | rfl | exact absurd rfl (h _) | exact absurd rfl (hv _ _ _ _)
theorem z8r {w:World} {X:Zone} {γ:Nat→Value} {vs:List V} {xs:List Value} {r:V} (hR:Rel B.base 0 w X γ ⟨[],zeu vs⟩ y2a w) (hb:z82 vs=none) (hr:zm8 r=true)
  (h:Does P f xs w fun e w'=>∃ x,e = .returned x∧Keep (fun _=>False) w w'∧∀ O:Nat→Prop,(∀ b,O b→b < w.heap.size)→VRel γ [] w' O r x) :
  Does P f xs w fun e w'=>∃ x,e = .returned x∧∃ γ',Rel B.base 0 w X γ' ⟨[],z4j r []⟩ y2a w'∧VRel γ' (z4j r []) w' (z0c X γ' (z4j r [])) (yd8 r) x∧zcn vs r [] (γ 900000) (γ' 900000):=by
 have hm:zeu vs=[]:=by simp only [zeu,hb]
 rw [hm] at hR;have hnb:∀ cs,r≠.bor cs:=fun cs e=>by subst e; simp [zm8,zc1] at hr
 have hnv:∀ e ag ks l,r≠.vec e ag ks l:=fun e ag ks l h=>by subst h; simp [zm8,zc1] at hr
 rw [yhv hnb hnv,zdp hr];refine h.mono ?_
 rintro e w' ⟨x,rfl,hk,hv⟩
 refine ⟨x,rfl,γ,hR.world hk,hv _ (fun b hb=>?_),?_⟩
 ·rcases hb with ⟨n,ob,hn,_⟩ | hb
  ·simp [z09,lkd] at hn
  ·exact hR.fl b hb
 ·simp only [zcn,hb]
  cases r <;> first | exact hr | exact absurd rfl (hnb _) | exact absurd rfl (hnv _ _ _ _)
structure BldIs (B:BT) (w:World) (b:Nat) (p v:Value) (s:ByteArray):Prop where
 self:p = .pointer none∨p = .pointer (some ⟨b,0,none⟩)
 heap:w.heap[b]?=some (.cells #[p,v] B.T (0,0))
 own:w.ownsRowF 0 B.e 1 v s.size (Lib.strCells s)
 ne:v.ownBlock≠some b
 size:s.size≤strMax
theorem ydm {w:World} {X:Zone} {γ:Nat→Value} {vs:List V} {xs:List Value} {r:V} {s s':ByteArray} (hR:Rel B.base 0 w X γ ⟨[],zeu vs⟩ y2a w) (hb:z82 vs=some [.bld s]) (hr:zm8 r=true) (hnl:∀ γ' o w' O x,VRel γ [] w O r x→VRel γ' o w' O r x)
  (h:∀ b v p,γ 900000 = .tuple #[.pointer (some ⟨b,0,none⟩),v]→BldIs B w b p v s→Does P f xs w fun e w'=>∃ x,e = .returned x∧(∃ p' v',BldIs B w' b p' v' s'∧Keep (fun k=>k=b∨v.ownBlock=some k) w w'∧∀ k,v'.ownBlock=some k→v.ownBlock=some k∨w.heap.size≤k)∧∀ O,VRel γ [] w O r x) :
  Does P f xs w fun e w'=>∃ x,e = .returned x∧∃ γ',Rel B.base 0 w X γ' ⟨[],z4j r [[.bld s']]⟩ y2a w'∧VRel γ' (z4j r [[.bld s']]) w' (z0c X γ' (z4j r [[.bld s']])) (yd8 r) x∧zcn vs r [[.bld s']] (γ 900000) (γ' 900000):=by
 have hm:zeu vs=z9u [.bld s]:=by simp only [zeu,hb]
 have hmo:z4j r [[.bld s']]=z9u [.bld s']:=by cases r <;> rfl
 rw [hm] at hR;have hob:z09 (z9u [.bld s]) 900000=some (.bld s):=by simp [z9u,z02]
 have hor:=hR.ob 900000 _ hob;simp only [ObRel,BT.base] at hor;obtain ⟨b,v,p,hg,hp,hh,how,hne,hsz⟩:=hor;rw [hmo,zdp hr];refine (h b v p hg ⟨hp,hh,how,hne,hsz⟩).mono ?_
 rintro e w' ⟨x,rfl,⟨p',v',hB,hk,hnew⟩,hx⟩
 have hPb:∀ k,(k=b∨v.ownBlock=some k)→z1y γ (z9u [.bld s]) k:=by
  rintro k hk
  refine ⟨900000,_,hob,⟨b,0,none⟩,v,hg,?_⟩;rcases hk with rfl | hk
  ·exact .inl rfl
  ·exact .inr hk
 have hXb:∀ k,(k=b∨v.ownBlock=some k)→k < w.heap.size∧X.own k∧¬ X.far k:=fun k hk=>by
  obtain ⟨h1,h2⟩:=hR.lt k (hPb k hk);exact ⟨h1,h2.resolve_left (by omega),hR.nr k (hPb k hk)⟩
 have hkX:Keep X.own w w':=hk.mono (fun k _ h=>(hXb k h).2.1)
 have hobs:∀ n ob,z09 (z9u [.bld s']) n=some ob→n=900000∧ob = .bld s':=by
  intro n ob hn;simp only [z9u,z02] at hn
  split at hn
  ·rename_i e
   simp only [v00] at hn;exact ⟨e.symm,hn.symm⟩
  ·simp [z09,lkd] at hn
 have hP':∀ k,z1y (fun _=>.tuple #[.pointer (some ⟨b,0,none⟩),v']) (z9u [.bld s']) k→k=b∨v'.ownBlock=some k:=by
  rintro k ⟨n,ob,hn,hbk⟩
  obtain ⟨rfl,rfl⟩:=hobs n ob hn;obtain ⟨a,v2,h1,h2⟩:=hbk;simp only [Value.tuple.injEq] at h1;have e1:a=⟨b,0,none⟩∧v2=v':=by
   have:=congrArg Array.toList h1
   simp at this;exact ⟨this.1.symm,this.2.symm⟩
  obtain ⟨rfl,rfl⟩:=e1;rcases h2 with h2 | h2
  ·exact .inl h2.symm
  ·exact .inr h2
 have hlt':∀ k,v'.ownBlock=some k→k < w'.heap.size:=by
  intro k hk;rcases hB.own.2 with ⟨rfl,_⟩ | ⟨g,cap,cur,fz,rfl,_,hgh,_⟩
  ·simp [Value.ownBlock] at hk
  ·simp only [Value.ownBlock,v00] at hk
   subst hk;exact (Array.getElem?_eq_some_iff.1 hgh).1
 refine ⟨x,rfl,fun _=>.tuple #[.pointer (some ⟨b,0,none⟩),v'],⟨rfl,rfl,fun i=>by simp only [St.get,lkd,VRel],fun n ob hn=>?_,fun k hk2=>?_,fun n m ob ob' k hnm h1 h2=>?_,hkX,fun k hk2 hf=>?_,fun k hf=>v1f (hR.fl k hf) hk.size,fun q hq=>by cases hq⟩,hnl _ _ _ _ _ (hx _),?_⟩
 ·obtain ⟨rfl,rfl⟩:=hobs n ob hn
  simp only [ObRel,BT.base];exact ⟨b,v',p',rfl,hB.self,hB.heap,hB.own,hB.ne,hB.size⟩
 ·rcases hP' k hk2 with rfl | h2
  ·obtain ⟨h3,h4,_⟩:=hXb k (.inl rfl)
   exact ⟨v1f h3 hk.size,.inr h4⟩
  ·refine ⟨hlt' k h2,?_⟩
   rcases hnew k h2 with h3 | h3
   ·exact .inr (hXb k (.inr h3)).2.1
   ·exact .inl h3
 ·obtain ⟨rfl,rfl⟩:=hobs n ob h1
  obtain ⟨rfl,rfl⟩:=hobs m ob' h2;exact absurd rfl hnm
 ·rcases hP' k hk2 with rfl | h2
  ·exact (hXb k (.inl rfl)).2.2 hf
  ·rcases hnew k h2 with h3 | h3
   ·exact (hXb k (.inr h3)).2.2 hf
   ·have:=hR.fl k hf
    omega
 ·simp only [zcn,hb]
  exact ⟨hr,rfl,by rw [hg]; rfl⟩
theorem ydi {w:World} {γ:Nat→Value} {s:ByteArray} {O:Nat→Prop} {x:Value} {b:Nat} {v:Value} (hg:γ 900000 = .tuple #[.pointer (some ⟨b,0,none⟩),v]) (h:VRel γ (z9u [.bld s]) w O (.ptr 900000 0 0) x):x = .pointer (some ⟨b,0,none⟩):=by
 simp only [VRel,z9u,z02,v1t] at h;obtain ⟨_,b',v',h1,rfl⟩:=h;rw [hg] at h1;simp only [Value.tuple.injEq] at h1
 have:=congrArg Array.toList h1
 simp at this;rw [this.1]
theorem y6u {w:World} {X:Zone} {γ:Nat→Value} {vs:List V} {xs:List Value} {e:Nat} {ag:Bool} {ks:List Kd} {l:List IV} (hR:Rel B.base 0 w X γ ⟨[],zeu vs⟩ y2a w) (hb:z82 vs=none) (he:e < 1000000) (hks:0 < ks.length) (hl:l.length≤strMax)
  (h:Does P f xs w fun e' w'=>∃ v ys,e' = .returned v∧Keep (fun _=>False) w w'∧w'.ownsRow w.heap.size e ks.length v l.length ys∧∀ (O:Nat→Prop) i y,l[i]?=some y→Kd.RelAll w' O ks (z3r ag y) 0 (fun j u=>ys[i*ks.length+j]?=some u)) :
  Does P f xs w fun e' w'=>∃ x,e' = .returned x∧∃ γ',Rel B.base 0 w X γ' ⟨[],z4j (.vec e ag ks l) []⟩ y2a w'∧VRel γ' (z4j (.vec e ag ks l) []) w' (z0c X γ' (z4j (.vec e ag ks l) [])) (yd8 (.vec e ag ks l)) x∧zcn vs (.vec e ag ks l) [] (γ 900000) (γ' 900000):=by
 have hm:zeu vs=[]:=by simp only [zeu,hb]
 rw [hm] at hR;have hmo:z4j (.vec e ag ks l) []=[(900000,some (.row true e ag ks l))]:=rfl;rw [hmo];refine h.mono ?_
 rintro e' w' ⟨v,ys,rfl,hk,hown,hel⟩
 have hown0:w'.ownsRow 0 e ks.length v l.length ys:=by
  refine ⟨hown.1,?_⟩;rcases hown.2 with h1 | ⟨g,cap,cur,h1,_,h2,h3,h4,h5,h6⟩
  ·exact .inl h1
  ·exact .inr ⟨g,cap,cur,h1,v0x _,h2,h3,h4,h5,h6⟩
 have obs:∀ n ob,z09 [(900000,some (Ob.row true e ag ks l))] n=some ob→n=900000∧ob = .row true e ag ks l:=fun n ob hn=>by
  rw [z02] at hn
  split at hn
  ·rename_i h9
   simp only [v00] at hn;exact ⟨h9.symm,hn.symm⟩
  ·simp [z09,lkd] at hn
 have hfresh:∀ b,v.ownBlock=some b→w.heap.size≤b∧b < w'.heap.size:=fun b hb=>hown.lt b hb
 have ownP:∀ b,z1y (fun n=>if n=900000 then v else γ n) [(900000,some (Ob.row true e ag ks l))] b→v.ownBlock=some b:=by
  rintro b ⟨n,ob,hn,hb⟩
  obtain ⟨rfl,rfl⟩:=obs n ob hn
  simpa only [z0q,v1t] using hb
 refine ⟨v,rfl,fun n=>if n=900000 then v else γ n,⟨hR.sz,hR.df,fun i=>by simp only [St.get,lkd,VRel],fun n ob hn=>?_,fun b hb=>?_,fun n m ob ob' b hnm h1 h2=>?_,hk.mono (fun _ _ h=>h.elim),fun b hb hf=>?_,fun b hf=>v1f (hR.fl b hf) hk.size,fun p hp=>by cases hp⟩,?_,?_⟩
 ·obtain ⟨rfl,rfl⟩:=obs n ob hn
  simp only [ObRel,v1t];exact ⟨hks,hl,ys,OwnRow.of hown0 he,hel _⟩
 ·have:=hfresh b (ownP b hb)
  exact ⟨this.2,.inl this.1⟩
 ·obtain ⟨rfl,rfl⟩:=obs n ob h1
  obtain ⟨rfl,rfl⟩:=obs m ob' h2;exact absurd rfl hnm
 ·have:=hfresh b (ownP b hb)
  have:=hR.fl b hf
  omega
 ·simp only [yd8,VRel,z02,v1t]
  refine ⟨v0a _,?_⟩;rcases hown.2 with ⟨rfl,h0⟩ | ⟨g,cap,cur,rfl,_,h2,h3,h4,h5,h6⟩
  ·exact ⟨none,0,0,none,rfl,by rw [h0],v0x _,by rw [h0]; exact v0a _,v0a _,v0x _,.inl rfl,fun _=>rfl⟩
  ·refine ⟨some ⟨g,0,none⟩,l.length,cap,some ⟨g,0,none⟩,rfl,by simp,v0x _,v0a _,h3,h4,.inl ?_,fun _=>rfl⟩
   simp [Addr.add]
 ·simp only [zcn,hb,okR]
end
theorem ynf {w w':World} {O:Nat→Prop} (hO:∀ b,O b→b < w.heap.size) {g:Nat} {T:TypeId} {l:List ByteArray} {c:Nat} (hg:w.heap.size≤g) (hh:w'.heap[g]?=some (.cells (l.map Value.string).toArray T (0,0))) (hc:l.length≤c) (hcm:c≤maxLen) (hl:l.length≤strMax)
  (hs:∀ s∈l,s.size≤strMax):Kd.Rel w' O (.list false [.str]) (.list (l.map IV.str)) (.slice (some ⟨g,0,none⟩) l.length c):=by
 simp only [Kd.Rel,IV.toList,v14];refine ⟨_,c,rfl,hc,hcm,hl,fun i y hy=>⟨g,0,rfl,fun h=>by have:=hO g h; omega,(Array.getElem?_eq_some_iff.1 hh).1,?_⟩⟩
 simp only [v11,v1k] at hy;obtain ⟨s,hs1,rfl⟩:=hy;simp only [Kd.RelAll,v03,v0i,v0p,v49,v1s,v1c];refine ⟨.string s,?_,?_⟩
 ·simp only [World.cell?,hh]
  simp [hs1]
 ·simp only [Kd.Rel,z3r,IV.toStr]
  exact ⟨trivial,hs s (v1r hs1)⟩
open Go Go.RowKit
theorem R.get_br (b:Bool) (x y:R):(R.br b x y).get=cond b x.get y.get:=by cases b <;> rfl
theorem R.get_ok (v:V) (o:List (List V)):(R.ok v o).get=some (v,o):=rfl
theorem R.get_no:R.no.get=none:=rfl
def z0n (n:Int):ByteArray:=⟨(Lib.itoa n).toArray⟩
def z58 (s:ByteArray):Int:=match Lib.atoiAll s.data.toList with | .ok v=>v | .range=>Lib.atoiSat s.data.toList | _=>0
def zmc (s:ByteArray):Bool:=match Lib.atoiAll s.data.toList with | .ok _=>true | _=>false
def cutL (s sep:ByteArray):ByteArray:=⟨(Lib.cut s.data.toList sep.data.toList).1.toArray⟩
def zgp (s sep:ByteArray):ByteArray:=⟨(Lib.cut s.data.toList sep.data.toList).2.1.toArray⟩
def yvo (s sep:ByteArray):Bool:=(Lib.cut s.data.toList sep.data.toList).2.2
def z0d (s sep:ByteArray):List ByteArray:=Lib.splitB sep 0 (Lib.countB s sep) s
def zgd (c:Int):UInt8:=UInt8.ofNat c.toNat
def z14:z0o
 | [.bor [.bld s],.str t]=>.br (decide (s.size+t.size≤strMax)) (.ok (.tup [.int .i64 (ic t.size),.err true]) [[.bld (s++t)]]) .no
 | _=>.no
def z29:z0o
 | [.bor [.bld s],.int .u8 c]=>.br (decide (s.size+1≤strMax)) (.ok (.err true) [[.bld (s.push (zgd c))]]) .no
 | _=>.no
def z1l:z0o
 | [.bor [.bld s]]=>.ok (.str s) [[.bld s]]
 | _=>.no
def z2y:z0o
 | [.int .i64 n]=>.ok (.str (z0n n)) []
 | _=>.no
def z3w:z0o
 | [.str s]=>.ok (.tup [.int .i64 (z58 s),.err (zmc s)]) []
 | _=>.no
def z6g:z0o
 | [.str s,.str sep]=>.br (decide (s.size < 4294967281)) (.ok (.tup [.str (cutL s sep),.str (zgp s sep),.bool (yvo s sep)]) []) .no
 | _=>.no
def z1t:z0o
 | [.str s,.str sep]=>.br (decide (s.size < 4294967281)&&decide (1≤sep.size)) (.ok (.list false [.str] ((z0d s sep).map IV.str)) []) .no
 | _=>.no
def zce (n:Int):ByteArray:=⟨(Lib.decDigits n.toNat).toArray⟩
def puV (s:ByteArray):Int:=match Lib.parseMag s.data.toList with | .ok v=>(v:Int) | .range=>18446744073709551615 | _=>0
def puN (s:ByteArray):Bool:=match Lib.parseMag s.data.toList with | .ok _=>true | _=>false
def zj9 (s cs:ByteArray):ByteArray:=⟨(Lib.trimRightB s.data.toList (cs.data.toList.headD 0)).toArray⟩
def zqm (s:ByteArray) (n:Nat):ByteArray:=⟨(Lib.repeatL s.data.toList n).toArray⟩
def z1f (s p:ByteArray):ByteArray:=⟨(Lib.trimPrefix s.data.toList p.data.toList).toArray⟩
def zf6 (s p:ByteArray):Bool:=Lib.hasPrefix s.data.toList p.data.toList
def z78:z0o
 | [.int .u64 n,.int .i64 b]=>.br (decide (b=10)) (.ok (.str (zce n)) []) .no
 | _=>.no
def z86:z0o
 | [.str s,.int .i64 b,.int .i64 c]=>.br (decide (b=10)&&decide (c=64)) (.ok (.tup [.int .u64 (puV s),.err (puN s)]) []) .no
 | _=>.no
def z83:z0o
 | [.str s,.str cs]=>.br (decide (cs.size=1)&&decide ((cs.data.toList.headD 0).toNat < 128)) (.ok (.str (zj9 s cs)) []) .no
 | _=>.no
def z6f:z0o
 | [.str s,.int .i64 n]=>.br (decide (0≤n)&&decide (s.size*n.toNat≤strMax)) (.ok (.str (zqm s n.toNat)) []) .no
 | _=>.no
def z4l:z0o
 | [.str s,.str p]=>.ok (.tup [.str (z1f s p),.bool (zf6 s p)]) []
 | _=>.no
def zcb (l:List ByteArray) (sep:ByteArray):ByteArray:=⟨(Lib.join (l.map (·.data.toList)) sep.data.toList).toArray⟩
def z8l:z0o
 | [.list false [.str] l,.str sep]=>.br (decide (l.length≤strMax)&&decide ((zcb (l.map IV.toStr) sep).size≤strMax)) (.ok (.str (zcb (l.map IV.toStr) sep)) []) .no
 | _=>.no
def zhq:List IV→ByteArray→Int→Int
 | [],_,_ => -1
 | x :: l,s,i=>cond (s.toList==x.toStr.toList) i (zhq l s (i+1))
theorem y4q {l:List UInt8} {v:Int} (h:Lib.atoiAll l = .ok v):IntKind.i64.min≤v∧v≤IntKind.i64.max:=by
 have e1:IntKind.i64.min = -9223372036854775808:=rfl;have e2:IntKind.i64.max=9223372036854775807:=rfl;rw [e1,e2];unfold Lib.atoiAll at h
 split at h
 ·cases h
 ·simp only at h
  split at h
  ·cases h
  ·cases h
  ·rename_i u hu
   split at h
   ·cases h
   ·split at h
    ·cases h
    ·simp only [Lib.NumEnd.ok.injEq] at h
     subst h
     split <;> omega
theorem zvc (s:ByteArray):IntKind.i64.min≤z58 s∧z58 s≤IntKind.i64.max:=by
 have e1:IntKind.i64.min = -9223372036854775808:=rfl;have e2:IntKind.i64.max=9223372036854775807:=rfl;unfold z58
 split
 ·rename_i v hv
  exact y4q hv
 ·unfold Lib.atoiSat
  rw [e1,e2]
  split <;> omega
 ·rw [e1,e2]; omega
theorem zey {n:Int} (h0:IntKind.i64.min≤n) (h1:n≤IntKind.i64.max):(z0n n).size≤21:=by
 have e1:IntKind.i64.min = -9223372036854775808:=rfl;have e2:IntKind.i64.max=9223372036854775807:=rfl;rw [e1] at h0;rw [e2] at h1
 have:=Lib.itoa_length_le n h0 h1
 simpa [z0n,ByteArray.size] using this
theorem zw3 (s:ByteArray):IntKind.u64.min≤puV s∧puV s≤IntKind.u64.max:=by
 have e1:IntKind.u64.min=0:=rfl;have e2:IntKind.u64.max=18446744073709551615:=rfl;unfold puV
 split
 ·rename_i v hv
  have:=Lib.parseMag_lt hv
  rw [e1,e2]; omega
 ·rw [e1,e2]; omega
 ·rw [e1,e2]; omega
theorem zxx {n:Int} (h0:0≤n) (h1:n≤18446744073709551615):(zce n).size≤20:=by
 rcases Int.lt_or_le 0 n with h | h
 ·have hd:=Lib.numDigits_eq n.toNat (by omega) (by omega)
  have hl:=Lib.decDigits_length n.toNat;have hs:(zce n).size=(Lib.decDigits n.toNat).length:=by simp [zce,ByteArray.size]
  rw [hs,hl]
  split at hd <;> omega
 ·have:n=0:=by omega
  subst this;have hd:Lib.decDigits (0:Int).toNat=[UInt8.ofNat (48+0)]:=by rw [show (0:Int).toNat=0 from rfl,Lib.decDigits]; rfl
  unfold zce;rw [hd]
  decide
theorem zwc (s cs:ByteArray):(zj9 s cs).size≤s.size:=by
 have:∀ (l:List UInt8) c,(Lib.trimRightB l c).length≤l.length:=fun l c=>by
  unfold Lib.trimRightB;rw [List.length_reverse]
  have:=(List.dropWhile_sublist (·==c) (l:=l.reverse)).length_le
  simpa using this
 have h:=this s.data.toList (cs.data.toList.headD 0);simp only [zj9,ByteArray.size,v1m]
 simpa using h
theorem zq6 (s p:ByteArray):(z1f s p).size≤s.size:=by
 simp only [z1f,ByteArray.size,v1m,Lib.trimPrefix]
 split
 ·simp
 ·simp
theorem zvu (s:ByteArray) (n:Nat):(zqm s n).size=s.size*n:=by
 have:∀ (l:List UInt8) n,(Lib.repeatL l n).length=l.length*n:=fun l n=>by rw [Lib.repeatL_length,Nat.mul_comm]
 show (Lib.repeatL s.data.toList n).toArray.size=s.size*n;rw [v1m,this,v19]
 rfl
theorem zoi (s sep:ByteArray):(cutL s sep).size≤s.size∧(zgp s sep).size≤s.size:=by
 unfold cutL zgp Lib.cut
 split
 ·simp only [ByteArray.size,v1m,v0l,v1g,v19]
  omega
 ·simp only [ByteArray.size,v1m,v19,v0i]
  omega
theorem z9l (sep:ByteArray):∀ (k:Nat) (s:ByteArray),(Lib.splitB sep 0 k s).length≤k+1∧∀ p∈Lib.splitB sep 0 k s,p.size≤s.size
 | 0,s=>by simp [Lib.splitB]
 | k+1,s=>by
  unfold Lib.splitB
  split
  ·simp
  ·obtain ⟨h1,h2⟩:=z9l sep k (s.extract ((Lib.indexB s sep).toNat+sep.size) s.size)
   refine ⟨by simp only [v03]; omega,fun p hp=>?_⟩
   rcases v17.1 hp with h | h
   ·subst h
    simp only [v2q];omega
   ·have:=h2 p h
    simp only [v2q] at this;omega
open Go Go.Proofs
def ymc:List (Nat × TI):=[
 (2,⟨1,8,false,[.int .i64],[.int .i64 0],.leaf⟩),
 (3,⟨1,8,false,[.int .i64],[.int .i64 0],.leaf⟩),
 (4,⟨1,1,false,[.bool],[.bool false],.leaf⟩),
 (5,⟨1,1,false,[.int .u8],[.int .u8 0],.leaf⟩),
 (6,⟨1,1,false,[.int .u8],[.int .u8 0],.leaf⟩),
 (7,⟨4,24,true,[.int .i64,.int .i64,.bool,.int .u8],[.int .i64 0,.int .i64 0,.bool false,.int .u8 0],.struct [(0,2),(1,3),(2,4),(3,6)]⟩),
 (8,⟨4,24,true,[.int .i64,.int .i64,.bool,.int .u8],[.int .i64 0,.int .i64 0,.bool false,.int .u8 0],.struct [(0,2),(1,3),(2,4),(3,6)]⟩),
 (9,⟨1,16,false,[.str],[.str ⟨#[]⟩],.leaf⟩),
 (22,⟨1,24,false,[.list false [.int .i64]],[.zs],.slice 3⟩),
 (23,⟨1,24,false,[.list true [.int .i64,.list false [.int .i64],.list false [.int .i64],.list false [.int .i64],.list false [.int .i64]]],[.zs],.slice 84⟩),
 (25,⟨4,64,true,[.int .i64,.int .i64,.list false [.int .i64],.list true [.int .i64,.list false [.int .i64],.list false [.int .i64],.list false [.int .i64],.list false [.int .i64]]],[.int .i64 0,.int .i64 0,.zs,.zs],.struct [(0,3),(1,3),(2,22),(3,23)]⟩),
 (26,⟨1,24,false,[.list true [.int .i64,.int .i64,.int .i64,.int .i64,.int .i64,.int .i64,.bool,.list false [.int .i64]]],[.zs],.slice 40⟩),
 (27,⟨3,24,true,[.int .i64,.int .i64,.int .i64],[.int .i64 0,.int .i64 0,.int .i64 0],.array 3 3⟩),
 (28,⟨1,24,false,[.list true [.int .i64,.list false [.int .u64]]],[.zs],.slice 88⟩),
 (30,⟨6,64,true,[.int .i64,.int .i64,.int .i64,.int .i64,.int .i64,.list true [.int .i64,.list false [.int .u64]]],[.int .i64 0,.int .i64 0,.int .i64 0,.int .i64 0,.int .i64 0,.zs],.struct [(0,3),(1,3),(2,27),(5,28)]⟩),
 (32,⟨1,24,false,[.list true [.int .i64,.int .i64,.int .i64,.int .i64,.int .i64,.int .i64,.int .i64,.int .i64,.int .i64,.int .i64,.int .i64,.int .i64,.int .i64,.int .i64,.int .i64,.bool,.int .i64]],[.zs],.slice 38⟩),
 (34,⟨2,16,true,[.int .i64,.int .i64],[.int .i64 0,.int .i64 0],.struct [(0,3),(1,3)]⟩),
 (36,⟨10,80,true,[.int .i64,.int .i64,.int .i64,.int .i64,.int .i64,.int .i64,.int .i64,.int .i64,.int .i64,.int .i64],[.int .i64 0,.int .i64 0,.int .i64 0,.int .i64 0,.int .i64 0,.int .i64 0,.int .i64 0,.int .i64 0,.int .i64 0,.int .i64 0],.array 5 34⟩),
 (38,⟨17,136,true,[.int .i64,.int .i64,.int .i64,.int .i64,.int .i64,.int .i64,.int .i64,.int .i64,.int .i64,.int .i64,.int .i64,.int .i64,.int .i64,.int .i64,.int .i64,.bool,.int .i64],[.int .i64 0,.int .i64 0,.int .i64 0,.int .i64 0,.int .i64 0,.int .i64 0,.int .i64 0,.int .i64 0,.int .i64 0,.int .i64 0,.int .i64 0,.int .i64 0,.int .i64 0,.int .i64 0,.int .i64 0,.bool false,.int .i64 0],.struct [(0,3),(1,3),(2,36),(12,3),(13,3),(14,3),(15,4),(16,3)]⟩),
 (40,⟨8,80,true,[.int .i64,.int .i64,.int .i64,.int .i64,.int .i64,.int .i64,.bool,.list false [.int .i64]],[.int .i64 0,.int .i64 0,.int .i64 0,.int .i64 0,.int .i64 0,.int .i64 0,.bool false,.zs],.struct [(0,3),(1,3),(2,3),(3,3),(4,3),(5,3),(6,4),(7,22)]⟩),
 (47,⟨1,24,false,[.list true [.int .i64,.list true [.bool,.int .i64,.int .i64],.int .i64,.int .i64,.int .i64,.int .i64,.int .i64,.int .i64]],[.zs],.slice 55⟩),
 (51,⟨1,24,false,[.list true [.bool,.int .i64,.int .i64]],[.zs],.slice 127⟩),
 (53,⟨4,32,true,[.int .i64,.int .i64,.int .i64,.int .i64],[.int .i64 0,.int .i64 0,.int .i64 0,.int .i64 0],.array 4 3⟩),
 (55,⟨8,80,true,[.int .i64,.list true [.bool,.int .i64,.int .i64],.int .i64,.int .i64,.int .i64,.int .i64,.int .i64,.int .i64],[.int .i64 0,.zs,.int .i64 0,.int .i64 0,.int .i64 0,.int .i64 0,.int .i64 0,.int .i64 0],.struct [(0,3),(1,51),(2,53),(6,3),(7,3)]⟩),
 (66,⟨1,24,false,[.list false [.str]],[.zs],.slice 9⟩),
 (69,⟨1,24,false,[.list false [.int .u8]],[.zs],.slice 5⟩),
 (84,⟨5,104,true,[.int .i64,.list false [.int .i64],.list false [.int .i64],.list false [.int .i64],.list false [.int .i64]],[.int .i64 0,.zs,.zs,.zs,.zs],.struct [(0,3),(1,22),(2,22),(3,22),(4,22)]⟩),
 (85,⟨1,24,false,[.list false [.int .u64]],[.zs],.slice 103⟩),
 (88,⟨2,32,true,[.int .i64,.list false [.int .u64]],[.int .i64 0,.zs],.struct [(0,3),(1,85)]⟩),
 (93,⟨1,24,false,[.list true [.int .i64,.int .i64]],[.zs],.slice 34⟩),
 (95,⟨1,8,false,[.list false []],[.nilp],.ptr 98⟩),
 (98,⟨1,24,true,[.list false [.str]],[.zs],.struct [(0,66)]⟩),
 (103,⟨1,8,false,[.int .u64],[.int .u64 0],.leaf⟩),
 (106,⟨1,8,false,[.list false []],[.nilp],.ptr 108⟩),
 (108,⟨2,32,true,[.list false [],.list false [.int .u8]],[.nilp,.zs],.bld⟩),
 (111,⟨6,48,true,[.bool,.int .i64,.int .i64,.int .i64,.int .i64,.int .i64],[.bool false,.int .i64 0,.int .i64 0,.int .i64 0,.int .i64 0,.int .i64 0],.struct [(0,4),(1,3),(2,3),(3,3),(4,3),(5,3)]⟩),
 (120,⟨1,16,false,[.list false []],[.err true],.iface⟩),
 (127,⟨3,24,true,[.bool,.int .i64,.int .i64],[.bool false,.int .i64 0,.int .i64 0],.struct [(0,4),(1,3),(2,3)]⟩),
 (131,⟨1,24,false,[.list true [.int .i64,.int .i64,.int .i64,.int .i64,.int .i64,.int .i64,.int .i64,.int .i64,.int .i64,.int .i64]],[.zs],.slice 36⟩),
 (141,⟨1,8,false,[.list false []],[.nilp],.ptr 183⟩),
 (150,⟨1,24,false,[.list true [.bool,.int .i64,.int .i64,.int .i64,.int .i64,.int .i64]],[.zs],.slice 111⟩),
 (152,⟨1,8,false,[.int .u64],[.int .u64 0],.leaf⟩),
 (183,⟨34,336,true,[.int .i64,.int .i64,.int .i64,.int .i64,.int .i64,.list true [.int .i64,.list false [.int .u64]],.int .i64,.int .i64,.int .i64,.int .i64,.int .i64,.int .i64,.int .i64,.int .i64,.int .i64,.int .i64,.int .i64,.int .i64,.int .i64,.int .i64,.int .i64,.bool,.int .i64,.list true [.int .i64,.int .i64,.int .i64,.int .i64,.int .i64,.int .i64,.int .i64,.int .i64,.int .i64,.int .i64],.list true [.bool,.int .i64,.int .i64],.int .i64,.list true [.bool,.int .i64,.int .i64],.int .i64,.int .i64,.int .i64,.int .i64,.int .i64,.int .i64,.int .i64],[.int .i64 0,.int .i64 0,.int .i64 0,.int .i64 0,.int .i64 0,.zs,.int .i64 0,.int .i64 0,.int .i64 0,.int .i64 0,.int .i64 0,.int .i64 0,.int .i64 0,.int .i64 0,.int .i64 0,.int .i64 0,.int .i64 0,.int .i64 0,.int .i64 0,.int .i64 0,.int .i64 0,.bool false,.int .i64 0,.zs,.zs,.int .i64 0,.zs,.int .i64 0,.int .i64 0,.int .i64 0,.int .i64 0,.int .i64 0,.int .i64 0,.int .i64 0],.struct [(0,30),(6,38),(23,131),(24,51),(25,55),(33,3)]⟩),
 (252,⟨11,88,true,[.int .i64,.int .i64,.int .i64,.int .i64,.int .i64,.int .i64,.int .i64,.int .i64,.int .i64,.int .i64,.int .i64],[.int .i64 0,.int .i64 0,.int .i64 0,.int .i64 0,.int .i64 0,.int .i64 0,.int .i64 0,.int .i64 0,.int .i64 0,.int .i64 0,.int .i64 0],.struct [(0,3),(1,36)]⟩),
 (253,⟨1,24,false,[.list true [.int .i64,.int .i64,.int .i64,.int .i64,.int .i64,.int .i64,.int .i64,.int .i64,.int .i64,.int .i64,.int .i64]],[.zs],.slice 252⟩),
 (272,⟨1,24,false,[.list true [.int .i64,.int .i64,.int .i64,.int .i64,.int .i64,.int .i64,.int .i64,.int .i64,.int .i64,.int .i64,.int .i64]],[.zs],.slice 275⟩),
 (275,⟨11,88,true,[.int .i64,.int .i64,.int .i64,.int .i64,.int .i64,.int .i64,.int .i64,.int .i64,.int .i64,.int .i64,.int .i64],[.int .i64 0,.int .i64 0,.int .i64 0,.int .i64 0,.int .i64 0,.int .i64 0,.int .i64 0,.int .i64 0,.int .i64 0,.int .i64 0,.int .i64 0],.struct [(0,36),(10,3)]⟩)]
def yry:List Nat:=[34,38,53,111,127]
noncomputable abbrev PR:Program:=Tryz.prog
theorem ytl:ytq PR 108 ymc=true:=by kernel_rfl
theorem ysm:yu3 PR ymc yry=true:=by kernel_rfl
theorem ytd:PR.follows .mixedOrders=true:=by kernel_rfl
theorem yt8:∃ i,PR.info? 108=some i∧i.zero=some (.agg #[.pointer none,.slice none 0 0]):=by
 refine ⟨(PR.info? 108).getD default,by kernel_rfl,by kernel_rfl⟩
theorem ylr (_h:(lkd TI.none ymc 108).d = .bld):∃ i,PR.info? 108=some i∧i.zero=some (.agg #[.pointer none,.slice none 0 0]):=yt8
def mkE (sp:List (Nat × z0o)) (lp:List (Nat × KP)) (nt N:Nat):Env:=⟨ymc,sp,[],lp,nt,N,yry,[]⟩
def mkI (sp:List (Nat × z0o)) (ip:List (Nat × Ip)) (lp:List (Nat × KP)) (nt N:Nat):Env:=⟨ymc,sp,[],lp,nt,N,yry,ip⟩
abbrev V.i (n:Int):V:=.int .i64 n
abbrev HF (fn:Func) (c:Code) (nt:Nat) (rs:List ResultVar):Prop:=(fn.name == "runtime.NumGoroutine")=false∧fn.body=some c∧fn.ntmps=nt∧Nat.ble nt 900000=true∧fn.results.toList=rs
theorem z16 {fn:Func} {nt:Nat} {rs:List ResultVar} (h:(!(fn.name == "runtime.NumGoroutine")&&(fn.body.isSome&&(fn.ntmps==nt&&Nat.ble nt 900000)))=true) (h2:fn.results.toList=rs):HF fn (z0e fn) nt rs:=by
 simp only [v02,v12,v1h] at h;refine ⟨h.1,?_,h.2.2.1,h.2.2.2,h2⟩;unfold z0e;cases hb:fn.body with
 | none=>rw [hb] at h; exact absurd h.2.1 (by decide)
 | some c=>rfl
noncomputable def ze1:Code:=z0e Tryz.f13
theorem zl8:HF Tryz.f13 ze1 55 [.tmp 6]:=z16 (by kernel_rfl) (by kernel_rfl)
noncomputable def z0k:Code:=z0e Tryz.f15
theorem zhj:HF Tryz.f15 z0k 63 [.cell 2 30]:=z16 (by kernel_rfl) (by kernel_rfl)
noncomputable def zdh:Code:=z0e Tryz.f16
theorem zky:HF Tryz.f16 zdh 58 [.cell 4 38]:=z16 (by kernel_rfl) (by kernel_rfl)
noncomputable def zgr:Code:=z0e Tryz.f17
theorem zox:HF Tryz.f17 zgr 24 [.tmp 6]:=z16 (by kernel_rfl) (by kernel_rfl)
noncomputable def z3b:Code:=z0e Tryz.f18
theorem yda:HF Tryz.f18 z3b 100 [.tmp 4]:=z16 (by kernel_rfl) (by kernel_rfl)
noncomputable def z1g:Code:=z0e Tryz.f19
theorem y72:HF Tryz.f19 z1g 88 [.cell 2 30,.tmp 3]:=z16 (by kernel_rfl) (by kernel_rfl)
noncomputable def z1x:Code:=z0e Tryz.f20
theorem y76:HF Tryz.f20 z1x 94 [.tmp 2]:=z16 (by kernel_rfl) (by kernel_rfl)
noncomputable def z6j:Code:=z0e Tryz.f21
theorem y5u:HF Tryz.f21 z6j 59 [.tmp 2,.tmp 3]:=z16 (by kernel_rfl) (by kernel_rfl)
noncomputable def z9g:Code:=z0e Tryz.f22
theorem ybc:HF Tryz.f22 z9g 37 [.tmp 4]:=z16 (by kernel_rfl) (by kernel_rfl)
noncomputable def zsz:Code:=z0e Tryz.f23
theorem yb2:HF Tryz.f23 zsz 17 [.cell 2 55,.tmp 3]:=z16 (by kernel_rfl) (by kernel_rfl)
noncomputable def z98:Code:=z0e Tryz.f24
theorem yb9:HF Tryz.f24 z98 61 [.tmp 2]:=z16 (by kernel_rfl) (by kernel_rfl)
noncomputable def z1n:Code:=z0e Tryz.f26
theorem zzw:HF Tryz.f26 z1n 59 [.tmp 6]:=z16 (by kernel_rfl) (by kernel_rfl)
noncomputable def zix:Code:=z0e Tryz.f27
theorem zu2:HF Tryz.f27 zix 31 [.tmp 0]:=z16 (by kernel_rfl) (by kernel_rfl)
noncomputable def zhg:Code:=z0e Tryz.f28
theorem zrx:HF Tryz.f28 zhg 14 [.cell 0 30]:=z16 (by kernel_rfl) (by kernel_rfl)
noncomputable def z5t:Code:=z0e Tryz.f29
theorem y09:HF Tryz.f29 z5t 54 [.tmp 6]:=z16 (by kernel_rfl) (by kernel_rfl)
noncomputable def zmk:Code:=z0e Tryz.f31
theorem y0o:HF Tryz.f31 zmk 8 [.tmp 2]:=z16 (by kernel_rfl) (by kernel_rfl)
noncomputable def zkj:Code:=z0e Tryz.f32
theorem zvw:HF Tryz.f32 zkj 46 [.cell 4 55]:=z16 (by kernel_rfl) (by kernel_rfl)
noncomputable def z7p:Code:=z0e Tryz.f35
theorem yaw:HF Tryz.f35 z7p 13 [.cell 4 55]:=z16 (by kernel_rfl) (by kernel_rfl)
noncomputable def zje:Code:=z0e Tryz.f38
theorem zuv:HF Tryz.f38 zje 15 [.tmp 4]:=z16 (by kernel_rfl) (by kernel_rfl)
noncomputable def z0l:Code:=z0e Tryz.f39
theorem zjo:HF Tryz.f39 z0l 113 [.tmp 4]:=z16 (by kernel_rfl) (by kernel_rfl)
noncomputable def z3d:Code:=z0e Tryz.f40
theorem zq9:HF Tryz.f40 z3d 32 [.cell 4 36]:=z16 (by kernel_rfl) (by kernel_rfl)
noncomputable def y2t:Code:=z0e Tryz.f41
theorem yi1:HF Tryz.f41 y2t 39 [.cell 4 38]:=z16 (by kernel_rfl) (by kernel_rfl)
noncomputable def zy8:Code:=z0e Tryz.f42
theorem ydk:HF Tryz.f42 zy8 9 [.tmp 2]:=z16 (by kernel_rfl) (by kernel_rfl)
noncomputable def zyz:Code:=z0e Tryz.f44
theorem ye0:HF Tryz.f44 zyz 38 [.tmp 2]:=z16 (by kernel_rfl) (by kernel_rfl)
noncomputable def zen:Code:=z0e Tryz.f47
theorem zmf:HF Tryz.f47 zen 8 [.tmp 4]:=z16 (by kernel_rfl) (by kernel_rfl)
noncomputable def zgb:Code:=z0e Tryz.f48
theorem zpe:HF Tryz.f48 zgb 26 [.tmp 2]:=z16 (by kernel_rfl) (by kernel_rfl)
noncomputable def zt0:Code:=z0e Tryz.f49
theorem y94:HF Tryz.f49 zt0 24 [.tmp 4]:=z16 (by kernel_rfl) (by kernel_rfl)
noncomputable def zwk:Code:=z0e Tryz.f50
theorem ybk:HF Tryz.f50 zwk 13 [.tmp 4]:=z16 (by kernel_rfl) (by kernel_rfl)
noncomputable def zye:Code:=z0e Tryz.f51
theorem ydf:HF Tryz.f51 zye 11 [.tmp 2]:=z16 (by kernel_rfl) (by kernel_rfl)
noncomputable def zge:Code:=z0e Tryz.f52
theorem zoq:HF Tryz.f52 zge 28 [.tmp 2]:=z16 (by kernel_rfl) (by kernel_rfl)
noncomputable def z4s:Code:=z0e Tryz.f53
theorem y55:HF Tryz.f53 z4s 54 [.tmp 2]:=z16 (by kernel_rfl) (by kernel_rfl)
noncomputable def zxa:Code:=z0e Tryz.f54
theorem ye7:HF Tryz.f54 zxa 10 []:=z16 (by kernel_rfl) (by kernel_rfl)
noncomputable def zoz:Code:=z0e Tryz.f55
theorem y5w:HF Tryz.f55 zoz 33 [.cell 2 111,.tmp 3]:=z16 (by kernel_rfl) (by kernel_rfl)
noncomputable def z9b:Code:=z0e Tryz.f58
theorem ycm:HF Tryz.f58 z9b 29 [.tmp 4,.tmp 5,.tmp 6]:=z16 (by kernel_rfl) (by kernel_rfl)
noncomputable def zqa:Code:=z0e Tryz.f59
theorem y5o:HF Tryz.f59 zqa 37 [.tmp 2]:=z16 (by kernel_rfl) (by kernel_rfl)
noncomputable def z19:Code:=z0e Tryz.f61
theorem yeb:HF Tryz.f61 z19 87 [.cell 2 55]:=z16 (by kernel_rfl) (by kernel_rfl)
noncomputable def ztv:Code:=z0e Tryz.f62
theorem y80:HF Tryz.f62 ztv 47 [.tmp 2]:=z16 (by kernel_rfl) (by kernel_rfl)
noncomputable def zb0:Code:=z0e Tryz.f63
theorem ydd:HF Tryz.f63 zb0 26 []:=z16 (by kernel_rfl) (by kernel_rfl)
noncomputable def zow:Code:=z0e Tryz.f65
theorem y3i:HF Tryz.f65 zow 41 [.tmp 4]:=z16 (by kernel_rfl) (by kernel_rfl)
noncomputable def zpk:Code:=z0e Tryz.f66
theorem y3w:HF Tryz.f66 zpk 16 [.cell 2 36]:=z16 (by kernel_rfl) (by kernel_rfl)
noncomputable def zbc:Code:=z0e Tryz.f67
theorem yae:HF Tryz.f67 zbc 75 [.tmp 4,.tmp 5]:=z16 (by kernel_rfl) (by kernel_rfl)
noncomputable def z38:Code:=z0e Tryz.f68
theorem y3s:HF Tryz.f68 z38 94 [.tmp 6]:=z16 (by kernel_rfl) (by kernel_rfl)
noncomputable def y7a:Code:=z0e Tryz.f69
theorem yma:HF Tryz.f69 y7a 25 [.tmp 6]:=z16 (by kernel_rfl) (by kernel_rfl)
noncomputable def z2l:Code:=z0e Tryz.f70
theorem zzp:HF Tryz.f70 z2l 75 [.tmp 8]:=z16 (by kernel_rfl) (by kernel_rfl)
noncomputable def zjc:Code:=z0e Tryz.f71
theorem zut:HF Tryz.f71 zjc 32 [.tmp 2]:=z16 (by kernel_rfl) (by kernel_rfl)
noncomputable def ziy:Code:=z0e Tryz.f72
theorem zu3:HF Tryz.f72 ziy 66 [.tmp 6]:=z16 (by kernel_rfl) (by kernel_rfl)
noncomputable def z81:Code:=z0e Tryz.f73
theorem yd7:HF Tryz.f73 z81 82 [.cell 2 38,.tmp 3,.tmp 4]:=z16 (by kernel_rfl) (by kernel_rfl)
noncomputable def ztj:Code:=z0e Tryz.f74
theorem y7e:HF Tryz.f74 ztj 26 [.tmp 4]:=z16 (by kernel_rfl) (by kernel_rfl)
noncomputable def z5c:Code:=z0e Tryz.f75
theorem zmd:HF Tryz.f75 z5c 165 [.tmp 2]:=z16 (by kernel_rfl) (by kernel_rfl)
noncomputable def z45:Code:=z0e Tryz.f76
theorem zia:HF Tryz.f76 z45 22 [.cell 2 55]:=z16 (by kernel_rfl) (by kernel_rfl)
noncomputable def y9j:Code:=z0e Tryz.f81
theorem ymh:HF Tryz.f81 y9j 16 [.cell 2 53]:=z16 (by kernel_rfl) (by kernel_rfl)
noncomputable def y13:Code:=z0e Tryz.f84
theorem yhi:HF Tryz.f84 y13 8 [.tmp 0]:=z16 (by kernel_rfl) (by kernel_rfl)
noncomputable def z6m:Code:=z0e Tryz.f89
theorem zbw:HF Tryz.f89 z6m 16 [.tmp 4]:=z16 (by kernel_rfl) (by kernel_rfl)
noncomputable def y21:Code:=z0e Tryz.f91
theorem yhy:HF Tryz.f91 y21 76 [.tmp 2,.tmp 3]:=z16 (by kernel_rfl) (by kernel_rfl)
noncomputable def zvz:Code:=z0e Tryz.f92
theorem yc2:HF Tryz.f92 zvz 32 [.tmp 2]:=z16 (by kernel_rfl) (by kernel_rfl)
noncomputable def zz0:Code:=z0e Tryz.f93
theorem ybl:HF Tryz.f93 zz0 25 [.tmp 4]:=z16 (by kernel_rfl) (by kernel_rfl)
noncomputable def z5m:Code:=z0e Tryz.f94
theorem zaf:HF Tryz.f94 z5m 9 [.tmp 4]:=z16 (by kernel_rfl) (by kernel_rfl)
noncomputable def zkh:Code:=z0e Tryz.f95
theorem zy3:HF Tryz.f95 zkh 22 [.tmp 3]:=z16 (by kernel_rfl) (by kernel_rfl)
noncomputable def z2o:Code:=z0e Tryz.f96
theorem ya9:HF Tryz.f96 z2o 94 [.tmp 4]:=z16 (by kernel_rfl) (by kernel_rfl)
noncomputable def zpf:Code:=z0e Tryz.f98
theorem y4j:HF Tryz.f98 zpf 14 [.tmp 6]:=z16 (by kernel_rfl) (by kernel_rfl)
noncomputable def y2y:Code:=z0e Tryz.f99
theorem yhz:HF Tryz.f99 y2y 18 [.tmp 6]:=z16 (by kernel_rfl) (by kernel_rfl)
noncomputable def zjy:Code:=z0e Tryz.f100
theorem zwj:HF Tryz.f100 zjy 11 [.tmp 5]:=z16 (by kernel_rfl) (by kernel_rfl)
noncomputable def zph:Code:=z0e Tryz.f105
theorem y5r:HF Tryz.f105 zph 20 [.tmp 4]:=z16 (by kernel_rfl) (by kernel_rfl)
noncomputable def z7m:Code:=z0e Tryz.f106
theorem y7r:HF Tryz.f106 z7m 37 [.tmp 2]:=z16 (by kernel_rfl) (by kernel_rfl)
noncomputable def zmz:Code:=z0e Tryz.f107
theorem y0i:HF Tryz.f107 zmz 35 [.tmp 4]:=z16 (by kernel_rfl) (by kernel_rfl)
noncomputable def zt7:Code:=z0e Tryz.f108
theorem y8p:HF Tryz.f108 zt7 71 [.tmp 4]:=z16 (by kernel_rfl) (by kernel_rfl)
noncomputable def zmi:Code:=z0e Tryz.f109
theorem zzh:HF Tryz.f109 zmi 16 [.tmp 2]:=z16 (by kernel_rfl) (by kernel_rfl)
noncomputable def zp5:Code:=z0e Tryz.f110
theorem y57:HF Tryz.f110 zp5 6 [.tmp 2]:=z16 (by kernel_rfl) (by kernel_rfl)
noncomputable def ymp:Code:=z0e Tryz.f111
theorem yk9:HF Tryz.f111 ymp 32 [.cell 6 36,.cell 7 36]:=z16 (by kernel_rfl) (by kernel_rfl)
noncomputable def zyo:Code:=z0e Tryz.f112
theorem ycg:HF Tryz.f112 zyo 12 [.tmp 2]:=z16 (by kernel_rfl) (by kernel_rfl)
noncomputable def z18:Code:=z0e Tryz.f113
theorem ya5:HF Tryz.f113 z18 66 [.tmp 6,.tmp 7]:=z16 (by kernel_rfl) (by kernel_rfl)
noncomputable def y2s:Code:=z0e Tryz.f114
theorem ygt:HF Tryz.f114 y2s 15 [.tmp 4]:=z16 (by kernel_rfl) (by kernel_rfl)
noncomputable def ztq:Code:=z0e Tryz.f115
theorem yam:HF Tryz.f115 ztq 24 [.tmp 6]:=z16 (by kernel_rfl) (by kernel_rfl)
noncomputable def zmu:Code:=z0e Tryz.f116
theorem zzr:HF Tryz.f116 zmu 14 [.cell 6 53]:=z16 (by kernel_rfl) (by kernel_rfl)
noncomputable def zdg:Code:=z0e Tryz.f117
theorem zkv:HF Tryz.f117 zdg 66 [.tmp 2]:=z16 (by kernel_rfl) (by kernel_rfl)
noncomputable def z1a:Code:=z0e Tryz.f118
theorem zf3:HF Tryz.f118 z1a 19 [.tmp 4]:=z16 (by kernel_rfl) (by kernel_rfl)
noncomputable def y1h:Code:=z0e Tryz.f119
theorem yit:HF Tryz.f119 y1h 46 [.cell 2 38]:=z16 (by kernel_rfl) (by kernel_rfl)
noncomputable def y30:Code:=z0e Tryz.f120
theorem yim:HF Tryz.f120 y30 11 [.tmp 2]:=z16 (by kernel_rfl) (by kernel_rfl)
noncomputable def zvp:Code:=z0e Tryz.f121
theorem yea:HF Tryz.f121 zvp 11 [.tmp 2]:=z16 (by kernel_rfl) (by kernel_rfl)
noncomputable def zor:Code:=z0e Tryz.f122
theorem y3f:HF Tryz.f122 zor 86 [.tmp 6]:=z16 (by kernel_rfl) (by kernel_rfl)
noncomputable def zof:Code:=z0e Tryz.f123
theorem y6b:HF Tryz.f123 zof 9 [.cell 2 53,.tmp 3]:=z16 (by kernel_rfl) (by kernel_rfl)
noncomputable def z6i:Code:=z0e Tryz.f124
theorem y7t:HF Tryz.f124 z6i 31 [.tmp 6,.tmp 7,.tmp 8]:=z16 (by kernel_rfl) (by kernel_rfl)
noncomputable def znc:Code:=z0e Tryz.f126
theorem ye5:HF Tryz.f126 znc 24 [.tmp 8]:=z16 (by kernel_rfl) (by kernel_rfl)
noncomputable def z73:Code:=z0e Tryz.f141
theorem zcg:HF Tryz.f141 z73 21 [.tmp 4]:=z16 (by kernel_rfl) (by kernel_rfl)
noncomputable def zsy:Code:=z0e Tryz.f144
theorem y90:HF Tryz.f144 zsy 19 [.tmp 2,.tmp 3]:=z16 (by kernel_rfl) (by kernel_rfl)
noncomputable def zss:Code:=z0e Tryz.f145
theorem y9q:HF Tryz.f145 zss 43 [.tmp 2]:=z16 (by kernel_rfl) (by kernel_rfl)
noncomputable def y18:Code:=z0e Tryz.f146
theorem yiy:HF Tryz.f146 y18 30 [.tmp 8]:=z16 (by kernel_rfl) (by kernel_rfl)
noncomputable def z0m:Code:=z0e Tryz.f147
theorem zc4:HF Tryz.f147 z0m 19 [.tmp 4]:=z16 (by kernel_rfl) (by kernel_rfl)
noncomputable def zxu:Code:=z0e Tryz.f148
theorem ydu:HF Tryz.f148 zxu 21 [.tmp 4]:=z16 (by kernel_rfl) (by kernel_rfl)
noncomputable def ztk:Code:=z0e Tryz.f149
theorem y87:HF Tryz.f149 ztk 21 [.tmp 4]:=z16 (by kernel_rfl) (by kernel_rfl)
noncomputable def zvy:Code:=z0e Tryz.f150
theorem ydg:HF Tryz.f150 zvy 7 [.tmp 2]:=z16 (by kernel_rfl) (by kernel_rfl)
noncomputable def zte:Code:=z0e Tryz.f155
theorem yaz:HF Tryz.f155 zte 8 [.tmp 2]:=z16 (by kernel_rfl) (by kernel_rfl)
noncomputable def z7l:Code:=z0e Tryz.f156
theorem y9i:HF Tryz.f156 z7l 40 [.tmp 2]:=z16 (by kernel_rfl) (by kernel_rfl)
noncomputable def y1e:Code:=z0e Tryz.f157
theorem ygw:HF Tryz.f157 y1e 29 [.cell 4 34,.cell 5 34]:=z16 (by kernel_rfl) (by kernel_rfl)
noncomputable def zba:Code:=z0e Tryz.f158
theorem yah:HF Tryz.f158 zba 88 [.tmp 4,.tmp 5]:=z16 (by kernel_rfl) (by kernel_rfl)
noncomputable def z4e:Code:=z0e Tryz.f159
theorem y9b:HF Tryz.f159 z4e 33 [.tmp 6]:=z16 (by kernel_rfl) (by kernel_rfl)
noncomputable def ziu:Code:=z0e Tryz.f160
theorem zuh:HF Tryz.f160 ziu 27 [.tmp 4]:=z16 (by kernel_rfl) (by kernel_rfl)
noncomputable def z1e:Code:=z0e Tryz.f162
theorem yd2:HF Tryz.f162 z1e 69 [.tmp 6,.tmp 7,.tmp 8]:=z16 (by kernel_rfl) (by kernel_rfl)
noncomputable def z5q:Code:=z0e Tryz.f163
theorem zzb:HF Tryz.f163 z5q 62 [.tmp 6,.tmp 7]:=z16 (by kernel_rfl) (by kernel_rfl)
noncomputable def zj5:Code:=z0e Tryz.f164
theorem zux:HF Tryz.f164 zj5 23 [.tmp 4]:=z16 (by kernel_rfl) (by kernel_rfl)
noncomputable def zkb:Code:=z0e Tryz.f165
theorem zwp:HF Tryz.f165 zkb 54 [.tmp 6,.tmp 7,.tmp 8]:=z16 (by kernel_rfl) (by kernel_rfl)
noncomputable def zmy:Code:=z0e Tryz.f166
theorem y05:HF Tryz.f166 zmy 23 [.tmp 4]:=z16 (by kernel_rfl) (by kernel_rfl)
noncomputable def z1i:Code:=z0e Tryz.f168
theorem zq7:HF Tryz.f168 z1i 54 [.tmp 4]:=z16 (by kernel_rfl) (by kernel_rfl)
noncomputable def ztc:Code:=z0e Tryz.f190
theorem y8z:HF Tryz.f190 ztc 9 [.tmp 2]:=z16 (by kernel_rfl) (by kernel_rfl)
noncomputable def zom:Code:=z0e Tryz.f192
theorem y61:HF Tryz.f192 zom 16 [.tmp 2]:=z16 (by kernel_rfl) (by kernel_rfl)
noncomputable def yaq:Code:=z0e Tryz.f193
theorem yls:HF Tryz.f193 yaq 12 [.cell 4 34]:=z16 (by kernel_rfl) (by kernel_rfl)
noncomputable def zxk:Code:=z0e Tryz.f194
theorem ydb:HF Tryz.f194 zxk 2 [.cell 0 34]:=z16 (by kernel_rfl) (by kernel_rfl)
noncomputable def zsv:Code:=z0e Tryz.f195
theorem y7f:HF Tryz.f195 zsv 15 [.tmp 4]:=z16 (by kernel_rfl) (by kernel_rfl)
noncomputable def z7s:Code:=z0e Tryz.f196
theorem y7v:HF Tryz.f196 z7s 43 [.tmp 4,.tmp 5,.tmp 6]:=z16 (by kernel_rfl) (by kernel_rfl)
noncomputable def zmr:Code:=z0e Tryz.f197
theorem y04:HF Tryz.f197 zmr 16 [.tmp 2]:=z16 (by kernel_rfl) (by kernel_rfl)
noncomputable def zmp:Code:=z0e Tryz.f198
theorem y02:HF Tryz.f198 zmp 10 [.cell 4 36]:=z16 (by kernel_rfl) (by kernel_rfl)
noncomputable def zku:Code:=z0e Tryz.f199
theorem zys:HF Tryz.f199 zku 15 [.cell 4 36]:=z16 (by kernel_rfl) (by kernel_rfl)
noncomputable def z5x:Code:=z0e Tryz.f217
theorem ygq:HF Tryz.f217 z5x 46 [.tmp 4,.cell 5 111]:=z16 (by kernel_rfl) (by kernel_rfl)
noncomputable def z6p:Code:=z0e Tryz.f218
theorem y65:HF Tryz.f218 z6p 79 [.tmp 4]:=z16 (by kernel_rfl) (by kernel_rfl)
open Go Go.Proofs Go.RowKit
theorem Keep.freeze {O:Nat→Prop} (w:World) (a:Addr) (n:Nat) (h:O a.block):Keep O w (w.freeze a n):=by
 unfold World.freeze
 split
 ·exact Keep.refl _ _
 ·exact ⟨rfl,rfl,rfl,by simp,fun b _ hn=>by simp only [v3m]; rw [v0y (fun e:a.block=b=>hn (e ▸ h))]⟩
theorem Keep.setCell {O:Nat→Prop} (w:World) (a:Addr) (v:Value) (h:O a.block):Keep O w (w.setCell a v):=
 ⟨rfl,rfl,rfl,by simp [World.setCell],fun b _ hn=>Below.heap_setCell _ _ _ _ (fun e=>hn (e ▸ h))⟩
theorem zhf {w:World} {b:Nat} {o:Obj} (h:w.heap[b]?=some o):b < w.heap.size:=(Array.getElem?_eq_some_iff.1 h).1
theorem yog:liesAt PR PR.depth 108 (2 / PR.cellsOf 108) 0 108 1=true:=by kernel_rfl
theorem ygm:(PR.info? 108).map (·.size)=some 2:=by kernel_rfl
theorem yjg:(PR.info? 5).map (fun i=>(i.zero,i.size,i.bytes))=some (some (.int .u8 0),1,1):=by kernel_rfl
set_option maxHeartbeats 1000000 in
theorem y5b (b:Nat) (w:World) (h0:w.cell? ⟨b,0,none⟩=some (.pointer (some ⟨b,0,none⟩))) :
  Calls Tryz.prog 103 #[.pointer (some ⟨b,0,none⟩)] w fun e w'=>e = .returned (.tuple #[])∧w'=w:=by
 obtain ⟨j,hj,_⟩:=v1k.1 ygm
 go_enter Tryz.func103,Tryz.ntmps103
 go_wp2
 rw [Lib.run_neq_ptr_same w _ Tryz.underlying106 hj]
 go_wp2
 go_end0
 exact ⟨rfl,rfl⟩
set_option maxHeartbeats 1000000 in
theorem y0c (b:Nat) (w:World) (h0:w.cell? ⟨b,0,none⟩=some (.pointer none)) (hsh:w.shape? b=some (108,2)) (hfz:w.frozen? ⟨b,0,none⟩=false) :
  Calls Tryz.prog 103 #[.pointer (some ⟨b,0,none⟩)] w fun e w'=>e = .returned (.tuple #[])∧w'=w.setCell ⟨b,0,none⟩ (.pointer (some ⟨b,0,none⟩)):=by
 obtain ⟨j,hj,hjs⟩:=v1k.1 ygm
 go_enter Tryz.func103,Tryz.ntmps103
 go_wp2
 rw [Lib.run_to_unsafe w ⟨b,0,none⟩ Tryz.underlying106 Tryz.underlying211 hj (by rw [hjs]; decide) hsh (Nat.zero_lt_succ 1)]
 simp only [Result.andThen];rw [Oper.upon_value]
 go_wp2
 rw [run_callFunc_extern Tryz.func153 (by kernel_rfl) (by kernel_rfl) (by kernel_rfl) (e:=Extern.AbiNoEscape.same) (by kernel_rfl)]
 rw [Lib.run_noEscape];simp only [Result.andThen];rw [Oper.upon_value]
 go_wp2
 rw [Lib.run_from_unsafe w ⟨b,0,none⟩ Tryz.underlying211 Tryz.underlying106 hj hsh yog];simp only [Result.andThen];rw [Oper.upon_value]
 go_wp2
 go_end0
 exact ⟨rfl,rfl⟩
theorem yfv (b:Nat) (p v:Value) (w:World) (hp:p = .pointer none∨p = .pointer (some ⟨b,0,none⟩)) (hbk:w.heap[b]?=some (.cells #[p,v] 108 (0,0))) :
  Calls Tryz.prog 103 #[.pointer (some ⟨b,0,none⟩)] w fun e w'=>e = .returned (.tuple #[])∧w'.heap[b]?=some (.cells #[.pointer (some ⟨b,0,none⟩),v] 108 (0,0))∧Keep (fun k=>k=b) w w'∧w'.heap.size=w.heap.size:=by
 have hc0:w.cell? ⟨b,0,none⟩=some p:=by rw [Lib.cell_of_heap hbk]; rfl
 rcases hp with rfl | rfl
 ·refine (y0c b w hc0 (by simp [World.shape?,hbk]) (Lib.frozen_of_heap hbk 0)).mono ?_
  rintro e w' ⟨rfl,rfl⟩
  exact ⟨rfl,by simp [World.setCell,v3m,hbk],Keep.setCell w ⟨b,0,none⟩ _ rfl,by simp [World.setCell]⟩
 ·refine (y5b b w hc0).mono ?_
  rintro e w' ⟨rfl,rfl⟩
  exact ⟨rfl,hbk,Keep.refl _ _,rfl⟩
def zxt (b:Nat) (v:Value) (bs:List Value) (w w':World):Prop:=
 ∃ v',w'.heap[b]?=some (.cells #[.pointer (some ⟨b,0,none⟩),v'] 108 (0,0))∧w'.ownsRowF 0 5 1 v' bs.length bs∧v'.ownBlock≠some b ∧
  Keep (fun k=>k=b∨v.ownBlock=some k) w w'∧∀ k,v'.ownBlock=some k→v.ownBlock=some k∨w.heap.size≤k
theorem yfb {b:Nat} {v v':Value} {bs:List Value} {w w1 w2:World} (hs1:w1.heap.size=w.heap.size) (hk1:Keep (fun k=>k=b) w w1)
  (hb2:w2.heap[b]?=some (.cells #[.pointer (some ⟨b,0,none⟩),v] 108 (0,0))) (hown:w2.ownsRowF 0 5 1 v' bs.length bs) (hk2:Keep (fun k=>v.ownBlock=some k) w1 w2) (hv:∀ k,v'.ownBlock=some k→v.ownBlock=some k∨w1.heap.size≤k) :
  zxt b v bs w (w2.setCell ⟨b,1,none⟩ v'):=by
 have hput:=Lib.BuilderAtF.put (T:=108) (e:=5) (v0x b) hb2 hown (by decide)
 obtain ⟨_,v2,q1,q2,q3⟩:=hput;have e2:v2=v':=by
  have:(w2.setCell ⟨b,1,none⟩ v').heap[b]?=some (.cells #[.pointer (some ⟨b,0,none⟩),v'] 108 (0,0)):=by simp [World.setCell,v3m,hb2]
  rw [this] at q1;simp at q1;exact q1.symm
 subst e2;refine ⟨v2,q1,q2,q3,?_,fun k hk=>by rw [← hs1]; exact hv k hk⟩
 have h3:Keep (fun k=>k=b) w2 (w2.setCell ⟨b,1,none⟩ v2):=Keep.setCell w2 ⟨b,1,none⟩ v2 rfl
 refine (hk1.mono (fun _ _ h=>Or.inl h)).trans ((hk2.mono (O':=fun k=>k=b∨v.ownBlock=some k) (fun _ _ h=>Or.inr h)).trans h3 (fun _ _ h=>Or.inl h)) (fun _ _ h=>h)
theorem y78 {w w':World} {v:Value} (hg:w.grownBy w' v.ownBlock):Keep (fun k=>v.ownBlock=some k) w w':=
 ⟨hg.os,hg.tape,hg.output,hg.size,fun b hb hn=>hg.block b hb (fun h=>hn h.symm)⟩
theorem zfo {g n c k:Nat} (h:(Value.slice (some ⟨g,0,none⟩) n c).ownBlock=some k):k=g:=by
 simp only [Value.ownBlock,v00] at h;exact h.symm
theorem yht {P:Program} (w:World) (t u ty e:TypeId) (i:TypeInfo) (ht:P.underlying t=some (.slice e)) (hu:P.underlying u=some .string) (hi:P.info? e=some i) (hz:i.zero=some (.int .u8 0)) (hsize:i.size=1) (hby:i.bytes=1)
  (v:Value) (n:Nat) (xs:List Value) (hown:w.ownsRowF 0 e 1 v n xs) (s:ByteArray) (hbytes:n+s.size≤140737488355328) :
  ∃ v' w',(Builtin.append_ #[t,u] ty #[v,.string s]).run P w = .ok v' w'∧w'.ownsRowF 0 e 1 v' (n+s.size) (xs++Lib.strCells s)∧w.grownBy w' v.ownBlock∧∀ k,v'.ownBlock=some k→v.ownBlock=some k∨w.heap.size≤k:=by
 have h63:n+s.size≤maxLen:=by unfold maxLen; omega
 rcases hown.2 with ⟨rfl,rfl⟩ | ⟨g,cap,cur,fz,rfl,hbg,hg,hfz,hnc,hcm,hcs,htake⟩
 ·obtain ⟨v',w',h1,h2,h3,_⟩:=Lib.run_append_own_string (P:=P) w w.heap.size t u ty e i ht hu hi hz hsize hby (.slice none 0 0) 0 xs ⟨hown.1,.inl ⟨rfl,rfl⟩⟩ s h63 hbytes (v0a _)
  refine ⟨v',w',h1,⟨h2.1,?_⟩,h3,fun k hk=>.inr ?_⟩
  ·rcases h2.2 with q | ⟨g,cap,cur,q1,_,q2,q3,q4,q5,q6⟩
   ·exact .inl q
   ·exact .inr ⟨g,cap,cur,(0,0),q1,v0x _,q2,v0x _,q3,q4,q5,q6⟩
  ·rcases h2.2 with ⟨rfl,_⟩ | ⟨g,cap,cur,rfl,q1,_⟩
   ·simp [Value.ownBlock] at hk
   ·rw [zfo hk]; exact q1
 ·obtain ⟨v',w',h1,h2,h3,_⟩:=Lib.run_append_own_stringF (P:=P) w 0 t u ty e i ht hu hi hz hsize hby _ n xs hown s h63 hbytes (v0x _)
  refine ⟨v',w',h1,h2,h3,fun k hk=>?_⟩
  have hsmall:n+s.size≤9223372036854775807:=by omega
  by_cases hroom:n+s.size≤cap
  ·have hr:=Lib.run_append_room_stringF (P:=P) w t u ty e i ht hu hi hsize g n cap cur fz hg (by simpa using hfz) s hroom (by simp at hcs; omega)
   rw [h1] at hr;simp only [Result.ok.injEq] at hr;obtain ⟨rfl,_⟩:=hr;exact .inl (by rw [zfo hk]; rfl)
  ·have hxl:xs.length=n:=by simpa using hown.1
   have hr:=Lib.run_append_grow_string (P:=P) w t u ty e i (.int .u8 0) ht hu hi hz ⟨g,0,none⟩ n cap xs (by rw [hsize]; simpa using hxl) (hown.cells (g:=g) rfl) s (by omega) (by omega) (by rw [hby]; exact growslice_fits (by omega) (by omega))
   rw [h1] at hr;simp only [Result.ok.injEq] at hr;obtain ⟨rfl,_⟩:=hr;exact .inr (by rw [zfo hk]; exact v0a _)
theorem zs9 {P:Program} {w:World} {ops:Array Oper} {rest:List Oper} {o:Oper} {a:Act} {Q:Exit→Act→World→Prop} (hgd:o.guard=none) (sl x:Operand) (t u:TypeId)
  (ho:o.op = .call { callee:=.builtin .append,args:=#[sl,x],argTypes:=#[t,u] })
  (e:TypeId) (i:TypeInfo) (ht:P.underlying t=some (.slice e)) (hu:P.underlying u=some .string) (hi:P.info? e=some i) (hz:i.zero=some (.int .u8 0)) (hsize:i.size=1) (hby:i.bytes=1)
  (v:Value) (n:Nat) (xs:List Value) (hs:a.eval sl=v) (hown:w.ownsRowF 0 e 1 v n xs) (s:ByteArray) (hx:a.eval x = .string s) (hbytes:n+s.size≤140737488355328)
  (h:∀ v' w',w'.ownsRowF 0 e 1 v' (n+s.size) (xs++Lib.strCells s)→w.grownBy w' v.ownBlock→(∀ k,v'.ownBlock=some k→v.ownBlock=some k∨w.heap.size≤k)→wpList P ops Q rest (a.put o.dst v') w'):wpList P ops Q (o :: rest) a w:=by
 refine wpList_plain hgd fun K hK=>?_
 obtain ⟨v',w',hr,h2,h3,h4⟩:=yht (P:=P) w t u o.type e i ht hu hi hz hsize hby v n xs hown s hbytes;unfold Oper.wp execOp;simp only [ho,resolve,invoke,builtin,Sem.run_bind,Sem.run_pure,Result.andThen_ok,List.map_toArray,v0d,v16,hs,hx,hr];exact hK _ _ (h v' w' h2 h3 h4)
theorem yc9 {P:Program} (w:World) (t ty e:TypeId) (i:TypeInfo) (ht:P.underlying t=some (.slice e)) (hi:P.info? e=some i) (hz:i.zero=some (.int .u8 0)) (hsize:i.size=1) (hby:i.bytes=1)
  (v:Value) (n:Nat) (xs:List Value) (hown:w.ownsRowF 0 e 1 v n xs) (ad:Addr) (c:Nat) (x:Int) (hx:w.cell? ad=some (.int .u8 x)) (hbytes:n+1≤140737488355328) :
  ∃ v' w',(Builtin.append_ #[t,t] ty #[v,.slice (some ad) 1 c]).run P w = .ok v' w'∧w'.ownsRowF 0 e 1 v' (n+1) (xs++[.int .u8 x])∧w.grownBy w' v.ownBlock∧∀ k,v'.ownBlock=some k→v.ownBlock=some k∨w.heap.size≤k:=by
 have h63:n+1≤maxLen:=by unfold maxLen; omega
 have hnews:∀ j u,[Value.int .u8 x][j]?=some u→w.cell? (ad.add j)=some u:=by
  intro j u hj
  match j,hj with
  | 0,hj=>simp at hj; subst hj; obtain ⟨b,o,p⟩:=ad; cases p <;> simpa [Addr.add] using hx
 have h1c:∀ u∈[Value.int .u8 x],u.oneCell'=true:=fun u hu=>by simp at hu; subst hu; rfl
 rcases hown.2 with ⟨rfl,rfl⟩ | ⟨g,cap,cur,fz,rfl,hbg,hg,hfz,hnc,hcm,hcs,htake⟩
 ·obtain ⟨v',w',h1,h2,h3,_⟩:=run_append_own (P:=P) w w.heap.size t ty e i (.int .u8 0) 1 1 ht hi hz hsize hby rfl (by decide) (.slice none 0 0) 0 xs ⟨hown.1,.inl ⟨rfl,rfl⟩⟩ ad 1 c [.int .u8 x] rfl hnews h1c h63 (by omega) (v0a _)
  refine ⟨v',w',h1,⟨h2.1,?_⟩,h3,fun k hk=>.inr ?_⟩
  ·rcases h2.2 with q | ⟨g,cap,cur,q1,_,q2,q3,q4,q5,q6⟩
   ·exact .inl q
   ·exact .inr ⟨g,cap,cur,(0,0),q1,v0x _,q2,v0x _,q3,q4,q5,q6⟩
  ·rcases h2.2 with ⟨rfl,_⟩ | ⟨g,cap,cur,rfl,q1,_⟩
   ·simp [Value.ownBlock] at hk
   ·rw [zfo hk]; exact q1
 ·obtain ⟨v',w',h1,h2,h3,_⟩:=run_append_ownF (P:=P) w 0 t ty e i (.int .u8 0) 1 1 ht hi hz hsize hby rfl (by decide) _ n xs hown ad 1 c [.int .u8 x] rfl hnews h1c h63 (by omega) (v0x _)
  refine ⟨v',w',h1,h2,h3,fun k hk=>?_⟩
  by_cases hroom:n+1≤cap
  ·have hr:=run_append_roomF (P:=P) w t ty e i ht hi g n cap cur fz hg (by rw [hsize]; simpa using hfz) ad 1 c [.int .u8 x] (by rw [hsize]; rfl) hnews h1c hroom (by rw [hsize]; simp at hcs ⊢; omega)
   rw [h1] at hr;simp only [Result.ok.injEq] at hr;obtain ⟨rfl,_⟩:=hr;exact .inl (by rw [zfo hk]; rfl)
  ·have hxl:xs.length=n:=by simpa using hown.1
   have hr:=run_append_grow (P:=P) w t ty e i (.int .u8 0) ht hi hz ⟨g,0,none⟩ n cap xs (by rw [hsize]; simpa using hxl) (hown.cells (g:=g) rfl) ad 1 c [.int .u8 x] (by rw [hsize]; rfl) hnews (by omega) (by omega) (by rw [hby]; exact growslice_fits (by omega) (by omega))
   rw [h1] at hr;simp only [Result.ok.injEq] at hr;obtain ⟨rfl,_⟩:=hr;exact .inr (by rw [zfo hk]; exact v0a _)
theorem zpm {P:Program} {w:World} {ops:Array Oper} {rest:List Oper} {o:Oper} {a:Act} {Q:Exit→Act→World→Prop} (hgd:o.guard=none) (sl x:Operand) (t:TypeId)
  (ho:o.op = .call { callee:=.builtin .append,args:=#[sl,x],argTypes:=#[t,t] })
  (e:TypeId) (i:TypeInfo) (ht:P.underlying t=some (.slice e)) (hi:P.info? e=some i) (hz:i.zero=some (.int .u8 0)) (hsize:i.size=1) (hby:i.bytes=1)
  (v:Value) (n:Nat) (xs:List Value) (hs:a.eval sl=v) (hown:w.ownsRowF 0 e 1 v n xs) (ad:Addr) (c:Nat) (y:Int) (hx:a.eval x = .slice (some ad) 1 c) (hc:w.cell? ad=some (.int .u8 y)) (hbytes:n+1≤140737488355328)
  (h:∀ v' w',w'.ownsRowF 0 e 1 v' (n+1) (xs++[.int .u8 y])→w.grownBy w' v.ownBlock→(∀ k,v'.ownBlock=some k→v.ownBlock=some k∨w.heap.size≤k)→wpList P ops Q rest (a.put o.dst v') w'):wpList P ops Q (o :: rest) a w:=by
 refine wpList_plain hgd fun K hK=>?_
 obtain ⟨v',w',hr,h2,h3,h4⟩:=yc9 (P:=P) w t o.type e i ht hi hz hsize hby v n xs hown ad c y hc hbytes;unfold Oper.wp execOp;simp only [ho,resolve,invoke,builtin,Sem.run_bind,Sem.run_pure,Result.andThen_ok,List.map_toArray,v0d,v16,hs,hx,hr];exact hK _ _ (h v' w' h2 h3 h4)
theorem yll {w:World} {e:Nat} {v:Value} {bs:List Value} {n k:Nat} (hown:w.ownsRowF 0 e 1 v n bs) (hk:v.ownBlock=some k):k < w.heap.size:=by
 rcases hown.2 with ⟨rfl,_⟩ | ⟨g,cap,cur,fz,rfl,_,hg,_⟩
 ·simp [Value.ownBlock] at hk
 ·rw [zfo hk]
  exact zhf hg
set_option maxHeartbeats 2000000 in
theorem zvj (b:Nat) (p v:Value) (bs:List Value) (s:ByteArray) (w:World) (hp:p = .pointer none∨p = .pointer (some ⟨b,0,none⟩)) (hbk:w.heap[b]?=some (.cells #[p,v] 108 (0,0)))
  (hown:w.ownsRowF 0 5 1 v bs.length bs) (hne:v.ownBlock≠some b) (hlen:bs.length+s.size≤140737488355328) :
  Calls Tryz.prog 60 #[.pointer (some ⟨b,0,none⟩),.string s] w fun e w'=>e = .returned (.tuple #[.int .i64 s.size,.nilIface])∧zxt b v (bs++Lib.strCells s) w w':=by
 obtain ⟨i0,hi,hz0,hz1,hz2⟩:=info_parts yjg
 go_enter Tryz.func60,Tryz.ntmps60
 go_wp2_with (go_at_call 103; refine (yfv b p v _ hp hbk).mono ?_)
 rintro e w1 ⟨rfl,hb1,hk1,hs1⟩
 have HS:Hid (w1.heap.size=w.heap.size):=hs1;clear hs1;have hown1:w1.ownsRowF 0 5 1 v bs.length bs:=z5w hown (fun k hk=>hk1.block k (yll hown hk) (fun e=>hne (e ▸ hk)))
 have c0:w1.cell? ⟨b,0,none⟩=some (.pointer (some ⟨b,0,none⟩)):=by rw [Lib.cell_of_heap hb1]; rfl
 have c1:w1.cell? ⟨b,1,none⟩=some v:=by rw [Lib.cell_of_heap hb1]; rfl
 go_wp2_with (at_builtin; refine zs9 rfl _ _ 69 9 rfl 5 i0 Tryz.underlying69 Tryz.underlying9 hi hz0 hz1 hz2 _ _ _ rfl hown1 s rfl hlen ?_)
 intro v' w2 hown' hgrow hblk;have hlt:b < w1.heap.size:=zhf hb1;have hb2:w2.heap[b]?=some (.cells #[.pointer (some ⟨b,0,none⟩),v] 108 (0,0)):=by
  rw [hgrow.block b hlt (fun e=>hne e.symm)]
  exact hb1
 have d0:w2.cell? ⟨b,0,none⟩=some (.pointer (some ⟨b,0,none⟩)):=by rw [Lib.cell_of_heap hb2]; rfl
 have d1:w2.cell? ⟨b,1,none⟩=some v:=by rw [Lib.cell_of_heap hb2]; rfl
 have f1:w2.frozen? ⟨b,1,none⟩=false:=Lib.frozen_of_heap hb2 1;have hX:Hid (zxt b v (bs++Lib.strCells s) w (w2.setCell ⟨b,1,none⟩ v')):=yfb HS hk1 hb2 (by simpa [Lib.strCells_length] using hown') (y78 hgrow) hblk
 clear hblk HS;obtain ⟨ao,n',cap,rfl⟩:∃ ao n' cap,v' = .slice ao n' cap:=by
  rcases hown'.2 with ⟨hv,_⟩ | ⟨g,cap,cur,fz,hv,_⟩
  ·exact ⟨_,_,_,hv⟩
  ·exact ⟨_,_,_,hv⟩
 go_wp2
 go_ret2
 exact ⟨rfl,hX⟩
set_option maxHeartbeats 2000000 in
theorem y5p (b:Nat) (p v:Value) (bs:List Value) (c:Int) (w:World) (hp:p = .pointer none∨p = .pointer (some ⟨b,0,none⟩)) (hbk:w.heap[b]?=some (.cells #[p,v] 108 (0,0)))
  (hown:w.ownsRowF 0 5 1 v bs.length bs) (hne:v.ownBlock≠some b) (hlen:bs.length+1≤140737488355328) :
  Calls Tryz.prog 97 #[.pointer (some ⟨b,0,none⟩),.int .u8 c] w fun e w'=>e = .returned .nilIface∧zxt b v (bs++[.int .u8 c]) w w':=by
 obtain ⟨i0,hi,hz0,hz1,hz2⟩:=info_parts yjg
 go_enter Tryz.func97,Tryz.ntmps97
 go_wp2_with (go_at_call 103; refine (yfv b p v _ hp hbk).mono ?_)
 rintro e w1 ⟨rfl,hb1,hk1,hs1⟩
 have HS:Hid (w1.heap.size=w.heap.size):=hs1;clear hs1;have hown1:w1.ownsRowF 0 5 1 v bs.length bs:=z5w hown (fun k hk=>hk1.block k (yll hown hk) (fun e=>hne (e ▸ hk)))
 have c0:w1.cell? ⟨b,0,none⟩=some (.pointer (some ⟨b,0,none⟩)):=by rw [Lib.cell_of_heap hb1]; rfl
 have c1:w1.cell? ⟨b,1,none⟩=some v:=by rw [Lib.cell_of_heap hb1]; rfl
 have hlt:b < w1.heap.size:=zhf hb1
 go_wp2_with (at_builtin; refine zpm rfl _ _ 69 rfl 5 i0 Tryz.underlying69 hi hz0 hz1 hz2 _ _ _ rfl (hown1.alloc _) ⟨w1.heap.size,0,none⟩ 1 c rfl (by rw [Lib.cell_of_heap (heap_alloc_new w1 _)]; rfl) hlen ?_)
 intro v' w2 hown' hgrow hblk;have hb2:w2.heap[b]?=some (.cells #[.pointer (some ⟨b,0,none⟩),v] 108 (0,0)):=by
  rw [hgrow.block b (by simp; omega) (fun e=>hne e.symm),Lib.alloc_old w1 _ b hlt]
  exact hb1
 have d0:w2.cell? ⟨b,0,none⟩=some (.pointer (some ⟨b,0,none⟩)):=by rw [Lib.cell_of_heap hb2]; rfl
 have d1:w2.cell? ⟨b,1,none⟩=some v:=by rw [Lib.cell_of_heap hb2]; rfl
 have f1:w2.frozen? ⟨b,1,none⟩=false:=Lib.frozen_of_heap hb2 1;have hX:Hid (zxt b v (bs++[.int .u8 c]) w (w2.setCell ⟨b,1,none⟩ v')):=yfb HS hk1 hb2 (by simpa using hown') (((Keep.alloc (fun k=>v.ownBlock=some k) w1 _)).trans (y78 hgrow) (fun _ _ h=>h)) (fun k hk=>(hblk k hk).imp_right (fun h=>by first | omega | (simp at h; omega)))
 clear hblk HS;obtain ⟨ao,n',cap,rfl⟩:∃ ao n' cap,v' = .slice ao n' cap:=by
  rcases hown'.2 with ⟨hv,_⟩ | ⟨g,cap,cur,fz,hv,_⟩
  ·exact ⟨_,_,_,hv⟩
  ·exact ⟨_,_,_,hv⟩
 go_wp2
 go_ret
 exact ⟨rfl,hX⟩
def ze8 (b:Nat) (p v:Value) (n:Nat) (bs:List Value) (w w':World):Prop:=
 w'.heap[b]?=some (.cells #[p,v] 108 (0,0))∧w'.ownsRowF 0 5 1 v n bs∧Keep (fun k=>k=b∨v.ownBlock=some k) w w'
theorem y52 {b g cap:Nat} {p:Value} {bs:List Value} {w:World} (hbk:w.heap[b]?=some (.cells #[p,.slice (some ⟨g,0,none⟩) bs.length cap] 108 (0,0))) (hown:w.ownsRowF 0 5 1 (.slice (some ⟨g,0,none⟩) bs.length cap) bs.length bs) (hne:(Value.slice (some ⟨g,0,none⟩) bs.length cap).ownBlock≠some b) :
  ze8 b p (.slice (some ⟨g,0,none⟩) bs.length cap) bs.length bs w (w.drew.freeze ⟨g,0,none⟩ bs.length):=by
 have hA:Lib.BuilderAtF 108 5 0 b p bs w.drew:=⟨v0x _,_,hbk,hown,hne⟩;have c1:w.drew.cell? ⟨b,1,none⟩=some (.slice (some ⟨g,0,none⟩) bs.length cap):=by
  have:w.drew.heap[b]?=some (.cells #[p,.slice (some ⟨g,0,none⟩) bs.length cap] 108 (0,0)):=hbk
  rw [Lib.cell_of_heap this]; rfl
 obtain ⟨_,v',q1,q2,q3⟩:=hA.froze c1;have hk:Keep (fun k=>k=g) w (w.drew.freeze ⟨g,0,none⟩ bs.length):=(Keep.drew _ w).trans (Keep.freeze (O:=fun k=>k=g) w.drew ⟨g,0,none⟩ _ rfl) (fun _ _ h=>h)
 have hgb:b≠g:=fun e=>hne (by simp [Value.ownBlock,e])
 have hb2:(w.drew.freeze ⟨g,0,none⟩ bs.length).heap[b]?=some (.cells #[p,.slice (some ⟨g,0,none⟩) bs.length cap] 108 (0,0)):=(hk.block b (zhf hbk) hgb).trans hbk;have e:v' = .slice (some ⟨g,0,none⟩) bs.length cap:=by
  rw [hb2] at q1;simp at q1;exact q1.symm
 subst e;exact ⟨hb2,q2,hk.mono (fun k _ h=>.inr (by rw [h]; rfl))⟩
set_option maxHeartbeats 1000000 in
theorem zx5 (b g cap:Nat) (p:Value) (l:List UInt8) (w:World) (h0:l≠[]) (hbk:w.heap[b]?=some (.cells #[p,.slice (some ⟨g,0,none⟩) l.length cap] 108 (0,0)))
  (hown:w.ownsRowF 0 5 1 (.slice (some ⟨g,0,none⟩) l.length cap) l.length (Lib.byteCells l)) (hne:(Value.slice (some ⟨g,0,none⟩) l.length cap).ownBlock≠some b) :
  Calls Tryz.prog 56 #[.pointer (some ⟨b,0,none⟩)] w fun e w'=>e = .returned (.string ⟨l.toArray⟩)∧ze8 b p (.slice (some ⟨g,0,none⟩) l.length cap) l.length (Lib.byteCells l) w w':=by
 have hl0:l.length≠0:=by simpa using h0
 obtain ⟨cur,fz,hg,hnc,hcm,hcs⟩:∃ cur fz,w.heap[g]?=some (.cells cur 5 fz)∧l.length≤cap∧cap≤maxLen∧cur.size=cap*1:=by
  rcases hown.2 with ⟨hv,_⟩ | ⟨g',cap',cur,fz,hv,_,q1,_,q2,q3,q4,_⟩
  ·cases hv
  ·injection hv with ha _ hc
   injection ha with ha
   injection ha with hgg
   subst hgg; subst hc;exact ⟨cur,fz,q1,q2,q3,q4⟩
 have c1:w.drew.cell? ⟨b,1,none⟩=some (.slice (some ⟨g,0,none⟩) l.length cap):=by
  have:w.drew.heap[b]?=some (.cells #[p,.slice (some ⟨g,0,none⟩) l.length cap] 108 (0,0)):=hbk
  rw [Lib.cell_of_heap this]; rfl
 have hSD:(Builtin.unsafeSliceData_ #[69] 165 #[.slice (some ⟨g,0,none⟩) l.length cap]).run Tryz.prog w.drew = .ok (.pointer (some ⟨g,0,none⟩)) w.drew:=
  Lib.run_unsafeSliceData_row _ _ _ _ _ _ (by omega)
 have hcells:PR.cellsOf 5=1:=by kernel_rfl
 have hUS:(Builtin.unsafeString_ #[165,3] 9 #[.pointer (some ⟨g,0,none⟩),.int .i64 l.length]).run Tryz.prog w.drew = .ok (.string ⟨l.toArray⟩) (w.drew.freeze ⟨g,0,none⟩ l.length):=by
  refine Lib.run_unsafeString_row w.drew 165 3 9 5 Tryz.underlying165 hcells g cur.size (by have hg':w.drew.heap[g]?=some (.cells cur 5 fz):=hg; simp [World.shape?,hg']) l h0 (by omega) (by unfold maxLen at hcm; omega) ?_
  intro j x hx
  have:=hown.cells (g:=g) rfl j (.int .u8 x.toNat) (by simp [Lib.byteCells,hx])
  exact this
 have hP:Hid (ze8 b p (.slice (some ⟨g,0,none⟩) l.length cap) l.length (Lib.byteCells l) w (w.drew.freeze ⟨g,0,none⟩ l.length)):=by
  have:=y52 (bs:=Lib.byteCells l) (by rw [Lib.byteCells_length]; exact hbk) (by rw [Lib.byteCells_length]; exact hown) (by rw [Lib.byteCells_length]; exact hne)
  rw [Lib.byteCells_length] at this;exact this
 clear hcells hcs hg hnc hcm hl0
 go_enter Tryz.func56,Tryz.ntmps56
 go_wp2
 go_region
 all_goals (go_wp2; go_ret; exact ⟨rfl,hP⟩)
set_option maxHeartbeats 2000000 in
theorem zzl (b:Nat) (p:Value) (w:World) (hbk:w.heap[b]?=some (.cells #[p,.slice none 0 0] 108 (0,0))) :
  Calls Tryz.prog 56 #[.pointer (some ⟨b,0,none⟩)] w fun e w'=>e = .returned (.string ⟨#[]⟩)∧ze8 b p (.slice none 0 0) 0 [] w w':=by
 have hUS:∀ (W:World) (q:Option Addr),(Builtin.unsafeString_ #[165,3] 9 #[.pointer q,.int .i64 0]).run Tryz.prog W = .ok (.string .empty) W:=fun W q=>Lib.run_unsafeString_none W _ _ _ q
 have c1:w.drew.cell? ⟨b,1,none⟩=some (.slice none 0 0):=by
  have:w.drew.heap[b]?=some (.cells #[p,.slice none 0 0] 108 (0,0)):=hbk
  rw [Lib.cell_of_heap this]; rfl
 have hSD:(Builtin.unsafeSliceData_ #[69] 165 #[.slice none 0 0]).run Tryz.prog w.drew = .ok (.pointer none) w.drew:=rfl;have hP:Hid (ze8 b p (.slice none 0 0) 0 [] w w.drew):=⟨hbk,⟨rfl,.inl ⟨rfl,rfl⟩⟩,Keep.drew _ w⟩
 go_enter Tryz.func56,Tryz.ntmps56
 go_wp2
 go_region
 all_goals (go_wp2; go_ret; exact ⟨rfl,hP⟩)
set_option maxHeartbeats 2000000 in
theorem zr7 (b g:Nat) (p:Value) (cur:Array Value) (fz:Nat × Nat) (w:World) (hbk:w.heap[b]?=some (.cells #[p,.slice (some ⟨g,0,none⟩) 0 0] 108 (0,0))) (hg:w.heap[g]?=some (.cells cur 5 fz)) (hown:w.ownsRowF 0 5 1 (.slice (some ⟨g,0,none⟩) 0 0) 0 []) :
  Calls Tryz.prog 56 #[.pointer (some ⟨b,0,none⟩)] w fun e w'=>e = .returned (.string ⟨#[]⟩)∧ze8 b p (.slice (some ⟨g,0,none⟩) 0 0) 0 [] w w':=by
 have hUS:∀ (W:World) (q:Option Addr),(Builtin.unsafeString_ #[165,3] 9 #[.pointer q,.int .i64 0]).run Tryz.prog W = .ok (.string .empty) W:=fun W q=>Lib.run_unsafeString_none W _ _ _ q
 have hlt:b < w.heap.size:=zhf hbk;have c1:w.drew.cell? ⟨b,1,none⟩=some (.slice (some ⟨g,0,none⟩) 0 0):=by
  have:w.drew.heap[b]?=some (.cells #[p,.slice (some ⟨g,0,none⟩) 0 0] 108 (0,0)):=hbk
  rw [Lib.cell_of_heap this]; rfl
 have hSD:(Builtin.unsafeSliceData_ #[69] 165 #[.slice (some ⟨g,0,none⟩) 0 0]).run Tryz.prog w.drew = .ok (.pointer (some ⟨w.drew.heap.size,0,none⟩)) (w.drew.alloc (.view ⟨g,0,none⟩ 5)):=
  Lib.run_unsafeSliceData_zero w.drew _ _ 5 Tryz.underlying165 ⟨g,0,none⟩ 0 (5,cur.size) (by have hg':w.drew.heap[g]?=some (.cells cur 5 fz):=hg; simp [World.shape?,hg'])
 have c2:(w.drew.alloc (.view ⟨g,0,none⟩ 5)).cell? ⟨b,1,none⟩=some (.slice (some ⟨g,0,none⟩) 0 0):=by
  have:(w.drew.alloc (.view ⟨g,0,none⟩ 5)).heap[b]?=_:=(Lib.alloc_old w.drew _ b hlt).trans hbk
  rw [Lib.cell_of_heap this]; rfl
 have c3:(w.alloc (.view ⟨g,0,none⟩ 5)).drew.cell? ⟨b,1,none⟩=some (.slice (some ⟨g,0,none⟩) 0 0):=c2;have c0:w.cell? ⟨b,1,none⟩=some (.slice (some ⟨g,0,none⟩) 0 0):=c1;have hP:∀ W:World,W.heap=(w.drew.alloc (.view ⟨g,0,none⟩ 5)).heap→W.os=w.os→W.tape=w.tape→W.output=w.output→ze8 b p (.slice (some ⟨g,0,none⟩) 0 0) 0 [] w W:=by
  intro W h1 h2 h3 h4;have hk:Keep (fun k=>k=b∨(Value.slice (some ⟨g,0,none⟩) 0 0).ownBlock=some k) w W:=by
   have:=Keep.alloc (fun _=>False) w.drew (.view ⟨g,0,none⟩ 5)
   exact ⟨h2,h3,h4,by rw [h1]; exact this.size,fun k hk _=>by rw [h1]; exact this.block k hk (fun h=>h)⟩
  have hblk:∀ k,k < w.heap.size→W.heap[k]?=w.heap[k]?:=fun k hk=>by
   rw [h1]; exact (Keep.alloc (fun _=>False) w.drew (.view ⟨g,0,none⟩ 5)).block k hk (fun h=>h)
  exact ⟨(hblk b hlt).trans hbk,z5w hown (fun k hk=>hblk k (yll hown hk)),hk⟩
 have hP:Hid (∀ W:World,W.heap=(w.drew.alloc (.view ⟨g,0,none⟩ 5)).heap→W.os=w.os→W.tape=w.tape→W.output=w.output→ze8 b p (.slice (some ⟨g,0,none⟩) 0 0) 0 [] w W):=hP
 go_enter Tryz.func56,Tryz.ntmps56
 go_wp2
 go_region
 all_goals (go_wp2; go_ret; exact ⟨rfl,hP _ rfl rfl rfl rfl⟩)
set_option maxHeartbeats 2000000 in
theorem zx2 (b g cap:Nat) (p:Value) (w:World) (hc0:cap≠0) (hbk:w.heap[b]?=some (.cells #[p,.slice (some ⟨g,0,none⟩) 0 cap] 108 (0,0))) (hown:w.ownsRowF 0 5 1 (.slice (some ⟨g,0,none⟩) 0 cap) 0 []) :
  Calls Tryz.prog 56 #[.pointer (some ⟨b,0,none⟩)] w fun e w'=>e = .returned (.string ⟨#[]⟩)∧ze8 b p (.slice (some ⟨g,0,none⟩) 0 cap) 0 [] w w':=by
 have hUS:∀ (W:World) (q:Option Addr),(Builtin.unsafeString_ #[165,3] 9 #[.pointer q,.int .i64 0]).run Tryz.prog W = .ok (.string .empty) W:=fun W q=>Lib.run_unsafeString_none W _ _ _ q
 have c1:w.drew.cell? ⟨b,1,none⟩=some (.slice (some ⟨g,0,none⟩) 0 cap):=by
  have:w.drew.heap[b]?=some (.cells #[p,.slice (some ⟨g,0,none⟩) 0 cap] 108 (0,0)):=hbk
  rw [Lib.cell_of_heap this]; rfl
 have hSD:(Builtin.unsafeSliceData_ #[69] 165 #[.slice (some ⟨g,0,none⟩) 0 cap]).run Tryz.prog w.drew = .ok (.pointer (some ⟨g,0,none⟩)) w.drew:=
  Lib.run_unsafeSliceData_row _ _ _ _ _ _ hc0
 clear hc0;have hP:Hid (ze8 b p (.slice (some ⟨g,0,none⟩) 0 cap) 0 [] w w.drew):=⟨hbk,hown,Keep.drew _ w⟩
 go_enter Tryz.func56,Tryz.ntmps56
 go_wp2
 go_region
 all_goals (go_wp2; go_ret; exact ⟨rfl,hP⟩)
theorem y0s (s:ByteArray):Lib.strCells s=Lib.byteCells s.data.toList:=by
 simp [Lib.strCells,Lib.byteCells]
theorem yic (b:Nat) (p v:Value) (s:ByteArray) (w:World) (hbk:w.heap[b]?=some (.cells #[p,v] 108 (0,0))) (hown:w.ownsRowF 0 5 1 v s.size (Lib.strCells s)) (hne:v.ownBlock≠some b) :
  Calls Tryz.prog 56 #[.pointer (some ⟨b,0,none⟩)] w fun e w'=>e = .returned (.string s)∧ze8 b p v s.size (Lib.strCells s) w w':=by
 obtain ⟨⟨l⟩⟩:=s;rw [y0s] at hown ⊢
 change w.ownsRowF 0 5 1 v l.length (Lib.byteCells l) at hown
 change Calls Tryz.prog 56 #[.pointer (some ⟨b,0,none⟩)] w fun e w'=>e = .returned (.string ⟨l.toArray⟩)∧ze8 b p v l.length (Lib.byteCells l) w w'
 by_cases h0:l=[]
 ·subst h0
  rcases hown.2 with ⟨rfl,_⟩ | ⟨g,cap,cur,fz,rfl,_,hg,_⟩
  ·exact zzl b p w hbk
  ·by_cases hc:cap=0
   ·subst hc
    exact zr7 b g p cur fz w hbk hg hown
   ·exact zx2 b g cap p w hc hbk hown
 ·rcases hown.2 with ⟨rfl,hz⟩ | ⟨g,cap,cur,fz,rfl,_⟩
  ·exact absurd (v26 hz) h0
  ·exact zx5 b g cap p l w h0 hbk hown hne
end Go.FM
