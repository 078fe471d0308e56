/-
  A small machine that reads a function of the program and reckons what a call of it comes to; what Go's library on the road comes to; the functions of the program, one by one. No conditions beyond each specification's own. (THE SMALL MACHINE (22): what comes back from a call., THE SMALL MACHINE (23): what a function is said to do; a cal, THE SMALL MACHINE (24): a call., and so on.)
-/
import Derived.Test.YtehhekmihbaghaaGreatDoorSa
import Derived.Lib.ConvBytes
import Derived.Orders
import Derived.DeepKeys
import Derived.KernelRfl
import Derived.Lib.AtoiAll
import Derived.Lib.ItoaLen
import Derived.Lib.Split
import Derived.Lib.IndexMore
import Derived.Lib.LaidTab
import Derived.Lib.SplitLaws
import Derived.Lib.TrimByte
import Derived.Lib.Repeat
import Derived.Lib.ItoaNum
import Derived.Lib.Join
import Derived.Test.YtehhekmihbaghaaGreatDoorProg
import Derived.Shelf.Strings.BuilderK
set_option linter.all false
set_option maxRecDepth 100000
namespace Go.FM
open Go Go.RowKit
theorem zni:∀ l:List V,yao l=l.map fun _=>.any
 | []=>rfl
 | _ :: r=>by simp [yao,zni r]
section
variable {B:BT} {nt:Nat} {w0:World} {X:Zone} {γ:Nat→Value} {st st':St} {a:Act} {w:World} {P:Program} {E:Env}
theorem zi4 {B':BT} {own:Nat→Prop} {O1:Nat→Prop} {g:Nat→Value} (nm:Nat):∀ (r:List V) (j0:Nat) {γ:Nat→Value} {st:St} {F:Nat→Prop},nm+j0+r.length≤900000→Rel B nt w0 ⟨own,F⟩ γ st a w →
  (∀ b,z0a ⟨own,F⟩ γ st.o b→O1 b) →
  (∀ j e ag ks l,r[j]?=some (.vec e ag ks l)→ObRel B' γ [] w O1 (g (j0+j)) (.row true e ag ks l)∧∀ b,(g (j0+j)).ownBlock=some b→F b∧(w0.heap.size≤b∨own b)) →
  (∀ i j e ag ks l e' ag' ks' l' b,i≠j→r[i]?=some (.vec e ag ks l)→r[j]?=some (.vec e' ag' ks' l')→(g (j0+i)).ownBlock=some b→(g (j0+j)).ownBlock=some b→False) →
  ∃ γd F',Rel B nt w0 ⟨own,F'⟩ γd (st.ups (zes (nm+j0) r)) a w∧(∀ b,F' b→F b)∧(∀ b,F b→(∀ j e ag ks l,r[j]?=some (.vec e ag ks l)→(g (j0+j)).ownBlock≠some b)→F' b) ∧
   (∀ b,z0a ⟨own,F'⟩ γd (st.ups (zes (nm+j0) r)).o b→z0a ⟨own,F⟩ γ st.o b) ∧
   (∀ j e ag ks l,r[j]?=some (.vec e ag ks l)→γd (nm+j0+j)=g (j0+j)∧z04 (st.ups (zes (nm+j0) r)).o (nm+j0+j)=some (.row true e ag ks l)) ∧
   (∀ m,(m < nm+j0∨nm+j0+r.length≤m)→γd m=γ m∧(∀ cs:List V,z04 st.o m=some (.box (yao cs))→z04 (st.ups (zes (nm+j0) r)).o m=some (.box (yao cs))) ∧
    (∀ e ag ks l,z04 st.o m=some (.row true e ag ks l)→z04 (st.ups (zes (nm+j0) r)).o m=some (.row true e ag ks l)))
 | [],j0,γ,st,F,_,h,hO,hr,hd=>⟨γ,F,h,fun _ h=>h,fun _ h _=>h,fun _ h=>h,fun j e ag ks l hj=>by simp at hj,fun m _=>⟨rfl,fun _ h=>h,fun _ _ _ _ h=>h⟩⟩
 | v :: r,j0,γ,st,F,h9,h,hO,hr,hd=>by
  rw [v05] at h9
  by_cases hv:∃ e ag ks l,v = .vec e ag ks l
  ·obtain ⟨e,ag,ks,l,rfl⟩:=hv
   obtain ⟨hr0,hb0⟩:=hr 0 e ag ks l (by simp)
   rw [v1m] at hr0 hb0;have h1:=h.add (nm+j0) (by omega) (.row true e ag ks l) (g j0) (fun b hb=>hb0 b hb) (fun O' hO'=>by
    simp only [ObRel] at hr0 ⊢
    obtain ⟨k1,k2,xs,k3,k4⟩:=hr0;exact ⟨k1,k2,xs,k3,fun i y hy=>Kd.RelAll.mono (Keep.refl _ w) (fun b _ hb=>hO b (hO' b hb)) (fun _ _ hu=>hu) (k4 i y hy)⟩)
   have hO2:∀ b,z0a ⟨own,fun b=>F b∧¬ z0l (g j0) (.row true e ag ks l) b⟩ (fun m=>if nm+j0=m then g j0 else γ m) (st.up (.new (nm+j0) (.row true e ag ks l))).o b→z0a ⟨own,F⟩ γ st.o b:=by
    rintro b (⟨m,ob1,hm,hb1⟩ | hb)
    ·rw [z0d] at hm
     split at hm
     ·rename_i e1
      subst e1;simp only [v00] at hm;subst hm;simp only [v1o] at hb1;exact .inr (hb0 b hb1).1
     ·rename_i e1
      obtain ⟨ob0,h0,hs⟩:=z43 hm;simp only [v10 e1] at hb1;exact .inl ⟨m,ob0,h0,((z7d hs).2 _ _).1 hb1⟩
    ·exact .inr hb.1
   obtain ⟨γd,F',r1,r2,r3,r4,r5,r6⟩:=zi4 (B':=B') nm r (j0+1) (by omega) h1 (fun b hb=>hO b (hO2 b hb)) (fun j e' ag' ks' l' hj=>by
     obtain ⟨q1,q2⟩:=hr (j+1) e' ag' ks' l' (by simpa using hj)
     rw [show j0+(j+1)=j0+1+j by omega] at q1 q2
     refine ⟨yih q1,fun b hb=>⟨⟨(q2 b hb).1,fun hb'=>?_⟩,(q2 b hb).2⟩⟩
     exact hd 0 (j+1) e ag ks l e' ag' ks' l' b (by omega) (by simp) (by simpa using hj) hb' (by rw [show j0+(j+1)=j0+1+j by omega]; exact hb))
    (fun i j e1 ag1 ks1 l1 e2 ag2 ks2 l2 b hij h1 h2 hb1 hb2=>hd (i+1) (j+1) e1 ag1 ks1 l1 e2 ag2 ks2 l2 b (by omega) (by simpa using h1) (by simpa using h2) (by rw [show j0+(i+1)=j0+1+i by omega]; exact hb1) (by rw [show j0+(j+1)=j0+1+j by omega]; exact hb2))
   refine ⟨γd,F',r1,fun b hb=>(r2 b hb).1,fun b hb hn=>r3 b ⟨hb,fun hb'=>hn 0 e ag ks l (by simp) hb'⟩ (fun j e' ag' ks' l' hj=>by
     have:=hn (j+1) e' ag' ks' l' (by simpa using hj)
     rwa [show j0+(j+1)=j0+1+j by omega] at this),fun b hb=>hO2 b (r4 b hb),?_,?_⟩
   ·intro j e' ag' ks' l' hj
    cases j with
    | zero=>
     simp only [v0p,v00,V.vec.injEq] at hj;obtain ⟨rfl,rfl,rfl,rfl⟩:=hj;obtain ⟨p1,_,p3⟩:=r6 (nm+j0) (.inl (by omega))
     refine ⟨by rw [v1m,v1m,p1]; simp,?_⟩
     rw [v1m];exact p3 e ag ks l (by rw [z0d,v1f rfl])
    | succ j=>
     obtain ⟨p1,p2⟩:=r5 j e' ag' ks' l' (by simpa using hj)
     rw [show nm+(j0+1)+j=nm+j0+(j+1) by omega] at p1 p2
     exact ⟨by rw [p1]; congr 1; omega,p2⟩
   ·intro m hm
    have hne:nm+j0≠m:=by
     simp only [v05] at hm;omega
    obtain ⟨p1,p2,p3⟩:=r6 m (by simp only [v05] at hm; omega)
    refine ⟨by rw [p1,v10 hne],fun cs hc=>p2 cs ?_,fun e' ag' ks' l' hc=>p3 e' ag' ks' l' ?_⟩
    ·rw [z0d,v10 hne,hc]
     simp only [z56,zni,v3x,v00,Ob.box.injEq]
     rfl
    ·rw [z0d,v10 hne,hc]
     rfl
  ·have hu:zes (nm+j0) (v :: r)=zes (nm+(j0+1)) r:=by
    cases v <;> first | rfl | exact absurd ⟨_,_,_,_,rfl⟩ hv
   rw [hu];obtain ⟨γd,F',r1,r2,r3,r4,r5,r6⟩:=zi4 (B':=B') nm r (j0+1) (by omega) h hO (fun j e' ag' ks' l' hj=>by
     obtain ⟨q1,q2⟩:=hr (j+1) e' ag' ks' l' (by simpa using hj)
     rw [show j0+(j+1)=j0+1+j by omega] at q1 q2
     exact ⟨q1,q2⟩)
    (fun i j e1 ag1 ks1 l1 e2 ag2 ks2 l2 b hij h1 h2 hb1 hb2=>hd (i+1) (j+1) e1 ag1 ks1 l1 e2 ag2 ks2 l2 b (by omega) (by simpa using h1) (by simpa using h2) (by rw [show j0+(i+1)=j0+1+i by omega]; exact hb1) (by rw [show j0+(j+1)=j0+1+j by omega]; exact hb2))
   refine ⟨γd,F',r1,r2,fun b hb hn=>r3 b hb (fun j e' ag' ks' l' hj=>by
     have:=hn (j+1) e' ag' ks' l' (by simpa using hj)
     rwa [show j0+(j+1)=j0+1+j by omega] at this),r4,?_,?_⟩
   ·intro j e' ag' ks' l' hj
    cases j with
    | zero=>
     simp only [v0p,v00] at hj;exact absurd ⟨_,_,_,_,hj⟩ hv
    | succ j=>
     obtain ⟨p1,p2⟩:=r5 j e' ag' ks' l' (by simpa using hj)
     rw [show nm+(j0+1)+j=nm+j0+(j+1) by omega] at p1 p2
     exact ⟨by rw [p1]; congr 1; omega,p2⟩
   ·intro m hm
    exact r6 m (by simp only [v05] at hm; omega)
end
open Go Go.RowKit
def zil:V→Bool
 | .agg l=>l.all z9t
 | .tup l=>l.all fun v=>match v with | .agg l=>l.all z9t | v=>z9t v
 | v=>z9t v
def okR:V→Bool
 | .bor cs=>cs.all okC
 | .vec _ _ _ _=>true
 | v=>zil v
def zxh:List V→List V→Bool
 | [.bld _],[.bld _]=>true
 | [.bld _],_=>false
 | _,cs=>cs.all okC
def zai (vs:List V) (r:V) (out:List (List V)) (g g':Value):Prop:=
 match z6e vs,out with
 | none,[]=>okR r=true
 | some cs,[cs']=>zil r=true∧zxh cs cs'=true∧zm9 g'=zm9 g
 | _,_=>False
def Does (P:Program) (f:FuncId) (xs:List Value) (w:World) (R:Ending→World→Prop):Prop:=
 match (callFunc f xs.toArray).run P w with
 | .ok (.enter g args) w'=>Calls P g args w' R
 | .ok (.value x) w'=>R (.returned x) w'
 | .ok (.row row args) w'=>Rows P row args w' fun x w''=>R (.returned x) w''
 | _=>False
theorem Does.mono {P:Program} {f:FuncId} {xs:List Value} {w:World} {R R':Ending→World→Prop} (h:Does P f xs w R) (hr:∀ e w',R e w'→R' e w'):Does P f xs w R':=by
 unfold Does at h ⊢
 split at h
 ·exact Calls.mono h hr
 ·exact hr _ _ h
 ·exact Rows.mono h (fun v w'=>hr _ _)
 ·exact h.elim
theorem Does.enter {P:Program} {f:FuncId} {fn:Func} (hf:P.funcs[f]?=some fn) (hn:(fn.name == "runtime.NumGoroutine")=false) (hb:fn.body.isNone=false) {xs:List Value} {w:World} {R:Ending→World→Prop} (h:Calls P f xs.toArray w R):Does P f xs w R:=by
 have:(callFunc f xs.toArray).run P w = .ok (.enter f xs.toArray) w:=by
  unfold callFunc;have hn':¬ fn.name = "runtime.NumGoroutine":=by simpa using hn
  have hb':¬ fn.body=none:=fun h=>by rw [h] at hb; cases hb
  simp [hf,hn',hb']
 unfold Does;rw [this];exact h
def Snd (P:Program) (B:BT) (f:FuncId) (sp:ygk):Prop:=
 ∀ (w:World) (X:Zone) (γ:Nat→Value) (vs:List V) (xs:List Value) (r:V) (out:List (List V)),sp vs=some (r,out)→Glob B w→(∀ b,X.own b→B.ng≤b) →
  Rel B.base 0 w X γ ⟨[],zcg vs⟩ zvv w→VRels γ (zcg vs) w (z0a X γ (zcg vs)) (vs.map z8s) xs →
  Does P f xs w fun e w'=>∃ x,e = .returned x∧∃ γ',Rel B.base 0 w X γ' ⟨[],z3l r out⟩ zvv w'∧VRel γ' (z3l r out) w' (z0a X γ' (z3l r out)) (y6u r) x∧zai vs r out (γ 900000) (γ' 900000)
theorem zkx {γ γ':Nat→Value} {o o':Store} {w:World} {O O':Nat→Prop} {v:V} (hf:z9t v=true) (hO:isL v=true→∀ b,b < w.heap.size→O' b→O b) {x:Value} (h:VRel γ o w O v x):VRel γ' o' w O' v x:=by
 cases v <;> simp only [z9t] at hf <;> first | (cases hf; done) | (exact zb7 rfl (VRel.mono (Keep.refl _ w) (hO rfl) h)) | (simp only [VRel] at h ⊢; try exact h)
theorem zqb:∀ {l:List V} {v:V},v∈l→isL v=true→zoz l=true
 | u :: r,v,hm,hv=>by
  simp only [zoz];cases hu:isL u with
  | true=>rfl
  | false=>
   rcases v15.1 hm with h1 | h1
   ·subst h1
    rw [hv] at hu;cases hu
   ·exact zqb h1 hv
theorem zo3 {γ γ':Nat→Value} {o o':Store} {w:World} {O O':Nat→Prop}:∀ {l:List V} {xs:List Value},l.all z9t=true→(zoz l=true→∀ b,b < w.heap.size→O' b→O b)→VRels γ o w O l xs→VRels γ' o' w O' l xs
 | [],[],_,_,_=>by simp only [VRels]
 | [],_ :: _,_,_,h=>by simp only [VRels] at h
 | _ :: _,[],_,_,h=>by simp only [VRels] at h
 | v :: l,x :: xs,hf,hO,h=>by
  simp only [VRels] at h ⊢
  simp only [v32,v02] at hf;exact ⟨zkx hf.1 (fun hv=>hO (zqb (v0a ..) hv)) h.1,zo3 hf.2 (fun hl=>hO (by simp only [zoz]; split <;> first | rfl | exact hl)) h.2⟩
theorem zss {γ γ':Nat→Value} {o o':Store} {w:World} {O O':Nat→Prop} {v:V} (hf:zil v=true) (hO:z3x v=true→∀ b,b < w.heap.size→O' b→O b) {x:Value} (h:VRel γ o w O v x):VRel γ' o' w O' v x:=by
 by_cases ha:∃ l,v = .agg l
 ·obtain ⟨l,rfl⟩:=ha
  simp only [VRel] at h ⊢
  obtain ⟨cs,hx,hr⟩:=h;exact ⟨cs,hx,zo3 hf hO hr⟩
 by_cases ht:∃ l,v = .tup l
 ·obtain ⟨l,rfl⟩:=ht
  simp only [VRel] at h ⊢
  obtain ⟨cs,hx,hr⟩:=h;refine ⟨cs,hx,?_⟩;simp only [zil] at hf;have key:∀ (l:List V) (xs:List Value),(l.all fun v=>match v with | .agg l=>l.all z9t | v=>z9t v)=true→(z3x.go l=true→∀ b,b < w.heap.size→O' b→O b)→VRels γ o w O l xs→VRels γ' o' w O' l xs:=by
   intro l
   induction l with
   | nil=>
    intro xs _ _ h;cases xs with
    | nil=>simp only [VRels]
    | cons _ _=>simp only [VRels] at h
   | cons v l ih=>
    intro xs hf hO h;cases xs with
    | nil=>simp only [VRels] at h
    | cons x xs=>
     simp only [VRels] at h ⊢
     simp only [v32,v02] at hf;have h2:z3x.go l=true→z3x.go (v :: l)=true:=fun hl=>by cases v <;> simp only [z3x.go] <;> first | exact hl | (split <;> first | rfl | exact hl)
     refine ⟨?_,ih xs hf.2 (fun hl=>hO (h2 hl)) h.2⟩
     by_cases hv:∃ l',v = .agg l'
     ·obtain ⟨l',rfl⟩:=hv
      have h1:=h.1;simp only [VRel] at h1 ⊢
      obtain ⟨cs,hx,hr⟩:=h1;exact ⟨cs,hx,zo3 hf.1 (fun hl=>hO (by simp only [z3x.go,hl])) hr⟩
     ·have hf1:z9t v=true:=by
       have:=hf.1
       split at this
       ·exact absurd ⟨_,rfl⟩ hv
       ·exact this
      exact zkx hf1 (fun hl=>hO (by cases v <;> simp_all [z3x.go])) h.1
  exact key l _ hf hO hr
 have h1:z9t v=true:=by cases v <;> first | exact hf | exact absurd ⟨_,rfl⟩ ha | exact absurd ⟨_,rfl⟩ ht
 exact zkx h1 (fun hl=>hO (by cases v <;> first | exact hl | (simp only [isL] at hl; cases hl))) h
theorem zbb {v:V} (h:zil v=true):y6u v=v:=by
 cases v <;> first | rfl | (simp only [zil,z9t] at h; cases h)
theorem y7r {o:Store} {bs:List V} {tk:Option Kd} {v:V} (h:zdg.lentC [v]=[]):∀ cs,z8p o bs tk v≠.bor cs:=by
 intro cs hc;cases v
 case ptr n i c=>simp [zdg.lentC] at h
 all_goals simp only [z8p] at hc
 all_goals (repeat' split at hc)
 all_goals (cases hc)
theorem y3o {o:Store} {bs:List V} {tk:Option Kd} {v:V} {cs:List V} (h:z8p o bs tk v = .bor cs):cs=bs:=by
 cases v <;> simp only [z8p] at h <;> try (cases h; done)
 all_goals (repeat' split at h)
 all_goals first | (cases h; done) | (cases h; rfl)
theorem y4j {o:Store} {bs:List V}:∀ {l:List V},(z6e.borC (l.map (z8p o bs none))=none∨z6e.borC (l.map (z8p o bs none))=some bs)∧(zdg.lentC l=[]→z6e.borC (l.map (z8p o bs none))=none)
 | []=>by simp [z6e.borC]
 | v :: r=>by
  have ih:=y4j (o:=o) (bs:=bs) (l:=r);have hl:zdg.lentC (v :: r)=[]→zdg.lentC [v]=[]∧zdg.lentC r=[]:=by cases v <;> simp [zdg.lentC]
  simp only [v0d];cases hv:z8p o bs none v
  case bor cs=>
   simp only [z6e.borC];refine ⟨.inr (by rw [y3o hv]),fun h=>absurd hv (y7r (hl h).1 cs)⟩
  all_goals (simp only [z6e.borC]; exact ⟨ih.1,fun h=>ih.2 (hl h).2⟩)
theorem zfh {o:Store} {bs:List V}:∀ {l:List V} {tks:List (List Kd)},(z6e (z5y o bs tks l)=none∨z6e (z5y o bs tks l)=some bs)∧(zdg l=[]→z6e (z5y o bs tks l)=none)
 | [],tks=>by cases tks <;> simp [z5y,z6e]
 | v :: r,tks=>by
  obtain ⟨ks,tks',he⟩:∃ ks tks',z5y o bs tks (v :: r)=y4l o bs ks v :: z5y o bs tks' r:=by
   cases tks with
   | nil=>exact ⟨[],[],rfl⟩
   | cons k ks=>exact ⟨k,ks,rfl⟩
  have ih:=zfh (o:=o) (bs:=bs) (l:=r) (tks:=tks');rw [he];have hl:zdg (v :: r)=[]→zdg [v]=[]∧zdg r=[]:=by cases v <;> simp [zdg]
  by_cases hc:∃ f l,v = .clo f l
  ·obtain ⟨f,l,rfl⟩:=hc
   have hb:=y4j (o:=o) (bs:=bs) (l:=l);simp only [y4l,z6e];cases hx:z6e.borC (l.map (z8p o bs none)) with
   | none=>exact ⟨ih.1,fun h=>ih.2 (hl h).2⟩
   | some cs=>
    simp only;refine ⟨.inr ?_,fun h=>?_⟩
    ·rcases hb.1 with h1 | h1 <;> rw [hx] at h1
     ·cases h1
     ·exact h1
    ·have:=hb.2 (by have:=(hl h).1; simpa [zdg] using this)
     rw [hx] at this;cases this
  ·by_cases ha:∃ l,v = .agg l
   ·obtain ⟨l,rfl⟩:=ha
    simp only [y4l,z6e];exact ⟨ih.1,fun h=>ih.2 (hl h).2⟩
   ·have h1:y4l o bs ks v=z8p o bs ks.head? v:=by
     cases v <;> first | rfl | exact absurd ⟨_,rfl⟩ ha | exact absurd ⟨_,_,rfl⟩ hc
    rw [h1];cases hv:z8p o bs ks.head? v
    case bor cs=>
     simp only [z6e];refine ⟨.inr (by rw [y3o hv]),fun h=>absurd hv (y7r (v:=v) ?_ cs)⟩
     have:=(hl h).1
     cases v <;> simp_all [zdg,zdg.lentC]
    case clo f l=>
     exfalso;cases v <;> simp only [z8p] at hv <;> try (cases hv; done)
     all_goals (repeat' split at hv)
     all_goals (cases hv)
    all_goals (simp only [z6e]; exact ⟨ih.1,fun h=>ih.2 (hl h).2⟩)
open Go Go.RowKit
section
variable {B:BT} {nt:Nat} {w0:World} {X:Zone} {γ:Nat→Value} {st st':St} {a:Act} {w:World} {P:Program} {E:Env}
theorem zbj (h:Rel B nt w0 X γ st a w) (ns:List Nat) {b:Nat} (hb:z0a X γ (st.ups (z0k st.o ns)).o b):z0a X γ st.o b∧∀ m∈ns,¬ RowOf γ st.o m b:=by
 obtain ⟨h1,h2,h3,h4,h5⟩:=z42 st.o ns (FrzLe.refl _) h;refine ⟨h2.owned hb,?_⟩
 rintro m hm ⟨e,ag,ks,l,ho,hob⟩
 rcases hb with ⟨m',ob',hm',hb'⟩ | hb
 ·by_cases e1:m=m'
  ·subst e1
   rcases h2 m with h6 | ⟨e',ag',ks',l',h6,h7⟩
   ·rw [h6,ho] at hm'
    have:=h4 m hm true e ag ks l (by rw [h6,ho])
    cases this
   ·rw [h7,v00] at hm'
    subst hm';exact hb'.elim
  ·rcases h2 m' with h6 | ⟨e',ag',ks',l',h6,h7⟩
   ·rw [h6] at hm'
    exact h.dis m m' _ ob' b e1 ho hm' hob hb'
   ·rw [h7,v00] at hm'
    subst hm';exact hb'.elim
 ·exact h.near ⟨m,_,ho,hob⟩ hb
theorem zod (h:Rel B nt w0 X γ st a w) (hg:GX B w0 X) {f:FuncId} {sp:ygk} (hS:Snd P B f sp) {vs:List V} {xs:List Value} (hv:VRels γ st.o w (z0a X γ st.o) vs xs) (hl:zdg vs=[]) {tks:List (List Kd)} {v:V} {out:List (List V)}
  (hsp:sp (z5y st.o [] tks vs)=some (v,out)) :
  Does P f xs w fun e w'=>∃ x,e = .returned x∧∃ γ',Rel B.base 0 w ⟨fun _=>False,fun b=>z0a X γ st.o b∧∀ m∈z1e vs,¬ RowOf γ st.o m b⟩ γ' ⟨[],z3l v out⟩ zvv w' ∧
   VRel γ' (z3l v out) w' (z0a ⟨fun _=>False,fun b=>z0a X γ st.o b∧∀ m∈z1e vs,¬ RowOf γ st.o m b⟩ γ' (z3l v out)) (y6u v) x∧okR v=true∧out=[]:=by
 have hb:z6e (z5y st.o [] tks vs)=none:=zfh.2 hl;have hm:zcg (z5y st.o [] tks vs)=[]:=by simp only [zcg,hb]
 have hR:Rel B.base 0 w ⟨fun _=>False,fun b=>z0a X γ st.o b∧∀ m∈z1e vs,¬ RowOf γ st.o m b⟩ γ ⟨[],[]⟩ zvv w:=by
  refine ⟨rfl,rfl,fun i=>by simp only [St.get,lkd,VRel],fun n ob hn=>?_,?_,?_,Keep.refl _ w,?_,?_,fun p hp=>by cases hp⟩
  ·simp only [z04,lkd] at hn; cases hn
  ·rintro b ⟨n,ob,hn,_⟩; simp only [z04,lkd] at hn; cases hn
  ·intro n m ob ob' b _ hn; simp only [z04,lkd] at hn; cases hn
  ·rintro b ⟨n,ob,hn,_⟩; simp only [z04,lkd] at hn; cases hn
  ·rintro b ⟨hb | hb,_⟩
   ·exact (h.lt b hb).1
   ·exact h.fl b hb
 have:=hS w ⟨fun _=>False,fun b=>z0a X γ st.o b∧∀ m∈z1e vs,¬ RowOf γ st.o m b⟩ γ (z5y st.o [] tks vs) xs v out hsp (h.glob hg) (fun _ hf=>hf.elim) (by rw [hm]; exact hR) (by
  rw [hm];refine zkq h (fun b _ hb=>?_) [] hv (fun m hm b hr hb=>?_) (fun m hm=>by rw [hl] at hm; cases hm)
  ·rcases hb with ⟨n,ob,hn,_⟩ | hb
   ·simp only [z04,lkd] at hn; cases hn
   ·exact hb.1
  ·rcases hb with ⟨n,ob,hn,_⟩ | hb
   ·simp only [z04,lkd] at hn; cases hn
   ·exact hb.2 m hm hr)
 refine this.mono ?_
 rintro e w' ⟨x,he,γ',h1,h2,h3⟩
 refine ⟨x,he,γ',h1,h2,?_⟩;simp only [zai,hb] at h3;cases out with
 | nil=>exact ⟨h3,rfl⟩
 | cons _ _=>exact h3.elim
theorem zk9 (h:Rel B nt w0 X γ st a w) {w':World} {X':Zone} (hX:∀ b,¬ X'.own b) {γ':Nat→Value} {st':St} {a':Act} (hc:Rel B.base 0 w X' γ' st' a' w') (F:Nat→Prop) (hF:∀ b,F b→X.far b∨(w.heap.size≤b∧b < w'.heap.size)):Rel B nt w0 ⟨X.own,F⟩ γ st a w':=
 (h.fresh (hc.keep) (fun b _ hb=>(hX b hb).elim)).shrink hF
theorem zii {cs:List V} (h:cs.all okC=true):z83 cs=(900000,some (.box (z71 900001 cs))) :: zgf 900001 cs:=by
 refine zxc (fun s he=>?_)
 subst he;simp [okC,z9t] at h
theorem zvt {w':World} {X':Zone} {γ':Nat→Value} {cs:List V} (hok:cs.all okC=true) (_:Rel B.base 0 w X' γ' ⟨[],z83 cs⟩ zvv w') {c:Array Value}
  (hr:VRels γ' (z83 cs) w' (z0a X' γ' (z83 cs)) (z71 900001 cs) c.toList) {γf:Nat→Value} {of:Store} {nm:Nat}
  (hrow:∀ j e ag ks l,cs[j]?=some (.vec e ag ks l)→γf (nm+j)=γ' (900001+j)∧z04 of (nm+j)=some (.row true e ag ks l)) {O':Nat→Prop} (hO:zoz cs=true→∀ b,b < w'.heap.size→O' b→z0a X' γ' (z83 cs) b) :
  VRels γf of w' O' (z71 nm cs) c.toList:=by
 have hl:=hr.length;rw [z9c] at hl;refine VRels.of_get (by rw [z9c,hl]) (fun j v x hv hx=>?_)
 rw [zgx] at hv;cases hcj:cs[j]? with
 | none=>rw [hcj] at hv; cases hv
 | some u=>
  rw [hcj] at hv;simp only [v2f,v00] at hv;have hb:(z71 900001 cs)[j]?=some (match (generalizing:=false) u with | .vec _ _ _ l=>.row (900001+j) 0 l.length | v=>v):=by rw [zgx,hcj]; rfl
  have hux:=hr.get' hb hx;have huok:okC u=true:=v3a.1 hok u (v1l hcj)
  by_cases hvec:∃ e ag ks l,u = .vec e ag ks l
  ·obtain ⟨e,ag,ks,l,rfl⟩:=hvec
   simp only at hv hux;subst hv;obtain ⟨h1,h2⟩:=hrow j e ag ks l hcj;have hat:=zmb (nr:=900001) hcj;have hat':z04 (z83 cs) (900001+j)=some (.row true e ag ks l):=by
    rw [zii hok,z01,v10 (by omega)]
    exact hat
   simp only [VRel,hat'] at hux;simp only [VRel,h2,h1];exact hux
  ·have hf:z9t u=true:=by cases u <;> first | exact huok | exact absurd ⟨_,_,_,_,rfl⟩ hvec
   have hvu:v=u:=by cases u <;> first | exact hv.symm | exact absurd ⟨_,_,_,_,rfl⟩ hvec
   have hux':VRel γ' (z83 cs) w' (z0a X' γ' (z83 cs)) u x:=by cases u <;> first | exact hux | exact absurd ⟨_,_,_,_,rfl⟩ hvec
   subst hvu;exact zkx hf (fun hv=>hO (zqb (v1l hcj) hv)) hux'
theorem y1p {w':World} {X':Zone} {γ':Nat→Value} {cs:List V} (hok:cs.all okC=true) (hc:Rel B.base 0 w X' γ' ⟨[],z83 cs⟩ zvv w') :
  (∀ (γ:Nat→Value) j e ag ks l,cs[j]?=some (.vec e ag ks l)→ObRel B.base γ [] w' (fun b=>zoz cs=true→z0a X' γ' (z83 cs) b) (γ' (900001+j)) (.row true e ag ks l)∧∀ b,(γ' (900001+j)).ownBlock=some b→z1q γ' (z83 cs) b) ∧
  (∀ i j e ag ks l e' ag' ks' l' b,i≠j→cs[i]?=some (.vec e ag ks l)→cs[j]?=some (.vec e' ag' ks' l')→(γ' (900001+i)).ownBlock=some b→(γ' (900001+j)).ownBlock=some b→False) ∧
  (∀ j e ag ks l b,cs[j]?=some (.vec e ag ks l)→(γ' (900001+j)).ownBlock=some b→z0x γ' (z83 cs) 900000 b→False):=by
 have hat:∀ {j e ag ks l},cs[j]?=some (V.vec e ag ks l)→z04 (z83 cs) (900001+j)=some (.row true e ag ks l):=by
  intro j e ag ks l hj;rw [zii hok,z01,v10 (by omega)]
  exact zmb hj
 refine ⟨fun γ j e ag ks l hj=>⟨?_,fun b hb=>⟨_,_,hat hj,hb⟩⟩,?_,?_⟩
 ·have hr:=hc.ob _ _ (hat hj)
  simp only [ObRel] at hr ⊢
  obtain ⟨k1,k2,xs,k3,k4⟩:=hr;refine ⟨k1,k2,xs,k3,fun i y hy=>Kd.RelAll.mono (Keep.refl _ w') (fun b _ hb=>?_) (fun _ _ hu=>hu) (k4 i y hy)⟩
  exact hb (zqb (v1l hj) rfl)
 ·intro i j e ag ks l e' ag' ks' l' b hij h1 h2 hb1 hb2
  exact hc.dis _ _ _ _ b (by omega) (hat h1) (hat h2) hb1 hb2
 ·rintro j e ag ks l b hj hb ⟨ob,h1,h2⟩
  exact hc.dis _ _ _ _ b (by omega) (hat hj) h1 hb h2
theorem yaj (h:Rel B nt w0 X γ st a w) (hg:GX B w0 X) {f:FuncId} {sp:ygk} (hS:Snd P B f sp) {vs:List V} {xs:List Value} (hv:VRels γ st.o w (z0a X γ st.o) vs xs) (hl:zdg vs=[]) {tks:List (List Kd)} {v:V} {out:List (List V)}
  (hsp:sp (z5y st.o [] tks vs)=some (v,out)) (hnb:∀ cs,v≠.bor cs) (hnv:∀ e ag ks l,v≠.vec e ag ks l) :
  Does P f xs w fun e w'=>∃ x,e = .returned x∧∃ γ',Rel B nt w0 X γ' (st.ups (z0k st.o (match z3x v with | true=>z1e vs | false=>[]))) a w' ∧
   VRel γ' (st.ups (z0k st.o (match z3x v with | true=>z1e vs | false=>[]))).o w' (z0a X γ' (st.ups (z0k st.o (match z3x v with | true=>z1e vs | false=>[]))).o) v x:=by
 refine (zod h hg hS hv hl hsp).mono ?_
 rintro e w' ⟨x,he,γ',h1,h2,h3,rfl⟩
 have hf:zil v=true:=by cases v <;> first | exact h3 | exact absurd rfl (hnb _) | exact absurd rfl (hnv _ _ _ _)
 have hmo:z3l v []=[]:=by cases v <;> first | rfl | exact absurd rfl (hnb _) | exact absurd rfl (hnv _ _ _ _)
 rw [hmo] at h1 h2;rw [zbb hf] at h2;have hz:=(z42 st.o (match z3x v with | true=>z1e vs | false=>[]) (FrzLe.refl _) h).1
 have hp:=zk9 hz (fun b hb=>hb) h1 X.far (fun b hb=>.inl hb)
 refine ⟨x,he,γ,hp,zss hf (fun hhl b _ hb=>?_) h2⟩
 have:=zbj h _ hb
 rw [hhl] at this;exact .inr this
theorem ybx (h:Rel B nt w0 X γ st a w) (hg:GX B w0 X) {f:FuncId} {sp:ygk} (hS:Snd P B f sp) {vs:List V} {xs:List Value} (hv:VRels γ st.o w (z0a X γ st.o) vs xs) (hl:zdg vs=[]) {tks:List (List Kd)} {cs:List V} {out:List (List V)}
  (hsp:sp (z5y st.o [] tks vs)=some (.bor cs,out)) (d:Nat) (hd9:d≠900000) (hn9:1000*(d+1)+cs.length≤900000) :
  Does P f xs w fun e w'=>∃ x,e = .returned x∧∃ γ',Rel B nt w0 X γ' (st.ups (z0k st.o (match zoz cs with | true=>z1e vs | false=>[])++(zes (1000*(d+1)) cs++[.new d (.box (z71 (1000*(d+1)) cs))]))) a w' ∧
   VRel γ' (st.ups (z0k st.o (match zoz cs with | true=>z1e vs | false=>[])++(zes (1000*(d+1)) cs++[.new d (.box (z71 (1000*(d+1)) cs))]))).o w'
    (z0a X γ' (st.ups (z0k st.o (match zoz cs with | true=>z1e vs | false=>[])++(zes (1000*(d+1)) cs++[.new d (.box (z71 (1000*(d+1)) cs))]))).o) (.ptr d 0 0) x:=by
 refine (zod h hg hS hv hl hsp).mono ?_
 rintro e w' ⟨x,he,γ',h1,h2,h3,rfl⟩
 simp only [okR] at h3;have hmo:z3l (.bor cs) []=z83 cs:=rfl;rw [hmo] at h1 h2;generalize hX':(⟨fun _=>False,fun b=>z0a X γ st.o b∧∀ m∈z1e vs,¬ RowOf γ st.o m b⟩:Zone)=X' at h1 h2
 have hXo:∀ b,¬ X'.own b:=fun b hb=>by rw [← hX'] at hb; exact hb
 have hz:=(z42 st.o (match zoz cs with | true=>z1e vs | false=>[]) (FrzLe.refl _) h).1
 have hPf:∀ b,z1q γ' (z83 cs) b→w.heap.size≤b∧b < w'.heap.size:=fun b hb=>by
  obtain ⟨q1,q2⟩:=h1.lt b hb;exact ⟨q2.resolve_right (hXo b),q1⟩
 have hp:=zk9 hz hXo h1 (fun b=>X.far b∨z1q γ' (z83 cs) b) (fun b hb=>hb.imp_right (hPf b))
 obtain ⟨br1,br2,br3⟩:=y1p h3 h1;have hO1:∀ b,z0a ⟨X.own,fun b=>X.far b∨z1q γ' (z83 cs) b⟩ γ (st.ups (z0k st.o (match zoz cs with | true=>z1e vs | false=>[]))).o b→(zoz cs=true→z0a X' γ' (z83 cs) b):=by
  intro b hb hal;rw [hal] at hb;have key:z0a X γ (st.ups (z0k st.o (z1e vs))).o b∨z1q γ' (z83 cs) b:=by
   rcases hb with hb | hb | hb
   ·exact .inl (.inl hb)
   ·exact .inl (.inr hb)
   ·exact .inr hb
  rcases key with hb | hb
  ·have:=zbj h _ hb
   exact .inr (by rw [← hX']; exact this)
  ·exact .inl hb
 obtain ⟨γd,F',r1,r2,r3,r4,r5,r6⟩:=zi4 (B':=B.base) (g:=fun j=>γ' (900001+j)) (1000*(d+1)) cs 0 (by omega) hp hO1 (fun j e ag ks l hj=>by
   rw [v0n];obtain ⟨q1,q2⟩:=br1 γ j e ag ks l hj;exact ⟨q1,fun b hb=>⟨.inr (q2 b hb),.inl (v1p h.keep.size (hPf b (q2 b hb)).1)⟩⟩)
  (fun i j e ag ks l e' ag' ks' l' b hij q1 q2 q3 q4=>by
   rw [v0n] at q3 q4;exact br2 i j e ag ks l e' ag' ks' l' b hij q1 q2 q3 q4)
 simp only [v1m,v0n] at r1 r3 r4 r5 r6;have hob0:z04 (z83 cs) 900000=some (.box (z71 900001 cs)):=by rw [zii h3,z01,v1f rfl]
 have hor:=h1.ob _ _ hob0;simp only [ObRel] at hor;obtain ⟨b0,c,T,hg,hh,hr⟩:=hor;have hb0P:z1q γ' (z83 cs) b0:=⟨900000,_,hob0,⟨_,hg,rfl⟩⟩;have hadd:=r1.add d hd9 (.box (z71 (1000*(d+1)) cs)) (γ' 900000) (fun b hb=>by
   obtain ⟨ad,q1,q2⟩:=hb;rw [hg] at q1;simp only [Value.pointer.injEq,v00] at q1;subst q1;simp only at q2;subst q2;exact ⟨r3 b0 (.inr hb0P) (fun j e ag ks l hj hb=>br3 j e ag ks l b0 hj hb ⟨_,hob0,_,hg,rfl⟩),.inl (v1p h.keep.size (hPf b0 hb0P).1)⟩)
  (fun O' hO'=>by
   simp only [ObRel];refine ⟨b0,c,T,hg,hh,zvt h3 h1 hr (fun j e ag ks l hj=>?_) (fun hal b _ hb=>hO1 b (r4 b (hO' b hb)) hal)⟩
   obtain ⟨q1,q2⟩:=r5 j e ag ks l hj;refine ⟨by rw [v10 (by omega)]; exact q1,?_⟩
   rw [z0d,v10 (by omega),q2]
   rfl)
 have hfin:=hadd.shrink (F:=X.far) (fun b hb=>by
   have hlt:=h.fl b hb;refine ⟨r3 b (.inl hb) (fun j e ag ks l hj hbj=>?_),fun hbb=>?_⟩
   ·have:=hPf b ((br1 γ j e ag ks l hj).2 b hbj)
    omega
   ·obtain ⟨ad,q1,q2⟩:=hbb
    rw [hg] at q1;simp only [Value.pointer.injEq,v00] at q1;subst q1;simp only at q2;subst q2
    have:=hPf b0 hb0P
    omega)
 refine ⟨x,he,_,by rw [z2v,z2v]; exact hfin,?_⟩
 rw [z2v,z2v];simp only [St.ups,VRel,z0d,v1o];simp only [y6u,z8s,VRel,hob0] at h2;exact h2
theorem yfj (h:Rel B nt w0 X γ st a w) (hg:GX B w0 X) {f:FuncId} {sp:ygk} (hS:Snd P B f sp) {vs:List V} {xs:List Value} (hv:VRels γ st.o w (z0a X γ st.o) vs xs) (hl:zdg vs=[]) {tks:List (List Kd)} {e:Nat} {ag:Bool} {ks:List Kd} {l:List IV} {out:List (List V)}
  (hsp:sp (z5y st.o [] tks vs)=some (.vec e ag ks l,out)) (d:Nat) (hd9:d≠900000) :
  Does P f xs w fun e' w'=>∃ x,e' = .returned x∧∃ γ',Rel B nt w0 X γ' (st.ups (z0k st.o (z1e vs)++[.new d (.row true e ag ks l)])) a w' ∧
   VRel γ' (st.ups (z0k st.o (z1e vs)++[.new d (.row true e ag ks l)])).o w' (z0a X γ' (st.ups (z0k st.o (z1e vs)++[.new d (.row true e ag ks l)])).o) (.row d 0 l.length) x:=by
 refine (zod h hg hS hv hl hsp).mono ?_
 rintro e' w' ⟨x,he,γ',h1,h2,h3,rfl⟩
 have hmo:z3l (.vec e ag ks l) []=[(900000,some (.row true e ag ks l))]:=rfl;rw [hmo] at h1 h2;generalize hX':(⟨fun _=>False,fun b=>z0a X γ st.o b∧∀ m∈z1e vs,¬ RowOf γ st.o m b⟩:Zone)=X' at h1 h2
 have hXo:∀ b,¬ X'.own b:=fun b hb=>by rw [← hX'] at hb; exact hb
 have hz:=(z42 st.o (z1e vs) (FrzLe.refl _) h).1;have hPf:∀ b,z1q γ' [(900000,some (.row true e ag ks l))] b→w.heap.size≤b∧b < w'.heap.size:=fun b hb=>by
  obtain ⟨q1,q2⟩:=h1.lt b hb;exact ⟨q2.resolve_right (hXo b),q1⟩
 have hp:=zk9 hz hXo h1 (fun b=>X.far b∨z1q γ' [(900000,some (.row true e ag ks l))] b) (fun b hb=>hb.imp_right (hPf b))
 have hO1:∀ b,z0a ⟨X.own,fun b=>X.far b∨z1q γ' [(900000,some (.row true e ag ks l))] b⟩ γ (st.ups (z0k st.o (z1e vs))).o b→z0a X' γ' [(900000,some (.row true e ag ks l))] b:=by
  intro b hb;have key:z0a X γ (st.ups (z0k st.o (z1e vs))).o b∨z1q γ' [(900000,some (.row true e ag ks l))] b:=by
   rcases hb with hb | hb | hb
   ·exact .inl (.inl hb)
   ·exact .inl (.inr hb)
   ·exact .inr hb
  rcases key with hb | hb
  ·have:=zbj h _ hb
   exact .inr (by rw [← hX']; exact this)
  ·exact .inl hb
 have hob0:z04 [(900000,some (.row true e ag ks l))] 900000=some (.row true e ag ks l):=by rw [z01,v1f rfl]
 have hor:=h1.ob _ _ hob0;simp only [ObRel] at hor;obtain ⟨k1,k2,ys,k3,k4⟩:=hor;have hg0:∀ b,z0l (γ' 900000) (.row true e ag ks l) b→z1q γ' [(900000,some (.row true e ag ks l))] b:=fun b hb=>⟨900000,_,hob0,hb⟩
 have hadd:=hp.add d hd9 (.row true e ag ks l) (γ' 900000) (fun b hb=>⟨.inr (hg0 b hb),.inl (v1p h.keep.size (hPf b (hg0 b hb)).1)⟩)
  (fun O' hO'=>by
   simp only [ObRel];exact ⟨k1,k2,ys,k3,fun i y hy=>Kd.RelAll.mono (Keep.refl _ w') (fun b _ hb=>hO1 b (hO' b hb)) (fun _ _ hu=>hu) (k4 i y hy)⟩)
 have hfin:=hadd.shrink (F:=X.far) (fun b hb=>by
   have hlt:=h.fl b hb;refine ⟨.inl hb,fun hbb=>?_⟩
   have:=hPf b (hg0 b hbb)
   omega)
 refine ⟨x,he,_,by rw [z2v]; exact hfin,?_⟩
 rw [z2v];simp only [St.ups,VRel,z0d,v1o];simp only [y6u,VRel,hob0] at h2;exact h2
end
open Go Go.RowKit
mutual
theorem VRel.leaves {γ γ':Nat→Value} {o o':Store} {w:World} {O:Nat→Prop} (h1:∀ n lo hi x,VRel γ o w O (.row n lo hi) x→VRel γ' o' w O (.row n lo hi) x) (h2:∀ n i c x,VRel γ o w O (.ptr n i c) x→VRel γ' o' w O (.ptr n i c) x)
  (h3:∀ n c cap sz len x,VRel γ o w O (.bview n c cap sz len) x→VRel γ' o' w O (.bview n c cap sz len) x):∀ {v:V} {x:Value},VRel γ o w O v x→VRel γ' o' w O v x
 | .any,_,_=>by simp only [VRel]
 | .int _ _,_,h=>by simpa only [VRel] using h
 | .bool _,_,h=>by simpa only [VRel] using h
 | .str _,_,h=>by simpa only [VRel] using h
 | .list _ _ _,_,h=>by simpa only [VRel] using h
 | .zs,_,h=>by simpa only [VRel] using h
 | .row _ _ _,_,h=>h1 _ _ _ _ h
 | .ptr _ _ _,_,h=>h2 _ _ _ _ h
 | .iptr _ _ _,_,h=>by simpa only [VRel] using h
 | .bview _ _ _ _ _,_,h=>h3 _ _ _ _ _ _ h
 | .agg l,x,h=>by
  simp only [VRel] at h ⊢
  obtain ⟨cs,hx,hr⟩:=h;exact ⟨cs,hx,VRels.leaves h1 h2 h3 hr⟩
 | .tup l,x,h=>by
  simp only [VRel] at h ⊢
  obtain ⟨cs,hx,hr⟩:=h;exact ⟨cs,hx,VRels.leaves h1 h2 h3 hr⟩
 | .err _,_,h=>by simpa only [VRel] using h
 | .nilp,_,h=>by simpa only [VRel] using h
 | .clo _ l,x,h=>by
  simp only [VRel] at h ⊢
  obtain ⟨cs,hx,hr⟩:=h;exact ⟨cs,hx,VRels.leaves h1 h2 h3 hr⟩
 | .bor _,_,h=>by simp only [VRel] at h
 | .vec _ _ _ _,_,h=>by simp only [VRel] at h
 | .bld _,_,h=>by simp only [VRel] at h
theorem VRels.leaves {γ γ':Nat→Value} {o o':Store} {w:World} {O:Nat→Prop} (h1:∀ n lo hi x,VRel γ o w O (.row n lo hi) x→VRel γ' o' w O (.row n lo hi) x) (h2:∀ n i c x,VRel γ o w O (.ptr n i c) x→VRel γ' o' w O (.ptr n i c) x)
  (h3:∀ n c cap sz len x,VRel γ o w O (.bview n c cap sz len) x→VRel γ' o' w O (.bview n c cap sz len) x):∀ {l:List V} {xs:List Value},VRels γ o w O l xs→VRels γ' o' w O l xs
 | [],[],_=>by simp only [VRels]
 | [],_ :: _,h=>by simp only [VRels] at h
 | _ :: _,[],h=>by simp only [VRels] at h
 | v :: vs,x :: xs,h=>by
  simp only [VRels] at h ⊢
  exact ⟨VRel.leaves h1 h2 h3 h.1,VRels.leaves h1 h2 h3 h.2⟩
end
section
variable {B:BT} {nt:Nat} {w0:World} {X:Zone} {γ:Nat→Value} {st st':St} {a:Act} {w:World} {P:Program} {E:Env}
theorem y0r:∀ (hs:List Nat) {st:St} {X:Zone},Rel B nt w0 X γ st a w →
  Rel B nt w0 ⟨X.own,fun b=>X.far b∨∃ m∈hs,z0x γ st.o m b⟩ γ (st.ups (zc7 hs)) a w∧(st.ups (zc7 hs)).t=st.t∧∀ m,z04 (st.ups (zc7 hs)).o m=if m∈hs then none else z04 st.o m
 | [],st,X,h=>⟨h.shrink (fun b hb=>by simpa using hb),rfl,fun m=>by simp [zc7,St.ups]⟩
 | n :: r,st,X,h=>by
  obtain ⟨h1,h2,h3⟩:=y0r r (h.kill n);have hob:∀ m,z04 (st.up (.kill n)).o m=if n=m then none else z04 st.o m:=fun m=>by simp only [St.up,z01]
  refine ⟨?_,h2,fun m=>?_⟩
  ·simp only [zc7,St.ups]
   refine h1.shrink (fun b hb=>?_)
   rcases hb with hb | ⟨m,hm,hb⟩
   ·exact .inl (.inl hb)
   ·by_cases e:n=m
    ·subst e
     exact .inl (.inr hb)
    ·rcases v15.1 hm with h4 | h4
     ·exact absurd h4.symm e
     ·obtain ⟨ob,p1,p2⟩:=hb
      exact .inr ⟨m,h4,ob,by rw [hob,v10 e]; exact p1,p2⟩
  ·simp only [zc7,St.ups]
   rw [h3,hob]
   by_cases h4:m∈r
   ·simp [h4]
   ·by_cases h5:n=m
    ·subst h5
     simp
    ·have:¬ m=n:=fun e=>h5 e.symm
     simp [h4,h5,this]
theorem zvj (h:Rel B nt w0 X γ st a w) (ns:List Nat) {n:Nat} {ob:Ob} (ho:z04 st.o n=some ob) (hb:∀ e ag ks l,ob≠.row true e ag ks l):z04 (st.ups (z0k st.o ns)).o n=some ob:=by
 obtain ⟨_,h2,_⟩:=z42 st.o ns (FrzLe.refl _) h;rcases h2 n with h3 | ⟨e,ag,ks,l,h3,_⟩
 ·rw [h3,ho]
 ·rw [ho,v00] at h3
  exact absurd h3 (hb _ _ _ _)
theorem Rel.boundB (h:Rel B nt w0 X γ st a w) {n:Nat} {s:ByteArray} (ho:z04 st.o n=some (.bld s)) {w1:World} {own1 F:Nat→Prop} (hk:Keep own1 w1 w)
  (hF:∀ b,F b→z0a X γ st.o b∧¬ z0x γ st.o n b) (hown:∀ b,z0x γ st.o n b→w1.heap.size≤b∨own1 b) :
  Rel B.base 0 w1 ⟨own1,F⟩ (fun _=>γ n) ⟨[],z83 [.bld s]⟩ zvv w∧∀ b,z1q (fun _=>γ n) (z83 [.bld s]) b→z0x γ st.o n b:=by
 have hP:∀ b,z1q (fun _=>γ n) (z83 [.bld s]) b→z0x γ st.o n b:=by
  rintro b ⟨m,ob,hm,hb⟩
  simp only [z83] at hm;rw [z01] at hm
  split at hm
  ·simp only [v00] at hm
   subst hm;exact ⟨_,ho,hb⟩
  ·simp only [z04,lkd] at hm; cases hm
 refine ⟨⟨rfl,rfl,fun i=>by simp only [St.get,lkd,VRel],fun m ob hm=>?_,fun b hb=>?_,?_,hk,?_,?_,fun p hp=>by cases hp⟩,hP⟩
 ·simp only [z83] at hm
  rw [z01] at hm
  split at hm
  ·simp only [v00] at hm
   subst hm
   have:=h.ob n _ ho
   simpa only [ObRel,BT.base] using this
  ·simp only [z04,lkd] at hm; cases hm
 ·obtain ⟨ob,h1,h2⟩:=hP b hb
  exact ⟨(h.lt b ⟨n,ob,h1,h2⟩).1,hown b (hP b hb)⟩
 ·intro m1 m2 ob1 ob2 b hne h1 h2 _ _
  simp only [z83] at h1 h2;rw [z01] at h1 h2
  split at h1
  ·split at h2
   ·omega
   ·simp only [z04,lkd] at h2; cases h2
  ·simp only [z04,lkd] at h1; cases h1
 ·intro b hb hf
  exact (hF b hf).2 (hP b hb)
 ·intro b hb
  rcases (hF b hb).1 with h1 | h1
  ·exact (h.lt b h1).1
  ·exact h.fl b h1
theorem yfi (h:Rel B nt w0 X γ st a w) (hg:GX B w0 X) {f:FuncId} {sp:ygk} (hS:Snd P B f sp) {vs:List V} {xs:List Value} (hv:VRels γ st.o w (z0a X γ st.o) vs xs) {n:Nat} (hl:zdg vs=[n]) {s s':ByteArray} (ho:z04 st.o n=some (.bld s))
  {tks:List (List Kd)} {v:V} (hsp:sp (z5y st.o [.bld s] tks vs)=some (v,[[.bld s']])) (hib:yeu (z6e (z5y st.o [.bld s] tks vs))=true) :
  Does P f xs w fun e w'=>∃ x,e = .returned x∧∃ γ',Rel B nt w0 X γ' (st.ups (z0k st.o (match z3x v with | true=>z1e vs | false=>[])++[.set n (.bld s')])) a w' ∧
   VRel γ' (st.ups (z0k st.o (match z3x v with | true=>z1e vs | false=>[])++[.set n (.bld s')])).o w' (z0a X γ' (st.ups (z0k st.o (match z3x v with | true=>z1e vs | false=>[])++[.set n (.bld s')])).o) v x:=by
 have hL:∀ b,z0x γ st.o n b→w.heap.size≤b∨z0x γ st.o n b:=fun b hb=>.inr hb
 obtain ⟨hR,hP⟩:=h.boundB ho (w1:=w) (own1:=z0x γ st.o n) (F:=fun b=>z0a X γ st.o b∧¬ z0x γ st.o n b∧∀ m∈z1e vs,¬ RowOf γ st.o m b) (Keep.refl _ w) (fun b hb=>⟨hb.1,hb.2.1⟩) hL
 generalize hX':(⟨z0x γ st.o n,fun b=>z0a X γ st.o b∧¬ z0x γ st.o n b∧∀ m∈z1e vs,¬ RowOf γ st.o m b⟩:Zone)=X' at hR
 have hXf:∀ b,X'.far b↔(z0a X γ st.o b∧¬ z0x γ st.o n b∧∀ m∈z1e vs,¬ RowOf γ st.o m b):=fun b=>by rw [← hX']
 have hXo:∀ b,X'.own b↔z0x γ st.o n b:=fun b=>by rw [← hX']
 have hnP:∀ b,z0x γ st.o n b→z1q γ st.o b:=fun b ⟨ob,h1,h2⟩=>⟨n,ob,h1,h2⟩
 rcases (zfh (o:=st.o) (bs:=[.bld s]) (l:=vs) (tks:=tks)).1 with hb | hb
 ·rw [hb] at hib
  cases hib
 ·have hm:zcg (z5y st.o [.bld s] tks vs)=z83 [.bld s]:=by simp only [zcg,hb]
  have hcall:=hS w X' (fun _=>γ n) (z5y st.o [.bld s] tks vs) xs v [[.bld s']] hsp (h.glob hg) (fun b hb=>h.high hg (hnP b ((hXo b).1 hb))) (by rw [hm]; exact hR) (by
   rw [hm];refine zkq h (fun b _ hb=>?_) [.bld s] hv (fun m hm b hr hb=>?_) (fun m hm=>?_)
   ·rcases hb with hb | hb
    ·exact .inl (hnP b (hP b hb))
    ·exact ((hXf b).1 hb).1
   ·rcases hb with hb | hb
    ·obtain ⟨e,ag,ks,l,h5,h6⟩:=hr
     obtain ⟨ob,h7,h8⟩:=hP b hb;have hne:n≠m:=by
      rintro rfl
      rw [ho] at h5;cases h5
     exact h.dis n m ob _ b hne h7 h5 h8 h6
    ·exact ((hXf b).1 hb).2.2 m hm hr
   ·rw [hl] at hm
    simp only [v28] at hm;subst hm;exact ⟨rfl,.inr ⟨s,s,ho,by simp [z83,z01]⟩⟩)
  refine hcall.mono ?_
  rintro e w' ⟨x,he,γ',h1,h2,h3⟩
  simp only [zai,hb] at h3;obtain ⟨hf,_,had⟩:=h3;have hmo:z3l v [[.bld s']]=z83 [.bld s']:=by cases v <;> rfl
  rw [hmo] at h1 h2;rw [zbb hf] at h2;refine ⟨x,he,?_⟩;generalize hF0:(match z3x v with | true=>z1e vs | false=>[])=F0
  have hz:=(z42 st.o F0 (FrzLe.refl _) h).1;have hon:=zvj h F0 ho (fun _ _ _ _=>by simp)
  have hob0:z04 (z83 [.bld s']) 900000=some (.bld s'):=by simp [z83,z01]
  have hor:=h1.ob _ _ hob0;have hor0:=h.ob _ _ ho;simp only [ObRel] at hor hor0;obtain ⟨b1,v1,p1,hg1,_⟩:=hor;obtain ⟨b0,v0,p0,hg0,_⟩:=hor0;have hbb:b1=b0:=by
   rw [hg1,hg0] at had
   simpa [zm9] using had
  subst hbb;have hbl:∀ b,z0x γ (st.ups (z0k st.o F0)).o n b↔z0x γ st.o n b:=fun b=>by simp only [z0x,hon,ho]
  have hOP:∀ b,z0l (γ' 900000) (.bld s') b→z1q γ' (z83 [.bld s']) b:=fun b hb=>⟨_,_,hob0,hb⟩
  have hsz:=h1.keep.size;have hlend:=hz.lend (n:=n) (ob':=.bld s') (g':=γ' 900000) hon had h1.keep (K:=X'.own) (fun b _ hb=>.inl ((hbl b).2 ((hXo b).1 hb)))
   (fun b hb=>by
    obtain ⟨q1,q2⟩:=h1.lt b (hOP b hb);exact ⟨q1,q2.elim .inr (fun hb=>.inl ((hbl b).2 ((hXo b).1 hb)))⟩)
   (fun O v x hvx=>VRel.leaves (fun m lo hi x hx=>by
     simp only [VRel] at hx ⊢
     rw [z01]
     by_cases e:n=m
     ·subst e; simp only [v1o]
     ·simp only [v10 e]; exact hx) (fun m i c x hx=>by
     simp only [VRel] at hx ⊢
     rw [z01]
     by_cases e:n=m
     ·subst e
      simp only [v1o];rw [hon] at hx;obtain ⟨rfl,b,v',hg,hxx⟩:=hx;rw [hg0] at hg;simp only [Value.tuple.injEq,Array.mk.injEq,v2s,Value.pointer.injEq,v00,Addr.mk.injEq,v18] at hg;refine ⟨rfl,b1,v1,hg1,?_⟩;rw [hxx,hg.1]
     ·simp only [v10 e]; exact hx) (fun m c cap sz len x hx=>by
     simp only [VRel] at hx ⊢
     rw [z01]
     by_cases e:n=m
     ·subst e; simp only [v1o]
     ·simp only [v10 e]; exact hx) hvx)
   (by
    have hor:=h1.ob _ _ hob0
    simpa only [ObRel,BT.base] using hor)
  have hfin:=hlend.shrink (F:=X.far) (fun b hb=>⟨.inl hb,fun hbb=>by
   obtain ⟨q1,q2⟩:=h1.lt b (hOP b hbb)
   have:=h.fl b hb
   rcases q2 with q2 | q2
   ·omega
   ·exact h.nr b (hnP b ((hXo b).1 q2)) hb⟩)
  refine ⟨_,by rw [z2v]; exact hfin,?_⟩
  rw [z2v];refine zss hf (fun hhl b hlt hb=>?_) h2
  rw [hhl] at hF0;simp only at hF0;rcases hb with ⟨m,ob,hm,hbm⟩ | hb
  ·simp only [St.ups,St.up] at hm
   rw [z01] at hm
   by_cases e:n=m
   ·subst e
    simp only [v1o,v00] at hm hbm;subst hm;exact .inl (hOP b hbm)
   ·simp only [v10 e] at hm hbm
    obtain ⟨q1,q2⟩:=zbj h F0 (b:=b) (.inl ⟨m,ob,hm,hbm⟩);refine .inr ((hXf b).2 ⟨q1,fun hbn=>?_,by rw [hF0]; exact q2⟩)
    obtain ⟨ob2,q3,q4⟩:=(hbl b).2 hbn;exact hz.dis n m ob2 ob b e q3 hm q4 hbm
  ·refine .inr ((hXf b).2 ⟨.inr hb,fun hbn=>h.nr b (hnP b hbn) hb,fun m _ ⟨e,ag,ks,l,q1,q2⟩=>h.nr b ⟨m,_,q1,q2⟩ hb⟩)
theorem zi6 {o:Store} {all:List Nat} {n:Nat}:∀ {cs:List V},n∈z5n o all cs→∃ lo hi own e ag ks l,.row n lo hi∈cs∧z04 o n=some (.row own e ag ks l)∧(own&&(Nat.beq lo 0&&Nat.beq (occ n all) 1))=false
 | [],h=>by simp [z5n] at h
 | v :: r,h=>by
  have up:n∈z5n o all r→∃ lo hi own e ag ks l,.row n lo hi∈v :: r∧z04 o n=some (.row own e ag ks l)∧(own&&(Nat.beq lo 0&&Nat.beq (occ n all) 1))=false:=fun h'=>by
   obtain ⟨lo,hi,own,e,ag,ks,l,h1,h2,h3⟩:=zi6 h';exact ⟨lo,hi,own,e,ag,ks,l,v0b _ h1,h2,h3⟩
  cases v
  case row m lo hi=>
   simp only [z5n] at h
   split at h
   ·rename_i own e ag ks l hob
    split at h
    ·exact up h
    ·rename_i hb
     rcases v15.1 h with h1 | h1
     ·subst h1
      exact ⟨lo,hi,own,e,ag,ks,l,v0a ..,hob,hb⟩
     ·exact up h1
   ·exact up h
  all_goals exact up h
theorem yer (h:Rel B nt w0 X γ st a w) (hg:GX B w0 X) {f:FuncId} {sp:ygk} (hS:Snd P B f sp) {vs:List V} {xs:List Value} (hv:VRels γ st.o w (z0a X γ st.o) vs xs) {n:Nat} (hl:zdg vs=[n]) {cs:List V} (ho:z04 st.o n=some (.box cs)) {all:List Nat} (hall:z1g cs++z1e vs=all)
  {tks:List (List Kd)} {v:V} {out:List V} (hsp:sp (z5y st.o (cs.map (z3y st.o all)) tks vs)=some (v,[out])) (hib:yeu (z6e (z5y st.o (cs.map (z3y st.o all)) tks vs))=true) {nm:Nat} (hlen:out.length=cs.length) (hnm:n < nm∨nm+out.length≤n) (hn9:nm+out.length≤900000) :
  Does P f xs w fun e w'=>∃ x,e = .returned x∧∃ γ',Rel B nt w0 X γ' (st.ups (z0k st.o (z5n st.o all cs++(match z3x v||zoz out with | true=>z1e vs | false=>[])) ++
     (zc7 (z4b st.o all cs)++(.set n (.box (yao cs)) :: (zes nm out++[.set n (.box (z71 nm out))]))))) a w' ∧
   VRel γ' (st.ups (z0k st.o (z5n st.o all cs++(match z3x v||zoz out with | true=>z1e vs | false=>[])) ++
     (zc7 (z4b st.o all cs)++(.set n (.box (yao cs)) :: (zes nm out++[.set n (.box (z71 nm out))]))))).o w' (z0a X γ' (st.ups (z0k st.o (z5n st.o all cs++(match z3x v||zoz out with | true=>z1e vs | false=>[])) ++
     (zc7 (z4b st.o all cs)++(.set n (.box (yao cs)) :: (zes nm out++[.set n (.box (z71 nm out))]))))).o) v x:=by
 let L:Nat→Prop:=fun b=>z0x γ st.o n b∨∃ m∈z4b st.o all cs,z0x γ st.o m b
 have hLP:∀ b,L b→z1q γ st.o b:=by
  rintro b (⟨ob,h1,h2⟩ | ⟨m,_,ob,h1,h2⟩)
  ·exact ⟨n,ob,h1,h2⟩
  ·exact ⟨m,ob,h1,h2⟩
 have hbound:=h.bound ho (z1e vs) (w1:=w) (own1:=L) (F:=fun b=>z0a X γ st.o b∧¬ L b∧(∀ m∈z5n st.o all cs,¬ z0x γ st.o m b)∧∀ m∈z1e vs,¬ RowOf γ st.o m b) (Keep.refl _ w)
  (fun b hb=>⟨hb.1,fun h1=>hb.2.1 (.inl h1),fun m hm h1=>hb.2.1 (.inr ⟨m,by rw [← hall]; exact hm,h1⟩),by rw [hall]; exact hb.2.2.1⟩) (fun b hb=>.inr (by rw [hall] at hb; exact hb))
 rw [hall] at hbound;obtain ⟨γb,hR,hg0,hP⟩:=hbound;generalize hX':(⟨L,fun b=>z0a X γ st.o b∧¬ L b∧(∀ m∈z5n st.o all cs,¬ z0x γ st.o m b)∧∀ m∈z1e vs,¬ RowOf γ st.o m b⟩:Zone)=X' at hR
 have hXf:∀ b,X'.far b↔(z0a X γ st.o b∧¬ L b∧(∀ m∈z5n st.o all cs,¬ z0x γ st.o m b)∧∀ m∈z1e vs,¬ RowOf γ st.o m b):=fun b=>by rw [← hX']
 have hXo:∀ b,X'.own b↔L b:=fun b=>by rw [← hX']
 have hb:z6e (z5y st.o (cs.map (z3y st.o all)) tks vs)=some (cs.map (z3y st.o all)):=by
  rcases (zfh (o:=st.o) (bs:=cs.map (z3y st.o all)) (l:=vs) (tks:=tks)).1 with hb | hb
  ·rw [hb] at hib; cases hib
  ·exact hb
 have hm:zcg (z5y st.o (cs.map (z3y st.o all)) tks vs)=z83 (cs.map (z3y st.o all)):=by simp only [zcg,hb]
 have hargs:∀ m∈z1e vs,∀ b,RowOf γ st.o m b→¬ L b:=by
  intro m hm b hr hLb;obtain ⟨e,ag,ks,l,h5,h6⟩:=hr;rcases hLb with ⟨ob,h7,h8⟩ | ⟨m2,h9,ob,h7,h8⟩
  ·have hne:n≠m:=by
    rintro rfl
    rw [ho] at h5;cases h5
   exact h.dis n m ob _ b hne h7 h5 h8 h6
  ·by_cases hne:m2=m
   ·subst hne
    obtain ⟨hi2,e2,ag2,ks2,l2,k1,k2,k3⟩:=z7r.1 h9;rw [← hall,z99] at k3;have q1:=zgj (zat k1);have q2:=zgj hm;omega
   ·exact h.dis m2 m ob _ b hne h7 h5 h8 h6
 have hok0:∀ v,okC (z3y st.o all v)=true:=by
  intro v;rcases zcx st.o all v with ⟨_,_,_,_,_,_,_,_,_,h1⟩ | ⟨h1,_⟩
  ·rw [h1]; rfl
  ·cases hcc:z3y st.o all v <;> first | rfl | (rw [hcc] at h1; cases h1)
 have hcall:=hS w X' γb (z5y st.o (cs.map (z3y st.o all)) tks vs) xs v [out] hsp (h.glob hg) (fun b hb=>h.high hg (hLP b ((hXo b).1 hb))) (by rw [hm]; exact hR) (by
  rw [hm];refine zkq h (fun b _ hb=>?_) _ hv (fun m hm b hr hb=>?_) (fun m hm=>?_)
  ·rcases hb with hb | hb
   ·exact .inl (hLP b (hP b hb))
   ·exact ((hXf b).1 hb).1
  ·rcases hb with hb | hb
   ·exact hargs m hm b hr (hP b hb)
   ·exact ((hXf b).1 hb).2.2.2 m hm hr
  ·rw [hl] at hm
   simp only [v28] at hm;subst hm;exact ⟨hg0,.inl ⟨cs,_,ho,by rw [zii (v3a.2 (fun v hv=>by obtain ⟨u,_,rfl⟩:=List.mem_map.1 hv; exact hok0 u)),z01,v1f rfl]⟩⟩)
 refine hcall.mono ?_
 rintro e w' ⟨x,he,γ',h1,h2,h3⟩
 simp only [zai,hb] at h3;obtain ⟨hf,hsk,had⟩:=h3;have hok:out.all okC=true:=by
  unfold zxh at hsk
  split at hsk
  ·rename_i s s' hcs
   cases cs with
   | nil=>simp at hcs
   | cons u r=>
    simp only [v0d,v2s] at hcs
    have:=hok0 u
    rw [hcs.1] at this;cases this
  ·cases hsk
  ·exact hsk
 have hmo:z3l v [out]=z83 out:=by cases v <;> rfl
 rw [hmo] at h1 h2;rw [zbb hf] at h2;refine ⟨x,he,?_⟩;generalize hF0:z5n st.o all cs++(match z3x v||zoz out with | true=>z1e vs | false=>[])=F0
 have hz:=(z42 st.o F0 (FrzLe.refl _) h).1;have hzf:=(z42 st.o F0 (FrzLe.refl _) h).2.1;have hon:=zvj h F0 ho (fun _ _ _ _=>by simp)
 obtain ⟨hk,hkt,hko⟩:=y0r (z4b st.o all cs) hz;have hnh:n ∉ z4b st.o all cs:=by
  intro hn;obtain ⟨_,_,_,_,_,_,q,_⟩:=z7r.1 hn;rw [ho] at q;cases q
 have hon2:z04 ((st.ups (z0k st.o F0)).ups (zc7 (z4b st.o all cs))).o n=some (.box cs):=by rw [hko,v10 hnh]; exact hon
 have hor0:=h.ob _ _ ho;simp only [ObRel] at hor0;obtain ⟨b0,c0,T0,hgn,hh0,hr0⟩:=hor0;have hob0:z04 (z83 out) 900000=some (.box (z71 900001 out)):=by rw [zii hok,z01,v1f rfl]
 have hor:=h1.ob _ _ hob0;simp only [ObRel] at hor;obtain ⟨b1,c,T,hg,hh,hr⟩:=hor;have hbb:b1=b0:=by
  rw [hg,hg0,hgn] at had
  simpa [zm9] using had
 subst hbb;have hg':γ' 900000=γ n:=by rw [hg,hgn]
 have hsz:=h1.keep.size;have hbn:∀ b,z0x γ st.o n b↔b=b1:=by
  intro b;constructor
  ·rintro ⟨ob,h5,h6⟩
   rw [ho] at h5;cases h5;obtain ⟨ad,h7,h8⟩:=h6;rw [hgn] at h7;cases h7;exact h8.symm
  ·rintro rfl
   exact ⟨_,ho,_,hgn,rfl⟩
 have hbn2:∀ b,z0x γ ((st.ups (z0k st.o F0)).ups (zc7 (z4b st.o all cs))).o n b↔b=b1:=by
  intro b;rw [← hbn b];simp only [z0x,hon2,ho]
 have hbx:∀ l b,z0l (γ n) (.box l) b↔b=b1:=by
  intro l b;rw [← hbn b];simp only [z0x,ho,v00,exists_eq_left',z0l]
 have hhb:∀ m∈z4b st.o all cs,∀ b,z0x γ st.o m b→z0x γ (st.ups (z0k st.o F0)).o m b:=by
  rintro m hm b ⟨ob,h5,h6⟩
  obtain ⟨hi2,e2,ag2,ks2,l2,k1,k2,k3⟩:=z7r.1 hm;refine ⟨ob,?_,h6⟩;rw [(z42 st.o F0 (FrzLe.refl _) h).2.2.2.2 m ?_]
  ·exact h5
  ·intro hmF
   rw [← hF0] at hmF;rcases v0k.1 hmF with h7 | h7
   ·obtain ⟨lo3,hi3,own3,e3,ag3,ks3,l3,q1,q2,q3⟩:=zi6 h7
    obtain ⟨i1,hi1⟩:=List.mem_iff_getElem?.1 k1;obtain ⟨i2,hi2⟩:=List.mem_iff_getElem?.1 q1;rw [← hall,z99] at k3;rcases Nat.lt_trichotomy i1 i2 with hlt | hlt | hlt
    ·have:=zk5 hlt hi1 hi2
     omega
    ·subst hlt
     rw [hi1] at hi2;simp only [v00,V.row.injEq,v45] at hi2;obtain ⟨rfl,rfl⟩:=hi2;rw [k2] at q2;simp only [v00,Ob.row.injEq] at q2;obtain ⟨rfl,_⟩:=q2;rw [← hall,z99,k3] at q3;simp at q3
    ·have:=zk5 hlt hi2 hi1
     omega
   ·have q1:m∈z1e vs:=by
     split at h7
     ·exact h7
     ·cases h7
    rw [← hall,z99] at k3
    have:=zgj (zat k1)
    have:=zgj q1
    omega
 have hlend:=hk.lend (n:=n) (ob':=.box (yao cs)) (g':=γ n) hon2 rfl h1.keep (K:=X'.own)
  (fun b hlt hb=>by
   have hLb:=(hXo b).1 hb;rcases hLb with h5 | ⟨m,h6,h7⟩
   ·exact .inl ((hbn2 b).2 ((hbn b).1 h5))
   ·refine .inr ⟨.inr ⟨m,h6,hhb m h6 b h7⟩,?_⟩
    exact (h.lt b (hLP b (.inr ⟨m,h6,h7⟩))).2)
  (fun b hb=>by
   have:=(hbx _ b).1 hb
   subst this;exact ⟨v1b (h.lt _ ⟨n,_,ho,(hbx _ _).2 rfl⟩).1 hsz,.inl ((hbn2 _).2 rfl)⟩)
  (fun O v x hvx=>by
   refine VRel.cmp ?_ hvx;intro m ob1 hm;refine ⟨by by_cases e:n=m <;> simp [e],?_⟩
   rw [z01] at hm
   by_cases e:n=m
   ·subst e
    simp only [v1o,v00] at hm;subst hm;exact ⟨_,hon2,by simp [Ob.fits,zni]⟩
   ·rw [v10 e] at hm
    exact ⟨ob1,hm,ob1.fits_refl⟩)
  (by
   simp only [ObRel];refine ⟨b1,c,T,hgn,hh,?_⟩;have hcl:=hr.length;rw [z9c,hlen] at hcl;refine VRels.of_get (by rw [zni,v12,hcl]) (fun j v x hv hx=>?_)
   rw [zni,v0x] at hv;cases hcj:cs[j]? with
   | none=>rw [hcj] at hv; cases hv
   | some u=>
    rw [hcj] at hv;simp only [v2f,v00] at hv;subst hv;simp only [VRel])
 obtain ⟨br1,br2,br3⟩:=y1p hok h1;have hPf:∀ b,z1q γ' (z83 out) b→(w.heap.size≤b∧b < w'.heap.size)∨L b:=fun b hb=>by
  obtain ⟨q1,q2⟩:=h1.lt b hb;rcases q2 with q2 | q2
  ·exact .inl ⟨q2,q1⟩
  ·exact .inr ((hXo b).1 q2)
 have hb1P:z1q γ' (z83 out) b1:=⟨900000,_,hob0,⟨_,hg,rfl⟩⟩;have hLb1:L b1:=.inl ((hbn b1).2 rfl);have hsh:=hlend.shrink (F:=fun b=>(X.far b∨z1q γ' (z83 out) b)∧b≠b1) (fun b hb=>by
  refine ⟨?_,fun hbb=>hb.2 ((hbx _ b).1 hbb)⟩
  rcases hb.1 with h5 | h5
  ·exact .inl (.inl h5)
  ·rcases hPf b h5 with h6 | h6 | ⟨m,h6,h7⟩
   ·exact .inr h6
   ·exact absurd ((hbn b).1 h6) hb.2
   ·exact .inl (.inr ⟨m,h6,hhb m h6 b h7⟩))
 have hfarX:∀ b,X.far b→X'.far b:=fun b hb=>(hXf b).2 ⟨.inr hb,fun hL=>h.nr b (hLP b hL) hb,fun m _ ⟨ob,q1,q2⟩=>h.nr b ⟨m,ob,q1,q2⟩ hb,fun m _ ⟨e,ag,ks,l,q1,q2⟩=>h.nr b ⟨m,_,q1,q2⟩ hb⟩
 have hO1:∀ b,z0a ⟨X.own,fun b=>(X.far b∨z1q γ' (z83 out) b)∧b≠b1⟩ (fun m=>if n=m then γ n else γ m) (((st.ups (z0k st.o F0)).ups (zc7 (z4b st.o all cs))).up (.set n (.box (yao cs)))).o b →
   ((z3x v||zoz out)=true→z0a X' γ' (z83 out) b):=by
  intro b hb hflag;rcases hb with ⟨m,ob,hm,hbm⟩ | ⟨hb | hb,_⟩
  ·simp only [St.up] at hm
   rw [z01] at hm
   by_cases e:n=m
   ·subst e
    simp only [v1o,v00] at hm hbm;subst hm
    have:=(hbx _ b).1 hbm
    subst this;exact .inl hb1P
   ·simp only [v10 e] at hm hbm
    rw [hko] at hm
    split at hm
    ·cases hm
    rename_i hmh;obtain ⟨q1,q2⟩:=zbj h F0 (b:=b) (.inl ⟨m,ob,hm,hbm⟩);refine .inr ((hXf b).2 ⟨q1,fun hL=>?_,fun m' hm' hbl=>?_,fun m' hm'=>?_⟩)
    ·rcases hL with h5 | ⟨m2,h5,h6⟩
     ·obtain ⟨ob2,q3,q4⟩:z0x γ (st.ups (z0k st.o F0)).o n b:=⟨_,hon,(hbx _ b).2 ((hbn b).1 h5)⟩
      exact hz.dis n m ob2 ob b e q3 hm q4 hbm
     ·obtain ⟨ob2,q3,q4⟩:=hhb m2 h5 b h6
      exact hz.dis m2 m ob2 ob b (fun e=>hmh (e ▸ h5)) q3 hm q4 hbm
    ·obtain ⟨lo3,hi3,own3,e3,ag3,ks3,l3,p1,p2,p3⟩:=zi6 hm'
     obtain ⟨ob2,q3,q4⟩:=hbl;rw [p2,v00] at q3;subst q3;cases own3 with
     | false=>exact q4.elim
     | true=>exact q2 m' (by rw [← hF0]; exact v2z _ hm') ⟨e3,ag3,ks3,l3,p2,q4⟩
    ·refine q2 m' ?_
     rw [← hF0,hflag];exact v2u _ hm'
  ·exact .inr (hfarX b hb)
  ·exact .inl hb
 have hrows:=zi4 (B':=B.base) (O1:=fun b=>zoz out=true→z0a X' γ' (z83 out) b) (g:=fun j=>γ' (900001+j)) nm out 0 (by omega) hsh (fun b hb hal=>hO1 b hb (by simp [hal])) (fun j e ag ks l hj=>by
   rw [v0n];obtain ⟨q1,q2⟩:=br1 (fun m=>if n=m then γ n else γ m) j e ag ks l hj
   refine ⟨q1,fun b hb=>⟨⟨.inr (q2 b hb),?_⟩,?_⟩⟩
   ·rintro rfl
    exact br3 j e ag ks l _ hj hb ⟨_,hob0,_,hg,rfl⟩
   ·rcases hPf b (q2 b hb) with h5 | h5
    ·exact .inl (v1p h.keep.size h5.1)
    ·exact (h.lt b (hLP b h5)).2)
  (fun i j e ag ks l e' ag' ks' l' b hij q1 q2 q3 q4=>by
   rw [v0n] at q3 q4;exact br2 i j e ag ks l e' ag' ks' l' b hij q1 q2 q3 q4)
 obtain ⟨γ4,F4,r1,r2,r3,r4,r5,r6⟩:=hrows;simp only [v1m,v0n] at r1 r3 r4 r5 r6;obtain ⟨hγn,hobn,_⟩:=r6 n hnm;have hon4:=hobn cs (by simp only [St.up,z01,v1o])
 simp only [v1o] at hγn;have hset:=r1.set (n:=n) (ob':=.box (z71 nm out)) hon4 (by simp only [Ob.fits,zni,v12,z9c,hlen]) (Keep.refl _ w') (fun b hb=>hb) (fun hown hcmp=>by
  simp only [ObRel];refine ⟨b1,c,T,by rw [hγn,hgn],hh,zvt hok h1 hr (fun j e ag ks l hj=>?_) (fun hal b _ hb=>hO1 b (r4 b (hown b hb)) (by simp [hal]))⟩
  obtain ⟨q1,q2⟩:=r5 j e ag ks l hj;refine ⟨q1,?_⟩;have hjl:j < out.length:=by
   rcases v1x j out.length with h' | h'
   ·exact h'
   ·rw [v0q h'] at hj; cases hj
  rw [z01,v10 (by omega)]
  exact q2)
 have hfin:=hset.shrink (F:=X.far) (fun b hb=>by
  refine r3 b ⟨.inl hb,fun e=>h.nr b (hLP b (e ▸ hLb1)) hb⟩ (fun j e ag ks l hj hbj=>?_)
  rcases hPf b ((br1 γ j e ag ks l hj).2 b hbj) with h5 | h5
  ·have:=h.fl b hb
   omega
  ·exact h.nr b (hLP b h5) hb)
 have hst:(st.ups (z0k st.o F0++(zc7 (z4b st.o all cs)++(.set n (.box (yao cs)) :: (zes nm out++[.set n (.box (z71 nm out))]))))) =
   (((((st.ups (z0k st.o F0)).ups (zc7 (z4b st.o all cs))).up (.set n (.box (yao cs)))).ups (zes nm out)).up (.set n (.box (z71 nm out)))):=by
  rw [z2v,z2v];simp only [St.ups];rw [z2v]
  rfl
 rw [hst];refine ⟨_,hfin,zss hf (fun hhl b _ hb=>?_) h2⟩
 rcases hb with ⟨m,ob,hm,hbm⟩ | hb
 ·simp only [St.up] at hm
  rw [z01] at hm;refine hO1 b (r4 b (.inl ?_)) (by simp [hhl])
  by_cases e:n=m
  ·subst e
   simp only [v1o,v00] at hm;subst hm;exact ⟨n,_,hon4,hbm⟩
  ·rw [v10 e] at hm
   exact ⟨m,ob,hm,hbm⟩
 ·exact .inr (hfarX b hb)
end
open Go Go.RowKit
section
variable {B:BT} {nt:Nat} {w0:World} {X:Zone} {γ:Nat→Value} {st st':St} {a:Act} {w:World} {P:Program} {E:Env}
theorem y0o (h:Rel B nt w0 X γ st a w) (hg:GX B w0 X) {f:FuncId} {sp:z0q} (hS:Snd P B f (fun vs=>(sp vs).get)) {vs:List V} {xs:List Value} (hv:VRels γ st.o w (z0a X γ st.o) vs xs) {d:Nat} (hd9:d≠900000) {tks:List (List Kd)} {v:V} {us:List Upd} (he:(y2h st.o d tks sp vs).get=some (v,us)) :
  Does P f xs w fun e w'=>∃ x,e = .returned x∧∃ γ',Rel B nt w0 X γ' (st.ups us) a w'∧VRel γ' (st.ups us).o w' (z0a X γ' (st.ups us).o) v x:=by
 unfold y2h at he
 split at he
 ·rename_i hl
  obtain ⟨r,out,hsp,he⟩:=R.toT_get he;unfold zl3 at he
  split at he
  ·split at he
   ·rename_i cs
    split at he
    ·rename_i hc
     simp only [T.get,v00,v04] at he;obtain ⟨rfl,rfl⟩:=he;exact ybx h hg hS hv hl hsp d hd9 (v03 hc)
    ·simp [T.get] at he
   ·simp only [T.get,v00,v04] at he
    obtain ⟨rfl,rfl⟩:=he;exact yfj h hg hS hv hl hsp d hd9
   ·rename_i hnb hnv
    simp only [T.get,v00,v04] at he;obtain ⟨rfl,rfl⟩:=he;exact yaj h hg hS hv hl hsp hnb hnv
  ·simp [T.get] at he
 ·rename_i n hl
  split at he
  ·rename_i cs ho
   split at he
   ·rename_i hib
    obtain ⟨r,outs,hsp,he⟩:=R.toT_get he;unfold y2m at he
    split at he
    ·split at he
     ·rename_i hc
      simp only [T.get,v00,v04] at he;obtain ⟨rfl,rfl⟩:=he;simp only [v02,v2v] at hc;refine yer h hg hS hv hl ho rfl hsp hib (z1o.1 hc.1) (hc.2.1.imp (fun h=>v03 h) (fun h=>v03 h)) (v03 hc.2.2)
     ·simp [T.get] at he
    ·simp [T.get] at he
   ·simp [T.get] at he
  ·rename_i s ho
   split at he
   ·rename_i hib
    obtain ⟨r,outs,hsp,he⟩:=R.toT_get he;unfold y11 at he
    split at he
    ·simp only [T.get,v00,v04] at he
     obtain ⟨rfl,rfl⟩:=he;exact yfi h hg hS hv hl ho hsp hib
    ·simp [T.get] at he
   ·simp [T.get] at he
  ·simp [T.get] at he
 ·simp [T.get] at he
def zd2 (l:List IV):List Value:=l.map fun x=>Value.int .i64 x.toInt
def yjw:V→Value
 | .int k n=>.int k n
 | _=>undef
def zoi (w:World) (v:Value):List V→List Value→Prop
 | [],[]=>True
 | [.clo f [.bor cs]],[y]=>∃ b c T,y = .func (.func f) #[] #[.pointer (some ⟨b,0,none⟩)]∧w.heap[b]?=some (.cells c T (0,0))∧c.toList=cs.map yjw∧v.ownBlock≠some b
 | _,_=>False
def zzs (P:Program) (f:FuncId) (p:Ip):Prop:=
 ∀ (w:World) (v:Value) (l l':List IV) (rs:List V) (ys:List Value),w.ownsRow 0 p.e 1 v l.length (zd2 l)→(∀ x∈l,IntKind.i64.min≤x.toInt∧x.toInt≤IntKind.i64.max)→l.length≤strMax →
  zoi w v rs ys→p.g rs l=some l' →
  Does P f (v :: ys) w fun e w'=>∃ x,e = .returned x∧w.grownBy w' v.ownBlock∧(∀ x∈l',IntKind.i64.min≤x.toInt∧x.toInt≤IntKind.i64.max) ∧
   (p.ret=true→w'.ownsRow 0 p.e 1 x l'.length (zd2 l')∧∀ b,x.ownBlock=some b→v.ownBlock=some b∨w.heap.size≤b) ∧
   (p.ret=false→w'.ownsRow 0 p.e 1 v l'.length (zd2 l'))
theorem y9r {w:World} {O:Nat→Prop} {l:List IV} {xs:List Value} (hl:xs.length=l.length*1)
  (h:∀ i y,l[i]?=some y→Kd.RelAll w O [.int .i64] (z2w false y) 0 (fun j u=>xs[i*1+j]?=some u)):xs=zd2 l∧∀ x∈l,IntKind.i64.min≤x.toInt∧x.toInt≤IntKind.i64.max:=by
 have one:∀ (i:Nat) (y:IV),l[i]?=some y→xs[i]?=some (.int .i64 y.toInt)∧IntKind.i64.min≤y.toInt∧y.toInt≤IntKind.i64.max:=fun i y hy=>by
  have:=h i y hy
  simp only [Kd.RelAll,z2w,v18,v40,v1m] at this;obtain ⟨u,hu,hk⟩:=this;simp only [Kd.Rel] at hk;rw [hu,hk.1];exact ⟨rfl,hk.2⟩
 constructor
 ·apply List.ext_getElem?
  intro i;unfold zd2;rw [v0x];cases hy:l[i]? with
  | none=>
   rw [List.getElem?_eq_none_iff] at hy;rw [v0q (by omega)]
   rfl
  | some y=>rw [(one i y hy).1]; rfl
 ·intro x hx
  obtain ⟨i,hi⟩:=v2y hx;exact (one i x hi).2
theorem zo9 {w:World} {O:Nat→Prop} {l:List IV} (h:∀ x∈l,IntKind.i64.min≤x.toInt∧x.toInt≤IntKind.i64.max) (i:Nat) (y:IV) (hy:l[i]?=some y) :
  Kd.RelAll w O [.int .i64] (z2w false y) 0 (fun j u=>(zd2 l)[i*1+j]?=some u):=by
 simp only [Kd.RelAll,z2w,v18,v40,v1m];refine ⟨.int .i64 y.toInt,?_,?_⟩
 ·unfold zd2
  rw [v0x,hy]
  rfl
 ·simp only [Kd.Rel]
  exact ⟨trivial,h y (v1l hy)⟩
theorem ztm {γ:Nat→Value} {o:Store} {w:World} {O:Nat→Prop}:∀ {cs:List V} {xs:List Value},yfv cs=true→VRels γ o w O cs xs→xs=cs.map yjw
 | [],[],_,_=>rfl
 | [],_ :: _,_,h=>by simp only [VRels] at h
 | v :: cs,[],h,h'=>by simp only [VRels] at h'
 | v :: cs,x :: xs,h,h'=>by
  simp only [VRels] at h';unfold yfv at h
  split at h
  ·rename_i h0; cases h0
  ·rename_i n r h0
   injection h0 with h1 h2
   subst h1 h2;have h3:=h'.1;simp only [VRel] at h3;rw [v0d,← ztm h h'.2,h3.1]
   rfl
  ·cases h
theorem y86 (h:Rel B nt w0 X γ st a w) {v:Value} (hv:∀ m cs b,z04 st.o m=some (.box cs)→z0l (γ m) (.box cs) b→v.ownBlock≠some b) {rest rs:List V} {ys:List Value} (hr:VRels γ st.o w (z0a X γ st.o) rest ys) (he:ztd st.o rest=some rs):zoi w v rs ys:=by
 unfold ztd at he
 split at he
 ·simp only [v00] at he
  subst he;cases ys with
  | nil=>trivial
  | cons y ys=>simp only [VRels] at hr
 ·rename_i f m i c
  split at he
  ·rename_i cs hic ho
   split at he
   ·rename_i hi
    simp only [v00] at he;subst he;simp only [v02] at hic;obtain rfl:=z1o.1 hic.1;obtain rfl:=z1o.1 hic.2
    match ys,hr with
    | [y],hr=>
     simp only [VRels,v18] at hr;simp only [VRel] at hr;obtain ⟨cs',rfl,hc⟩:=hr;obtain ⟨b,c,T,hg,hh,hcs⟩:=h.ob m _ ho;have hc1:∃ x0,cs' = #[x0]∧x0 = .pointer (some ⟨b,0,none⟩):=by
      obtain ⟨l⟩:=cs'
      match l,hc with
      | [x0],hc=>
       simp only [VRels,v18,VRel,ho] at hc;obtain ⟨_,b',hb',rfl⟩:=hc;rw [hg] at hb';simp only [Value.pointer.injEq,v00,Addr.mk.injEq,v18] at hb';subst hb';exact ⟨_,rfl,rfl⟩
      | [],hc=>simp only [VRels] at hc
      | _ :: _ :: _,hc=>simp only [VRels,and_false] at hc
     obtain ⟨x0,rfl,rfl⟩:=hc1;exact ⟨b,c,T,rfl,hh,ztm hi hcs,hv m cs b ho ⟨_,hg,rfl⟩⟩
    | [],hr=>simp only [VRels] at hr
    | _ :: _ :: _,hr=>simp only [VRels,and_false] at hr
   ·cases he
  ·cases he
 ·cases he
theorem yj5 (h:Rel B nt w0 X γ st a w) {f:FuncId} {p:Ip} (hI:zzs P f p) {vs:List V} {xs:List Value} (hv:VRels γ st.o w (z0a X γ st.o) vs xs) {d:Option Nat} (hd9:∀ d',d=some d'→d'≠900000) {v:V} {us:List Upd} (he:(ipT st.o d p vs).get=some (v,us)) :
  Does P f xs w fun e w'=>∃ x,e = .returned x∧∃ γ',Rel B nt w0 X γ' (st.ups us) a w'∧VRel γ' (st.ups us).o w' (z0a X γ' (st.ups us).o) v x:=by
 unfold ipT at he
 split at he
 ·rename_i n lo hi rest
  cases xs with
  | nil=>simp only [VRels] at hv
  | cons sv ys=>
  simp only [VRels] at hv;obtain ⟨hs,hrest⟩:=hv
  split at he
  ·rename_i e l rs hob hra
   split at he
   ·rename_i hc
    simp only [v02] at hc;obtain ⟨hc1,hc3,hc4⟩:=hc;have he2:=T.get_when he;clear he;obtain ⟨hc2,he⟩:=he2;obtain rfl:=z1o.1 hc1;obtain rfl:=z1o.1 hc2;obtain rfl:=z1o.1 hc3;have he6:p.e < 1000000:=v03 hc4;simp only [VRel,hob] at hs;obtain ⟨hlen,q,len,cap,q',hg,hvv,_,h2,h3,hm,_,h5⟩:=hs;rw [h5 rfl,v2q,v2q] at hvv;have hor:=h.ob n _ hob;simp only [ObRel] at hor;obtain ⟨hkp,hstr,xs,hx,hrx⟩:=hor;have hx':=hx.plain he6;have hlen':len=l.length:=by
     rcases hx'.2 with ⟨h6,h7⟩ | ⟨g,cap',cur,h6,_⟩
     ·rw [hg] at h6; simp only [Value.slice.injEq] at h6; omega
     ·rw [hg] at h6; simp only [Value.slice.injEq] at h6; exact h6.2.1
    subst hlen';have hsv:sv=γ n:=by rw [hvv,hg]
    subst hsv;obtain ⟨rfl,hrng⟩:=y9r hx.1 hrx
    split at he
    ·rename_i l' hgl
     have hrok:=y86 h (v:=γ n) (fun m cs b hm hb hne=>by
      have hnm:n≠m:=fun e=>by subst e; rw [hob] at hm; cases hm
      exact h.dis n m _ _ b hnm hob hm (by simp only [z0l]; exact hne) hb) hrest hra
     have hdoes:=hI w (γ n) l l' rs ys hx' hrng hstr hrok hgl
     split at he
     ·rename_i d' hret
      obtain ⟨hk,he⟩:=T.get_when he;simp only [T.get,v00,v04] at he;obtain ⟨rfl,rfl⟩:=he;have hk:=v03 hk;refine hdoes.mono ?_
      rintro e w' ⟨x,rfl,hgrow,hrng',hr1,_⟩
      obtain ⟨hown,hblk⟩:=hr1 hret;refine ⟨x,rfl,fun m=>if d'=m then x else γ m,?_,?_⟩
      ·refine Rel.new h [n] d' (hd9 d' rfl) (.row true p.e false [.int .i64] l') x (Keep.grown hgrow (fun g hg'=>⟨n,by simp,_,hob,hg'⟩)) (fun b hb=>⟨(hown.lt b hb).2,?_⟩) (fun O' hO hcmp=>?_)
       ·rcases hblk b hb with h1 | h1
        ·exact .inr ⟨n,by simp,_,hob,h1⟩
        ·exact .inl h1
       ·simp only [ObRel]
        exact ⟨by simp,by omega,zd2 l',OwnRow.of hown he6,fun i y hy=>zo9 hrng' i y hy⟩
      ·simp only [St.ups,St.up,VRel,z01,v1o]
       refine ⟨v09 _,?_⟩;rcases hown.2 with ⟨h6,h7⟩ | ⟨g,cap',cur,h6,_,_,h8,h9,_⟩
       ·refine ⟨none,0,0,none,h6,?_,v0y _,by omega,v09 _,by simp [maxLen],.inr rfl,fun _=>rfl⟩
        rw [h6,h7]
       ·refine ⟨some ⟨g,0,none⟩,l'.length,cap',some ⟨g,0,none⟩,h6,by rw [h6]; simp,v0y _,v09 _,h8,h9,.inl ?_,fun _=>rfl⟩
        simp [Addr.add]
     ·rename_i hret
      obtain ⟨hk,he⟩:=T.get_when he;simp only [T.get,v00,v04] at he;obtain ⟨rfl,rfl⟩:=he;have hk:=z1o.1 hk;refine hdoes.mono ?_
      rintro e w' ⟨x,rfl,hgrow,hrng',_,hr2⟩
      have hown:=hr2 hret;refine ⟨x,rfl,γ,?_,by simp only [VRel]⟩
      refine Rel.set h (ob':=.row true p.e false [.int .i64] l') hob ⟨rfl,hk.symm⟩ (Keep.grown hgrow (fun g hg'=>hg')) (fun b hb=>hb) (fun hO hcmp=>?_)
      simp only [ObRel];exact ⟨by simp,by omega,zd2 l',OwnRow.of hown he6,fun i y hy=>zo9 hrng' i y hy⟩
     ·simp [T.get] at he
    ·simp [T.get] at he
   ·simp [T.get] at he
  ·simp [T.get] at he
 ·rename_i rest
  cases xs with
  | nil=>simp only [VRels] at hv
  | cons sv ys=>
  simp only [VRels] at hv;obtain ⟨hs,hrest⟩:=hv;simp only [VRel] at hs;subst hs
  split at he
  ·rename_i rs hra
   split at he
   ·rename_i hgl
    have hrok:=y86 h (v:=.slice none 0 0) (fun m cs b _ _ hne=>by simp [Value.ownBlock] at hne) hrest hra
    have hdoes:=hI w (.slice none 0 0) [] [] rs ys (World.ownsRow_nil w 0 p.e _) (fun x hx=>by cases hx) (by simp) hrok hgl
    split at he
    ·rename_i d' hret
     obtain ⟨hk,he⟩:=T.get_when he;simp only [T.get,v00,v04] at he;obtain ⟨rfl,rfl⟩:=he;have he6:p.e < 1000000:=v03 hk;refine hdoes.mono ?_
     rintro e w' ⟨x,rfl,hgrow,hrng',hr1,_⟩
     obtain ⟨hown,hblk⟩:=hr1 hret;refine ⟨x,rfl,fun m=>if d'=m then x else γ m,?_,?_⟩
     ·refine Rel.new h [] d' (hd9 d' rfl) (.row true p.e false [.int .i64] []) x (Keep.grown hgrow (fun g hg'=>by simp [Value.ownBlock] at hg')) (fun b hb=>⟨(hown.lt b hb).2,?_⟩) (fun O' hO hcmp=>?_)
      ·rcases hblk b hb with h1 | h1
       ·simp [Value.ownBlock] at h1
       ·exact .inl h1
      ·simp only [ObRel]
       exact ⟨by simp,by simp,zd2 [],OwnRow.of hown he6,fun i y hy=>zo9 hrng' i y hy⟩
     ·simp only [St.ups,St.up,VRel,z01,v1o]
      refine ⟨v09 _,?_⟩;rcases hown.2 with ⟨h6,h7⟩ | ⟨g,cap',cur,h6,_,_,h8,h9,_⟩
      ·refine ⟨none,0,0,none,h6,?_,v0y _,by omega,v09 _,by simp [maxLen],.inr rfl,fun _=>rfl⟩
       rw [h6]
      ·refine ⟨some ⟨g,0,none⟩,0,cap',some ⟨g,0,none⟩,h6,by rw [h6]; simp,v0y _,v09 _,v0y _,h9,.inl ?_,fun _=>rfl⟩
       simp [Addr.add]
    ·rename_i hret
     simp only [T.get,v00,v04] at he;obtain ⟨rfl,rfl⟩:=he;refine hdoes.mono ?_
     rintro e w' ⟨x,rfl,hgrow,_,_,_⟩
     refine ⟨x,rfl,γ,Rel.world h (Keep.grown hgrow (fun g hg'=>by simp [Value.ownBlock] at hg')),by simp only [VRel]⟩
    ·simp [T.get] at he
   ·simp [T.get] at he
  ·simp [T.get] at he
 ·simp [T.get] at he
def SpOK (P:Program) (B:BT) (E:Env) (w0:World) (X:Zone):Prop:=GX B w0 X∧(∀ f sp,lk E.sp f=some sp→Snd P B f (fun vs=>(sp vs).get))∧∀ f p,lk E.ip f=some p→zzs P f p
theorem SpOK.get (h:SpOK P B E w0 X) (f:FuncId):Snd P B f (fun vs=>(lkd (fun _=>R.no) E.sp f vs).get):=by
 rw [zwj];cases hf:lk E.sp f with
 | none=>
  intro w X γ vs xs r out hsp;simp [R.get] at hsp
 | some sp=>exact h.2.1 f sp hf
theorem zq9 (h:Rel B nt w0 X γ st a w):∀ l:List Operand,VRels γ st.o w (z0a X γ st.o) (zwt (opd st) l) (l.map a.eval)
 | []=>by simp only [zwt,v16,VRels]
 | x :: r=>by
  simp only [zwt,v0d,VRels];exact ⟨z1s h x,zq9 h r⟩
theorem y4o (o:Oper) {f:FuncId} {xs:List Value} {v:V} {us:List Upd} (hr:(execOp a.eval o).run P w=(callFunc f xs.toArray).run P w)
  (hd:Does P f xs w fun e w'=>∃ x,e = .returned x∧∃ γ',Rel B nt w0 X γ' (st.ups us) a w'∧VRel γ' (st.ups us).o w' (z0a X γ' (st.ups us).o) v x):OpWp P B nt w0 X a w o st v us:=by
 intro K Q hK;unfold Oper.wp;rw [hr];unfold Does at hd
 split at hd
 ·rename_i g args w' hc
  rw [hc,Oper.upon_enter];refine hd.mono ?_
  rintro e w'' ⟨x,rfl,γ',h1,h2⟩
  exact hK γ' x w'' h1 h2
 ·rename_i x w' hc
  rw [hc,Oper.upon_value];obtain ⟨x',he,γ',h1,h2⟩:=hd;cases he;exact hK γ' x w' h1 h2
 ·rename_i row args w' hc
  rw [hc,Oper.upon_row];refine Rows.mono hd ?_
  rintro x w'' ⟨x',he,γ',h1,h2⟩
  cases he;exact hK γ' x w'' h1 h2
 ·exact hd.elim
theorem yh4 (hT:TiOK P B E) (hSp:SpOK P B E w0 X) (h:Rel B nt w0 X γ st a w) (o:Oper) (hd9:∀ d,o.dst=some d→d≠900000) {c:Call} (ho:o.op = .call c) {v:V} {us:List Upd}
  (he:(z4y E st.o (opd st) o.dst o.op).get=some (v,us)):OpWp P B nt w0 X a w o st v us:=by
 obtain ⟨callee,args,ats⟩:=c;cases callee with
 | builtin b=>exact yad hT h o hd9 ho he
 | invoke recv name=>
  rw [ho] at he;simp only [z4y,zkj] at he;simp [T.get] at he
 | value x=>
  rw [ho] at he;obtain ⟨args⟩:=args;have clo:∀ (x:Operand),o.op = .call ⟨.value x,⟨args⟩,ats⟩→∀ d,o.dst=some d→(match opd st x with
    | .clo f caps=>match zsj caps with
     | true=>y2h st.o d (y7h E ats.toList) (lkd (fun _=>R.no) E.sp f) (zwt (opd st) args++caps)
     | false=>.no
    | _=>.no).get=some (v,us)→OpWp P B nt w0 X a w o st v us:=by
   intro x ho d hd he
   split at he
   ·rename_i f caps hclo
    split at he
    case h_2=>simp [T.get] at he
    have hx:=z1s h x;rw [hclo] at hx;simp only [VRel] at hx;obtain ⟨cs,hx1,hx2⟩:=hx;have hrel:=y0o h hSp.1 (hSp.get f) ((zq9 h args).append hx2) (hd9 d hd) he;refine y4o o (xs:=args.map a.eval++cs.toList) ?_ hrel;obtain ⟨dst,op,type,pos,after,guard⟩:=o;simp only at ho;subst ho
    have:execOp a.eval { dst,op:=.call { callee:=.value x,args:=⟨args⟩,argTypes:=ats },type,pos,after,guard }=(do let d ← Deferred.ofValue (a.eval x) ((⟨args⟩:Array Operand).map a.eval); invoke d.target d.args):=rfl
    rw [this,hx1];have hla:(args.map a.eval).toArray++cs=(args.map a.eval++cs.toList).toArray:=by
     apply Array.ext';simp
    simp [Deferred.ofValue,invoke,hla]
   ·simp [T.get] at he
  cases x with
  | func f=>
   simp only [z4y,zkj,yhu] at he;have hrun:∀ {f:Nat},o.op = .call ⟨.value (.func f),⟨args⟩,ats⟩→(execOp a.eval o).run P w=(callFunc f (args.map a.eval).toArray).run P w:=fun {f} ho=>by
    obtain ⟨dst,op,type,pos,after,guard⟩:=o;simp only at ho;subst ho
    have:execOp a.eval { dst,op:=.call { callee:=.value (.func f),args:=⟨args⟩,argTypes:=ats },type,pos,after,guard }=callFunc f (#[]++(⟨args⟩:Array Operand).map a.eval++#[]):=rfl
    rw [this];simp
   split at he
   ·rename_i p hp
    exact y4o o (xs:=args.map a.eval) (hrun ho) (yj5 h (hSp.2.2 f p hp) (zq9 h args) hd9 he)
   ·split at he
    ·rename_i d hd
     exact y4o o (xs:=args.map a.eval) (hrun ho) (y0o h hSp.1 (hSp.get f) (zq9 h args) (hd9 d hd) he)
    ·simp [T.get] at he
  | tmp t=>
   simp only [z4y,zkj] at he;cases hd:o.dst with
   | none=>rw [hd] at he; simp [T.get] at he
   | some d=>rw [hd] at he; exact clo _ ho d hd he
  | const t=>
   simp only [z4y,zkj] at he;cases hd:o.dst with
   | none=>rw [hd] at he; simp [T.get] at he
   | some d=>rw [hd] at he; exact clo _ ho d hd he
  | global t=>
   simp only [z4y,zkj] at he;cases hd:o.dst with
   | none=>rw [hd] at he; simp [T.get] at he
   | some d=>rw [hd] at he; exact clo _ ho d hd he
theorem y6g (hT:TiOK P B E) (h:Rel B nt w0 X γ st a w) (o:Oper) (hd9:∀ d,o.dst=some d→d≠900000) {s t:Nat} {x:Operand} (ho:o.op = .convert s t x) {v:V} {u:Upd} {us:List Upd}
  (he:(z4y E st.o (opd st) o.dst o.op).get=some (v,u :: us)):OpWp P B nt w0 X a w o st v (u :: us):=by
 have hx:=z1s h x;rw [ho] at he;simp only [z4y] at he
 split at he
 ·split at he
  ·simp [T.get] at he
  ·simp [T.get] at he
 ·rename_i b hop
  rw [hop] at hx;simp only [VRel] at hx
  split at he
  ·simp [T.get] at he
  ·rename_i e k1 kss hd hks hkss
   split at he
   ·rename_i d hdst hde hkse
    simp only [T.get,v00,v04,v2s] at he;obtain ⟨rfl,rfl,rfl⟩:=he;have hu1:=zba hT hd;obtain ⟨d',hd1',_,_⟩:=(hT.kinds (t:=s) (by rw [hkss]; simp)).und
    obtain ⟨d'',hd1'',_,hd2''⟩:=(hT.kinds (t:=e) (by rw [hkse]; simp)).und
    rw [hde] at hd2'';obtain rfl:=hd2''.1 _ hkse;have hrun:(execOp a.eval o).run P w = .ok (.value (.slice (some ⟨w.heap.size,0,none⟩) b.size (grownCap w b.size 0 e))) (Lib.bytesWorld w e b):=by
     unfold execOp;simp only [ho,hx.1,Sem.run_bind,Lib.run_convert_string_bytes w s t e b hd1' hu1 hd1'',Result.andThen_ok,Sem.run_pure]
    have hsm:=zl9;have hcg:=grownCap_ge w b.size 0 e;have hcm:grownCap w b.size 0 e≤maxLen:=grownCap_le_maxLen w b.size 0 e (v1p hx.2 hsm);have hcs:(Lib.bytesCells w e b).size=grownCap w b.size 0 e:=by
     have:b.data.size=b.size:=rfl
     simp only [Lib.bytesCells,Array.size_append,Array.size_map,v3e,this];omega
    have hkp:Keep (fun _=>False) w (Lib.bytesWorld w e b):=by
     refine ⟨?_,?_,?_,by rw [Lib.bytesWorld_size]; omega,fun j hj _=>Lib.bytesWorld_at_old w e b j hj⟩
     ·simp [Lib.bytesWorld,World.freeze]; rfl
     ·simp [Lib.bytesWorld,World.freeze]
     ·simp [Lib.bytesWorld,World.freeze]; rfl
    have hn:=Rel.new h [] d (hd9 d hdst) (.row true (e+1000000) false [.int .u8] (b.data.toList.map fun b=>.int (b.toNat:Int))) (.slice (some ⟨w.heap.size,0,none⟩) b.size (grownCap w b.size 0 e)) (w':=Lib.bytesWorld w e b) (hkp.mono (fun _ _ h=>h.elim))
     (by
      intro b1 hb;simp only [z0l,Value.ownBlock,v00] at hb;subst hb;rw [Lib.bytesWorld_size];exact ⟨by omega,.inl (v09 _)⟩)
     (by
      intro O' hO hcmp;simp only [ObRel];have hln:(b.data.toList.map fun b=>IV.int (b.toNat:Int)).length=b.size:=by simp
      refine ⟨by simp,by rw [hln]; exact hx.2,b.data.toList.map fun b=>.int .u8 b.toNat,?_,fun i y hy=>?_⟩
      ·rw [hln]
       refine ⟨by simp,.inr ⟨w.heap.size,grownCap w b.size 0 e,_,_,_,rfl,Lib.bytesWorld_at_new w e b,hcg,hcm,by rw [hcs]; simp,?_,.inr ⟨by omega,v09 _⟩⟩⟩
       simp only [Lib.bytesCells,v2b,v05,v0o];rw [List.take_append_of_le_length (by simp)]
       rw [v0z (by simp)]
       simp
      ·rw [v0x] at hy
       cases hbi:b.data.toList[i]? with
       | none=>rw [hbi] at hy; cases hy
       | some c=>
        rw [hbi] at hy;simp only [v2f,v00] at hy;subst hy;simp only [Kd.RelAll,z2w,Kd.Rel,IV.toInt,v05,v0o];refine ⟨⟨.int .u8 c.toNat,by simp [hbi],rfl,?_,?_⟩,trivial⟩
        ·simp [IntKind.min,IntKind.signed]
        ·have:=c.toNat_lt
         simp [IntKind.max,IntKind.signed,IntKind.bits];omega)
    refine OpWp.value hrun hn ?_;simp only [St.ups,VRel,z0d,v1o];refine ⟨by simp,some ⟨w.heap.size,0,none⟩,b.size,grownCap w b.size 0 e,some ⟨w.heap.size,0,none⟩,rfl,by simp,v0y _,v09 _,hcg,hcm,.inl ?_,fun _=>rfl⟩
    simp [Addr.add]
   ·simp [T.get] at he
  ·simp [T.get] at he
 ·split at he
  ·split at he
   ·simp [T.get] at he
   ·simp [T.get] at he
  ·simp [T.get] at he
def BldOK (P:Program) (B:BT) (E:Env):Prop:=(E.tyd B.T).d = .bld→∃ i,P.info? B.T=some i∧i.zero=some (.agg #[.pointer none,.slice none 0 0])
theorem ygq (hT:TiOK P B E) (hE:∀ t,t∈E.eqs→EqSnd P t (E.tyd t).ks) (hSp:SpOK P B E w0 X) (hB:BldOK P B E) (h:Rel B nt w0 X γ st a w) (o:Oper) (hd9:∀ d,o.dst=some d→d≠900000) {v:V} {us:List Upd}
  (he:(z4y E st.o (opd st) o.dst o.op).get=some (v,us)):OpWp P B nt w0 X a w o st v us:=by
 cases ho:o.op with
 | move x=>exact ycv h o (.inl ho) he
 | assign x=>exact ycv h o (.inr ho) he
 | pick c x y=>exact yip h o ho he
 | alloc t=>exact yf7 hT h o hd9 ho hB he
 | box t x=>exact yjp h o hd9 ho he
 | build t parts=>exact yfb hT h o ho he
 | buildSlice t len parts=>exact zze hT h o hd9 ho he
 | load t x=>exact yhm hT h o ho he
 | store t p x=>exact yf4 hT h o ho he
 | nilCheck x=>exact y4w h o ho he
 | binOp op t x y t'=>exact yjh hT hE h o ho he
 | unOp op t x=>exact yl2 h o ho he
 | convert s t x=>
  cases us with
  | nil=>exact y9q hT h o ho he
  | cons u us=>exact y6g hT h o hd9 ho he
 | makeFunc f first caps=>exact y5s h o ho he
 | makeSlice t n m=>exact y0k hT h o hd9 ho he
 | slice t x lo hi mx=>exact yfc hT h o ho he
 | fieldAddr s x f=>exact y2u hT h o ho he
 | field t x f=>exact yek hT h o ho he
 | indexAddr t x ix=>exact y3h hT h o ho he
 | index t x ix=>exact yg6 hT h o ho he
 | extract x i=>exact yaq h o ho he
 | call c=>exact yh4 hT hSp h o hd9 ho he
 | _=>rw [ho] at he; simp [z4y,T.get] at he
end
open Go Go.RowKit
theorem zmc:∀ {l:List V} {n:Nat},n∈z3r l→n∈zae.go l
 | v :: r,n,h=>by
  simp only [z3r,v0k] at h;rcases h with h | h
  ·cases v <;> simp only [z8q] at h <;> first | (cases h; done) | (simp only [zae.go,v0k]; exact .inl h)
  ·cases v <;> simp only [zae.go,v0k] <;> exact .inr (zmc h)
def Agree (o o':Store) (l:List Nat):Prop:=∀ n∈l,z04 o' n=z04 o n
theorem Agree.left {o o':Store} {l l':List Nat} (h:Agree o o' (l++l')):Agree o o' l:=fun n hn=>h n (v2z _ hn)
theorem Agree.right {o o':Store} {l l':List Nat} (h:Agree o o' (l++l')):Agree o o' l':=fun n hn=>h n (v2u _ hn)
theorem zpg {o o':Store} {v:V} (h:Agree o o' (z8q v)):zbg o' v=zbg o v:=by
 cases v <;> simp only [zbg]
 all_goals rw [h _ (by simp [z8q])]
theorem zrt {o o':Store} {v:V} (h:Agree o o' (z8q v)):okV o' v=okV o v:=by
 cases v <;> simp only [okV] <;> exact zpg h
theorem zka {o o':Store}:∀ {l:List V},Agree o o' (z3r l)→zz9 o' l=zz9 o l
 | [],_=>rfl
 | v :: r,h=>by simp only [zz9,zpg h.left,zka (l:=r) h.right]
theorem zlv {o o':Store} {v:V} (h:Agree o o' (z8q v)):zf5 o' v=zf5 o v:=by
 cases v <;> simp only [zf5]
 rw [h _ (by simp [z8q])]
theorem zl0 {o o':Store} {v:V} (h:Agree o o' (z8q v)):zcw o' v=zcw o v:=by
 cases v <;> simp only [zcw]
 rw [h _ (by simp [z8q])]
theorem y0l {o o':Store} {k:Kd} {v:V} (h:Agree o o' (z8q v)):ziu o' k v=ziu o k v:=by
 cases k <;> cases v <;> simp only [ziu]
 rw [h _ (by simp [z8q])]
theorem z8e {o o':Store}:∀ {ks:List Kd} {l:List V},Agree o o' (z3r l)→z4g o' ks l=z4g o ks l
 | [],[],_=>rfl
 | [],_ :: _,_=>rfl
 | _ :: _,[],_=>rfl
 | k :: ks,v :: r,h=>by simp only [z4g,y0l h.left,z8e (l:=r) h.right]
theorem z8g {v:V} {n:Nat} (h:n∈z8q v):n∈zae v:=by
 cases v <;> simp only [z8q] at h <;> first | exact h | cases h
theorem y20 {o o':Store} {ag:Bool} {ks:List Kd} {v:V} (h:Agree o o' (zae v)):zhf o' ag ks v=zhf o ag ks v:=by
 cases ag with
 | false=>
  simp only [zhf];rw [z8e (o:=o) (o':=o') (fun n hn=>h n (z8g (by simpa [z3r] using hn)))]
 | true=>
  cases v <;> simp only [zhf]
  rw [z8e h]
theorem zol:∀ (a b:List V),z3r (a++b)=z3r a++z3r b
 | [],b=>rfl
 | v :: r,b=>by simp [z3r,zol r b]
theorem y1l {l:List V} {v:V} {n:Nat} (hv:v∈l) (hn:n∈z8q v):n∈z3r l:=by
 induction l with
 | nil=>cases hv
 | cons u r ih=>
  simp only [z3r,v0k];rcases v15.1 hv with h | h
  ·subst h; exact .inl hn
  ·exact .inr (ih h)
theorem zrl {l l':List V} (h:∀ v∈l,v∈l') {n:Nat} (hn:n∈z3r l):n∈z3r l':=by
 induction l with
 | nil=>simp [z3r] at hn
 | cons u r ih=>
  simp only [z3r,v0k] at hn;rcases hn with hn | hn
  ·exact y1l (h u (v0a ..)) hn
  ·exact ih (fun v hv=>h v (v0b _ hv)) hn
theorem zf3 {o o':Store} {ag:Bool} {ks:List Kd} {sz:Nat}:∀ {n:Nat} {cs:List V},Agree o o' (z3r cs)→zkv ag ks o' cs sz n=zkv ag ks o cs sz n
 | 0,cs,_=>rfl
 | n+1,cs,h=>by
  simp only [zkv];rw [zf3 (n:=n) (cs:=zjg cs sz) (fun m hm=>h m (by rw [zaz] at hm; exact zrl (fun v hv=>v2o hv) hm))]
  cases ag with
  | true=>
   rw [y20];intro m hm;simp only [zae,zet] at hm;exact h m (zrl (fun v hv=>v2p hv) hm)
  | false=>
   simp only [zhf];rw [z8e (o:=o) (o':=o')];intro m hm;rw [zry] at hm;cases hc:cs[0]? with
   | none=>rw [hc] at hm; simp [z3r,z8q] at hm
   | some u=>
    rw [hc] at hm;simp only [v1y,z3r,v2n] at hm;exact h m (y1l (v1l hc) hm)
theorem z93 {l:List V} {n:Nat} (h:n∈z1g l):n∈z3r l:=by
 induction l with
 | nil=>simp [z1g] at h
 | cons v r ih=>
  simp only [z3r,v0k];cases v <;> simp only [z1g,v15] at h <;> first | exact .inr (ih h) | skip
  rcases h with h | h
  ·exact .inl (by simp [z8q,h])
  ·exact .inr (ih h)
theorem z9i {o o':Store}:∀ {l:List Nat},Agree o o' l→z0k o' l=z0k o l
 | [],_=>rfl
 | n :: r,h=>by
  simp only [z0k];rw [h n (v0a ..),z9i (l:=r) (fun m hm=>h m (v0b _ hm))]
theorem zk1 {o o':Store} {place:Nat→Option (Nat × Nat)}:∀ {cs:List V} {l:List (Nat × V)},(∀ i v,(i,v)∈l→Agree o o' (zae v))→zio o' place cs l=zio o place cs l
 | cs,[],_=>rfl
 | cs,(i,v) :: r,h=>by
  simp only [zio];have h1:okV o' v=okV o v:=zrt (fun n hn=>h i v (v0a ..) n (z8g hn))
  rw [h1]
  split
  ·split
   ·exact zk1 (fun i v hv=>h i v (v0b _ hv))
   ·rfl
  ·rfl
theorem zcc {o o':Store} {d e:Nat} {ag:Bool} {ks:List Kd} {bytes:Nat} {s:V} {l:List IV} (h:Agree o o' (z8q s)):zc4 o' d e ag ks bytes s l=zc4 o d e ag ks bytes s l:=by
 cases s <;> simp only [zc4]
 rw [h _ (by simp [z8q])]
theorem zf0 {o:Store} {n m:Nat} {cs:List V}:∀ {l:List Nat},n∈l→z04 o n=some (.box cs)→m∈z3r cs→m∈y0d o l
 | x :: r,hn,ho,hm=>by
  simp only [y0d];rcases v15.1 hn with h | h
  ·subst h
   rw [ho];exact v2z _ hm
  ·have:=zf0 h ho hm
   split
   ·exact v2u _ this
   ·exact this
theorem zyy {o o':Store} {d et:Nat} {e:TI} {tk:List Kd} {s x:V} (h:Agree o o' (z8q s)):zmg o' d et e tk s x=zmg o d et e tk s x:=by
 unfold zmg;simp only [zcc h]
theorem zy6 {o o':Store} {d et:Nat} {e:TI} {s x:V} (h:Agree o o' (z8q s)) (h':Agree o o' (z8q x++y0d o (z8q x))):zjm o' d et e s x=zjm o d et e s x:=by
 have gen:(match zf5 o' x,zcw o' x with
   | some l,some (ag,ks)=>match zto (.list e.agg e.ks) (.list ag ks) with
    | true=>zc4 o' d et e.agg e.ks e.bytes s l
    | false=>.no
   | _,_=>.no)=(match zf5 o x,zcw o x with
   | some l,some (ag,ks)=>match zto (.list e.agg e.ks) (.list ag ks) with
    | true=>zc4 o d et e.agg e.ks e.bytes s l
    | false=>.no
   | _,_=>.no):=by
  simp only [zlv h'.left,zl0 h'.left,zcc h]
 cases x
 case bview n c cap sz len=>
  simp only [zjm];rw [h' n (by simp [z8q])]
  split
  ·rename_i cs ho
   simp only [zcc h]
   split
   ·congr 1
    funext m
    rw [zf3 (o:=o) (o':=o')];intro k hk;rw [zaz] at hk;exact h' k (v2u _ (zf0 (by simp [z8q]) ho (zrl (fun v hv=>v2o hv) hk)))
   ·rfl
  ·rfl
 case zs=>simp only [zjm,zcc h]
 all_goals exact gen
theorem zi0 {o o':Store} {bs:List V} {tk:Option Kd} {v:V} (h:Agree o o' (z8q v)):z8p o' bs tk v=z8p o bs tk v:=by
 cases v <;> simp only [z8p]
 all_goals rw [h _ (by simp [z8q])]
theorem zmh {o o':Store} {bs:List V}:∀ {l:List V} {ks:List Kd},Agree o o' (z3r l)→y4k (fun k v=>zeo (z8p o' bs k v)) ks l=y4k (fun k v=>zeo (z8p o bs k v)) ks l
 | [],ks,_=>by cases ks <;> rfl
 | v :: l,[],h=>by simp only [y4k,zi0 h.left,zmh (l:=l) h.right]
 | v :: l,k :: ks,h=>by simp only [y4k,zi0 h.left,zmh (l:=l) h.right]
theorem ziv {o o':Store} {bs:List V} {tk:Option Kd}:∀ {l:List V},Agree o o' (z3r l)→l.map (z8p o' bs tk)=l.map (z8p o bs tk)
 | [],_=>rfl
 | v :: l,h=>by simp only [v0d,zi0 h.left,ziv (l:=l) h.right]
theorem zvk {o o':Store} {bs:List V} {ks:List Kd} {v:V} (h:Agree o o' (zae v)):y4l o' bs ks v=y4l o bs ks v:=by
 by_cases ha:∃ l,v = .agg l
 ·obtain ⟨l,rfl⟩:=ha
  simp only [y4l,zmh (o:=o) (o':=o') h]
 by_cases hc:∃ f l,v = .clo f l
 ·obtain ⟨f,l,rfl⟩:=hc
  simp only [y4l,ziv (o:=o) (o':=o') (l:=l) (fun n hn=>h n (zmc hn))]
 have h1:∀ o,y4l o bs ks v=z8p o bs ks.head? v:=by
  intro o;cases v <;> first | rfl | exact absurd ⟨_,rfl⟩ ha | exact absurd ⟨_,_,rfl⟩ hc
 rw [h1,h1];exact zi0 (fun n hn=>h n (z8g hn))
theorem zjs {o o':Store} {bs:List V}:∀ {l:List V} {tks:List (List Kd)},Agree o o' (z4i l)→z5y o' bs tks l=z5y o bs tks l
 | [],tks,_=>by cases tks <;> rfl
 | v :: l,[],h=>by simp only [z5y,zvk h.left,zjs (l:=l) h.right]
 | v :: l,t :: ts,h=>by simp only [z5y,zvk h.left,zjs (l:=l) h.right]
theorem y5r {o o':Store} {all:List Nat} {v:V} (h:Agree o o' (z8q v)):z3y o' all v=z3y o all v:=by
 cases v <;> simp only [z3y]
 rw [h _ (by simp [z8q])]
theorem zho {o o':Store} {all:List Nat}:∀ {l:List V},Agree o o' (z3r l)→l.map (z3y o' all)=l.map (z3y o all)
 | [],_=>rfl
 | v :: l,h=>by simp only [v0d,y5r h.left,zho (l:=l) h.right]
theorem zon {o o':Store} {all:List Nat}:∀ {l:List V},Agree o o' (z3r l)→z4b o' all l=z4b o all l
 | [],_=>rfl
 | v :: l,h=>by
  have ih:=zon (all:=all) (l:=l) h.right;cases v <;> simp only [z4b,ih]
  rw [h.left _ (by simp [z8q])]
theorem zpa {o o':Store} {all:List Nat}:∀ {l:List V},Agree o o' (z3r l)→z5n o' all l=z5n o all l
 | [],_=>rfl
 | v :: l,h=>by
  have ih:=zpa (all:=all) (l:=l) h.right;cases v <;> simp only [z5n,ih]
  rw [h.left _ (by simp [z8q])]
theorem y9t {v:V} {n:Nat} (h:n∈zgb v):n∈zae v:=by
 cases v <;> simp only [zgb] at h <;> try (cases h; done)
 case row=>simpa [zae,z8q] using h
 case agg=>exact z93 h
 case clo=>exact zmc (z93 h)
 case tup l=>
  simp only [zae]
  induction l with
  | nil=>simp [zgb.go] at h
  | cons v r ih=>
   cases v <;> simp only [zgb.go,zae.go,v15,v0k] at h ⊢ <;> first | exact .inr (ih h) | skip
   ·rcases h with h | h
    ·exact .inl (by simp [z8q,h])
    ·exact .inr (ih h)
   ·rcases h with h | h
    ·exact .inl (z93 h)
    ·exact .inr (ih h)
theorem zjt:∀ {l:List V} {n:Nat},n∈z1e l→n∈z4i l
 | v :: l,n,h=>by
  simp only [z1e,z4i,v0k] at h ⊢
  exact h.imp y9t zjt
theorem zhi:∀ {l:List V} {n:Nat},n∈zdg l→n∈z4i l
 | v :: l,n,h=>by
  simp only [z4i,v0k];cases v <;> simp only [zdg,v15,v0k] at h <;> first | exact .inr (zhi h) | skip
  ·rcases h with h | h
   ·exact .inl (by simp [zae,z8q,h])
   ·exact .inr (zhi h)
  ·rename_i f caps
   rcases h with h | h
   ·refine .inl ?_
    simp only [zae];refine zmc ?_;clear zhi
    induction caps with
    | nil=>simp [zdg.lentC] at h
    | cons v r ih=>
     simp only [z3r,v0k];cases v <;> simp only [zdg.lentC,v15] at h <;> first | exact .inr (ih h) | skip
     rcases h with h | h
     ·exact .inl (by simp [z8q,h])
     ·exact .inr (ih h)
   ·exact .inr (zhi h)
theorem zs4 {o o':Store} {d:Nat} {tks:List (List Kd)} {sp:z0q} {vs:List V} (h:Agree o o' (z4i vs++y0d o (z4i vs))):y2h o' d tks sp vs=y2h o d tks sp vs:=by
 have hA:∀ bs,z5y o' bs tks vs=z5y o bs tks vs:=fun bs=>zjs h.left
 have hF:∀ l,(∀ n∈l,n∈z4i vs++y0d o (z4i vs))→z0k o' l=z0k o l:=fun l hl=>z9i (fun n hn=>h n (hl n hn))
 have hFv:z0k o' (z1e vs)=z0k o (z1e vs):=hF _ (fun n hn=>v2z _ (zjt hn))
 have hF0:z0k o' []=z0k o []:=rfl;have hPl:zl3 o' d vs=zl3 o d vs:=by
  funext v out
  unfold zl3
  split
  ·split
   ·rename_i cs
    cases zoz cs <;> simp only [hFv,hF0]
   ·simp only [hFv]
   ·cases z3x v <;> simp only [hFv,hF0]
  ·rfl
 unfold y2h;simp only [hA,hPl]
 split
 ·rfl
 ·rename_i n hl
  have hn:n∈z4i vs:=zhi (by rw [hl]; exact v0a ..)
  rw [h n (v2z _ hn)]
  split
  ·rename_i cs ho
   have hcs:Agree o o' (z3r cs):=fun m hm=>h m (v2u _ (zf0 hn ho hm))
   have hsh:∀ m∈z5n o (z1g cs++z1e vs) cs,m∈z4i vs++y0d o (z4i vs):=by
    intro m hm;obtain ⟨lo,hi,_,_,_,_,_,h1,_⟩:=zi6 hm;exact v2u _ (zf0 hn ho (z93 (zat h1)))
   have hBx:y2m o' d n cs vs=y2m o d n cs vs:=by
    funext v outs
    unfold y2m;rw [zon hcs,zpa hcs]
    split
    ·rename_i out
     have h1:z0k o' (z5n o (z1g cs++z1e vs) cs++z1e vs)=z0k o (z5n o (z1g cs++z1e vs) cs++z1e vs):=hF _ (fun m hm=>(v0k.1 hm).elim (hsh m) (fun hm=>v2z _ (zjt hm)))
     have h2:z0k o' (z5n o (z1g cs++z1e vs) cs++[])=z0k o (z5n o (z1g cs++z1e vs) cs++[]):=hF _ (fun m hm=>hsh m (by simpa using hm))
     cases (z3x v||zoz out) <;> simp only [h1,h2]
    ·rfl
   rw [zho hcs,hBx]
  ·have hBd:y11 o' n vs=y11 o n vs:=by
    funext v outs
    unfold y11
    split
    ·cases z3x v <;> simp only [hFv,hF0]
    ·rfl
   rw [hBd]
  ·rfl
 ·rfl
theorem zom {o o':Store} {l:List V} (h:Agree o o' (z4i l)):ztd o' l=ztd o l:=by
 unfold ztd
 split
 ·rfl
 ·rename_i f m i c
  rw [h m (by simp [z4i,zae,zae.go,z8q])]
 ·rfl
theorem ydp {o o':Store} {d:Option Nat} {p:Ip} {vs:List V} (h:Agree o o' (z4i vs)):ipT o' d p vs=ipT o d p vs:=by
 unfold ipT
 split
 ·rename_i n lo hi rest
  rw [h n (by simp [z4i,zae,z8q]),zom (fun k hk=>h k (by simp only [z4i,v0k]; exact .inr hk))]
 ·rename_i rest
  rw [zom (fun k hk=>h k (by simp only [z4i,v0k]; exact .inr hk))]
 ·rfl
theorem zrv:∀ (cs:List V) (n:Nat) (vs:List V) {m:Nat},m∈z3r (zi9 cs n vs)→m∈z3r cs∨m∈z3r vs
 | cs,n,[],m,h=>by cases cs <;> cases n <;> exact .inl h
 | [],n,v :: vs,m,h=>by cases n <;> simp [zi9,z3r] at h
 | c :: r,0,v :: vs,m,h=>by
  simp only [zi9,z3r,v0k] at h ⊢
  rcases h with h | h
  ·exact .inr (.inl h)
  ·rcases zrv r 0 vs h with h | h
   ·exact .inl (.inr h)
   ·exact .inr (.inr h)
 | c :: r,n+1,v :: vs,m,h=>by
  simp only [zi9,z3r,v0k] at h ⊢
  rcases h with h | h
  ·exact .inl (.inl h)
  ·rcases zrv r n (v :: vs) h with h | h
   ·exact .inl (.inr h)
   ·exact .inr (by simpa [z3r] using h)
theorem zx0 {v:V} {m:Nat} (h:m∈z3r (cells v)):m∈zae v:=by
 by_cases ha:∃ l,v = .agg l
 ·obtain ⟨l,rfl⟩:=ha
  exact h
 ·have:cells v=[v]:=by cases v <;> first | rfl | exact absurd ⟨_,rfl⟩ ha
  rw [this] at h;exact z8g (by simpa [z3r] using h)
theorem zch {l:List V} {v:V} {n:Nat} (hv:v∈l) (hn:n∈zae v):n∈z4i l:=by
 induction l with
 | nil=>cases hv
 | cons u r ih=>
  simp only [z4i,v0k];rcases v15.1 hv with h | h
  ·subst h; exact .inl hn
  ·exact .inr (ih h)
theorem zwd {o:Store} {place:Nat→Option (Nat × Nat)}:∀ {l:List (Nat × V)} {cs cs':List V},zio o place cs l=some cs'→∀ m∈z3r cs',m∈z3r cs∨∃ i v,(i,v)∈l∧m∈zae v
 | [],cs,cs',h,m,hm=>by
  simp only [zio,v00] at h;subst h;exact .inl hm
 | (i,v) :: r,cs,cs',h,m,hm=>by
  simp only [zio] at h
  split at h
  ·split at h
   ·rcases zwd h m hm with h1 | ⟨j,u,h1,h2⟩
    ·rcases zrv _ _ _ h1 with h2 | h2
     ·exact .inl h2
     ·exact .inr ⟨i,v,v0a ..,zx0 h2⟩
    ·exact .inr ⟨j,u,v0b _ h1,h2⟩
   ·cases h
  ·cases h
theorem zot {z:List V}:∀ {n m:Nat},m∈z3r (zcs z n)→m∈z3r z
 | 0,m,h=>by simp [zcs,z3r] at h
 | n+1,m,h=>by
  simp only [zcs,zol,v0k] at h;exact h.elim id (zot (n:=n))
theorem zn2 (ρ:Operand→V):∀ {l:List (Nat × Operand)} {i:Nat} {v:V},(i,v)∈zbf ρ l→v∈(l.map (·.2)).map ρ
 | (j,x) :: r,i,v,h=>by
  simp only [zbf,v15,v04] at h;simp only [v0d,v15];rcases h with ⟨_,rfl⟩ | h
  ·exact .inl rfl
  ·exact .inr (zn2 ρ h)
theorem zvi:∀ {l:List V} {n:Nat},n∈z4i l→∃ v∈l,n∈zae v
 | v :: r,n,h=>by
  simp only [z4i,v0k] at h;rcases h with h | h
  ·exact ⟨v,v0a ..,h⟩
  ·obtain ⟨u,h1,h2⟩:=zvi h
   exact ⟨u,v0b _ h1,h2⟩
theorem zzg {o:Store} {m:Nat}:∀ {l:List Nat},m∈y0d o l→∃ n∈l,∃ cs,z04 o n=some (.box cs)∧m∈z3r cs
 | n :: r,h=>by
  simp only [y0d] at h
  split at h
  ·rename_i cs ho
   rcases v0k.1 h with h | h
   ·exact ⟨n,v0a ..,cs,ho,h⟩
   ·obtain ⟨k,h1,h2⟩:=zzg h
    exact ⟨k,v0b _ h1,h2⟩
  ·obtain ⟨k,h1,h2⟩:=zzg h
   exact ⟨k,v0b _ h1,h2⟩
theorem y7d {o:Store} {l l':List Nat} (hs:∀ k∈l,k∈l') {n:Nat} (h:n∈y0d o l):n∈y0d o l':=by
 obtain ⟨k,h1,cs,h2,h3⟩:=zzg h;exact zf0 (hs k h1) h2 h3
theorem ycj {v:V} {n:Nat}:∀ {l:List V},zsj l=true→v∈l→n∈zae v→n∈zae.go l
 | u :: r,hok,hv,hn=>by
  rcases v15.1 hv with h | h
  ·subst h
   cases v <;> simp only [zsj] at hok <;> first | (cases hok; done) | (simp only [zae,z8q] at hn; simp only [zae.go,z8q,v0k]; first | exact .inl hn | (cases hn; done))
  ·have hr:zsj r=true:=by cases u <;> simp only [zsj] at hok <;> first | exact hok | (cases hok; done)
   have:=ycj hr h hn
   cases u <;> simp only [zae.go,v0k] <;> exact .inr this
theorem zws {E:Env} {o o':Store} {ρ:Operand→V} {d:Option Nat} {op:Op} (h:Agree o o' (reads E o ρ op)):z4y E o' ρ d op=z4y E o ρ d op:=by
 cases hq:yj6 op with
 | true=>cases op <;> first | rfl | cases hq
 | false=>
 unfold reads at h;rw [hq] at h;replace h:Agree o o' (y7w E o ρ op):=h;unfold y7w at h;have hz:=h.left.right;have hd:=h.right;have hv:=h.left.left;clear h;have one:∀ {x:Operand} {n:Nat},x∈op.operands.toList→n∈zae (ρ x)→z04 o' n=z04 o n:=fun hx hn=>hv _ (zch (v35 hx) hn)
 have two:∀ {x:Operand} {n:Nat} {cs:List V},x∈op.operands.toList→n∈zae (ρ x)→z04 o n=some (.box cs)→Agree o o' (z3r cs):=fun hx hn ho m hm=>hd _ (zf0 (zch (v35 hx) hn) ho hm)
 cases op
 case box t x=>
  simp only [z4y];rw [zrt (fun n hn=>one (x:=x) (by simp [Op.operands]) (z8g hn))]
 case build t parts=>
  have hp:∀ i v,(i,v)∈zbf ρ parts.toList→Agree o o' (zae v):=fun i v hm n hn=>hv _ (zch (by have:=zn2 ρ hm; simpa [Op.operands] using this) hn)
  simp only [z4y,zk1 hp]
 case buildSlice t len parts=>
  have hp:∀ i v,(i,v)∈zbf ρ parts.toList→Agree o o' (zae v):=fun i v hm n hn=>hv _ (zch (by have:=zn2 ρ hm; simpa [Op.operands] using this) hn)
  simp only [z4y]
  split
  ·rename_i d e hd1
   simp only [zzn,hd1] at hz;rw [zk1 hp]
   split
   ·rename_i cs hf
    have hcs:Agree o o' (z3r cs):=by
     intro m hm;rcases zwd hf m hm with h1 | ⟨i,v,h1,h2⟩
     ·exact hz m (zot h1)
     ·exact hp i v h1 m h2
    rw [zf3 hcs,z9i (fun m hm=>hcs m (z93 hm))]
   ·rfl
  ·rfl
 case load t x=>
  simp only [z4y]
  split
  ·rename_i n i c hx
   rw [one (x:=x) (by simp [Op.operands]) (by rw [hx]; simp [zae,z8q])]
  ·rfl
  ·rfl
 case nilCheck x=>
  simp only [z4y]
  split
  ·rename_i n i c hx
   rw [one (x:=x) (by simp [Op.operands]) (by rw [hx]; simp [zae,z8q])]
  ·rfl
 case fieldAddr s x f=>
  simp only [z4y]
  split
  ·split
   ·split
    ·rename_i n i c hx
     rw [one (x:=x) (by simp [Op.operands]) (by rw [hx]; simp [zae,z8q])]
    ·rfl
    ·rfl
   ·rfl
  ·rfl
 case binOp op t x y t'=>
  simp only [z4y];unfold ykl
  split <;> try rfl
  rename_i n i c hx hy;rw [one (x:=x) (by simp [Op.operands]) (by rw [hx]; simp [zae,z8q])]
 case convert s t x=>
  simp only [z4y]
  split <;> try rfl
  rw [zlv (fun n hn=>one (x:=x) (by simp [Op.operands]) (z8g hn)),zl0 (fun n hn=>one (x:=x) (by simp [Op.operands]) (z8g hn))]
 case slice t x lo hi mx=>
  simp only [z4y]
  split <;> try rfl
  ·rename_i n a b hx
   rw [one (x:=x) (by simp [Op.operands]) (by rw [hx]; simp [zae,z8q])]
  ·rename_i n a c hx
   rw [one (x:=x) (by simp [Op.operands]) (by rw [hx]; simp [zae,z8q])]
 case indexAddr t x ix=>
  simp only [z4y]
  split
  ·split
   ·rfl
   ·rename_i n lo hi hx
    rw [one (x:=x) (by simp [Op.operands]) (by rw [hx]; simp [zae,z8q])]
   ·rename_i n c cap sz len hx
    rw [one (x:=x) (by simp [Op.operands]) (by rw [hx]; simp [zae,z8q])]
   ·rfl
  ·split
   ·rename_i n i0 c hx
    rw [one (x:=x) (by simp [Op.operands]) (by rw [hx]; simp [zae,z8q])]
   ·rfl
   ·rfl
  ·rfl
 case store t p x=>
  simp only [z4y];have hx:Agree o o' (zae (ρ x)):=fun n hn=>one (x:=x) (by simp [Op.operands]) hn
  have hc:Agree o o' (z3r (cells (ρ x))):=fun n hn=>hx n (zx0 hn)
  unfold zgt
  split
  ·rename_i n i c hp
   rw [one (x:=p) (by simp [Op.operands]) (by rw [hp]; simp [zae,z8q]),zrt (fun n hn=>hx n (z8g hn)),zka hc,z9i (fun m hm=>hc m (z93 hm))]
   simp only [z8e hc]
  ·rfl
 case makeSlice t n m=>
  simp only [z4y]
  split
  ·rename_i d e k1 n1 k2 m1 hd1 _ _
   simp only [zzn,hd1] at hz;rw [zf3 hz]
   split
   ·rw [z9i (fun m hm=>hz m (z93 hm))]
   ·rfl
  ·rfl
 case call c=>
  obtain ⟨callee,args,ats⟩:=c;simp only [z4y,zkj];have hmem:∀ {x:Operand},x∈args.toList→x∈(Op.call ⟨callee,args,ats⟩).operands.toList:=fun {x} hx=>by
   simp only [Op.operands,Call.operands,v2b,v0k];exact .inr hx
  have harg:∀ {x:Operand},x∈args.toList→Agree o o' (zae (ρ x)):=fun {x} hx n hn=>one (x:=x) (hmem hx) hn
  have hdp:∀ {x:Operand},x∈args.toList→Agree o o' (z8q (ρ x)++y0d o (z8q (ρ x))):=fun {x} hx n hn=>by
   rcases v0k.1 hn with hn | hn
   ·exact harg hx n (z8g hn)
   ·refine hd n (y7d (fun k hk=>zch (v35 (hmem hx)) (z8g hk)) hn)
  have hsub:∀ (l:List V),(∀ v∈l,∃ y∈(Op.call ⟨callee,args,ats⟩).operands.toList,∀ n∈zae v,n∈zae (ρ y))→Agree o o' (z4i l++y0d o (z4i l)):=by
   intro l hl n hn;have h1:∀ k∈z4i l,k∈z4i ((Op.call ⟨callee,args,ats⟩).operands.toList.map ρ):=by
    intro k hk;obtain ⟨v,hv1,hv2⟩:=zvi hk;obtain ⟨y,hy1,hy2⟩:=hl v hv1;exact zch (v35 hy1) (hy2 k hv2)
   rcases v0k.1 hn with hn | hn
   ·exact hv n (h1 n hn)
   ·exact hd n (y7d h1 hn)
  split
  ·split
   ·rename_i x t hx _
    have hxm:x∈args.toList:=by rw [hx]; simp
    have:=hdp hxm
    unfold ykc
    split <;> try rfl
    ·rename_i n lo hi hr
     rw [this.left n (by rw [hr]; simp [z8q])]
    ·rename_i n c cap sz len hr
     rw [this.left n (by rw [hr]; simp [z8q])]
   ·rfl
  ·split
   ·rename_i s x t t' hx _
    have hsm:s∈args.toList:=by rw [hx]; simp
    have hxm:x∈args.toList:=by rw [hx]; simp
    simp only [zy6 (hdp hsm).left (hdp hxm),zyy (hdp hsm).left]
   ·rfl
  ·split
   ·rename_i x y t t' hx _
    have hxm:x∈args.toList:=by rw [hx]; simp
    have hym:y∈args.toList:=by rw [hx]; simp
    unfold yf0
    split
    ·rename_i n c cap sz len n' c' cap' sz' len' h1 h2
     rw [(hdp hxm).left n (by rw [h1]; simp [z8q]),(hdp hym).left n' (by rw [h2]; simp [z8q])]
     split
     ·rename_i cs cs' e ho ho' hde
      rw [zka (o:=o) (o':=o') (l:=cs') (fun m hm=>(hdp hym).right m (zf0 (by rw [h2]; simp [z8q]) ho' hm))]
     ·rfl
    ·rfl
   ·rfl
  ·rfl
  ·rfl
  ·rename_i f d hcal
   have hs:=hsub (args.toList.map ρ) (fun v hv=>by
    obtain ⟨y,hy,rfl⟩:=List.mem_map.1 hv;exact ⟨y,hmem hy,fun n hn=>hn⟩)
   unfold yhu;rw [zsp]
   split
   ·rw [ydp hs.left]
   ·split
    ·rw [zs4 hs]
    ·rfl
  ·split
   ·rename_i f caps hx
    split
    ·rename_i hok
     rw [zsp,zs4 (hsub _ (fun v hv=>by
      rcases v0k.1 hv with hv | hv
      ·obtain ⟨y,hy,rfl⟩:=List.mem_map.1 hv
       exact ⟨y,hmem hy,fun n hn=>hn⟩
      ·refine ⟨_,by simp only [Op.operands,Call.operands,v2b,v0k]; exact .inl (v0a ..),fun n hn=>?_⟩
       rw [hx];simp only [zae];exact ycj hok hv hn))]
    ·rfl
   ·rfl
  ·rfl
 case makeFunc f a b=>cases f <;> rfl
 all_goals rfl
open Go Go.RowKit
theorem zgo {ρ ρ':Operand→V}:∀ {l:List (Nat × Operand)},(∀ x∈l.map (·.2),ρ x=ρ' x)→zbf ρ l=zbf ρ' l
 | [],_=>rfl
 | (i,x) :: r,h=>by
  simp only [zbf,h x (by simp),zgo (l:=r) (fun y hy=>h y (v0b _ hy))]
theorem zo1 {ρ ρ':Operand→V}:∀ {l:List Operand},(∀ x∈l,ρ x=ρ' x)→zwt ρ l=zwt ρ' l
 | [],_=>rfl
 | x :: r,h=>by simp only [zwt,h x (v0a ..),zo1 (l:=r) (fun y hy=>h y (v0b _ hy))]
theorem zp6 {ρ ρ':Operand→V} {x:Option Operand} (h:∀ y∈x.toArray.toList,ρ y=ρ' y):x.map ρ=x.map ρ':=by
 cases x with
 | none=>rfl
 | some x=>simp only [v2f,h x (by simp)]
theorem y95 {E:Env} {o:Store} {ρ ρ':Operand→V} {d:Option Nat} {op:Op} (h:∀ x∈op.operands.toList,ρ x=ρ' x):z4y E o ρ d op=z4y E o ρ' d op:=by
 cases op
 case build t ps=>simp only [z4y,zgo (l:=ps.toList) (fun x hx=>h x (by simpa [Op.operands] using hx))]
 case buildSlice t n ps=>simp only [z4y,zgo (l:=ps.toList) (fun x hx=>h x (by simpa [Op.operands] using hx))]
 case makeFunc f first caps=>
  cases f <;> simp only [z4y]
  rw [zo1 (l:=caps.toList) (fun x hx=>h x (by simp only [Op.operands,v2b,v0k]; exact .inr hx))]
 case slice t x lo hi mx=>
  have h1:ρ x=ρ' x:=h x (by simp [Op.operands])
  have h2:lo.map ρ=lo.map ρ':=zp6 (fun y hy=>h y (by simp only [Op.operands,v2b,v0k]; exact .inl (.inl (.inr hy))))
  have h3:hi.map ρ=hi.map ρ':=zp6 (fun y hy=>h y (by simp only [Op.operands,v2b,v0k]; exact .inl (.inr hy)))
  simp only [z4y,h1,h2,h3]
 case call c=>
  obtain ⟨callee,args,ats⟩:=c;have ha:∀ x∈args.toList,ρ x=ρ' x:=fun x hx=>h x (by simp only [Op.operands,Call.operands,v2b,v0k]; exact .inr hx)
  have hm:zwt ρ args.toList=zwt ρ' args.toList:=zo1 ha;simp only [z4y,zkj]
  split
  ·split
   ·rename_i x t hx _
    rw [ha x (by rw [hx]; simp)]
   ·rfl
  ·split
   ·rename_i s x t t' hx _
    rw [ha s (by rw [hx]; simp),ha x (by rw [hx]; simp)]
   ·rfl
  ·split
   ·rename_i x y t t' hx _
    rw [ha x (by rw [hx]; simp),ha y (by rw [hx]; simp)]
   ·rfl
  ·simp only [hm]
  ·simp only [hm]
  ·simp only [hm]
  ·rename_i x _ _
   have hxx:ρ x=ρ' x:=h x (by simp [Op.operands,Call.operands])
   simp only [hm,hxx]
  ·rfl
 all_goals first
  | rfl
  | (simp only [Op.operands] at h; simp only [z4y]; simp (config:={decide:=false}) only [v15,v1t,v3n,forall_eq_or_imp,forall_eq] at h; simp only [h])
structure SEq (s s':St):Prop where
 t:∀ i,s.get i=s'.get i
 o:∀ n,z04 s.o n=z04 s'.o n
theorem SEq.refl (s:St):SEq s s:=⟨fun _=>rfl,fun _=>rfl⟩
theorem SEq.symm {s s':St} (h:SEq s s'):SEq s' s:=⟨fun i=>(h.t i).symm,fun n=>(h.o n).symm⟩
theorem SEq.trans {a b c:St} (h:SEq a b) (k:SEq b c):SEq a c:=⟨fun i=>(h.t i).trans (k.t i),fun n=>(h.o n).trans (k.o n)⟩
theorem SEq.opd {s s':St} (h:SEq s s'):opd s=opd s':=by
 funext x
 cases x <;> simp only [FM.opd,h.t]
theorem SEq.put {s s':St} (h:SEq s s') (d:Option Nat) (v:V):SEq (s.put d v) (s'.put d v):=by
 cases d with
 | none=>exact h
 | some d=>exact ⟨fun i=>by simp only [St.put,St.get,zaw]; split <;> first | rfl | exact h.t i,h.o⟩
theorem yhk (s:St) (d:Nat) (v:V) (i:Nat):(s.put (some d) v).get i=if d=i then v else s.get i:=by simp only [St.put,St.get,zaw]
theorem SEq.up {s s':St} (h:SEq s s') (u:Upd):SEq (s.up u) (s'.up u):=by
 cases u with
 | new n ob=>exact ⟨fun i=>by rw [zed,zed,h.t],fun m=>by rw [z0d,z0d,h.o]⟩
 | set n ob=>exact ⟨h.t,fun m=>by simp only [St.up,z01,h.o]⟩
 | kill n=>exact ⟨h.t,fun m=>by simp only [St.up,z01,h.o]⟩
theorem SEq.ups:∀ {us:List Upd} {s s':St},SEq s s'→SEq (s.ups us) (s'.ups us)
 | [],_,_,h=>h
 | u :: r,_,_,h=>SEq.ups (us:=r) (h.up u)
theorem SEq.lit {s:St} {j:Nat} {b:Bool} (h:s.get j = .bool b):SEq s (y8t s j b):=
 ⟨fun i=>by
  simp only [y8t,St.get,zaw]
  split
  ·rename_i e; subst e; exact h
  ·rfl,fun _=>rfl⟩
theorem zi3:∀ {us:List Upd} {o o':Store},(∀ n,z04 o n=z04 o' n)→∀ n,z04 (zum us o) n=z04 (zum us o') n
 | [],_,_,h=>h
 | .set m ob :: r,o,o',h=>zi3 (us:=r) (fun n=>by rw [z01,z01,h])
 | .new m ob :: r,o,o',h=>zi3 (us:=r) (fun n=>by rw [z01,z01,h])
 | .kill m :: r,o,o',h=>zi3 (us:=r) (fun n=>by rw [z01,z01,h])
theorem zdm:∀ {us:List Upd} {o:Store} {n:Nat},n ∉ z72 us→z04 (zum us o) n=z04 o n
 | [],_,_,_=>rfl
 | .set m ob :: r,o,n,h=>by
  simp only [z72,v15,not_or] at h;rw [zum,zdm h.2,z01,v10 (fun e=>h.1 e.symm)]
 | .new m ob :: r,o,n,h=>by
  simp only [z72,v15,not_or] at h;rw [zum,zdm h.2,z01,v10 (fun e=>h.1 e.symm)]
 | .kill m :: r,o,n,h=>by
  simp only [z72,v15,not_or] at h;rw [zum,zdm h.2,z01,v10 (fun e=>h.1 e.symm)]
theorem y51:∀ {us:List Upd} {o o':Store} {n:Nat},n∈z72 us→z04 (zum us o) n=z04 (zum us o') n
 | [],_,_,_,h=>by simp [z72] at h
 | u :: r,o,o',n,h=>by
  by_cases hr:n∈z72 r
  ·cases u <;> simp only [zum] <;> exact y51 hr
  ·cases u <;> simp only [z72,v15,hr,v3n] at h <;> subst h <;> simp only [zum] <;> rw [zdm hr,zdm hr,z01,z01,v1f rfl,v1f rfl]
theorem SEq.apD {s s':St} (h:SEq s s') (x:Dn):SEq (apD s x) (apD s' x):=⟨(h.put x.dst x.v).t,zi3 h.o⟩
theorem SEq.apDs:∀ {l:List Dn} {s s':St},SEq s s'→SEq (apDs s l) (apDs s' l)
 | [],_,_,h=>h
 | x :: r,_,_,h=>SEq.apDs (l:=r) (h.apD x)
theorem zji:∀ (l l':List Dn) (s:St),apDs s (l++l')=apDs (apDs s l) l'
 | [],_,_=>rfl
 | x :: r,l',s=>zji r l' (apD s x)
theorem yd9 {n:Nat} {v:V} (hc:zwq v=true) (hn:n ∉ z8q v):z2n.leaf n v=v:=by
 cases v <;> simp only [zwq] at hc <;> first | (cases hc; done) | rfl | skip
 ·simp only [z8q,v28] at hn
  simp only [z2n.leaf,z4c.2 (fun e=>hn e.symm)]
 ·simp only [z8q,v28] at hn
  simp only [z2n.leaf,z4c.2 (fun e=>hn e.symm)]
theorem zkr {n:Nat}:∀ {l:List V},zo4 l=true→n ∉ z3r l→l.map (z2n.leaf n)=l
 | [],_,_=>rfl
 | v :: r,hc,hn=>by
  simp only [zo4] at hc
  split at hc
  ·rename_i h1
   simp only [z3r,v0k,not_or] at hn;simp only [v0d,yd9 h1 hn.1,zkr hc hn.2]
  ·cases hc
theorem zn6 {n:Nat}:∀ {l:List V},zh3.go l=true→n ∉ zae.go l→l.map (z2n.leaf2 n)=l
 | [],_,_=>rfl
 | v :: r,hc,hn=>by
  by_cases ha:∃ l,v = .agg l
  ·obtain ⟨l,rfl⟩:=ha
   simp only [zh3.go] at hc
   split at hc
   ·rename_i h1
    simp only [zae.go,v0k,not_or] at hn;simp only [v0d,z2n.leaf2,zkr h1 hn.1,zn6 hc hn.2]
   ·cases hc
  ·have h0:z2n.leaf2 n v=z2n.leaf n v:=by cases v <;> first | rfl | exact absurd ⟨_,rfl⟩ ha
   have h1:zwq v=true∧zh3.go r=true:=by
    cases v <;> simp only [zh3.go,zwq] at hc ⊢ <;> first | (simp at hc; done) | (simpa using hc) | (cases hc; done) | exact absurd ⟨_,rfl⟩ ha
   have h2:n ∉ z8q v∧n ∉ zae.go r:=by
    cases v <;> simp only [zae.go,v0k,not_or] at hn <;> first | exact hn | exact absurd ⟨_,rfl⟩ ha
   simp only [v0d,h0,yd9 h1.1 h2.1,zn6 h1.2 h2.2]
theorem y8f {n:Nat} {v:V} (hc:zh3 v=true) (hn:n ∉ zae v):z2n n v=v:=by
 cases v <;> simp only [zh3] at hc <;> first | rfl | skip
 case row a b c=>simp only [zae,z8q,v28] at hn; simp only [z2n,z4c.2 (fun e=>hn e.symm)]
 case ptr a b c=>simp only [zae,z8q,v28] at hn; simp only [z2n,z4c.2 (fun e=>hn e.symm)]
 case bview a b c d e=>simp only [zae,z8q,v28] at hn; simp only [z2n,z4c.2 (fun e=>hn e.symm)]
 case agg l=>simp only [z2n,zkr hc hn]
 case tup l=>simp only [z2n,zn6 hc hn]
 case clo f l=>
  have:n ∉ z3r l:=fun h=>hn (zmc h)
  simp only [z2n,zkr hc this]
theorem y1x {n:Nat}:∀ {l:List V},zz0 l=true→n ∉ z4i l→l.map (z2n n)=l
 | [],_,_=>rfl
 | v :: r,hc,hn=>by
  simp only [zz0] at hc
  split at hc
  ·rename_i h1
   simp only [z4i,v0k,not_or] at hn;simp only [v0d,y8f h1 hn.1,y1x hc hn.2]
  ·cases hc
theorem zl6 {n:Nat} {ob:Ob} (hc:y6h ob=true) (hn:n ∉ y2v ob):z56 n (some ob)=some ob:=by
 cases ob with
 | box cs=>simp only [z56,y1x hc hn]
 | row _ _ _ _ _=>rfl
 | bld _=>rfl
theorem y8a {p:Nat→Bool} {n:Nat} (hp:p n=true) (v:V):z2n.leaf n (z3q.leaf p v)=z3q.leaf p v:=by
 cases v <;> simp only [z3q.leaf] <;> first | rfl | skip
 all_goals
  rename_i m _ _;cases hm:p m with
  | true=>rfl
  | false=>
   simp only [z2n.leaf];rw [z4c.2 (fun e=>by subst e; rw [hp] at hm; cases hm)]
theorem zi5 {p:Nat→Bool} {n:Nat} (hp:p n=true):∀ (l:List V),(z3q.go p l).map (z2n.leaf n)=z3q.go p l
 | []=>rfl
 | v :: r=>by simp only [z3q.go,v0d,y8a hp,zi5 hp r]
theorem ybk {p:Nat→Bool} {n:Nat} (hp:p n=true) (v:V):z2n.leaf2 n (z3q.leaf2 p v)=z3q.leaf2 p v:=by
 by_cases ha:∃ l,v = .agg l
 ·obtain ⟨l,rfl⟩:=ha
  simp only [z3q.leaf2,z2n.leaf2,zi5 hp]
 ·have h0:z3q.leaf2 p v=z3q.leaf p v:=by cases v <;> first | rfl | exact absurd ⟨_,rfl⟩ ha
  rw [h0]
  have:=y8a hp v
  cases hx:z3q.leaf p v <;> rw [hx] at this <;> first | exact this | skip
  exfalso;cases v <;> simp only [z3q.leaf] at hx <;> try (cases hx; done)
  all_goals (split at hx <;> cases hx)
theorem ztf {p:Nat→Bool} {n:Nat} (hp:p n=true):∀ (l:List V),(z3q.go2 p l).map (z2n.leaf2 n)=z3q.go2 p l
 | []=>rfl
 | v :: r=>by simp only [z3q.go2,v0d,ybk hp,ztf hp r]
theorem y2b {p:Nat→Bool} {n:Nat} (hp:p n=true) (v:V):z2n n (z3q p v)=z3q p v:=by
 have key:∀ m,p m=false→Nat.beq m n=false:=fun m hm=>z4c.2 (fun e=>by subst e; rw [hp] at hm; cases hm)
 cases v <;> simp only [z3q] <;> try rfl
 case row m _ _=>cases hm:p m <;> simp only [z2n,key m,hm]
 case ptr m _ _=>cases hm:p m <;> simp only [z2n,key m,hm]
 case bview m _ _ _ _=>cases hm:p m <;> simp only [z2n,key m,hm]
 case agg l=>simp only [z2n,zi5 hp]
 case tup l=>simp only [z2n,ztf hp]
 case clo f l=>simp only [z2n,zi5 hp]
theorem zz7 (f:V→V):∀ l,z84.mapV f l=l.map f
 | []=>rfl
 | v :: r=>by simp only [z84.mapV,v0d,zz7 f r]
theorem ya8 {p:Nat→Bool} {n:Nat} (hp:p n=true) (x:Option Ob):z56 n (z84 p x)=z84 p x:=by
 match x with
 | none=>rfl
 | some (.row _ _ _ _ _)=>rfl
 | some (.bld _)=>rfl
 | some (.box cs)=>
  simp only [z84,z56,zz7,v3x]
  congr 2
  exact List.map_congr_left (fun v _=>y2b hp v)
structure Fr (n:Nat) (s:St):Prop where
 t:∀ i,z2n n (s.get i)=s.get i
 o:∀ m,z56 n (z04 s.o m)=z04 s.o m
theorem Fr.congr {n:Nat} {s s':St} (h:Fr n s) (e:SEq s s'):Fr n s':=⟨fun i=>by rw [← e.t]; exact h.t i,fun m=>by rw [← e.o]; exact h.o m⟩
theorem zks {n:Nat} {l:List Nat}:zx8 n l=false↔n ∉ l:=by
 rw [← zkm]; simp
theorem zia:∀ {l l':List Nat},yft l l'=true↔∀ n∈l,n ∉ l'
 | [],l'=>by simp [yft]
 | m :: r,l'=>by
  simp only [yft];cases hb:zx8 m l' with
  | true=>simp [zkm.1 hb]
  | false=>simp [zks.1 hb,zia (l:=r)]
theorem zz4:∀ {us:List Upd} {s:St},(∀ n∈zpk us,Fr n s)→yb0 us=true→SEq (s.ups us) ⟨s.t,zum us s.o⟩
 | [],s,_,_=>SEq.refl s
 | .kill m :: r,s,hf,ho=>by
  simp only [St.ups,zum];exact zz4 (us:=r) (s:=s.up (.kill m)) (fun n hn=>⟨(hf n hn).t,fun k=>by
   simp only [St.up,z01]
   split
   ·rfl
   ·exact (hf n hn).o k⟩) ho
 | .set m ob :: r,s,hf,ho=>by
  simp only [yb0,v02] at ho;simp only [St.ups,zum];exact zz4 (us:=r) (s:=s.up (.set m ob)) (fun n hn=>⟨(hf n hn).t,fun k=>by
   simp only [St.up,z01]
   split
   ·exact zl6 ho.1 (zia.1 ho.2.1 n hn)
   ·exact (hf n hn).o k⟩) ho.2.2
 | .new m ob :: r,s,hf,ho=>by
  simp only [yb0,v02] at ho;simp only [St.ups,zum];have hm:Fr m s:=hf m (by simp [zpk])
  have e:SEq (s.up (.new m ob)) (s.up (.set m ob)):=⟨fun i=>by rw [zed,hm.t]; rfl,fun k=>by rw [z0d,hm.o]; simp only [St.up,z01]⟩
  refine (e.ups (us:=r)).trans ?_;exact zz4 (us:=r) (s:=s.up (.set m ob)) (fun n hn=>⟨(hf n (by simp [zpk,hn])).t,fun k=>by
   simp only [St.up,z01]
   split
   ·exact zl6 ho.1 (zia.1 ho.2.1 n hn)
   ·exact (hf n (by simp [zpk,hn])).o k⟩) ho.2.2
open Go Go.RowKit
def CmpP (p:Nat→Bool) (γ:Nat→Value) (o:Store) (γ':Nat→Value) (o':Store):Prop:=
 ∀ n ob',p n=false→z04 o' n=some ob'→γ' n=γ n∧∃ ob,z04 o n=some ob∧ob.fits ob'
section
variable {γ γ':Nat→Value} {o o':Store} {w:World} {O:Nat→Prop} {p:Nat→Bool}
theorem CmpP.but (hc:CmpP p γ o γ' o') {n:Nat} (hn:p n=false) {v:V} (hv:v = .any∨(∃ lo hi,v = .row n lo hi)∨(∃ i c,v = .ptr n i c)∨∃ c cap sz len,v = .bview n c cap sz len) {x:Value} (h:VRel γ o w O v x):VRel γ' o' w O v x:=by
 let f:Nat→Value:=fun m=>if m=n then γ' n else γ m
 rcases hv with rfl | ⟨lo,hi,rfl⟩ | ⟨i,c,rfl⟩ | ⟨c,cap,sz,len,rfl⟩
 ·simp only [VRel]
 ·simp only [VRel] at h ⊢
  cases h':z04 o' n with
  | none=>trivial
  | some ob'=>
   obtain ⟨hg,ob,ho,hf⟩:=hc n ob' hn h';rw [ho] at h;rw [hg];cases ob <;> cases ob' <;> simp only [Ob.fits] at hf <;> try trivial
   obtain ⟨rfl,hl⟩:=hf;exact ⟨by rw [← hl]; exact h.1,h.2⟩
 ·simp only [VRel] at h ⊢
  cases h':z04 o' n with
  | none=>trivial
  | some ob'=>
   obtain ⟨hg,ob,ho,hf⟩:=hc n ob' hn h';rw [ho] at h;rw [hg];cases ob <;> cases ob' <;> simp only [Ob.fits] at hf
   ·exact h
   ·obtain ⟨rfl,hl⟩:=hf
    exact ⟨by rw [← hl]; exact h.1,h.2⟩
   ·exact h
 ·simp only [VRel] at h ⊢
  cases h':z04 o' n with
  | none=>trivial
  | some ob'=>
   obtain ⟨hg,ob,ho,hf⟩:=hc n ob' hn h';rw [ho] at h;rw [hg];cases ob <;> cases ob' <;> simp only [Ob.fits] at hf <;> try trivial
   exact ⟨h.1,h.2.1,by rw [← hf]; exact h.2.2.1,h.2.2.2⟩
theorem y28 (hc:CmpP p γ o γ' o') {v:V} {x:Value} (h:VRel γ o w O v x):VRel γ' o' w O (z3q.leaf p v) x:=by
 cases v <;> simp only [z3q.leaf]
 case row n lo hi=>
  cases hb:p n with
  | true=>simp only [VRel]
  | false=>exact hc.but hb (.inr (.inl ⟨_,_,rfl⟩)) h
 case ptr n i c=>
  cases hb:p n with
  | true=>simp only [VRel]
  | false=>exact hc.but hb (.inr (.inr (.inl ⟨_,_,rfl⟩))) h
 all_goals first
  | (simp only [VRel] at h ⊢; exact h)
  | simp only [VRel]
theorem zf9 (hc:CmpP p γ o γ' o'):∀ {l:List V} {xs:List Value},VRels γ o w O l xs→VRels γ' o' w O (z3q.go p l) xs
 | [],[],_=>by simp only [z3q.go,VRels]
 | [],_ :: _,h=>by simp only [VRels] at h
 | _ :: _,[],h=>by simp only [VRels] at h
 | v :: vs,x :: xs,h=>by
  simp only [VRels,z3q.go] at h ⊢
  exact ⟨y28 hc h.1,zf9 hc h.2⟩
theorem yah (hc:CmpP p γ o γ' o') {v:V} {x:Value} (h:VRel γ o w O v x):VRel γ' o' w O (z3q.leaf2 p v) x:=by
 cases v <;> simp only [z3q.leaf2] <;> try exact y28 hc h
 simp only [VRel] at h ⊢
 obtain ⟨cs,hx,hr⟩:=h;exact ⟨cs,hx,zf9 hc hr⟩
theorem zoh (hc:CmpP p γ o γ' o'):∀ {l:List V} {xs:List Value},VRels γ o w O l xs→VRels γ' o' w O (z3q.go2 p l) xs
 | [],[],_=>by simp only [z3q.go2,VRels]
 | [],_ :: _,h=>by simp only [VRels] at h
 | _ :: _,[],h=>by simp only [VRels] at h
 | v :: vs,x :: xs,h=>by
  simp only [VRels,z3q.go2] at h ⊢
  exact ⟨yah hc h.1,zoh hc h.2⟩
theorem zvw (hc:CmpP p γ o γ' o') {v:V} {x:Value} (h:VRel γ o w O v x):VRel γ' o' w O (z3q p v) x:=by
 cases v <;> simp only [z3q]
 case row n lo hi=>
  cases hb:p n with
  | true=>simp only [VRel]
  | false=>exact hc.but hb (.inr (.inl ⟨_,_,rfl⟩)) h
 case ptr n i c=>
  cases hb:p n with
  | true=>simp only [VRel]
  | false=>exact hc.but hb (.inr (.inr (.inl ⟨_,_,rfl⟩))) h
 case bview n c cap sz len=>
  cases hb:p n with
  | true=>simp only [VRel]
  | false=>exact hc.but hb (.inr (.inr (.inr ⟨_,_,_,_,rfl⟩))) h
 case agg l=>
  simp only [VRel] at h ⊢
  obtain ⟨cs,hx,hr⟩:=h;exact ⟨cs,hx,zf9 hc hr⟩
 case tup l=>
  simp only [VRel] at h ⊢
  obtain ⟨cs,hx,hr⟩:=h;exact ⟨cs,hx,zoh hc hr⟩
 case clo f l=>
  simp only [VRel] at h ⊢
  obtain ⟨cs,hx,hr⟩:=h;exact ⟨cs,hx,zf9 hc hr⟩
 all_goals (simp only [VRel] at h ⊢; try exact h)
theorem zt9 (hc:CmpP p γ o γ' o'):∀ {l:List V} {xs:List Value},VRels γ o w O l xs→VRels γ' o' w O (l.map (z3q p)) xs
 | [],[],_=>by simp only [v16,VRels]
 | [],_ :: _,h=>by simp only [VRels] at h
 | _ :: _,[],h=>by simp only [VRels] at h
 | v :: vs,x :: xs,h=>by
  simp only [VRels,v0d] at h ⊢
  exact ⟨zvw hc h.1,zt9 hc h.2⟩
end
theorem zoc (p:Nat→Bool):∀ (o:Store) (n:Nat),z04 (zwo p o) n=match p n with | true=>none | false=>z84 p (z04 o n)
 | [],n=>by simp only [zwo,z04,lkd]; cases p n <;> rfl
 | (m,x) :: r,n=>by
  simp only [zwo]
  by_cases e:m=n
  ·subst e
   cases hp:p m <;> simp only [z01,v1o]
  ·cases hp:p m <;> simp only [z01,v10 e,zoc p r n]
theorem y0i {p:Nat→Bool} {x:Option Ob} {ob:Ob} (h:z84 p x=some ob):∃ ob0,x=some ob0∧z84 p (some ob0)=some ob:=by
 cases x with
 | none=>simp [z84] at h
 | some ob0=>exact ⟨ob0,rfl,h⟩
theorem zbn {p:Nat→Bool} {ob0 ob:Ob} (h:z84 p (some ob0)=some ob):ob0.fits ob∧∀ g b,z0l g ob b↔z0l g ob0 b:=by
 cases ob0 <;> simp only [z84,v00] at h <;> subst h
 ·exact ⟨by simp [Ob.fits,zz7],fun _ _=>Iff.rfl⟩
 ·exact ⟨⟨rfl,rfl⟩,fun _ _=>Iff.rfl⟩
 ·exact ⟨trivial,fun _ _=>Iff.rfl⟩
section
variable {B:BT} {nt:Nat} {w0:World} {X:Zone} {γ:Nat→Value} {st st':St} {a:Act} {w:World} {P:Program} {E:Env}
theorem Rel.less (h:Rel B nt w0 X γ st a w) {st':St} (ht:∀ i,st'.get i=st.get i∨st'.get i = .any) (ho:∀ n ob,z04 st'.o n=some ob→z04 st.o n=some ob):Rel B nt w0 X γ st' a w:=by
 have hP:∀ b,z1q γ st'.o b→z1q γ st.o b:=fun b ⟨n,ob,h1,h2⟩=>⟨n,ob,ho n ob h1,h2⟩
 have hO:∀ b,b < w.heap.size→z0a X γ st'.o b→z0a X γ st.o b:=fun b _ hb=>hb.imp_left (hP b)
 have hc:Cmp γ st.o γ st'.o:=fun n ob hn=>⟨rfl,ob,ho n ob hn,ob.fits_refl⟩
 refine ⟨h.sz,h.df,fun i=>?_,fun n ob hn=>(h.ob n ob (ho n ob hn)).later (fun _ _=>rfl) (Keep.refl _ w) hO hc,fun b hb=>h.lt b (hP b hb),fun n m ob ob' b hne h1 h2=>h.dis n m ob ob' b hne (ho n ob h1) (ho m ob' h2),h.keep,fun b hb=>h.nr b (hP b hb),h.fl,fun p hp ob h1=>h.pn p hp ob (ho _ ob h1)⟩
 rcases ht i with h1 | h1
 ·rw [h1]
  exact VRel.mono (Keep.refl _ w) hO (VRel.cmp hc (h.tm i))
 ·rw [h1]
  simp only [VRel]
theorem Rel.lit (h:Rel B nt w0 X γ st a w) {i:Nat} {v:V} (hv:st.get i=v):Rel B nt w0 X γ ⟨(i,v) :: st.t,st.o⟩ a w:=by
 refine h.less (fun j=>?_) (fun _ _ h=>h)
 simp only [St.get,zaw]
 by_cases e:i=j
 ·subst e
  simp only [v1o];exact .inl hv.symm
 ·simp only [v10 e]
  exact .inl trivial
theorem zl8:∀ (ops:List Oper) (j d:Nat),zq1 ops j=some d→(ops[j]?).bind (·.dst)=some d
 | [],j,d,h=>by simp [zq1] at h
 | o :: r,0,d,h=>by simpa [zq1] using h
 | o :: r,j+1,d,h=>by simpa [zq1] using zl8 r j d (by simpa [zq1] using h)
theorem y8y (h:Rel B nt w0 X γ st a w) {i:Nat} {c:Bool} (hv:st.get i = .bool c):a.tmps[i]?=some (.bool c):=by
 have:=h.tm i
 rw [hv] at this;simp only [VRel,v2a] at this;cases ht:a.tmps[i]? with
 | none=>rw [ht] at this; simp [undef] at this
 | some u=>rw [ht] at this; simp only [v1y] at this; rw [this]
theorem y27 (h:Rel B nt w0 X γ st a w) {i:Nat} (hv:st.get i = .tup []):a.tmps[i]?=none∨a.tmps[i]?=some (.tuple #[]):=by
 have:=h.tm i
 rw [hv] at this;simp only [VRel,v2a] at this;obtain ⟨cs,h1,h2⟩:=this;cases hl:cs.toList with
 | nil=>
  have e:cs = #[]:=by simpa using hl
  rw [e] at h1;cases ht:a.tmps[i]? with
  | none=>exact .inl rfl
  | some u=>rw [ht] at h1; simp only [v1y] at h1; rw [h1]; exact .inr rfl
 | cons x l=>rw [hl] at h2; simp only [VRels] at h2
theorem Rel.clear (h:Rel B nt w0 X γ st a w) (ds:List Nat):Rel B nt w0 X γ (zds ds st) a w:=by
 have hget:∀ n ob,z04 (zds ds st).o n=some ob→zq2 ds n=false∧∃ ob0,z04 st.o n=some ob0∧z84 (zq2 ds) (some ob0)=some ob:=by
  intro n ob hn;simp only [zds,zoc] at hn
  split at hn
  ·cases hn
  ·rename_i hp
   exact ⟨hp,y0i hn⟩
 have hP:∀ b,z1q γ (zds ds st).o b→z1q γ st.o b:=by
  rintro b ⟨n,ob,h1,h2⟩
  obtain ⟨_,ob0,h3,h4⟩:=hget n ob h1;exact ⟨n,ob0,h3,((zbn h4).2 _ _).1 h2⟩
 have hO:∀ b,b < w.heap.size→z0a X γ (zds ds st).o b→z0a X γ st.o b:=fun b _ hb=>hb.imp_left (hP b)
 have hc:CmpP (zq2 ds) γ st.o γ (zds ds st).o:=by
  intro n ob' _ hn;obtain ⟨_,ob0,h3,h4⟩:=hget n ob' hn;exact ⟨rfl,ob0,h3,(zbn h4).1⟩
 refine ⟨h.sz,h.df,fun i=>?_,fun n ob hn=>?_,fun b hb=>h.lt b (hP b hb),fun n m ob ob' b hne h1 h2 hb1 hb2=>?_,h.keep,fun b hb=>h.nr b (hP b hb),h.fl,fun p hp ob h1=>?_⟩
 ·have:(zds ds st).get i=z3q (zq2 ds) (st.get i):=by
   simp only [zds,St.get];exact zeg _ _ rfl _ _
  rw [this];exact VRel.mono (Keep.refl _ w) hO (zvw hc (h.tm i))
 ·obtain ⟨_,ob0,h3,h4⟩:=hget n ob hn
  have hor:=h.ob n ob0 h3;cases ob0 with
  | box l=>
   simp only [z84,v00] at h4;subst h4;simp only [ObRel] at hor ⊢
   obtain ⟨b,c,T,hg,hh,hr⟩:=hor;rw [zz7];exact ⟨b,c,T,hg,hh,VRels.mono (Keep.refl _ w) hO (zt9 hc hr)⟩
  | row own e ag ks l=>
   simp only [z84,v00] at h4;subst h4;exact hor.later (fun _ _=>rfl) (Keep.refl _ w) hO (fun m ob1 hm=>by
    obtain ⟨_,ob0,h5,h6⟩:=hget m ob1 hm;exact ⟨rfl,ob0,h5,(zbn h6).1⟩)
  | bld s=>
   simp only [z84,v00] at h4;subst h4
   simpa only [ObRel] using hor
 ·obtain ⟨_,ob0,h3,h4⟩:=hget n ob h1
  obtain ⟨_,ob1,h5,h6⟩:=hget m ob' h2;exact h.dis n m ob0 ob1 b hne h3 h5 (((zbn h4).2 _ _).1 hb1) (((zbn h6).2 _ _).1 hb2)
 ·obtain ⟨_,ob0,h3,_⟩:=hget _ ob h1
  exact h.pn p hp ob0 h3
theorem Rel.seq (h:Rel B nt w0 X γ st a w) (e:SEq st st'):Rel B nt w0 X γ st' a w:=
 h.less (fun i=>.inl (e.t i).symm) (fun n ob hn=>by rw [e.o]; exact hn)
end
theorem yg9 {ds:List Nat} {n:Nat} (hn:zq2 ds n=true) (s:St):Fr n (zds ds s):=by
 refine ⟨fun i=>?_,fun m=>?_⟩
 ·have:(zds ds s).get i=z3q (zq2 ds) (s.get i):=by
   simp only [zds,St.get];exact zeg _ _ rfl _ _
  rw [this];exact y2b hn _
 ·simp only [zds,zoc]
  split
  ·rfl
  ·exact ya8 hn _
def StepOK (E:Env) (all:List Oper) (o:Oper) (s:St) (D:Dn):Prop:=
 zse E o.dst=true∧D.dst=o.dst∧D.tm=zik all o ∧
 match o.guard with
 | none=>(z4y E s.o (opd s) o.dst o.op).get=some (D.v,D.us)∧D.rd=reads E s.o (opd s) o.op
 | some (j,b)=>(∃ dj c,zq1 all j=some dj∧s.get dj = .bool c ∧
  ((c=b∧(z4y E s.o (opd s) o.dst o.op).get=some (D.v,D.us)∧D.rd=reads E s.o (opd s) o.op)∨(c≠b∧D.v = .tup []∧D.us=[]))) ∨
  (∃ dj,zq1 all j=some dj∧s.get dj = .tup []∧D.v = .tup []∧D.us=[])
def Steps (E:Env) (all:List Oper):List Oper→St→List Dn→Prop
 | [],_,[]=>True
 | o :: r,s,D :: Ds=>StepOK E all o s D∧Steps E all r (apD s D) Ds
 | _,_,_=>False
theorem StepOK.congr {E:Env} {all:List Oper} {o:Oper} {s s':St} {D:Dn} (h:StepOK E all o s D) (e:SEq s s'):StepOK E all o s' D:=by
 have hag:∀ (ρ:Operand→V) d op,z4y E s'.o ρ d op=z4y E s.o ρ d op:=fun ρ d op=>zws (fun n _=>(e.o n).symm)
 have hdp:∀ l,y0d s'.o l=y0d s.o l:=by
  intro l
  induction l with
  | nil=>rfl
  | cons n r ih=>simp only [y0d,ih,e.o]
 have hrd:∀ (ρ:Operand→V) op,reads E s'.o ρ op=reads E s.o ρ op:=fun ρ op=>by unfold reads y7w; rw [hdp]
 unfold StepOK at h ⊢
 refine ⟨h.1,h.2.1,h.2.2.1,?_⟩;have h3:=h.2.2.2;rw [← e.opd];simp only [hag,hrd]
 split at h3
 ·exact h3
 ·rcases h3 with ⟨dj,c,h4,h5,h6⟩ | ⟨dj,h4,h5,h6⟩
  ·exact .inl ⟨dj,c,h4,by rw [← e.t]; exact h5,h6⟩
  ·exact .inr ⟨dj,h4,by rw [← e.t]; exact h5,h6⟩
theorem Steps.congr {E:Env} {all:List Oper}:∀ {l:List Oper} {s s':St} {Ds:List Dn},Steps E all l s Ds→SEq s s'→Steps E all l s' Ds
 | [],_,_,[],_,_=>trivial
 | [],_,_,_ :: _,h,_=>by simp [Steps] at h
 | _ :: _,_,_,[],h,_=>by simp [Steps] at h
 | o :: r,s,s',D :: Ds,h,e=>by
  simp only [Steps] at h ⊢
  exact ⟨h.1.congr e,Steps.congr h.2 (e.apD D)⟩
theorem y14 {E:Env} {all:List Oper} {res:V × List (List V)}:∀ (l:List Oper) {s:St} {acc:List Dn} {k:List Dn→St→Res},evD E all l s acc k=some res →
  ∃ Ds s',Steps E all l s Ds∧SEq s' (apDs s Ds)∧k (Ds.reverse++acc) s'=some res
 | [],s,acc,k,h=>⟨[],s,trivial,SEq.refl s,by simpa [evD] using h⟩
 | o :: r,s,acc,k,h=>by
  simp only [evD] at h;have hd:zse E o.dst=true:=by
   cases hd:zse E o.dst with
   | true=>rfl
   | false=>rw [hd] at h; cases h
  rw [hd] at h;simp only at h;have fin:∀ (s1:St) (D:Dn),SEq s s1→StepOK E all o s1 D→evD E all r (apD s1 D) (D :: acc) k=some res →
    ∃ Ds s',Steps E all (o :: r) s Ds∧SEq s' (apDs s Ds)∧k (Ds.reverse++acc) s'=some res:=by
   intro s1 D e hs he;obtain ⟨Ds,s',h1,h2,h3⟩:=y14 r he;refine ⟨D :: Ds,s',⟨hs.congr e.symm,h1.congr (e.symm.apD D)⟩,h2.trans ((e.symm.apD D).apDs),?_⟩
   simpa using h3
  split at h
  ·rename_i hg
   obtain ⟨v,us,h1,h2⟩:=T.run_some h;exact fin s _ (SEq.refl s) ⟨hd,rfl,rfl,by rw [hg]; exact ⟨h1,rfl⟩⟩ h2
  ·rename_i j b hg
   split at h
   ·rename_i dj hdj
    split at h
    ·rename_i c hc
     have hl:∀ c',(y8t s dj c').get dj = .bool c':=fun c'=>by simp [y8t,St.get,zaw]
     cases c with
     | true=>
      have e:=SEq.lit hc;cases b with
      | true=>
       simp only at h;obtain ⟨v,us,h1,h2⟩:=T.run_some h;exact fin _ _ e ⟨hd,rfl,rfl,by rw [hg]; exact .inl ⟨dj,true,hdj,hl _,.inl ⟨rfl,h1,rfl⟩⟩⟩ h2
      | false=>exact fin _ _ e ⟨hd,rfl,rfl,by rw [hg]; exact .inl ⟨dj,true,hdj,hl _,.inr ⟨by simp,rfl,rfl⟩⟩⟩ h
     | false=>
      have e:=SEq.lit hc;cases b with
      | false=>
       simp only at h;obtain ⟨v,us,h1,h2⟩:=T.run_some h;exact fin _ _ e ⟨hd,rfl,rfl,by rw [hg]; exact .inl ⟨dj,false,hdj,hl _,.inl ⟨rfl,h1,rfl⟩⟩⟩ h2
      | true=>exact fin _ _ e ⟨hd,rfl,rfl,by rw [hg]; exact .inl ⟨dj,false,hdj,hl _,.inr ⟨by simp,rfl,rfl⟩⟩⟩ h
    ·rename_i hc
     exact fin _ _ (SEq.refl s) ⟨hd,rfl,rfl,by rw [hg]; exact .inr ⟨dj,hdj,hc,rfl,rfl⟩⟩ h
    ·cases h
   ·cases h
theorem Steps.length {E:Env} {all:List Oper}:∀ {l:List Oper} {s:St} {Ds:List Dn},Steps E all l s Ds→Ds.length=l.length
 | [],_,[],_=>rfl
 | [],_,_ :: _,h=>by simp [Steps] at h
 | _ :: _,_,[],h=>by simp [Steps] at h
 | _ :: _,_,_ :: _,h=>by simp only [v05,Steps.length h.2]
theorem Steps.get {E:Env} {all:List Oper}:∀ {l:List Oper} {s:St} {Ds:List Dn} {i:Nat} {o:Oper} {D:Dn},Steps E all l s Ds→l[i]?=some o→Ds[i]?=some D→StepOK E all o (apDs s (Ds.take i)) D
 | [],_,_,_,_,_,_,h,_=>by simp at h
 | _ :: _,_,[],_,_,_,_,_,h=>by simp at h
 | o :: r,s,D :: Ds,0,_,_,h,h1,h2=>by
  simp only [v0p,v00] at h1 h2;subst h1; subst h2;exact h.1
 | o :: r,s,D :: Ds,i+1,_,_,h,h1,h2=>by
  simp only [v1h] at h1 h2;simp only [v3g,apDs];exact Steps.get h.2 h1 h2
def sel (L:Nat→Bool):Nat→List Dn→List Dn
 | _,[]=>[]
 | i,D :: r=>match L i with | true=>D :: sel L (i+1) r | false=>sel L (i+1) r
theorem zee {L L':Nat→Bool}:∀ (l:List Dn) (i:Nat),(∀ j,i≤j→j < i+l.length→L j=L' j)→sel L i l=sel L' i l
 | [],_,_=>rfl
 | D :: r,i,h=>by
  simp only [sel];rw [h i (v09 i) (by simp),zee r (i+1) (fun j h1 h2=>h j (by omega) (by simp only [v05]; omega))]
theorem zkn:∀ (l:List Dn) (i:Nat),sel (fun _=>false) i l=[]
 | [],_=>rfl
 | D :: r,i=>by simp only [sel,zkn r]
theorem ydb:∀ (l:List Dn) (i:Nat),sel (fun _=>true) i l=l
 | [],_=>rfl
 | D :: r,i=>by simp only [sel,ydb r]
theorem ygc (k:Nat):∀ (l:List Dn) (i:Nat),sel (fun j=>decide (j < i+k)) i l=l.take k
 | [],i=>by simp [sel]
 | D :: r,i=>by
  cases k with
  | zero=>
   rw [zee (L':=fun _=>false) _ _ (fun j h1 h2=>by simp; omega),zkn]
   rfl
  | succ k=>
   simp only [sel];rw [show decide (i < i+(k+1))=true by simp]
   simp only [v3g,v2s,v45]
   have:=ygc k r (i+1)
   rw [show i+(k+1)=i+1+k by omega]
   exact this
theorem zfc {L L':Nat→Bool} {n:Nat}:∀ (l:List Dn) (i:Nat) {s s':St},z04 s.o n=z04 s'.o n→(∀ j D,l[j]?=some D→n∈z72 D.us→L (i+j)=L' (i+j))→z04 (apDs s (sel L i l)).o n=z04 (apDs s' (sel L' i l)).o n
 | [],_,_,_,h,_=>h
 | D :: r,i,s,s',h,hl=>by
  have hr:∀ j E,r[j]?=some E→n∈z72 E.us→L (i+1+j)=L' (i+1+j):=fun j E hj hn=>by
   have:=hl (j+1) E (by simpa using hj) hn
   rwa [show i+(j+1)=i+1+j by omega] at this
  have one:∀ {s:St},n ∉ z72 D.us→z04 (apD s D).o n=z04 s.o n:=fun h=>zdm h
  by_cases hn:n∈z72 D.us
  ·have h0:=hl 0 D rfl hn
   simp only [v1m] at h0;simp only [sel,h0];cases L' i with
   | true=>exact zfc r (i+1) (y51 hn) hr
   | false=>exact zfc r (i+1) h hr
  ·simp only [sel]
   cases L i <;> cases L' i <;> simp only [apDs]
   ·exact zfc r (i+1) h hr
   ·exact zfc r (i+1) (h.trans (one hn).symm) hr
   ·exact zfc r (i+1) ((one hn).trans h) hr
   ·exact zfc r (i+1) ((one hn).trans (h.trans (one hn).symm)) hr
theorem zdb (s:St) (D:Dn) (t:Nat):(apD s D).get t=if D.dst=some t then D.v else s.get t:=by
 unfold apD;cases hd:D.dst with
 | none=>simp [St.put,St.get]
 | some d=>
  have:=yhk s d D.v t
  simp only [v00];exact this
theorem zfr {L L':Nat→Bool} {t:Nat}:∀ (l:List Dn) (i:Nat) {s s':St},s.get t=s'.get t→(∀ j D,l[j]?=some D→D.dst=some t→L (i+j)=L' (i+j))→(apDs s (sel L i l)).get t=(apDs s' (sel L' i l)).get t
 | [],_,_,_,h,_=>h
 | D :: r,i,s,s',h,hl=>by
  have hr:∀ j E,r[j]?=some E→E.dst=some t→L (i+1+j)=L' (i+1+j):=fun j E hj hn=>by
   have:=hl (j+1) E (by simpa using hj) hn
   rwa [show i+(j+1)=i+1+j by omega] at this
  by_cases hn:D.dst=some t
  ·have h0:=hl 0 D rfl hn
   simp only [v1m] at h0;simp only [sel,h0];cases L' i with
   | true=>exact zfr r (i+1) (by rw [zdb,zdb,v1f hn,v1f hn]) hr
   | false=>exact zfr r (i+1) h hr
  ·simp only [sel]
   cases L i <;> cases L' i <;> simp only [apDs]
   ·exact zfr r (i+1) h hr
   ·exact zfr r (i+1) (by rw [zdb,v10 hn]; exact h) hr
   ·exact zfr r (i+1) (by rw [zdb,v10 hn]; exact h) hr
   ·exact zfr r (i+1) (by rw [zdb,zdb,v10 hn,v10 hn]; exact h) hr
theorem ye8 {L:Nat→Bool} {n:Nat}:∀ (l:List Dn) (i:Nat) {s:St},Fr n s→(∀ j D,l[j]?=some D→L (i+j)=true→zh3 D.v=true∧n ∉ zae D.v∧∀ u∈D.us,∀ m ob,(u = .new m ob∨u = .set m ob)→z56 n (some ob)=some ob)→Fr n (apDs s (sel L i l))
 | [],_,_,h,_=>h
 | D :: r,i,s,h,hl=>by
  have hr:∀ j E,r[j]?=some E→L (i+1+j)=true→zh3 E.v=true∧n ∉ zae E.v∧∀ u∈E.us,∀ m ob,(u = .new m ob∨u = .set m ob)→z56 n (some ob)=some ob:=fun j E hj hn=>by
   refine hl (j+1) E (by simpa using hj) ?_
   rwa [show i+(j+1)=i+1+j by omega]
  simp only [sel];cases hL:L i with
  | false=>exact ye8 r (i+1) h hr
  | true=>
   refine ye8 r (i+1) ?_ hr;obtain ⟨h1,h2,h3⟩:=hl 0 D rfl hL;refine ⟨fun t=>?_,?_⟩
   ·rw [zdb]
    split
    ·exact y8f h1 h2
    ·exact h.t t
   ·have key:∀ (us:List Upd) (o:Store),(∀ u∈us,∀ m ob,(u = .new m ob∨u = .set m ob)→z56 n (some ob)=some ob)→(∀ m,z56 n (z04 o m)=z04 o m)→∀ m,z56 n (z04 (zum us o) m)=z04 (zum us o) m:=by
     intro us
     induction us with
     | nil=>intro o _ h; exact h
     | cons u us ih=>
      intro o hu ho;have hu':=fun u' hu'=>hu u' (v0b _ hu')
      cases u with
      | kill k=>exact ih _ hu' (fun m=>by rw [z01]; split <;> first | rfl | exact ho m)
      | set k ob=>exact ih _ hu' (fun m=>by rw [z01]; split <;> first | exact hu _ (v0a ..) k ob (.inr rfl) | exact ho m)
      | new k ob=>exact ih _ hu' (fun m=>by rw [z01]; split <;> first | exact hu _ (v0a ..) k ob (.inl rfl) | exact ho m)
    exact key D.us s.o h3 h.o
theorem zsg {L:Nat→Bool}:∀ (l l':List Dn) (i:Nat),sel L i (l++l')=sel L i l++sel L (i+l.length) l'
 | [],l',i=>by simp [sel]
 | D :: r,l',i=>by
  simp only [v1k,sel,v05];rw [show i+(r.length+1)=i+1+r.length by omega]
  cases L i <;> simp [zsg r l' (i+1)]
open Go Go.RowKit
theorem zml:∀ (l:List (List Nat)) (i:Nat),zme l i=(l[i]?).getD []
 | [],i=>by simp [zme]
 | x :: r,0=>rfl
 | x :: r,i+1=>by simp only [zme,zml r i,v1h]
theorem zid {acc:List (List Nat)} {j:Nat}:∀ {es:List Edge},j∈zoo acc es→∃ e∈es,Region.binds .any e=true∧(j=e.on∨j∈zme acc e.on)
 | [],h=>by simp [zoo] at h
 | e :: r,h=>by
  simp only [zoo] at h
  split at h
  ·rename_i hb
   simp only [v15,v0k] at h;rcases h with h | h | h
   ·exact ⟨e,v0a ..,hb,.inl h⟩
   ·exact ⟨e,v0a ..,hb,.inr h⟩
   ·obtain ⟨e',h1,h2⟩:=zid h
    exact ⟨e',v0b _ h1,h2⟩
  ·obtain ⟨e',h1,h2⟩:=zid h
   exact ⟨e',v0b _ h1,h2⟩
def yg2 (acc:List Nat):List Nat→List Nat
 | []=>acc
 | n :: r=>match zx8 n acc with
  | true=>yg2 acc r
  | false=>yg2 (n :: acc) r
theorem zke (k:List Nat→List (List Nat)):∀ (l acc:List Nat),yjy acc l k=k (yg2 acc l)
 | [],_=>rfl
 | n :: r,acc=>by
  simp only [yjy,yg2];cases zx8 n acc with
  | true=>exact zke k r acc
  | false=>exact zke k r (n :: acc)
theorem zx9 {j:Nat}:∀ {l acc:List Nat},j∈yg2 acc l→j∈acc∨j∈l
 | [],_,h=>.inl h
 | n :: r,acc,h=>by
  simp only [yg2] at h;cases hb:zx8 n acc with
  | true=>
   rw [hb] at h;exact (zx9 h).imp_right (v0b _)
  | false=>
   rw [hb] at h;rcases zx9 h with h1 | h1
   ·rcases v15.1 h1 with rfl | h1
    ·exact .inr (v0a ..)
    ·exact .inl h1
   ·exact .inr (v0b _ h1)
theorem yd0 {j:Nat} {l:List Nat} (h:j∈yg2 [] l):j∈l:=(zx9 h).resolve_left (by simp)
theorem zjz:∀ (l:List Oper) (acc:List (List Nat)) (i:Nat),i < acc.length→zme (z4t acc l) i=zme acc i
 | [],_,_,_=>rfl
 | o :: r,acc,i,h=>by
  simp only [z4t,zke];rw [zjz r _ i (by simp; omega),zml,zml,v3u h]
theorem zk8:∀ (l:List Oper) (acc:List (List Nat)) (i:Nat) (o:Oper),l[i]?=some o →
  ∃ acc',acc'.length=acc.length+i∧zme (z4t acc l) (acc.length+i)=yg2 [] (zoo acc' o.after.toList)∧∀ k,k < acc'.length→zme acc' k=zme (z4t acc l) k
 | [],_,_,_,h=>by simp at h
 | o :: r,acc,0,o',h=>by
  simp only [v0p,v00] at h;subst h;refine ⟨acc,rfl,?_,fun k hk=>?_⟩
  ·simp only [z4t,zke,v1m]
   rw [zjz r _ acc.length (by simp),zml]
   simp
  ·simp only [z4t,zke]
   rw [zjz r _ k (by simp; omega),zml,zml,v3u hk]
 | o :: r,acc,i+1,o',h=>by
  simp only [v1h] at h;obtain ⟨acc',h1,h2,h3⟩:=zk8 r (acc++[yg2 [] (zoo acc o.after.toList)]) i o' h;simp only [v08,v05,v0o] at h1 h2;refine ⟨acc',by omega,?_,fun k hk=>by rw [z4t,zke]; exact h3 k hk⟩
  rw [show acc.length+(i+1)=acc.length+(0+1)+i by omega,z4t,zke]
  exact h2
theorem zfq:∀ {l:List Oper} {k i:Nat} {o:Oper} {e:Edge},zfb k l=true→l[i]?=some o→e∈o.after.toList→Region.binds .any e=true→e.on < k+i
 | [],_,_,_,_,_,h,_,_=>by simp at h
 | o :: r,k,0,o',e,hu,h,he,hb=>by
  simp only [v0p,v00] at h;subst h;simp only [zfb,v02] at hu;have key:∀ (es:List Edge),zfb.go k es=true→e∈es→e.on < k:=by
   intro es
   induction es with
   | nil=>intro _ h; cases h
   | cons x es ih=>
    intro hg hm;simp only [zfb.go] at hg;rcases v15.1 hm with h1 | h1
    ·subst h1
     rw [hb] at hg;simp only [v02] at hg;exact v03 hg.1
    ·split at hg
     ·simp only [v02] at hg
      exact ih hg.2 h1
     ·exact ih hg h1
  exact key _ hu.1 he
 | o :: r,k,i+1,o',e,hu,h,he,hb=>by
  simp only [v1h] at h;simp only [zfb,v02] at hu
  have:=zfq hu.2 h he hb
  omega
section
variable {ops:List Oper}
def ygn (ops:List Oper) (L:Nat→Bool):Prop:=∀ i o,ops[i]?=some o→L i=true→∀ e∈o.after.toList,Region.binds .any e=true→L e.on=true
theorem y80 (hu:zfb 0 ops=true):∀ (i:Nat) {o:Oper},ops[i]?=some o→∀ j∈zme (z4t [] ops) i,j < i:=by
 intro i
 induction i using Nat.strongRecOn with
 | _ i ih=>
  intro o ho j hj;obtain ⟨acc',h1,h2,h3⟩:=zk8 ops [] i o ho;simp only [v0o,v0n] at h1 h2;rw [h2] at hj;obtain ⟨e,he,hb,h4⟩:=zid (yd0 hj);have hlt:=zfq hu ho he hb;rw [v0n] at hlt;rcases h4 with h4 | h4
  ·omega
  ·have hk:e.on < acc'.length:=by omega
   rw [h3 _ hk] at h4;have hlen:i < ops.length:=(List.getElem?_eq_some_iff.1 ho).1
   have:=ih e.on hlt (o:=ops[e.on]'(by omega)) (by simp [Nat.lt_trans hlt hlen]) j h4
   omega
theorem zqz {L:Nat→Bool} (hu:zfb 0 ops=true) (hL:ygn ops L):∀ (i:Nat) {o:Oper},ops[i]?=some o→(∀ e∈o.after.toList,Region.binds .any e=true→L e.on=true)→∀ j∈zme (z4t [] ops) i,L j=true:=by
 intro i
 induction i using Nat.strongRecOn with
 | _ i ih=>
  intro o ho hr j hj;obtain ⟨acc',h1,h2,h3⟩:=zk8 ops [] i o ho;simp only [v0o,v0n] at h1 h2;rw [h2] at hj;obtain ⟨e,he,hb,h4⟩:=zid (yd0 hj);have hlt:=zfq hu ho he hb;rw [v0n] at hlt;rcases h4 with h4 | h4
  ·subst h4
   exact hr e he hb
  ·have hk:e.on < acc'.length:=by omega
   rw [h3 _ hk] at h4;have hlen:i < ops.length:=(List.getElem?_eq_some_iff.1 ho).1;have hg:ops[e.on]?=some (ops[e.on]'(by omega)):=by simp [Nat.lt_trans hlt hlen]
   exact ih e.on hlt hg (hL e.on _ hg (hr e he hb)) j h4
end
theorem ycp {d:Option Nat} {l:List Nat} (h:yj7 d l=false):∀ t,d=some t→t ∉ l:=by
 rintro t rfl
 exact zks.1 h
theorem ycu {d e:Option Nat} (h:ygz d e=false):∀ t,d=some t→e≠some t:=by
 rintro t rfl h'
 subst h';simp only [ygz] at h;exact z4c.1 h rfl
theorem zwf {ps:List (List Nat)} {pi:List Nat} {i:Nat} {x:Dn}:∀ {l:List Dn} {k j:Nat} {y:Dn},zwz ps pi i x k l=true→l[j]?=some y→i≠k+j→y3d pi (zme ps (k+j)) i (k+j) x y=true
 | [],_,_,_,_,h,_=>by simp at h
 | z :: r,k,0,y,h,hy,hne=>by
  simp only [v0p,v00] at hy;subst hy;simp only [zwz,v02,v2v] at h;rcases h.1 with h1 | h1
  ·exact absurd (z1o.1 h1) hne
  ·exact h1
 | z :: r,k,j+1,y,h,hy,hne=>by
  simp only [v1h] at hy;simp only [zwz,v02] at h
  have:=zwf (k:=k+1) h.2 hy (by omega)
  rw [show k+(j+1)=k+1+j by omega]
  exact this
theorem zvn {ps:List (List Nat)} {all:List Dn}:∀ {l:List Dn} {k i:Nat} {x:Dn},y2g ps all k l=true→l[i]?=some x→zwz ps (zme ps (k+i)) (k+i) x 0 all=true
 | [],_,_,_,_,h=>by simp at h
 | z :: r,k,0,x,h,hx=>by
  simp only [v0p,v00] at hx;subst hx;simp only [y2g,v02] at h;exact h.1
 | z :: r,k,i+1,x,h,hx=>by
  simp only [v1h] at hx;simp only [y2g,v02] at h
  have:=zvn (k:=k+1) h.2 hx
  rw [show k+(i+1)=k+1+i by omega]
  exact this
theorem zwr {ds:List Nat}:∀ {l:List Nat},y84 ds l=true→∀ n∈l,zq2 ds n=true
 | [],_,n,h=>by cases h
 | m :: r,h,n,hn=>by
  simp only [y84,v02] at h;rcases v15.1 hn with e | e
  ·subst e; exact h.1
  ·exact zwr h.2 n e
theorem zr3 {ds:List Nat}:∀ {l:List Dn} {i:Nat} {x:Dn},yeb ds l=true→l[i]?=some x→zh3 x.v=true∧yb0 x.us=true∧∀ n∈zpk x.us,zq2 ds n=true
 | [],_,_,_,h=>by simp at h
 | z :: r,0,x,h,hx=>by
  simp only [v0p,v00] at hx;subst hx;simp only [yeb,v02] at h;exact ⟨h.1,h.2.1,zwr h.2.2.1⟩
 | z :: r,i+1,x,h,hx=>by
  simp only [v1h] at hx;simp only [yeb,v02] at h;exact zr3 h.2.2.2 hx
theorem y7t {n:Nat}:∀ {us:List Upd},yb0 us=true→n ∉ ygg us→∀ u∈us,∀ m ob,(u = .new m ob∨u = .set m ob)→z56 n (some ob)=some ob
 | [],_,_,u,hu,_,_,_=>by cases hu
 | u :: r,ho,hn,u',hu',m,ob,he=>by
  have h1:yb0 r=true∧n ∉ ygg r∧(∀ m ob,(u = .new m ob∨u = .set m ob)→z56 n (some ob)=some ob):=by
   cases u with
   | kill k=>exact ⟨ho,hn,fun m ob h=>by rcases h with h | h <;> cases h⟩
   | set k ob'=>
    simp only [yb0,v02] at ho;simp only [ygg,v0k,not_or] at hn;refine ⟨ho.2.2,hn.2,fun m ob h=>?_⟩
    rcases h with h | h <;> cases h
    exact zl6 ho.1 hn.1
   | new k ob'=>
    simp only [yb0,v02] at ho;simp only [ygg,v0k,not_or] at hn;refine ⟨ho.2.2,hn.2,fun m ob h=>?_⟩
    rcases h with h | h <;> cases h
    exact zl6 ho.1 hn.1
  rcases v15.1 hu' with h | h
  ·subst h
   exact h1.2.2 m ob he
  ·exact y7t h1.1 h1.2.1 u' h m ob he
theorem zo6 {t:Nat}:∀ {l:List Operand},Operand.tmp t∈l→t∈zrj l
 | x :: r,h=>by
  rcases v15.1 h with h1 | h1
  ·subst h1; exact v0a ..
  ·cases x <;> simp only [zrj,v15] <;> first | exact .inr (zo6 h1) | exact zo6 h1
theorem y1i {α:Type} {p q:α→Bool}:∀ {l:List α},(∀ x∈l,q x=true→p x=true)→(∃ x∈l,p x=true∧q x=false)→l.countP q < l.countP p
 | [],_,⟨_,h,_⟩=>by cases h
 | y :: r,h,⟨x,hx,h1,h2⟩=>by
  have hr:r.countP q≤r.countP p:=by
   clear hx;have h':∀ x∈r,q x=true→p x=true:=fun x hx=>h x (v0b _ hx)
   exact List.countP_mono_left h'
  rcases v15.1 hx with e | e
  ·subst e
   rw [v3h h1,List.countP_cons_of_neg (by simp [h2])]
   omega
  ·have:=y1i (l:=r) (fun x hx=>h x (v0b _ hx)) ⟨x,e,h1,h2⟩
   by_cases hq:q y=true
   ·rw [v3h (h y (v0a ..) hq),v3h hq]
    omega
   ·rw [List.countP_cons_of_neg hq]
    by_cases hp:p y=true
    ·rw [v3h hp]; omega
    ·rw [List.countP_cons_of_neg hp]; omega
section
variable {B:BT} {nt:Nat} {w0:World} {X:Zone} {γ:Nat→Value} {st st':St} {a:Act} {w:World} {P:Program} {E:Env}
variable (hT:TiOK P B E) (hE:∀ t,t∈E.eqs→EqSnd P t (E.tyd t).ks) (hSp:SpOK P B E w0 X) (hB:BldOK P B E) (hnt:E.nt=nt) (hn9:nt≤900000)
include hT hE hSp hB hnt hn9
theorem ygb {Q:Exit→Act→World→Prop} {ops:Array Oper} {s0:St} {Ds:List Dn} (hs:Steps E ops.toList ops.toList s0 Ds) (hfree:yh0 ops.toList Ds=true)
  (hfr:∀ n,zq2 (ztg ops.toList) n=true→Fr n s0) (hQ:∀ γ' a' w',Rel B nt w0 X γ' (apDs s0 Ds) a' w'→Q .normal a' w') :
  ∀ (fuel:Nat) (listed:Array Bool) {γ:Nat→Value} {a:Act} {w:World},listed.size=ops.size→ygn ops.toList (fun i=>listed.getD i false) →
   (List.range ops.size).countP (fun i=>!listed.getD i false)≤fuel→Rel B nt w0 X γ (apDs s0 (sel (fun i=>listed.getD i false) 0 Ds)) a w→wpAny P .any ops Q fuel listed a w:=by
 have hlen:Ds.length=ops.size:=by simpa using hs.length
 simp only [yh0,v02] at hfree;obtain ⟨hup,hone,hpairs⟩:=hfree;have hgd:∀ (listed:Array Bool) (i:Nat),listed.size=ops.size→i < ops.size→listed.getD i true=listed.getD i false:=fun listed i h1 h2=>by
  simp [Array.getD,h1,h2]
 have hready:∀ (listed:Array Bool) (i:Nat),listed.size=ops.size→(i∈Region.ready .any ops listed↔∃ o,ops.toList[i]?=some o∧listed.getD i false=false∧∀ e∈o.after.toList,Region.binds .any e=true→listed.getD e.on false=true):=by
  intro listed i hsz;simp only [Region.ready,List.mem_filter,List.mem_range,v02,v17];constructor
  ·rintro ⟨h1,h2,h3⟩
   refine ⟨ops[i],by simp [h1],by rw [← hgd listed i hsz h1]; exact h2,fun e he hb=>?_⟩
   simp only [Array.getElem?_eq_getElem h1,v2f,v1y,Array.all_eq_true_iff_forall_mem,v2v,v17] at h3;rcases h3 e (by simpa using he) with h4 | h4
   ·rw [hb] at h4; cases h4
   ·exact h4
  ·rintro ⟨o,ho,h2,h3⟩
   obtain ⟨h1,rfl⟩:=List.getElem?_eq_some_iff.1 ho;simp only [v14] at h1;refine ⟨h1,by rw [hgd listed i hsz h1]; exact h2,?_⟩
   simp only [Array.getElem?_eq_getElem h1,v2f,v1y,Array.all_eq_true_iff_forall_mem,v2v,v17];intro e he;cases hb:Region.binds .any e with
   | false=>exact .inl rfl
   | true=>exact .inr (h3 e (by simpa using he) hb)
 have hend:∀ (listed:Array Bool) {γ:Nat→Value} {a:Act} {w:World},(∀ i,i < ops.size→listed.getD i false=true)→Rel B nt w0 X γ (apDs s0 (sel (fun i=>listed.getD i false) 0 Ds)) a w→Q .normal a w:=by
  intro listed γ a w hall h;rw [zee (L':=fun _=>true) _ _ (fun j _ h2=>hall j (by omega)),ydb] at h
  exact hQ γ a w h
 have hnil:∀ (listed:Array Bool),listed.size=ops.size→Region.ready .any ops listed=[]→∀ i,i < ops.size→listed.getD i false=true:=by
  intro listed hsz hr i
  induction i using Nat.strongRecOn with
  | _ i ih=>
   intro hi;cases hL:listed.getD i false with
   | true=>rfl
   | false=>
    exfalso;have hm:i∈Region.ready .any ops listed:=by
     refine (hready listed i hsz).2 ⟨ops[i],by simp [hi],hL,fun e he hb=>?_⟩
     have:=zfq (i:=i) hup (by simp [hi]:ops.toList[i]?=some ops[i]) he hb
     exact ih e.on (by omega) (by omega)
    rw [hr] at hm;cases hm
 intro fuel
 induction fuel with
 | zero=>
  intro listed γ a w hsz hcl hcount h;have hall:∀ i,i < ops.size→listed.getD i false=true:=by
   intro i hi;have h0:(List.range ops.size).countP (fun i=>!listed.getD i false)=0:=by omega
   have:=(List.countP_eq_zero.1 h0) i (List.mem_range.2 hi)
   simpa using this
  refine ⟨?_,hend listed hall h⟩;refine List.eq_nil_iff_forall_not_mem.2 (fun i hi=>?_)
  obtain ⟨o,ho,h2,_⟩:=(hready listed i hsz).1 hi;have h1:i < ops.size:=by simpa using (List.getElem?_eq_some_iff.1 ho).1
  rw [hall i h1] at h2;cases h2
 | succ fuel ih=>
  intro listed γ a w hsz hcl hcount h;refine ⟨fun hr=>hend listed (hnil listed hsz hr) h,fun i hi=>?_⟩
  obtain ⟨o,ho,hLi,hedges⟩:=(hready listed i hsz).1 hi;have hi':i < ops.size:=by simpa using (List.getElem?_eq_some_iff.1 ho).1
  have hoi:ops[i]?=some o:=by simpa using ho
  obtain ⟨D,hD⟩:∃ D,Ds[i]?=some D:=⟨Ds[i]'(by omega),by simp [hlen,hi']⟩
  generalize hLdef:(fun i=>listed.getD i false)=L at *
  have hL:∀ j,listed.getD j false=L j:=fun j=>congrFun hLdef j
  simp only [hL] at hLi hedges;have hin:∀ j∈zme (z4t [] ops.toList) i,L j=true:=zqz hup hcl i ho hedges;have hout:∀ j D',Ds[j]?=some D'→L j=true→i ∉ zme (z4t [] ops.toList) j:=by
   intro j D' hj hLj hm;have hj':j < ops.size:=by have:=(List.getElem?_eq_some_iff.1 hj).1; omega
   have hoj:ops.toList[j]?=some ops[j]:=by simp [hj']
   have:=zqz hup hcl j hoj (hcl j _ hoj hLj) i hm
   rw [hLi] at this;cases this
  have hlt:∀ j,j∈zme (z4t [] ops.toList) i→j < i:=y80 hup i ho;have hltj:∀ j D',Ds[j]?=some D'→i∈zme (z4t [] ops.toList) j→i < j:=by
   intro j D' hj hm;have hj':j < ops.size:=by have:=(List.getElem?_eq_some_iff.1 hj).1; omega
   exact y80 hup j (by simp [hj']:ops.toList[j]?=some ops[j]) i hm
  have hpair:∀ j D',Ds[j]?=some D'→i≠j→y3d (zme (z4t [] ops.toList) i) (zme (z4t [] ops.toList) j) i j D D'=true:=by
   intro j D' hj hne;have h1:=zvn (k:=0) hpairs hD;rw [v0n] at h1;have h2:=zwf (k:=0) h1 hj (by omega)
   rwa [v0n] at h2
  have hunord:∀ j D',Ds[j]?=some D'→i≠j→i ∉ zme (z4t [] ops.toList) j→j ∉ zme (z4t [] ops.toList) i →
    (∀ t,D'.dst=some t→t ∉ D.tm)∧(∀ t,D.dst=some t→D'.dst≠some t)∧(∀ n∈z72 D'.us,n ∉ D.rd)∧(∀ n∈z72 D.us,n ∉ z72 D'.us):=by
   intro j D' hj hne h1 h2;have hp:=hpair j D' hj hne;simp only [y3d,zks.2 h1,zks.2 h2,v02,v17] at hp;exact ⟨ycp hp.2.1,ycu hp.2.2.1,zia.1 hp.2.2.2.1,zia.1 hp.2.2.2.2⟩
  have hdiff:∀ j D',Ds[j]?=some D'→L j≠decide (j < i)→i≠j∧i ∉ zme (z4t [] ops.toList) j∧j ∉ zme (z4t [] ops.toList) i:=by
   intro j D' hj hne;cases hLj:L j with
   | true=>
    rw [hLj] at hne;have hji:¬ j < i:=fun h=>hne (by simp [h])
    have hij:i≠j:=fun e=>by subst e; rw [hLi] at hLj; cases hLj
    exact ⟨hij,hout j D' hj hLj,fun hm=>hji (hlt j hm)⟩
   | false=>
    rw [hLj] at hne;have hji:j < i:=by
     rcases v1x j i with h | h
     ·exact h
     ·exact absurd (by simp; omega) hne
    refine ⟨by omega,fun hm=>?_,fun hm=>?_⟩
    ·have:=hltj j D' hj hm; omega
    ·have:=hin j hm; rw [hLj] at this; cases this
  have hstep:=Steps.get hs ho hD;have htake:apDs s0 (Ds.take i)=apDs s0 (sel (fun j=>decide (j < i)) 0 Ds):=by
   have:=ygc i Ds 0
   rw [v0n] at this;rw [this]
  rw [htake] at hstep;have hobj:∀ n∈D.rd,z04 (apDs s0 (sel L 0 Ds)).o n=z04 (apDs s0 (sel (fun j=>decide (j < i)) 0 Ds)).o n:=by
   intro n hn;refine zfc Ds 0 rfl (fun j D' hj hnm=>?_)
   rw [v0n];refine Decidable.byContradiction (fun hne=>?_)
   obtain ⟨h1,h2,h3⟩:=hdiff j D' hj hne;exact (hunord j D' hj h1 h2 h3).2.2.1 n hnm hn
  have htm:∀ t∈D.tm,(apDs s0 (sel L 0 Ds)).get t=(apDs s0 (sel (fun j=>decide (j < i)) 0 Ds)).get t:=by
   intro t ht;refine zfr Ds 0 rfl (fun j D' hj hnm=>?_)
   rw [v0n];refine Decidable.byContradiction (fun hne=>?_)
   obtain ⟨h1,h2,h3⟩:=hdiff j D' hj hne;exact (hunord j D' hj h1 h2 h3).1 t hnm ht
  have hafter:SEq (apD (apDs s0 (sel L 0 Ds)) D) (apDs s0 (sel (fun j=>(listed.setIfInBounds i true).getD j false) 0 Ds)):=by
   have hset:∀ j,(listed.setIfInBounds i true).getD j false=(L j||Nat.beq j i):=by
    intro j;rw [← hL j];simp only [v2a,Array.getElem?_setIfInBounds,hsz]
    by_cases e:i=j
    ·subst e
     simp [hi',v3b]
    ·rw [v10 e,z4c.2 (fun h=>e h.symm),v3q]
   rw [show (fun j=>(listed.setIfInBounds i true).getD j false)=(fun j=>L j||Nat.beq j i) from funext hset]
   have hsplit:Ds=Ds.take i++D :: Ds.drop (i+1):=by
    have hi2:i < Ds.length:=by omega
    have h1:Ds[i]=D:=by have:=List.getElem?_eq_some_iff.1 hD; exact this.2
    rw [← h1];simp
   have hlate:∀ j D',(Ds.drop (i+1))[j]?=some D'→L (i+1+j)=true→(∀ t,D.dst=some t→D'.dst≠some t)∧∀ n∈z72 D.us,n ∉ z72 D'.us:=by
    intro j D' hj hLj;have hj':Ds[i+1+j]?=some D':=by rw [← hj,v1u]
    have h2:=hout _ D' hj' hLj;have h3:i+1+j ∉ zme (z4t [] ops.toList) i:=fun hm=>by have:=hlt _ hm; omega
    exact ⟨(hunord _ D' hj' (by omega) h2 h3).2.1,(hunord _ D' hj' (by omega) h2 h3).2.2.2⟩
   have hli:(Ds.take i).length=i:=by simp; omega
   have hR:∀ s,apDs s (sel (fun j=>L j||Nat.beq j i) 0 Ds)=apDs (apD (apDs s (sel L 0 (Ds.take i))) D) (sel L (i+1) (Ds.drop (i+1))):=by
    intro s;rw [show sel (fun j=>L j||Nat.beq j i) 0 Ds=sel (fun j=>L j||Nat.beq j i) 0 (Ds.take i++D :: Ds.drop (i+1)) by rw [← hsplit]]
    rw [zsg,zji,hli,v0n];simp only [sel,v3b,Bool.or_true,apDs];rw [zee (L':=L) (Ds.take i) 0 (fun j _ h2=>by rw [z4c.2 (by omega),v3q]),zee (L':=L) (Ds.drop (i+1)) (i+1) (fun j h1 _=>by rw [z4c.2 (by omega),v3q])]
   have hLs:∀ s,apDs s (sel L 0 Ds)=apDs (apDs s (sel L 0 (Ds.take i))) (sel L (i+1) (Ds.drop (i+1))):=by
    intro s;rw [show sel L 0 Ds=sel L 0 (Ds.take i++D :: Ds.drop (i+1)) by rw [← hsplit]]
    rw [zsg,zji,hli,v0n];simp only [sel,hLi]
   rw [hR,hLs];generalize apDs s0 (sel L 0 (Ds.take i))=s1;refine ⟨fun t=>?_,fun n=>?_⟩
   ·by_cases e:D.dst=some t
    ·rw [zdb,v1f e]
     have:(apDs (apD s1 D) (sel L (i+1) (Ds.drop (i+1)))).get t=(apDs (apD s1 D) (sel (fun _=>false) (i+1) (Ds.drop (i+1)))).get t:=by
      refine zfr _ _ rfl (fun j D' hj hd=>?_)
      cases hLj:L (i+1+j) with
      | false=>rfl
      | true=>exact absurd hd ((hlate j D' hj hLj).1 t e)
     rw [this,zkn];simp only [apDs];rw [zdb,v1f e]
    ·rw [zdb,v10 e]
     exact zfr _ _ (by rw [zdb,v10 e]) (fun _ _ _ _=>rfl)
   ·by_cases e:n∈z72 D.us
    ·have:z04 (apDs (apD s1 D) (sel L (i+1) (Ds.drop (i+1)))).o n=z04 (apDs (apD s1 D) (sel (fun _=>false) (i+1) (Ds.drop (i+1)))).o n:=by
      refine zfc _ _ rfl (fun j D' hj hd=>?_)
      cases hLj:L (i+1+j) with
      | false=>rfl
      | true=>exact absurd hd ((hlate j D' hj hLj).2 n e)
     rw [this,zkn];exact y51 e
    ·have h1:z04 (apD (apDs s1 (sel L (i+1) (Ds.drop (i+1)))) D).o n=z04 (apDs s1 (sel L (i+1) (Ds.drop (i+1)))).o n:=zdm e
     rw [h1];exact zfc _ _ (zdm e).symm (fun _ _ _ _=>rfl)
  have hnext:∀ γ' a' w',Rel B nt w0 X γ' (apD (apDs s0 (sel L 0 Ds)) D) a' w'→wpAny P .any ops Q fuel (listed.setIfInBounds i true) a' w':=by
   intro γ' a' w' h';have hset:∀ j,(listed.setIfInBounds i true).getD j false=(L j||Nat.beq j i):=by
    intro j;rw [← hL j];simp only [v2a,Array.getElem?_setIfInBounds,hsz]
    by_cases e:i=j
    ·subst e
     simp [hi',v3b]
    ·rw [v10 e,z4c.2 (fun h=>e h.symm),v3q]
   refine ih (listed.setIfInBounds i true) (by simpa using hsz) ?_ ?_ (h'.seq hafter)
   ·intro j o' ho' hLj e he hb
    simp only [hset] at hLj ⊢
    by_cases e':j=i
    ·subst e'
     rw [ho] at ho';simp only [v00] at ho';subst ho';rw [hedges e he hb]
     rfl
    ·rw [z4c.2 e',v3q] at hLj
     rw [hcl j o' ho' hLj e he hb]
     rfl
   ·have:(List.range ops.size).countP (fun j=>!(listed.setIfInBounds i true).getD j false) < (List.range ops.size).countP (fun j=>!listed.getD j false):=by
     refine y1i (fun j _ hj=>?_) ⟨i,List.mem_range.2 hi',by rw [hL,hLi]; rfl,by rw [hset,v3b,Bool.or_true]; rfl⟩
     rw [hset] at hj;rw [hL];cases hLj:L j <;> simp_all
    simp only [hL] at this hcount;omega
  obtain ⟨hok,hdst,htms,hguard⟩:=hstep;have hclean:=zr3 hone hD;have run:(z4y E (apDs s0 (sel (fun j=>decide (j < i)) 0 Ds)).o (opd (apDs s0 (sel (fun j=>decide (j < i)) 0 Ds))) o.dst o.op).get=some (D.v,D.us)→D.rd=reads E (apDs s0 (sel (fun j=>decide (j < i)) 0 Ds)).o (opd (apDs s0 (sel (fun j=>decide (j < i)) 0 Ds))) o.op →
    (∀ x∈o.op.operands.toList,∀ t,x = .tmp t→t∈D.tm)→o.wp P a w (wpAny P .any ops Q fuel (listed.setIfInBounds i true)) Q:=by
   intro he hrd htmo;have h1:z4y E (apDs s0 (sel L 0 Ds)).o (opd (apDs s0 (sel L 0 Ds))) o.dst o.op=z4y E (apDs s0 (sel (fun j=>decide (j < i)) 0 Ds)).o (opd (apDs s0 (sel (fun j=>decide (j < i)) 0 Ds))) o.dst o.op:=by
    rw [y95 (ρ:=opd (apDs s0 (sel L 0 Ds))) (ρ':=opd (apDs s0 (sel (fun j=>decide (j < i)) 0 Ds))) (fun x hx=>?_)]
    ·exact zws (fun n hn=>hobj n (by rw [hrd]; exact hn))
    ·cases x with
     | tmp t=>exact htm t (htmo _ hx t rfl)
     | _=>rfl
   rw [← h1] at he;have hn9':∀ d,o.dst=some d→d≠900000:=fun d hdd e=>by
    subst e;rw [hdd] at hok;simp only [zse] at hok;have h8:900000+1≤E.nt:=v03 hok;omega
   refine ygq hT hE hSp hB h o hn9' he _ _ (fun γ' x w' h3 h4=>hnext γ' _ w' ?_)
   refine (h3.put hnt hok h4).seq ?_;have hfr':∀ n∈zpk D.us,Fr n (apDs s0 (sel L 0 Ds)):=by
    intro n hn;refine ye8 Ds 0 (hfr n (hclean.2.2 n hn)) (fun j D' hj hLj=>?_)
    rw [v0n] at hLj;have hne:i≠j:=fun e=>by subst e; rw [hLi] at hLj; cases hLj
    have hp:=hpair j D' hj hne;simp only [y3d,zks.2 (hout j D' hj hLj),v02] at hp;have hdj:=zia.1 hp.1 n hn;simp only [v0k,not_or] at hdj;have hc':=zr3 hone hj;exact ⟨hc'.1,hdj.1,y7t hc'.2.1 hdj.2⟩
   have:=(zz4 hfr' hclean.2.1).put o.dst D.v
   refine this.trans ?_;rw [← hdst];cases hdd:D.dst <;> exact ⟨fun t=>by simp only [apD,hdd,St.put]; try rfl,fun n=>by simp only [apD,St.put]⟩
  unfold wpOp;rw [hoi];simp only;have htmo:∀ x∈o.op.operands.toList,∀ t,x = .tmp t→t∈D.tm:=by
   rintro x hx t rfl
   have:=zo6 hx
   rw [htms];unfold zik
   split
   ·split
    ·exact v0b _ this
    ·exact this
   ·exact this
  split at hguard
  ·rename_i hg
   rw [v1f (by simp [Region.wanted,hg])]
   exact .inl (run hguard.1 hguard.2 htmo)
  ·rename_i j b hg
   have skip:D.v = .tup []→D.us=[]→Region.wanted o (yielded ops a.tmps)=false→(if Region.wanted o (yielded ops a.tmps)=true then o.wp P a w (wpAny P .any ops Q fuel (listed.setIfInBounds i true)) Q∨(o.asks P a w∧LetsOut Q) else wpAny P .any ops Q fuel (listed.setIfInBounds i true) (a.put o.dst undef) w):=by
    intro h1 h2 h3;rw [v10 (by rw [h3]; simp)]
    refine hnext γ _ w ?_;refine (h.put hnt hok (v:=.tup []) (x:=undef) (by simp only [VRel]; exact ⟨#[],rfl,by simp only [VRels]⟩)).seq ?_
    rw [← hdst,← h1];cases hdd:D.dst <;> exact ⟨fun t=>by simp only [apD,hdd,St.put]; try rfl,fun n=>by simp only [apD,St.put,h2,zum]⟩
   have hdjm0:∀ dj,zq1 ops.toList j=some dj→dj∈D.tm:=by
    intro dj hdj;rw [htms];unfold zik;rw [hg];simp only [hdj];exact v0a ..
   rcases hguard with ⟨dj,c,hdj,hc,hcase⟩ | ⟨dj,hdj,hc,h1,h2⟩
   case inr=>
    rw [← htm dj (hdjm0 dj hdj)] at hc;have hy:yielded ops a.tmps j=none:=by
     unfold yielded;rw [show ops[j]?=ops.toList[j]? by simp,zl8 _ _ _ hdj]
     rcases y27 h hc with h0 | h0 <;> simp [h0]
    exact skip h1 h2 (by simp [Region.wanted,hg,hy])
   have hdjm:dj∈D.tm:=by
    rw [htms];unfold zik;rw [hg];simp only [hdj];exact v0a ..
   rw [← htm dj hdjm] at hc;have hy:yielded ops a.tmps j=some c:=by
    unfold yielded;rw [show ops[j]?=ops.toList[j]? by simp,zl8 _ _ _ hdj]
    simp [y8y h hc]
   rcases hcase with ⟨rfl,h1,h2⟩ | ⟨hne,h1,h2⟩
   ·rw [v1f (by simp [Region.wanted,hg,hy])]
    exact .inl (run h1 h2 htmo)
   ·exact skip h1 h2 (by simp [Region.wanted,hg,hy,hne])
theorem y9k {Q:Exit→Act→World→Prop} (hm:P.follows .mixedOrders=true) {r:V × List (List V)} {id:Nat} {ops:Array Oper} {k:St→Res} {γ:Nat→Value} {st:St} {a:Act} {w:World}
  (he:yd6 E ops.toList st k=some r) (h:Rel B nt w0 X γ st a w) (hk:∀ γ' st' a' w',Rel B nt w0 X γ' st' a' w'→k st'=some r→Q .normal a' w'):(Code.region id ops true).wp P Q a w:=by
 refine wp_region_any hm ?_;unfold yd6 at he;obtain ⟨Ds,s',h1,h2,h3⟩:=y14 ops.toList he
 split at h3
 ·rename_i hf
  simp only [v2n,List.reverse_reverse] at hf;have h0:Rel B nt w0 X γ (zds (ztg ops.toList) st) a { w with drawn:=w.drawn+1 }:=(h.clear (ztg ops.toList)).world (Keep.drew _ w)
  refine ygb hT hE hSp hB hnt hn9 h1 hf (fun n hn=>yg9 hn st) (fun γ' a' w' h'=>hk γ' s' a' w' (h'.seq h2.symm) h3) ops.size (Array.replicate ops.size false) (by simp) ?_ ?_ (γ:=γ) ?_
  ·intro i o ho hL
   have hi:i < ops.size:=by simpa using (List.getElem?_eq_some_iff.1 ho).1
   simp [Array.getD,hi] at hL
  ·refine v1p (List.countP_le_length) ?_
   simp
  ·rw [zee (L':=fun _=>false) _ _ (fun j _ _=>by simp [Array.getD]),zkn]
   exact h0
 ·cases h3
end
open Go Go.RowKit
section
variable {B:BT} {nt:Nat} {w0:World} {X:Zone} {γ:Nat→Value} {st st':St} {a:Act} {w:World} {P:Program} {E:Env}
theorem zm5 (s:St):∀ (l:List Nat) (i:Nat),lkd .any (y0q s l) i=s.get i∨lkd .any (y0q s l) i = .any
 | [],i=>.inr rfl
 | j :: r,i=>by
  simp only [y0q,zaw]
  by_cases e:j=i
  ·subst e; simp
  ·simp only [v10 e]
   exact zm5 s r i
theorem y25 (s:St):∀ (l:List Nat) (n:Nat) (ob:Ob),z04 (ybz s l) n=some ob→z04 s.o n=some ob
 | [],n,ob,h=>by simp [ybz,z04,lkd] at h
 | j :: r,n,ob,h=>by
  simp only [ybz,z01] at h
  split at h
  ·rename_i e
   subst e;exact h
  ·exact y25 s r n ob h
theorem Rel.prune (h:Rel B nt w0 X γ st a w) (kp:Option (List Nat)):Rel B nt w0 X γ (prune kp st) a w:=by
 cases kp with
 | none=>exact h
 | some l=>exact h.less (fun i=>zm5 st l i) (fun _ _ h=>h)
theorem VRels.putOne {γ:Nat→Value} {o:Store} {w:World} {O:Nat→Prop} {v:V} {x:Value} (hv:VRel γ o w O v x):∀ {cs:List V} {xs:List Value} {c:Nat},VRels γ o w O cs xs→xs[c]?=some x→VRels γ o w O (zi9 cs c [v]) xs
 | [],[],_,_,h=>by simp at h
 | [],_ :: _,_,h,_=>by simp only [VRels] at h
 | _ :: _,[],_,h,_=>by simp only [VRels] at h
 | u :: cs,y :: xs,0,h,hx=>by
  simp only [VRels] at h;simp only [v0p,v00] at hx;subst hx
  have:zi9 cs 0 []=cs:=by cases cs <;> rfl
  simp only [zi9,this,VRels];exact ⟨hv,h.2⟩
 | u :: cs,y :: xs,c+1,h,hx=>by
  simp only [VRels] at h;simp only [v1h] at hx;simp only [zi9,VRels];exact ⟨h.1,VRels.putOne hv h.2 hx⟩
def ylc (γ:Nat→Value) (o:Store) (w:World) (a:Act) (x:Value):Loc→Prop
 | .tmp t=>x=a.tmps.getD t undef
 | .cell b c=>∃ cs bb T cc,z04 o b=some (.box cs)∧γ b = .pointer (some ⟨bb,0,none⟩)∧w.heap[bb]?=some (.cells cc T (0,0))∧cc.toList[c]?=some x
def yig (γ:Nat→Value) (o:Store) (w:World) (a:Act) (x:Value):Loc→Prop
 | .tmp t=>x=a.tmps.getD t undef
 | .cell b c=>∀ cs,z04 o b=some (.box cs)→∃ bb T cc,γ b = .pointer (some ⟨bb,0,none⟩)∧w.heap[bb]?=some (.cells cc T (0,0))∧cc.toList[c]?=some x
theorem Rel.at (h:Rel B nt w0 X γ st a w) (l:Loc) {v:V} (hv:ykn st l=v) (hne:v≠.any):∃ x,VRel γ st.o w (z0a X γ st.o) v x ∧
  ylc γ st.o w a x l:=by
 subst hv;cases l with
 | tmp t=>exact ⟨_,h.tm t,rfl⟩
 | cell b c=>
  simp only [ykn] at hne ⊢
  split at hne
  ·rename_i cs hob
   have hor:=h.ob b _ hob;simp only [ObRel] at hor;obtain ⟨bb,cc,T,hg,hh,hr⟩:=hor;rw [zry] at hne ⊢
   cases hc:cs[c]? with
   | none=>rw [hc] at hne; exact absurd rfl hne
   | some u=>
    obtain ⟨x,hx,hrx⟩:=hr.get hc;exact ⟨x,hrx,cs,bb,T,cc,hob,hg,hh,hx⟩
  ·exact absurd rfl hne
theorem Rel.putLoc {γ2:Nat→Value} {st2:St} (h2:Rel B nt w0 X γ2 st2 a w) (l:Loc) {v:V} {x:Value} (hv:VRel γ2 st2.o w (z0a X γ2 st2.o) v x)
  (hx:yig γ2 st2.o w a x l):Rel B nt w0 X γ2 (putLoc st2 v l) a w:=by
 cases l with
 | tmp t=>
  simp only [yig] at hx;subst hx;refine ⟨h2.sz,h2.df,fun i=>?_,h2.ob,h2.lt,h2.dis,h2.keep,h2.nr,h2.fl,h2.pn⟩
  simp only [FM.putLoc,St.get,zaw]
  split
  ·rename_i e
   subst e;exact hv
  ·exact h2.tm i
 | cell b c=>
  simp only [FM.putLoc]
  split
  ·rename_i cs hob
   simp only [yig] at hx;obtain ⟨bb,T,cc,hg,hh,hcx⟩:=hx cs hob;have hob':∀ m,z04 ((b,some (.box (zi9 cs c [v]))) :: st2.o) m=if b=m then some (.box (zi9 cs c [v])) else z04 st2.o m:=fun m=>z01 ..
   have hlen:(zi9 cs c [v]).length=cs.length:=by
    have key:∀ (cs:List V) (c:Nat),(zi9 cs c [v]).length=cs.length:=by
     intro cs
     induction cs with
     | nil=>intro c; cases c <;> rfl
     | cons u r ih=>
      intro c;cases c with
      | zero=>
       have:zi9 r 0 []=r:=by cases r <;> rfl
       simp [zi9,this]
      | succ c=>simp [zi9,ih]
    exact key cs c
   have hP:∀ b',z1q γ2 ((b,some (.box (zi9 cs c [v]))) :: st2.o) b'→z1q γ2 st2.o b':=by
    rintro b' ⟨m,ob,hm,hb⟩
    rw [hob'] at hm
    split at hm
    ·rename_i e
     subst e;simp only [v00] at hm;subst hm;exact ⟨_,_,hob,hb⟩
    ·exact ⟨m,ob,hm,hb⟩
   have hO:∀ b',b' < w.heap.size→z0a X γ2 ((b,some (.box (zi9 cs c [v]))) :: st2.o) b'→z0a X γ2 st2.o b':=fun b' _ hb=>hb.imp_left (hP b')
   have hc:Cmp γ2 st2.o γ2 ((b,some (.box (zi9 cs c [v]))) :: st2.o):=by
    intro m ob' hm;rw [hob'] at hm
    split at hm
    ·rename_i e
     subst e;simp only [v00] at hm;subst hm;exact ⟨rfl,_,hob,hlen.symm⟩
    ·exact ⟨rfl,ob',hm,ob'.fits_refl⟩
   refine ⟨h2.sz,h2.df,fun i=>VRel.mono (Keep.refl _ w) hO (VRel.cmp hc (h2.tm i)),fun m ob hm=>?_,fun b' hb=>h2.lt b' (hP b' hb),fun m1 m2 ob1 ob2 b' hne h3 h4 hb1 hb2=>?_,h2.keep,fun b' hb=>h2.nr b' (hP b' hb),h2.fl,fun p hp ob hm=>?_⟩
   ·simp only at hm ⊢
    rw [hob'] at hm
    split at hm
    ·rename_i e
     subst e;simp only [v00] at hm;subst hm;have hor:=h2.ob _ _ hob;simp only [ObRel] at hor ⊢
     obtain ⟨bb',cc',T',hg',hh',hr'⟩:=hor;rw [hg] at hg';simp only [Value.pointer.injEq,v00,Addr.mk.injEq,v18] at hg';subst hg';rw [hh] at hh';simp only [v00,Obj.cells.injEq] at hh';obtain ⟨rfl,rfl,_⟩:=hh';exact ⟨bb,cc,T,hg,hh,VRels.mono (Keep.refl _ w) hO (VRels.cmp hc (VRels.putOne hv hr' hcx))⟩
    ·exact (h2.ob m ob hm).later (fun _ _=>rfl) (Keep.refl _ w) hO hc
   ·have key:∀ m ob,z04 ((b,some (.box (zi9 cs c [v]))) :: st2.o) m=some ob→z0l (γ2 m) ob b'→∃ ob0,z04 st2.o m=some ob0∧z0l (γ2 m) ob0 b':=by
     intro m ob hm hb;rw [hob'] at hm
     split at hm
     ·rename_i e
      subst e;simp only [v00] at hm;subst hm;exact ⟨_,hob,hb⟩
     ·exact ⟨ob,hm,hb⟩
    obtain ⟨o1,q1,q2⟩:=key m1 ob1 h3 hb1;obtain ⟨o2,q3,q4⟩:=key m2 ob2 h4 hb2;exact h2.dis m1 m2 o1 o2 b' hne q1 q3 q2 q4
   ·simp only at hm
    rw [hob'] at hm
    split at hm
    ·rename_i e
     exact h2.pn p hp _ (e ▸ hob)
    ·exact h2.pn p hp ob hm
  ·exact h2
theorem Rel.canon1 (h:Rel B nt w0 X γ st a w) (c:Can):∃ γ',Rel B nt w0 X γ' (canon1 c st) a w:=by
 unfold FM.canon1
 split
 ·exact ⟨γ,h⟩
 rename_i h9;have h9:=z4c.1 h9
 split
 ·rename_i hv
  split
  ·rename_i hks
   have hks':0 < c.ks.length:=v03 hks;obtain ⟨x,hx,hat⟩:=h.at c.loc hv (by simp)
   simp only [VRel] at hx;have hadd:=h.add c.nm h9 (.row true c.e c.ag c.ks []) (.slice none 0 0) (fun b hb=>by simp [z0l,Value.ownBlock] at hb) (fun O' hO'=>by
    simp only [ObRel];exact ⟨hks',by simp [strMax],[],⟨by simp,.inl ⟨rfl,rfl⟩⟩,fun i y hy=>by simp at hy⟩)
   have hadd:=hadd.shrink (F:=X.far) (fun b hb=>⟨hb,fun hb'=>by simp [z0l,Value.ownBlock] at hb'⟩)
   refine ⟨_,hadd.putLoc c.loc (x:=x) ?_ ?_⟩
   ·simp only [VRel,z0d,v1o]
    subst hx;exact ⟨v09 _,none,0,0,none,rfl,rfl,v09 _,v09 _,v09 _,by simp [maxLen],.inl rfl,fun _=>rfl⟩
   ·revert hat
    cases c.loc with
    | tmp t=>exact fun hat=>hat
    | cell b k=>
     intro hat;obtain ⟨cs,bb,T,cc,q1,q2,q3,q4⟩:=hat;intro cs2 hcs2;rw [z0d] at hcs2
     split at hcs2
     ·cases hcs2
     ·rename_i hne
      exact ⟨bb,T,cc,by simp only [v10 hne]; exact q2,q3,q4⟩
  ·exact ⟨γ,h⟩
 ·rename_i n lo hi hv
  split
  ·rename_i e ag ks l hn hlo hob
   have hn':=z4c.1 hn;obtain rfl:=z1o.1 hlo;obtain ⟨x,hx,hat⟩:=h.at c.loc hv (by simp)
   simp only [VRel,hob] at hx;have hk:=h.kill n;have hor:=h.ob n _ hob;have hkb:∀ b,z0l (γ n) (.row true e ag ks l) b→z0x γ st.o n b:=fun b hb=>⟨_,hob,hb⟩
   have hadd:=hk.add c.nm h9 (.row true e ag ks l) (γ n) (fun b hb=>⟨.inr (hkb b hb),(h.lt b ⟨n,_,hob,hb⟩).2⟩) (fun O' hO'=>by
    simp only [ObRel] at hor ⊢
    obtain ⟨k1,k2,xs,k3,k4⟩:=hor;refine ⟨k1,k2,xs,k3,fun i y hy=>Kd.RelAll.mono (Keep.refl _ w) (fun b _ hb=>?_) (fun _ _ hu=>hu) (k4 i y hy)⟩
    rcases hO' b hb with h1 | h1 | h1
    ·obtain ⟨m,ob1,q1,q2⟩:=h1
     simp only [St.up] at q1;rw [z01] at q1
     split at q1
     ·cases q1
     ·exact .inl ⟨m,ob1,q1,q2⟩
    ·exact .inr h1
    ·obtain ⟨ob1,q1,q2⟩:=h1
     exact .inl ⟨n,ob1,q1,q2⟩)
   have hadd:=hadd.shrink (F:=X.far) (fun b hb=>⟨.inl hb,fun hb'=>h.nr b ⟨n,_,hob,hb'⟩ hb⟩)
   refine ⟨_,hadd.putLoc c.loc (x:=x) ?_ ?_⟩
   ·simp only [VRel,z0d,v1o]
    exact hx
   ·revert hat
    cases c.loc with
    | tmp t=>exact fun hat=>hat
    | cell b k=>
     intro hat;obtain ⟨cs,bb,T,cc,q1,q2,q3,q4⟩:=hat;intro cs2 hcs2;rw [z0d] at hcs2
     split at hcs2
     ·cases hcs2
     ·rename_i hne
      exact ⟨bb,T,cc,by simp only [v10 hne]; exact q2,q3,q4⟩
  ·exact ⟨γ,h⟩
 ·exact ⟨γ,h⟩
theorem Rel.canons:∀ (l:List Can) {γ:Nat→Value} {st:St},Rel B nt w0 X γ st a w→∃ γ',Rel B nt w0 X γ' (canons l st) a w
 | [],γ,st,h=>⟨γ,h⟩
 | c :: r,γ,st,h=>by
  obtain ⟨γ1,h1⟩:=h.canon1 c;exact Rel.canons r h1
theorem Rel.restrict (h:Rel B nt w0 X γ st a w) (kp:KP):∃ γ',Rel B nt w0 X γ' (restrict kp st) a w:=by
 have h1:Rel B nt w0 X γ ⟨y0q st kp.t,st.o⟩ a w:=h.less (fun i=>zm5 st kp.t i) (fun _ _ h=>h)
 obtain ⟨γ',h2⟩:=h1.canons kp.c;exact ⟨γ',h2.less (fun i=>zm5 _ kp.t i) (fun n ob=>y25 _ kp.o n ob)⟩
variable (hT:TiOK P B E) (hE:∀ t,t∈E.eqs→EqSnd P t (E.tyd t).ks) (hSp:SpOK P B E w0 X) (hB:BldOK P B E) (hnt:E.nt=nt) (hn9:nt≤900000)
include hT hE hSp hB hnt hn9
theorem zt5 {Q:Exit→Act→World→Prop} {r:V × List (List V)} {ops:Array Oper} {k:St→Res} :
  ∀ (l:List Oper) (i:Nat) {γ:Nat→Value} {st:St} {a:Act} {w:World},ops.toList.drop i=l→zq3 E ops.toList l st k=some r→Rel B nt w0 X γ st a w →
   (∀ γ' st' a' w',Rel B nt w0 X γ' st' a' w'→k st'=some r→Q .normal a' w')→wpOps P ops Q (List.range' i l.length) a w
 | [],i,γ,st,a,w,hl,he,h,hk=>by
  simp only [zq3] at he;exact hk _ _ _ _ h he
 | o :: l,i,γ,st,a,w,hl,he,h,hk=>by
  have hoi:ops[i]?=some o:=by
   rw [← v1v]
   have:=congrArg (·[0]?) hl
   simpa using this
  have hl':ops.toList.drop (i+1)=l:=by
   have:=congrArg (List.drop 1) hl
   simpa using this
  simp only [v05,List.range'_succ,wpOps,hoi];simp only [zq3] at he;have hd:zse E o.dst=true:=by
   cases hd:zse E o.dst with
   | true=>rfl
   | false=>rw [hd] at he; cases he
  rw [hd] at he;simp only at he;have go:∀ {st:St},Rel B nt w0 X γ st a w→Region.wanted o (yielded ops a.tmps)=true→((z4y E st.o (opd st) o.dst o.op).run fun v us=>zq3 E ops.toList l ((st.ups us).put o.dst v) k)=some r →
    (if Region.wanted o (yielded ops a.tmps)=true then o.wp P a w (wpOps P ops Q (List.range' (i+1) l.length)) Q∨(o.asks P a w∧LetsOut Q) else wpOps P ops Q (List.range' (i+1) l.length) (a.put o.dst undef) w):=by
   intro st h hw he;rw [v1f hw];obtain ⟨v,us,h1,h2⟩:=T.run_some he;refine .inl (ygq hT hE hSp hB h o (fun d hdd e=>by subst e; rw [hdd] at hd; simp only [zse] at hd; have h8:900000+1≤E.nt:=v03 hd; omega) h1 _ _ (fun γ' x w' h3 h4=>?_))
   exact zt5 l (i+1) hl' h2 (h3.put hnt hd h4) hk
  have no:∀ {st:St},Rel B nt w0 X γ st a w→Region.wanted o (yielded ops a.tmps)=false→zq3 E ops.toList l (st.put o.dst (.tup [])) k=some r →
    (if Region.wanted o (yielded ops a.tmps)=true then o.wp P a w (wpOps P ops Q (List.range' (i+1) l.length)) Q∨(o.asks P a w∧LetsOut Q) else wpOps P ops Q (List.range' (i+1) l.length) (a.put o.dst undef) w):=by
   intro st h hw he;rw [v10 (by rw [hw]; simp)]
   exact zt5 l (i+1) hl' he (h.put hnt hd (by simp only [VRel]; exact ⟨#[],rfl,by simp only [VRels]⟩)) hk
  split at he
  ·rename_i hg
   exact go h (by simp [Region.wanted,hg]) he
  ·rename_i j b hg
   split at he
   ·rename_i dj hdj
    split at he
    ·rename_i c hc
     have hy:yielded ops a.tmps j=some c:=by
      unfold yielded;rw [show ops[j]?=ops.toList[j]? by simp,zl8 _ _ _ hdj]
      simp [y8y h hc]
     have hlit:=h.lit hc;cases c with
     | true=>
      simp only at he;cases b with
      | true=>exact go (st:=st.put (some dj) (.bool true)) hlit (by simp [Region.wanted,hg,hy]) he
      | false=>exact no (st:=st.put (some dj) (.bool true)) hlit (by simp [Region.wanted,hg,hy]) he
     | false=>
      simp only at he;cases b with
      | false=>exact go (st:=st.put (some dj) (.bool false)) hlit (by simp [Region.wanted,hg,hy]) he
      | true=>exact no (st:=st.put (some dj) (.bool false)) hlit (by simp [Region.wanted,hg,hy]) he
    ·rename_i hc
     have hy:yielded ops a.tmps j=none:=by
      unfold yielded;rw [show ops[j]?=ops.toList[j]? by simp,zl8 _ _ _ hdj]
      rcases y27 h hc with h0 | h0 <;> simp [h0]
     exact no h (by simp [Region.wanted,hg,hy]) he
    ·cases he
   ·cases he
def yca:Out→Exit
 | .normal=>.normal
 | .exit i=>.exit i
 | .ret=>.ret
omit hT hE hSp hB hnt hn9 in
theorem y2x (J:Nat→Prop) (h:∃ n,J n):∃ n,J n∧∀ m,J m→n≤m:=by
 obtain ⟨n,hn⟩:=h
 induction n using Nat.strongRecOn with
 | _ n ih=>
  by_cases hm:∃ m,m < n∧J m
  ·obtain ⟨m,h1,h2⟩:=hm
   exact ih m h1 h2
  ·exact ⟨n,hn,fun m hJ=>Nat.le_of_not_lt (fun hlt=>hm ⟨m,hlt,hJ⟩)⟩
theorem zjv (hm:P.follows .mixedOrders=true) {r:V × List (List V)}:∀ (c:Code) {k:Out→St→Res} {Q:Exit→Act→World→Prop} {γ:Nat→Value} {st:St} {a:Act} {w:World},zhg E c st k=some r→Rel B nt w0 X γ st a w →
  (∀ o γ' st' a' w',Rel B nt w0 X γ' st' a' w'→k o st'=some r→Q (yca o) a' w')→c.wp P Q a w
 | .skip,k,Q,γ,st,a,w,he,h,hk=>wp_skip (hk .normal γ st a w h he)
 | .exit id,k,Q,γ,st,a,w,he,h,hk=>wp_exit (hk (.exit id) γ st a w h he)
 | .ret,k,Q,γ,st,a,w,he,h,hk=>wp_ret (hk .ret γ st a w h he)
 | .label _,k,Q,γ,st,a,w,he,h,hk=>by simp [zhg,evG] at he
 | .goto _,k,Q,γ,st,a,w,he,h,hk=>by simp [zhg,evG] at he
 | .scope _,k,Q,γ,st,a,w,he,h,hk=>by simp [zhg,evG] at he
 | .rangeFunc _ _ _ _,k,Q,γ,st,a,w,he,h,hk=>by simp [zhg,evG] at he
 | .region id ops draw,k,Q,γ,st,a,w,he,h,hk=>by
  simp only [zhg,evG] at he;cases draw with
  | true=>
   simp only at he;exact y9k hT hE hSp hB hnt hn9 hm he h (fun γ' st' a' w' h' hk'=>hk .normal γ' _ a' w' (h'.prune _) hk')
  | false=>
   simp only at he;refine wp_region ?_;rw [show ops.size=ops.toList.length by simp,v3r]
   exact zt5 hT hE hSp hB hnt hn9 ops.toList 0 rfl he h (fun γ' st' a' w' h' hk'=>hk .normal γ' _ a' w' (h'.prune _) hk')
 | .seq x y,k,Q,γ,st,a,w,he,h,hk=>by
  simp only [zhg,evG] at he;refine wp_seq (zjv hm x he h (fun o γ' st' a' w' h' hk'=>?_))
  cases o with
  | normal=>exact zjv hm y hk' h' hk
  | exit i=>exact hk (.exit i) γ' st' a' w' h' hk'
  | ret=>exact hk .ret γ' st' a' w' h' hk'
 | .cond c x y,k,Q,γ,st,a,w,he,h,hk=>by
  simp only [zhg,evG] at he
  split at he
  ·rename_i b hc
   have hcr:=z1s h c;rw [hc] at hcr;simp only [VRel] at hcr;have hlit:Rel B nt w0 X γ (ykm st c b) a w:=by
    unfold ykm
    split
    ·exact h.lit hc
    ·exact h
   cases b with
   | true=>exact wp_cond_true hcr (zjv hm x he hlit hk)
   | false=>exact wp_cond_false hcr (zjv hm y he hlit hk)
  ·cases he
 | .block id c,k,Q,γ,st,a,w,he,h,hk=>by
  simp only [zhg,evG] at he;refine wp_block (zjv hm c he h (fun o γ' st' a' w' h' hk'=>?_))
  cases o with
  | normal=>exact hk .normal γ' st' a' w' h' hk'
  | ret=>exact hk .ret γ' st' a' w' h' hk'
  | exit i=>
   simp only [yca,Exit.inBlock];simp only [z06] at hk';cases hb:Nat.beq i id with
   | true=>
    rw [hb] at hk';rw [v1f (z1o.1 hb)];exact hk .normal γ' st' a' w' h' hk'
   | false=>
    rw [hb] at hk';rw [v10 (z4c.1 hb)];exact hk (.exit i) γ' st' a' w' h' hk'
 | .loop c,k,Q,γ,st,a,w,he,h,hk=>by
  simp only [zhg,evG] at he;generalize lkd ⟨[],[],[]⟩ E.lp (zi8 c)=kp at he
  let J:Act→World→Nat→Prop:=fun a w n=>∃ γ st,Rel B nt w0 X γ st a w∧ztq c (evG ztq E c) kp n st k=some r
  obtain ⟨γr,hr⟩:=h.restrict kp;refine wp_loop (fun a w=>∃ n,J a w n) (fun a w=>(Classical.epsilon fun n=>J a w n∧∀ m,J a w m→n≤m)) ⟨_,γr,_,hr,he⟩ ?_
  intro a w hI;have hleast:=Classical.epsilon_spec (y2x (J a w) hI);generalize (Classical.epsilon fun n=>J a w n∧∀ m,J a w m→n≤m)=n at hleast
  obtain ⟨⟨γ1,st1,h1,he1⟩,_⟩:=hleast;cases n with
  | zero=>simp [ztq] at he1
  | succ n=>
   simp only [ztq] at he1;refine zjv hm c he1 h1 (fun o γ' st' a' w' h' hk'=>?_)
   obtain ⟨γr,hr⟩:=h'.restrict kp;cases o with
   | normal=>
    simp only [yca,Exit.then];have hJ:J a' w' n:=⟨γr,_,hr,hk'⟩;refine ⟨⟨n,hJ⟩,?_⟩
    have:=Classical.epsilon_spec (y2x (J a' w') ⟨n,hJ⟩)
    exact Nat.lt_succ_of_le (this.2 n hJ)
   | exit i=>exact hk (.exit i) γr _ a' w' hr hk'
   | ret=>exact hk .ret γr _ a' w' hr hk'
end
open Go Go.RowKit
theorem zof (o:Store) (bs:List V) (tk:Option Kd) (v:V):z9t (zeo (z8p o bs tk v))=true:=by
 cases v <;> simp only [z8p] <;> repeat' split
 all_goals rfl
theorem zrn (o:Store) (bs:List V):∀ (l:List V) (ks:List Kd),(y4k (fun k v=>zeo (z8p o bs k v)) ks l).all z9t=true
 | [],ks=>by cases ks <;> rfl
 | v :: l,[]=>by simp [y4k,zof,zrn o bs l []]
 | v :: l,k :: ks=>by simp [y4k,zof,zrn o bs l ks]
theorem zrp (o:Store) (ks:List Kd) (v:V):(match y6i o ks v with | .agg l=>l.all z9t | v=>z9t v)=true∧∀ l,y6i o ks v≠.tup l:=by
 by_cases hc:∃ l,v = .agg l
 ·obtain ⟨l,rfl⟩:=hc
  simp only [y6i];exact ⟨zrn o [] l ks,fun l' h=>by cases h⟩
 ·have h1:y6i o ks v=zeo (z8p o [] ks.head? v):=by cases v <;> first | rfl | exact absurd ⟨_,rfl⟩ hc
  have h2:=zof o [] ks.head? v;rw [h1];cases hx:zeo (z8p o [] ks.head? v) <;> rw [hx] at h2 <;> simp only [z9t] at h2 ⊢ <;> first | (cases h2; done) | (refine ⟨trivial,fun l h=>?_⟩; cases h)
theorem zr9 (o:Store) (ks:List (List Kd)) (v:V):zil (zkg o ks v)=true:=by
 by_cases hc:∃ l,v = .tup l
 ·obtain ⟨l,rfl⟩:=hc
  simp only [zkg,zil];have key:∀ (l:List V) (ks:List (List Kd)),((zkg.go o ks l).all fun v=>match v with | .agg l=>l.all z9t | v=>z9t v)=true:=by
   intro l
   induction l with
   | nil=>intro ks; cases ks <;> rfl
   | cons v l ih=>
    intro ks;cases ks with
    | nil=>simp only [zkg.go,v32,v02]; exact ⟨(zrp o [] v).1,ih []⟩
    | cons k ks=>simp only [zkg.go,v32,v02]; exact ⟨(zrp o k v).1,ih ks⟩
  exact key l ks
 ·have h1:zkg o ks v=y6i o (ks.headD []) v:=by cases v <;> first | rfl | exact absurd ⟨_,rfl⟩ hc
  rw [h1];obtain ⟨h2,h3⟩:=zrp o (ks.headD []) v;cases hx:y6i o (ks.headD []) v <;> rw [hx] at h2 <;> simp only [zil] at h2 ⊢ <;> first | exact h2 | exact absurd hx (h3 _)
theorem zyz (o:Store) (all:List Nat) (cs:List V):(cs.map (z3y o all)).all okC=true:=by
 refine v3a.2 (fun v hv=>?_)
 obtain ⟨u,_,rfl⟩:=List.mem_map.1 hv;rcases zcx o all u with ⟨_,_,_,_,_,_,_,_,_,h1⟩ | ⟨h1,_⟩
 ·rw [h1]; rfl
 ·cases hcc:z3y o all u <;> first | rfl | (rw [hcc] at h1; cases h1)
section
variable {B:BT} {nt:Nat} {w0:World} {X:Zone} {γ:Nat→Value} {st st':St} {a:Act} {w:World} {P:Program} {E:Env}
theorem yat (h:Rel B nt w0 X γ st a w) {n:Nat} {cs:List V} (ho:z04 st.o n=some (.box cs)) {extra:List Nat} {m:Nat} (hm:m∈extra) {b:Nat} (hr:RowOf γ st.o m b) :
  ¬ (z0x γ st.o n b∨∃ m∈z4b st.o (z1g cs++extra) cs,z0x γ st.o m b):=by
 intro hLb;obtain ⟨e,ag,ks,l,h5,h6⟩:=hr;rcases hLb with ⟨ob,h7,h8⟩ | ⟨m2,h9,ob,h7,h8⟩
 ·have hne:n≠m:=by
   rintro rfl
   rw [ho] at h5;cases h5
  exact h.dis n m ob _ b hne h7 h5 h8 h6
 ·by_cases hne:m2=m
  ·subst hne
   obtain ⟨hi2,e2,ag2,ks2,l2,k1,k2,k3⟩:=z7r.1 h9;rw [z99] at k3;have q1:=zgj (zat k1);have q2:=zgj hm;omega
  ·exact h.dis m2 m ob _ b hne h7 h5 h8 h6
theorem yfy {p:Value} (h:Rel ⟨B.T,B.e,some p,B.ng,B.F⟩ nt w0 X γ st a w) {v:V} {x:Value} (hv:VRel γ st.o w (z0a X γ st.o) v x) {ks:List (List Kd)} {vs:List V} {r:V} {out:List (List V)} (he:yg3 st.o ks (z6e vs) v=some (r,out)) {g0:Value} (hp:p=zm9 g0) :
  ∃ γ',Rel B.base 0 w0 X γ' ⟨[],z3l r out⟩ zvv w∧VRel γ' (z3l r out) w (z0a X γ' (z3l r out)) (y6u r) x∧zai vs r out g0 (γ' 900000):=by
 have hfar:∀ b,X.far b→z0a X γ st.o b∧∀ b',b'=b→¬ z1q γ st.o b':=fun b hb=>⟨.inr hb,fun b' e hP=>h.nr b' hP (e ▸ hb)⟩
 have hbd:∀ {n:Nat} {cs:List V} (ho:z04 st.o n=some (.box cs)) (extra:List Nat),∃ γb,Rel B.base 0 w0 X γb ⟨[],z83 (cs.map (z3y st.o (z1g cs++extra)))⟩ zvv w∧γb 900000=γ n ∧
   ∀ b,z1q γb (z83 (cs.map (z3y st.o (z1g cs++extra)))) b→z0x γ st.o n b∨∃ m∈z4b st.o (z1g cs++extra) cs,z0x γ st.o m b:=by
  intro n cs ho extra;exact h.bound ho extra (w1:=w0) (own1:=X.own) (F:=X.far) h.keep (fun b hb=>⟨.inr hb,fun ⟨ob,h1,h2⟩=>h.nr b ⟨n,ob,h1,h2⟩ hb,fun m _ ⟨ob,h1,h2⟩=>h.nr b ⟨m,ob,h1,h2⟩ hb,fun m _ ⟨ob,h1,h2⟩=>h.nr b ⟨m,ob,h1,h2⟩ hb⟩)
   (fun b hb=>by
    rcases hb with ⟨ob,h1,h2⟩ | ⟨m,_,ob,h1,h2⟩
    ·exact (h.lt b ⟨n,ob,h1,h2⟩).2
    ·exact (h.lt b ⟨m,ob,h1,h2⟩).2)
 have hbP:∀ {n b:Nat} {hs:List Nat},(z0x γ st.o n b∨∃ m∈hs,z0x γ st.o m b)→z1q γ st.o b:=by
  rintro n b hs (⟨ob,h1,h2⟩ | ⟨m,_,ob,h1,h2⟩)
  ·exact ⟨n,ob,h1,h2⟩
  ·exact ⟨m,ob,h1,h2⟩
 unfold yg3 at he
 split at he
 ·rename_i s0 hb
  split at he
  ·rename_i s hob
   simp only [v00,v04] at he;obtain ⟨rfl,rfl⟩:=he;obtain ⟨hR,hP⟩:=h.boundB hob (w1:=w0) (own1:=X.own) (F:=X.far) h.keep (fun b hb=>⟨.inr hb,fun ⟨ob,h1,h2⟩=>h.nr b ⟨_,ob,h1,h2⟩ hb⟩) (fun b ⟨ob,h1,h2⟩=>(h.lt b ⟨_,ob,h1,h2⟩).2)
   have hmo:z3l (zkg st.o ks v) [[.bld s]]=z83 [.bld s]:=by cases zkg st.o ks v <;> rfl
   have hf:=zr9 st.o ks v;refine ⟨_,by rw [hmo]; exact hR,?_,?_⟩
   ·rw [hmo,zbb hf]
    refine y0b h hv (fun b _ hb=>?_) (fun m hm b hr hb=>?_) ks
    ·exact hb.imp_left (fun hb=>by obtain ⟨ob,h1,h2⟩:=hP b hb; exact ⟨_,ob,h1,h2⟩)
    ·obtain ⟨e,ag,ks',l,q1,q2⟩:=hr
     rcases hb with hb | hb
     ·obtain ⟨ob,h1,h2⟩:=hP b hb
      refine h.dis 900000 m ob _ b ?_ h1 q1 h2 q2
      rintro rfl
      rw [hob] at q1;cases q1
     ·exact h.nr b ⟨m,_,q1,q2⟩ hb
   ·simp only [zai,hb]
    exact ⟨hf,rfl,(h.pn p rfl _ hob).trans hp⟩
  ·cases he
 ·rename_i cs0 hnb hb
  split at he
  ·rename_i cs hob
   simp only [v00,v04] at he;obtain ⟨rfl,rfl⟩:=he;obtain ⟨γb,hR,hg,hP⟩:=hbd hob (zgb v);have hmo:z3l (zkg st.o ks v) [cs.map (z3y st.o (z1g cs++zgb v))]=z83 (cs.map (z3y st.o (z1g cs++zgb v))):=by cases zkg st.o ks v <;> rfl
   have hf:=zr9 st.o ks v;refine ⟨γb,by rw [hmo]; exact hR,?_,?_⟩
   ·rw [hmo,zbb hf]
    refine y0b h hv (fun b _ hb=>hb.imp_left (fun hb=>hbP (hP b hb))) (fun m hm b hr hb=>?_) ks
    rcases hb with hb | hb
    ·exact yat h hob hm hr (hP b hb)
    ·obtain ⟨e,ag,ks',l,q1,q2⟩:=hr
     exact h.nr b ⟨m,_,q1,q2⟩ hb
   ·simp only [zai,hb]
    refine ⟨hf,?_,?_⟩
    ·unfold zxh
     split
     ·exact absurd rfl (hnb _)
     ·exact absurd rfl (hnb _)
     ·exact zyz _ _ _
    ·rw [hg]
     exact (h.pn p rfl _ hob).trans hp
  ·cases he
 ·rename_i hb
  have fin9:∀ v,VRel γ st.o w (z0a X γ st.o) v x→∃ γ',Rel B.base 0 w0 X γ' ⟨[],z3l (zkg st.o ks v) []⟩ zvv w∧VRel γ' (z3l (zkg st.o ks v) []) w (z0a X γ' (z3l (zkg st.o ks v) [])) (y6u (zkg st.o ks v)) x∧zai vs (zkg st.o ks v) [] g0 (γ' 900000):=by
   intro v hv;have hf:=zr9 st.o ks v;have hmo:z3l (zkg st.o ks v) []=[]:=by
    cases hx:zkg st.o ks v <;> first | rfl | (rw [hx] at hf; simp only [zil,z9t] at hf; cases hf)
   refine ⟨γ,?_,?_,?_⟩
   ·rw [hmo]
    refine ⟨rfl,rfl,fun i=>by simp only [St.get,lkd,VRel],fun n ob hn=>?_,?_,?_,h.keep,?_,h.fl,fun p hp=>by cases hp⟩
    ·simp only [z04,lkd] at hn; cases hn
    ·rintro b ⟨n,ob,hn,_⟩; simp only [z04,lkd] at hn; cases hn
    ·intro n m ob ob' b _ hn; simp only [z04,lkd] at hn; cases hn
    ·rintro b ⟨n,ob,hn,_⟩; simp only [z04,lkd] at hn; cases hn
   ·rw [hmo,zbb hf]
    refine y0b h hv (fun b _ hb=>?_) (fun m hm b hr hb=>?_) ks
    ·rcases hb with ⟨n,ob,hn,_⟩ | hb
     ·simp only [z04,lkd] at hn; cases hn
     ·exact .inr hb
    ·rcases hb with ⟨n,ob,hn,_⟩ | hb
     ·simp only [z04,lkd] at hn; cases hn
     ·obtain ⟨e,ag,ks',l,q1,q2⟩:=hr
      exact h.nr b ⟨m,_,q1,q2⟩ hb
   ·simp only [zai,hb]
    cases hx:zkg st.o ks v <;> first | (rw [hx] at hf; exact hf) | (rw [hx] at hf; simp only [zil,z9t] at hf; cases hf)
  split at he
  ·rename_i n i c
   split at he
   ·rename_i cs hob hc
    simp only [v00,v04] at he;obtain ⟨rfl,rfl⟩:=he;obtain rfl:=z1o.1 hc;obtain ⟨γb,hR,hg,hP⟩:=hbd hob [];refine ⟨γb,hR,?_,?_⟩
    ·simp only [VRel,hob] at hv
     simp only [z3l,y6u,z8s,VRel];rw [zii (zyz _ _ _),z01,v1f rfl,hg];exact ⟨trivial,hv.2⟩
    ·simp only [zai,hb,okR]
     exact zyz _ _ _
   ·cases he
  ·rename_i n lo hi
   split at he
   ·rename_i e ag ks' l hob
    split at he
    ·rename_i hlo
     simp only [v00,v04] at he;obtain ⟨rfl,rfl⟩:=he;obtain rfl:=z1o.1 hlo;obtain ⟨hpr,hpb⟩:=zz1 (γ':=fun m=>if m=900000 then x else γ m) (o':=[(900000,some (Ob.row true e ag ks' (l.take hi)))]) h hob hv
     have hmo:z3l (.vec e ag ks' (l.take hi)) []=[(900000,some (.row true e ag ks' (l.take hi)))]:=rfl;have obs:∀ m ob,z04 [(900000,some (Ob.row true e ag ks' (l.take hi)))] m=some ob→m=900000∧ob = .row true e ag ks' (l.take hi):=fun m ob hn=>by
      rw [z01] at hn
      split at hn
      ·rename_i h9
       simp only [v00] at hn;exact ⟨h9.symm,hn.symm⟩
      ·simp [z04,lkd] at hn
     have ownP:∀ b,z1q (fun m=>if m=900000 then x else γ m) [(900000,some (Ob.row true e ag ks' (l.take hi)))] b→z0x γ st.o n b:=by
      rintro b ⟨m,ob,hn,hb⟩
      obtain ⟨rfl,rfl⟩:=obs m ob hn;exact hpb b (by simpa only [v1o] using hb)
     have hlt:∀ b,z0x γ st.o n b→z1q γ st.o b:=fun b ⟨ob,h1,h2⟩=>⟨n,ob,h1,h2⟩
     have hO:∀ b,b < w.heap.size→z0a X (fun m=>if m=900000 then x else γ m) [(900000,some (Ob.row true e ag ks' (l.take hi)))] b→z0a X γ st.o b:=fun b _ hb=>hb.imp_left (fun hb=>hlt b (ownP b hb))
     rw [hmo];refine ⟨fun m=>if m=900000 then x else γ m,⟨rfl,rfl,fun i=>by simp only [St.get,lkd,VRel],fun m ob hn=>?_,fun b hb=>h.lt b (hlt b (ownP b hb)),fun m m' ob ob' b hnm h1 h2=>?_,h.keep,fun b hb=>h.nr b (hlt b (ownP b hb)),h.fl,fun p hp=>by cases hp⟩,?_,?_⟩
     ·obtain ⟨rfl,rfl⟩:=obs m ob hn
      simp only [ObRel,v1o] at hpr ⊢
      obtain ⟨k1,k2,xs,k3,k4⟩:=hpr;exact ⟨k1,k2,xs,k3,fun i y hy=>Kd.RelAll.mono (Keep.refl _ w) hO (fun _ _ hu=>hu) (k4 i y hy)⟩
     ·obtain ⟨rfl,rfl⟩:=obs m ob h1
      obtain ⟨rfl,rfl⟩:=obs m' ob' h2;exact absurd rfl hnm
     ·simp only [y6u,VRel,z01,v1o]
      refine ⟨v09 _,?_⟩;simp only [VRel,hob] at hv;obtain ⟨hl,p,len,cap,p',hgm,hxx,_,h22,h33,hm4,_,h5⟩:=hv;have htl:(l.take hi).length=hi:=by rw [v0j,v1z hl]
      rw [htl];rw [v2q,v2q] at hxx;refine ⟨p',hi,cap,p',hxx,by rw [hxx]; simp,v0y _,v09 _,by omega,hm4,.inl ?_,fun _=>rfl⟩
      cases p' <;> simp [Addr.add]
     ·simp only [zai,hb,okR]
    ·cases he
   ·simp only [v00,v04] at he
    obtain ⟨rfl,rfl⟩:=he;exact fin9 _ hv
  ·rename_i hnp
   simp only [v00,v04] at he;obtain ⟨rfl,rfl⟩:=he;exact fin9 _ hv
theorem zx7:∀ (vs:List V) (i j:Nat),lkd .any (y3l i vs) j=if i≤j∧j < i+vs.length then z8s (vs.getD (j - i) .any) else .any
 | [],i,j=>by
  rw [v10 (by simp only [v0o]; omega)]
  rfl
 | v :: r,i,j=>by
  simp only [y3l,zaw,zx7 r (i+1) j,v05]
  by_cases e:i=j
  ·subst e
   simp
  ·rw [v10 e]
   by_cases h:i+1≤j∧j < i+1+r.length
   ·rw [v1f h,v1f (by omega),show j - i=(j - (i+1))+1 by omega]
    simp
   ·rw [v10 h,v10 (by omega)]
theorem zxt (hT:TiOK P B E) {w:World}:∀ {rs:List ResultVar} {l:List V},ygm E st rs=some l→Rel B nt w0 X γ st a w →
  ∃ xs:List Value,(rs.mapM fun r=>match r with | .tmp t=>pure (a.tmps.getD t undef) | .cell ad t=>do loadVar t (← asAddr (a.tmps.getD ad undef)):Sem (List Value)).run P w = .ok xs w∧VRels γ st.o w (z0a X γ st.o) l xs
 | [],l,h,hR=>by
  simp only [ygm,v00] at h;subst h;exact ⟨[],by simp,by simp only [VRels]⟩
 | .tmp t :: r,l,h,hR=>by
  simp only [ygm] at h
  split at h
  ·rename_i l' hl'
   simp only [v00] at h;subst h;obtain ⟨xs,h1,h2⟩:=zxt hT hl' hR;refine ⟨a.tmps.getD t undef :: xs,?_,?_⟩
   ·simp only [List.mapM_cons,Sem.run_bind,Sem.run_pure,Result.andThen_ok,h1]
   ·simp only [VRels]
    exact ⟨hR.tm t,h2⟩
  ·cases h
 | .cell ad t :: r,l,h,hR=>by
  simp only [ygm] at h
  split at h
  ·rename_i n i c hop
   split at h
   ·rename_i cs hob
    split at h
    ·rename_i v l' hv hl'
     simp only [v00] at h;subst h;obtain ⟨xs,h1,h2⟩:=zxt hT hl' hR;have hx:=hR.tm ad;rw [hop] at hx;simp only [VRel,hob] at hx;obtain ⟨_,b,hg,hx⟩:=hx;have hor:=hR.ob n _ hob;simp only [ObRel] at hor;obtain ⟨b',cs',T,hg',hh,hr⟩:=hor;rw [hg] at hg';simp only [Value.pointer.injEq,v00,Addr.mk.injEq,v18] at hg';subst hg';obtain ⟨y,hy,hr'⟩:=y1y (hT.known (zth hv)) hv hh hr;refine ⟨y :: xs,?_,?_⟩
     ·have hy':(do loadVar t (← asAddr (a.tmps.getD ad undef)):Sem Value).run P w = .ok y w:=by
       rw [hx];exact hy
      simp only [Sem.run_bind] at hy';simp only [List.mapM_cons,Sem.run_bind,hy',Sem.run_pure,Result.andThen_ok,h1]
     ·simp only [VRels]
      exact ⟨hr',h2⟩
    ·cases h
   ·cases h
  ·cases h
theorem ybo {f:FuncId} {fn:Func} {code:Code} (hf:P.funcs[f]?=some fn) (hn:(fn.name == "runtime.NumGoroutine")=false) (hb:fn.body=some code) (hnt:E.nt=fn.ntmps) (hn9:Nat.ble fn.ntmps 900000=true) {rs:List ResultVar} (hrs:fn.results.toList=rs)
  (rks:List (List Kd)) (hm:P.follows .mixedOrders=true) (hT:TiOK P B E) (hE:∀ t,t∈E.eqs→EqSnd P t (E.tyd t).ks) (hSp:∀ f sp,lk E.sp f=some sp→Snd P B f (fun vs=>(sp vs).get)) (hIp:∀ f p,lk E.ip f=some p→zzs P f p) (hB:BldOK P B E):Snd P B f (z11 E code rs rks):=by
 intro w X γ vs xs r out hsp hgl hxo hR hV;unfold z11 at hsp
 split at hsp
 case h_2=>cases hsp
 rename_i hle;have hle':=v03 hle;have hlen:xs.length=vs.length:=by rw [← hV.length,v12]
 refine Does.enter hf hn (by rw [hb]; rfl) (calls_of_wp hf hb ?_)
 let B':BT:=⟨B.T,B.e,some (zm9 (γ 900000)),B.ng,B.F⟩
 have hT':TiOK P B' E:=fun t x ht=>⟨(hT t x ht).info,(hT t x ht).ks,(hT t x ht).by1,(hT t x ht).one,(hT t x ht).und⟩
 have hSp':SpOK P B' E w X:=⟨⟨hgl,hxo⟩,fun f sp hfs=>hSp f sp hfs,hIp⟩
 have hB':BldOK P B' E:=hB;have hstart:Rel B' fn.ntmps w X γ ⟨y3l 0 vs,zcg vs⟩ { tmps:=xs.toArray++Array.replicate (fn.ntmps - xs.toArray.size) undef,defers:=[] } w:=by
  refine ⟨?_,rfl,fun i=>?_,fun n ob hnob=>?_,hR.lt,hR.dis,hR.keep,hR.nr,hR.fl,fun p hp ob _=>?_⟩
  ·simp
   omega
  ·simp only [St.get,zx7]
   split
   ·rename_i hi
    have hi':i < vs.length:=by omega
    have h1:(vs.map z8s)[i]?=some (z8s vs[i]):=by simp [hi']
    obtain ⟨x,hx,hvx⟩:=hV.get h1;have h2:vs.getD (i - 0) .any=vs[i]:=by simp [hi']
    rw [h2];have h3:(xs.toArray++Array.replicate (fn.ntmps - xs.toArray.size) undef).getD i undef=x:=by
     rw [v2a,v38 (by simp; omega)]
     simp [hx]
    simp only [h3];exact hvx
   ·simp only [VRel]
  ·have:=hR.ob n ob hnob
   cases ob with
   | box l=>simpa only [ObRel] using this
   | row own e ag ks l=>cases own <;> simpa only [ObRel] using this
   | bld s=>simpa only [ObRel,BT.base] using this
  ·simp only [B',v00] at hp
   exact hp
 refine zjv hT' hE hSp' hB' hnt (v03 hn9) hm code hsp hstart (fun o γ' st' a' w' h' hk'=>?_)
 have fin:∀ l,ygm E st' rs=some l→yg3 st'.o rks (z6e vs) (yix l)=some (r,out)→bodyPost P fn (fun e w'=>∃ x,e = .returned x∧∃ γ',Rel B.base 0 w X γ' ⟨[],z3l r out⟩ zvv w'∧VRel γ' (z3l r out) w' (z0a X γ' (z3l r out)) (y6u r) x∧zai vs r out (γ 900000) (γ' 900000)) .ret a' w':=by
  intro l hl he;obtain ⟨ys,hy1,hy2⟩:=zxt (P:=P) hT' hl h';have hval:(results fn a'.tmps).run P w' = .ok (if h:ys.toArray.size=1 then ys.toArray[0] else .tuple ys.toArray) w':=by
   unfold results;rw [show fn.results=rs.toArray by rw [← hrs]]
   rw [Array.mapM_eq_mapM_toList];simp only [Sem.run_bind,Sem.run_map]
   erw [hy1]
   rfl
  have hrel:VRel γ' st'.o w' (z0a X γ' st'.o) (yix l) (if h:ys.toArray.size=1 then ys.toArray[0] else .tuple ys.toArray):=by
   match l,ys,hy2 with
   | [],[],_=>simp only [yix,VRel]; exact ⟨#[],by simp,by simp only [VRels]⟩
   | [v],[y],h2=>simp only [VRels] at h2; simpa [yix] using h2.1
   | v :: v' :: l,y :: y' :: ys,h2=>simp only [yix,VRel]; exact ⟨(y :: y' :: ys).toArray,by simp,by simpa using h2⟩
  obtain ⟨γ2,q1,q2,q3⟩:=yfy (B:=B) h' hrel he rfl;exact ⟨h'.df,_,hval,_,rfl,γ2,q1,q2,q3⟩
 cases o with
 | exit i=>simp [z30] at hk'
 | normal=>
  simp only [z30] at hk'
  split at hk'
  ·rename_i l hl
   exact fin l hl hk'
  ·cases hk'
 | ret=>
  simp only [z30] at hk'
  split at hk'
  ·rename_i l hl
   exact fin l hl hk'
  ·cases hk'
end
open Go Go.RowKit
def zB:V→Value→Bool
 | .int k n,.int k' n'=>k==k'&&(n==n'&&y9e k n)
 | .bool b,.bool c=>b==c
 | .str s,.string s'=>s.size==0&&s'.size==0
 | .zs,.slice none 0 0=>true
 | .nilp,.pointer none=>true
 | .err true,.nilIface=>true
 | .any,_=>true
 | _,_=>false
def zBs:List V→List Value→Bool
 | [],[]=>true
 | v :: vs,x :: xs=>zB v x&&zBs vs xs
 | _,_=>false
def dB (P:Program) (T t:Nat) (ks:List Kd):TD→TypeDesc→Bool
 | .slice e,.slice e'=>e==e'
 | .struct fs,.struct fields=>fs==fields.toList.map (fun f=>(f.offset,f.type))&&fields.toList.all (fun f=>(P.info? f.type).isSome)
 | .array n e,.array n' e'=>n==n'&&e==e'
 | .ptr e,.pointer e'=>e==e'
 | .bld,_=>t==T
 | .iface,.interface _=>true
 | .leaf,d=>match ks with
  | [.int k]=>(match d with | .int k'=>k==k' | _=>false)
  | [.str]=>(match d with | .string=>true | _=>false)
  | [.bool]=>(match d with | .bool=>true | _=>false)
  | _=>true
 | _,_=>false
def tiB (P:Program) (T t:Nat) (x:TI):Bool:=
 match P.info? t,P.underlying t with
 | some i,some d=>match i.zero with
  | some z=>i.size==x.size&&(i.bytes==x.bytes&&(z.cells.size==x.size&&(zBs x.zero z.cells.toList&&(x.ks.length==x.size&&(Nat.ble 1 x.bytes&&((x.agg||x.size==1)&&(d.isRow==x.agg&&dB P T t x.ks x.d d)))))))
  | none=>false
 | _,_=>false
def yj4 (P:Program) (T:Nat):List (Nat × TI)→Bool
 | []=>true
 | (t,x) :: r=>tiB P T t x&&yj4 P T r
theorem yjn {γ:Nat→Value} {o:Store} {w:World} {O:Nat→Prop} {v:V} {x:Value} (h:zB v x=true):VRel γ o w O v x:=by
 unfold zB at h
 split at h
 ·simp only [v02,v1g,y9e,v06] at h
  obtain ⟨rfl,rfl,h1,h2⟩:=h;simp only [VRel];exact ⟨trivial,h1,h2⟩
 ·simp only [v1g] at h
  subst h;simp only [VRel]
 ·rename_i s s'
  simp only [v02,v1g] at h;have e:∀ s:ByteArray,s.size=0→s=ByteArray.empty:=fun s hs=>by
   obtain ⟨⟨l⟩⟩:=s;cases l with
   | nil=>rfl
   | cons a l=>simp [ByteArray.size] at hs
  simp only [VRel];rw [e s h.1,e s' h.2];exact ⟨rfl,by simp [ByteArray.size_empty]⟩
 ·simp only [VRel]
 ·simp only [VRel]
 ·simp only [VRel]
 ·simp only [VRel]
 ·cases h
theorem ybb {γ:Nat→Value} {o:Store} {w:World} {O:Nat→Prop}:∀ {l:List V} {xs:List Value},zBs l xs=true→VRels γ o w O l xs
 | [],[],_=>by simp only [VRels]
 | [],_ :: _,h=>by simp [zBs] at h
 | _ :: _,[],h=>by simp [zBs] at h
 | v :: vs,x :: xs,h=>by
  simp only [zBs,v02] at h;simp only [VRels];exact ⟨yjn h.1,ybb h.2⟩
theorem yi6 {P:Program} {B:BT} {t:Nat} {x:TI} (h:tiB P B.T t x=true):TISnd P B t x:=by
 unfold tiB at h
 split at h
 ·rename_i i d hi hd
  split at h
  ·rename_i z hz
   simp only [v02,v1g,v2v] at h;obtain ⟨h1,h2,h3,h4,h5,h6,h7,h8,h9⟩:=h;refine ⟨⟨i,z,hi,h1,h2,hz,h3,fun γ o w O=>ybb h4⟩,h5,v03 h6,fun ha=>by rw [ha] at h7; simpa using h7,⟨d,hd,h8,?_⟩⟩
   cases hx:x.d with
   | slice e=>rw [hx] at h9; cases d <;> simp only [dB] at h9 <;> first | (cases h9; done) | (simp only [v1g] at h9; subst h9; rfl)
   | struct fs=>
    rw [hx] at h9;cases d <;> simp only [dB] at h9 <;> first | (cases h9; done) | skip
    rename_i fields;simp only [v02,v1g,v3a] at h9;exact ⟨fields,rfl,h9.1,h9.2⟩
   | array n e=>
    rw [hx] at h9;cases d <;> simp only [dB] at h9 <;> first | (cases h9; done) | skip
    simp only [v02,v1g] at h9;obtain ⟨rfl,rfl⟩:=h9
    rfl
   | ptr e=>rw [hx] at h9; cases d <;> simp only [dB] at h9 <;> first | (cases h9; done) | (simp only [v1g] at h9; subst h9; rfl)
   | bld=>rw [hx] at h9; simp only [dB,v1g] at h9; exact h9
   | iface=>rw [hx] at h9; cases d <;> simp only [dB] at h9 <;> first | (cases h9; done) | exact ⟨_,rfl⟩
   | leaf=>
    rw [hx] at h9;refine ⟨fun k hk=>?_,fun hk=>?_,fun hk=>?_⟩ <;> rw [hk] at h9 <;> cases d <;> simp only [dB] at h9 <;> first | (cases h9; done) | (simp only [v1g] at h9; subst h9; rfl) | rfl
  ·cases h
 ·cases h
theorem ye2 {P:Program} {B:BT} {E:Env} {ti:List (Nat × TI)} (he:E.ti=ti) (h:yj4 P B.T ti=true):TiOK P B E:=by
 subst he;have key:∀ (l:List (Nat × TI)),yj4 P B.T l=true→∀ t x,lk l t=some x→tiB P B.T t x=true:=by
  intro l
  induction l with
  | nil=>intro _ t x hx; simp [lk] at hx
  | cons p r ih=>
   obtain ⟨j,y⟩:=p;intro hl t x hx;simp only [yj4,v02] at hl;simp only [lk] at hx
   split at hx
   ·rename_i hb
    simp only [v00] at hx;subst hx;rw [← z1o.1 hb];exact hl.1
   ·exact ih hl.2 t x hx
 exact fun t x ht=>yi6 (key E.ti h t x ht)
def zx5 (P:Program) (t w:Nat):Bool:=match P.info? t with | some _=>P.cellsOf t==w | none=>false
def yha (ks:List Kd):Nat→List Kd
 | 0=>[]
 | n+1=>ks++yha ks n
def yji (P:Program) (g:Nat→Option (List Kd)):List Field→Nat→Option (List Kd)
 | [],_=>some []
 | f :: r,o=>match g f.type with
  | some ks=>match f.name != "_"&&(f.offset==o&&zx5 P f.type ks.length) with
   | true=>match yji P g r (o+ks.length) with
    | some ks'=>some (ks++ks')
    | none=>none
   | false=>none
  | none=>none
def eqW (P:Program):Nat→Nat→Option (List Kd)
 | 0,_=>none
 | d+1,t=>match P.underlying t with
  | some (.int k)=>some [.int k]
  | some .bool=>some [.bool]
  | some (.struct fs)=>match P.stoodInHeld t with
   | true=>none
   | false=>yji P (eqW P d) fs.toList 0
  | some (.array n e)=>match eqW P d e with
   | some ks=>match zx5 P e ks.length with
    | true=>some (yha ks n)
    | false=>none
   | none=>none
  | _=>none
def yke (P:Program) (ti:List (Nat × TI)):List Nat→Bool
 | []=>true
 | t :: r=>(!(P.eqGuardType P.depth t))&&((match P.underlying t with | some d=>d.isRow | none=>false)&&(match eqW P 10 t with | some ks=>zto.kdsEq (lkd TI.none ti t).ks ks | none=>false))&&yke P ti r
theorem za2:∀ {ks:List Kd} {l:List V},z8d ks l=true→l.length=ks.length
 | [],[],_=>rfl
 | [],_ :: _,h=>by simp [z8d] at h
 | k :: _,[],h=>by cases k <;> simp [z8d] at h
 | k :: ks,v :: l,h=>by
  cases k <;> cases v <;> simp only [z8d] at h <;> try (cases h; done)
  ·split at h
   ·simp [za2 h]
   ·cases h
  ·simp [za2 h]
theorem zdl:∀ {ks ks':List Kd} {l:List V},z8d (ks++ks') l=true→z8d ks (l.take ks.length)=true∧z8d ks' (l.drop ks.length)=true
 | [],_,_,h=>⟨rfl,h⟩
 | k :: ks,ks',[],h=>by cases k <;> simp [z8d] at h
 | k :: ks,ks',v :: l,h=>by
  cases k <;> cases v <;> simp only [v1k,z8d] at h <;> try (cases h; done)
  ·split at h
   ·rename_i hk
    obtain ⟨h1,h2⟩:=zdl h;simp only [v05,v3g,v3w,z8d,hk];exact ⟨h1,h2⟩
   ·cases h
  ·obtain ⟨h1,h2⟩:=zdl h
   simp only [v05,v3g,v3w,z8d];exact ⟨h1,h2⟩
theorem zhx:∀ {a a':List V} {b b':List V} {c:Bool},a.length=a'.length→zwp (a++b) (a'++b')=some c→∃ c1 c2,zwp a a'=some c1∧zwp b b'=some c2∧c=(c1&&c2)
 | [],[],b,b',c,_,h=>⟨true,c,rfl,h,by simp⟩
 | [],_ :: _,_,_,_,hl,_=>by simp at hl
 | _ :: _,[],_,_,_,hl,_=>by simp at hl
 | x :: a,y :: a',b,b',c,hl,h=>by
  have hl':a.length=a'.length:=by simpa using hl
  cases x <;> cases y <;> simp only [v1k,zwp] at h ⊢ <;> try (cases h; done)
  ·split at h
   ·rename_i hk
    split at h
    ·rename_i c0 h0
     simp only [v00] at h;obtain ⟨c1,c2,h1,h2,h3⟩:=zhx hl' h0;rw [h1];exact ⟨_,c2,rfl,h2,by rw [← h,h3,Bool.and_assoc]⟩
    ·cases h
   ·cases h
  ·split at h
   ·rename_i c0 h0
    simp only [v00] at h;obtain ⟨c1,c2,h1,h2,h3⟩:=zhx hl' h0;rw [h1];exact ⟨_,c2,rfl,h2,by rw [← h,h3,Bool.and_assoc]⟩
   ·cases h
theorem zew:∀ {a a':List V} {c:Bool},zwp a a'=some c→a.length=a'.length
 | [],[],_,_=>rfl
 | [],_ :: _,_,h=>by simp [zwp] at h
 | x :: _,[],_,h=>by cases x <;> simp [zwp] at h
 | x :: a,y :: a',c,h=>by
  cases x <;> cases y <;> simp only [zwp] at h <;> try (cases h; done)
  ·split at h
   ·split at h
    ·rename_i h0
     simp [zew h0]
    ·cases h
   ·cases h
  ·split at h
   ·rename_i h0
    simp [zew h0]
   ·cases h
section
variable {P:Program} {γ:Nat→Value} {o:Store} {w:World} {O:Nat→Prop}
def zp5 (P:Program) (γ:Nat→Value) (o:Store) (w:World) (O:Nat→Prop) (t:Nat) (l:List V) (x:Value):Prop:=
 match P.underlying t with
 | some d=>match d.isRow with
  | true=>∃ xs,x = .agg xs∧VRels γ o w O l xs.toList
  | false=>∃ v,l=[v]∧VRel γ o w O v x
 | none=>False
theorem yd8 {d t:Nat} {ks:List Kd} (h:eqW P d t=some ks):∃ k,P.underlying t=some k∧(k.isRow=false→ks.length=1):=by
 cases d with
 | zero=>simp [eqW] at h
 | succ d=>
  simp only [eqW] at h
  split at h
  ·rename_i hu; simp only [v00] at h; exact ⟨_,hu,fun _=>by rw [← h]; rfl⟩
  ·rename_i hu; simp only [v00] at h; exact ⟨_,hu,fun _=>by rw [← h]; rfl⟩
  ·rename_i hu; exact ⟨_,hu,fun h=>by simp [TypeDesc.isRow] at h⟩
  ·rename_i hu; exact ⟨_,hu,fun h=>by simp [TypeDesc.isRow] at h⟩
  ·cases h
theorem zf2 {t n off:Nat} {l:List V} {xs:Array Value} (hu:∃ k,P.underlying t=some k∧(k.isRow=false→n=1)) (hs:zx5 P t n=true) (hr:VRels γ o w O l xs.toList) (hl:off+n≤l.length) (W:World) :
  ∃ y,(part t xs off).run P W = .ok y W∧zp5 P γ o w O t ((l.drop off).take n) y:=by
 obtain ⟨k,hu,hn⟩:=hu;unfold zx5 at hs
 split at hs
 ·rename_i i hi
  simp only [v1g] at hs;cases hrow:k.isRow with
  | true=>
   refine ⟨.agg (xs.extract off (off+n)),?_,?_⟩
   ·cases k <;> simp [TypeDesc.isRow] at hrow <;> simp [part,isAgg,run_underlying hu,run_sizeOf W hi,hs]
   ·unfold zp5
    rw [hu];simp only [hrow];refine ⟨_,rfl,?_⟩
    have:(xs.extract off (off+n)).toList=(xs.toList.drop off).take n:=by
     simp [v2e]
    rw [this];exact (hr.drop off).take n
  | false=>
   obtain rfl:=hn hrow;obtain ⟨v,hv⟩:∃ v,l[off]?=some v:=⟨l[off]'(by omega),v0e _⟩
   obtain ⟨y,hy,hyr⟩:=hr.get hv;have hy':xs[off]?=some y:=by simpa using hy
   refine ⟨y,?_,?_⟩
   ·cases k <;> simp [TypeDesc.isRow] at hrow <;> simp [part,isAgg,run_underlying hu,hy']
   ·unfold zp5
    rw [hu];simp only [hrow];refine ⟨v,?_,hyr⟩;rw [List.take_one,List.head?_drop,hv]
    rfl
 ·cases hs
def yh2 (P:Program) (γ:Nat→Value) (o:Store) (w:World) (O:Nat→Prop) (dd t:Nat) (ks:List Kd):Prop:=∀ (W:World) (x y:Value) (l l':List V) (c:Bool),z8d ks l=true→zp5 P γ o w O t l x→zp5 P γ o w O t l' y→zwp l l'=some c→(Op.equalIn dd t x y).run P W = .ok c W
theorem z9q (l:List V) (off n:Nat):l.drop off=(l.drop off).take n++l.drop (off+n):=by
 rw [← v3v]; exact (v3o n (l.drop off)).symm
theorem zpc {dd:Nat} {g:Nat→Option (List Kd)} (hg:∀ t ks,g t=some ks→yh2 P γ o w O dd t ks∧∃ k,P.underlying t=some k∧(k.isRow=false→ks.length=1)) {xs ys:Array Value} {l l':List V} (hx:VRels γ o w O l xs.toList) (hy:VRels γ o w O l' ys.toList) (hll:l.length=l'.length) (W:World) :
  ∀ (fs:List Field) (off:Nat) {ks:List Kd} {c:Bool},off≤l.length→yji P g fs off=some ks→z8d ks (l.drop off)=true→zwp (l.drop off) (l'.drop off)=some c→(Op.eqFields dd xs ys fs).run P W = .ok c W
 | [],off,ks,c,hoff,hf,hk,he=>by
  simp only [yji,v00] at hf;subst hf;have h0:=za2 hk;have h1:l.drop off=[]:=List.length_eq_zero_iff.1 h0;have h2:l'.drop off=[]:=by
   have:=zew he
   rw [h1] at this;exact List.length_eq_zero_iff.1 this.symm
  rw [h1,h2] at he;simp only [zwp,v00] at he;subst he;simp [Op.eqFields]
 | f :: r,off,ks,c,hoff,hf,hk,he=>by
  simp only [yji] at hf
  split at hf
  ·rename_i ks1 hw
   split at hf
   ·rename_i hb
    split at hf
    ·rename_i ks2 hf2
     simp only [v00] at hf;subst hf;simp only [v02,v1g,bne_iff_ne,ne_eq] at hb;obtain ⟨hn,ho,hs⟩:=hb;obtain ⟨hrun,hu⟩:=hg _ _ hw;obtain ⟨hk1,hk2⟩:=zdl hk;rw [v3v] at hk2;have hkl:=za2 hk;simp only [v1j,v08] at hkl;have hle:off+ks1.length≤l.length:=by omega
     rw [z9q l off ks1.length,z9q l' off ks1.length] at he;obtain ⟨c1,c2,h1,h2,h3⟩:=zhx (by simp; omega) he
     obtain ⟨a,ha,hac⟩:=zf2 (off:=off) hu hs hx hle W;obtain ⟨b,hb,hbc⟩:=zf2 (off:=off) hu hs hy (by omega) W
     have he1:=hrun W a b _ _ c1 hk1 hac hbc h1;have ih:=zpc hg hx hy hll W r (off+ks1.length) hle hf2 hk2 h2;simp only [Op.eqFields,hn,ne_eq,not_false_eq_true,v1o,Sem.run_bind,ho,ha,hb,he1,Result.andThen_ok];subst h3;cases c1
     ·simp
     ·simpa using ih
    ·cases hf
   ·cases hf
  ·cases hf
theorem zrq {dd e:Nat} {ks:List Kd} (hrun:yh2 P γ o w O dd e ks) (hu:∃ k,P.underlying e=some k∧(k.isRow=false→ks.length=1)) (hs:zx5 P e ks.length=true) {xs ys:Array Value} {l l':List V} (hx:VRels γ o w O l xs.toList) (hy:VRels γ o w O l' ys.toList) (hll:l.length=l'.length) (W:World) :
  ∀ (m i:Nat) {c:Bool},i*ks.length+m*ks.length=l.length→z8d (yha ks m) (l.drop (i*ks.length))=true→zwp (l.drop (i*ks.length)) (l'.drop (i*ks.length))=some c→(Op.eqItems dd e ks.length xs ys (List.range' i m)).run P W = .ok c W
 | 0,i,c,hl,hk,he=>by
  rw [v1e (by omega),v1e (by omega)] at he
  simp only [zwp,v00] at he;subst he;simp [Op.eqItems]
 | m+1,i,c,hl,hk,he=>by
  rw [v27,Nat.one_mul] at hl;obtain ⟨hk1,hk2⟩:=zdl (ks:=ks) (ks':=yha ks m) hk;rw [v3v] at hk2;rw [z9q l (i*ks.length) ks.length,z9q l' (i*ks.length) ks.length] at he;obtain ⟨c1,c2,h1,h2,h3⟩:=zhx (by simp; omega) he
  obtain ⟨a,ha,hac⟩:=zf2 (off:=i*ks.length) hu hs hx (by omega) W
  obtain ⟨b,hb,hbc⟩:=zf2 (off:=i*ks.length) hu hs hy (by omega) W
  have he1:=hrun W a b _ _ c1 hk1 hac hbc h1;have ih:=zrq hrun hu hs hx hy hll W m (i+1) (by rw [v27,Nat.one_mul]; omega) (by rw [v27,Nat.one_mul]; exact hk2) (by rw [v27,Nat.one_mul]; exact h2)
  simp only [List.range'_succ,Op.eqItems,Sem.run_bind,ha,hb,he1,Result.andThen_ok];subst h3;cases c1
  ·simp
  ·simpa using ih
theorem zt8 (ks:List Kd):∀ n,(yha ks n).length=n*ks.length
 | 0=>by simp [yha]
 | n+1=>by simp only [yha,v08,zt8 ks n,v27,Nat.one_mul]; omega
theorem y6s (dd:Nat):∀ (d t:Nat) (ks:List Kd),eqW P d t=some ks→yh2 P γ o w O (dd+d) t ks
 | 0,t,ks,h=>by simp [eqW] at h
 | d+1,t,ks,h=>by
  intro W x y l l' c hk hx hy he;have hll:=zew he;simp only [eqW] at h;unfold zp5 at hx hy
  split at h
  ·rename_i k hu
   simp only [v00] at h;subst h;rw [hu] at hx hy;simp only at hx hy;obtain ⟨v,rfl,hx⟩:=hx;obtain ⟨v',rfl,hy⟩:=hy;cases v <;> simp only [z8d] at hk <;> try (cases hk; done)
   cases v' <;> simp only [zwp] at he <;> try (cases he; done)
   simp only [VRel] at hx hy;obtain ⟨rfl,_⟩:=hx;obtain ⟨rfl,_⟩:=hy
   split at he
   ·rename_i hkk
    simp only [v00,v1c] at he;have hkk:=eq_of_beq hkk;subst hkk;rw [show dd+(d+1)=(dd+d)+1 from rfl,run_equalIn_int W _ t _ k _ _ hu,he]
   ·cases he
  ·rename_i hu
   simp only [v00] at h;subst h;rw [hu] at hx hy;simp only at hx hy;obtain ⟨v,rfl,hx⟩:=hx;obtain ⟨v',rfl,hy⟩:=hy;cases v <;> simp only [z8d] at hk <;> try (cases hk; done)
   cases v' <;> simp only [zwp] at he <;> try (cases he; done)
   simp only [VRel] at hx hy;subst hx; subst hy;simp only [v00,v1c] at he;rw [show dd+(d+1)=(dd+d)+1 from rfl,run_equalIn_bool W _ t _ _ hu,he]
  ·rename_i fs hu
   rw [hu] at hx hy;simp only at hx hy;obtain ⟨xs,rfl,hx⟩:=hx;obtain ⟨ys,rfl,hy⟩:=hy
   split at h
   ·cases h
   ·rename_i hst
    have hfs:P.fieldsOf t=fs:=by simp [Program.fieldsOf,hu]
    rw [show dd+(d+1)=(dd+d)+1 from rfl,run_equalIn_struct W (dd+d) t xs ys (by rw [hfs]; exact hu) hst,hfs]
    exact zpc (fun t ks ht=>⟨y6s dd d t ks ht,yd8 ht⟩) hx hy hll W fs.toList 0 (v0y _) h hk he
  ·rename_i m e hu
   rw [hu] at hx hy;simp only at hx hy;obtain ⟨xs,rfl,hx⟩:=hx;obtain ⟨ys,rfl,hy⟩:=hy
   split at h
   ·rename_i ks1 hw
    split at h
    ·rename_i hs
     simp only [v00] at h;subst h;have hs':=hs;unfold zx5 at hs'
     split at hs'
     ·rename_i i hi
      simp only [v1g] at hs';have hkl:=za2 hk;rw [zt8] at hkl;rw [show dd+(d+1)=(dd+d)+1 from rfl,run_equalIn_array W (dd+d) xs ys hu hi,hs',v3r]
      exact zrq (y6s dd d e ks1 hw) (yd8 hw) hs hx hy hll W m 0 (by omega) (by simpa using hk) (by simpa using he)
     ·cases hs'
    ·cases h
   ·cases h
  ·cases h
end
theorem ye5 {P:Program} {E:Env} {ti:List (Nat × TI)} (hti:E.ti=ti) {l:List Nat} (h:yke P ti l=true):∀ t,t∈l→EqSnd P t (E.tyd t).ks:=by
 induction l with
 | nil=>intro t ht; cases ht
 | cons t r ih=>
  intro t' ht';simp only [yke,v02,v17] at h;rcases v15.1 ht' with e | e
  ·subst e
   refine ⟨h.1.1,fun γ o w w' O l l' xs ys c hk hc hx hy=>?_⟩
   obtain ⟨⟨_,h2,h3⟩,_⟩:=h
   split at h3
   ·rename_i ks hn
    have hks:(E.tyd t').ks=ks:=by
     unfold Env.tyd;rw [hti];exact zy2 h3
    rw [hks] at hk
    split at h2
    ·rename_i k hk2
     have hcx:∀ {l:List V} {xs:Array Value},VRels γ o w O l xs.toList→zp5 P γ o w O t' l (.agg xs):=fun hx=>by
      unfold zp5;rw [hk2];simp only [h2];exact ⟨_,rfl,hx⟩
     exact y6s (P:=P) (γ:=γ) (o:=o) (w:=w) (O:=O) 9990 10 t' ks hn w' (.agg xs) (.agg ys) l l' c hk (hcx hx) (hcx hy) hc
    ·cases h2
   ·cases h3
  ·exact ih h.2 t' e
open Go Go.RowKit
theorem Snd.mono {P:Program} {B:BT} {f:FuncId} {sp sp':ygk} (h:Snd P B f sp) (hs:∀ vs r,sp' vs=some r→sp vs=some r):Snd P B f sp':=
 fun w X γ vs xs r out hsp=>h w X γ vs xs r out (hs vs _ hsp)
def z2y (P:Program) (B:BT) (f:FuncId) (sp:z0q):Prop:=Snd P B f (fun vs=>(sp vs).get)
mutual
def wfK:Kd→IV→Prop
 | .int k,x=>k.min≤x.toInt∧x.toInt≤k.max
 | .bool,_=>True
 | .str,x=>x.toStr.size≤strMax
 | .list ag ks,x=>x.toList.length≤strMax∧∀ y∈x.toList,yij ks (z2w ag y) 0
def yij:List Kd→(Nat→IV)→Nat→Prop
 | [],_,_=>True
 | k :: ks,f,j=>wfK k (f j)∧yij ks f (j+1)
end
def wfL:V→Prop
 | .int k n=>k.min≤n∧n≤k.max
 | .str s=>s.size≤strMax
 | .list ag ks l=>l.length≤strMax∧∀ y∈l,yij ks (z2w ag y) 0
 | .vec _ ag ks l=>l.length≤strMax∧∀ y∈l,yij ks (z2w ag y) 0
 | .bld s=>s.size≤strMax
 | _=>True
def wfLs:List V→Prop
 | []=>True
 | v :: r=>wfL v∧wfLs r
def wfV:V→Prop
 | .agg l=>wfLs l
 | .bor l=>wfLs l
 | v=>wfL v
def yfd:List V→Prop
 | []=>True
 | v :: r=>wfV v∧yfd r
mutual
theorem Kd.Rel.wf {w:World} {O:Nat→Prop}:∀ {k:Kd} {x:IV} {v:Value},Kd.Rel w O k x v→wfK k x
 | .int k,x,v,h=>by simp only [Kd.Rel] at h; simp only [wfK]; exact h.2
 | .bool,x,v,h=>by simp only [wfK]
 | .str,x,v,h=>by simp only [Kd.Rel] at h; simp only [wfK]; exact h.2
 | .list ag ks,x,v,h=>by
  simp only [Kd.Rel] at h;obtain ⟨p,c,_,_,_,hl,hi⟩:=h;simp only [wfK];refine ⟨hl,fun y hy=>?_⟩
  obtain ⟨i,hi'⟩:=v2y hy;obtain ⟨b,o,_,_,_,hr⟩:=hi i y hi';exact Kd.RelAll.wf hr
theorem Kd.RelAll.wf {w:World} {O:Nat→Prop}:∀ {ks:List Kd} {f:Nat→IV} {j:Nat} {R:Nat→Value→Prop},Kd.RelAll w O ks f j R→yij ks f j
 | [],_,_,_,_=>by simp only [yij]
 | k :: ks,f,j,R,h=>by
  simp only [Kd.RelAll] at h;obtain ⟨⟨u,_,hr⟩,h2⟩:=h;simp only [yij];exact ⟨Kd.Rel.wf hr,Kd.RelAll.wf h2⟩
end
theorem VRel.wfL {γ:Nat→Value} {o:Store} {w:World} {O:Nat→Prop} {v:V} {x:Value} (h:VRel γ o w O v x):wfL v:=by
 cases v <;> simp only [FM.wfL] <;> simp only [VRel] at h
 ·exact h.2
 ·exact h.2
 ·have:=Kd.Rel.wf h
  simp only [wfK,IV.toList] at this;exact this
theorem VRels.wfLs {γ:Nat→Value} {o:Store} {w:World} {O:Nat→Prop}:∀ {l:List V} {xs:List Value},VRels γ o w O l xs→wfLs l
 | [],[],_=>by simp only [FM.wfLs]
 | [],_ :: _,h=>by simp only [VRels] at h
 | _ :: _,[],h=>by simp only [VRels] at h
 | v :: vs,x :: xs,h=>by
  simp only [VRels] at h;simp only [FM.wfLs];exact ⟨h.1.wfL,VRels.wfLs h.2⟩
theorem yjg {B:BT} {γ:Nat→Value} {o:Store} {w:World} {O:Nat→Prop} {g:Value} {e:Nat} {ag:Bool} {ks:List Kd} {l:List IV} (h:ObRel B γ o w O g (.row true e ag ks l)):wfL (.vec e ag ks l):=by
 simp only [ObRel] at h;obtain ⟨_,hl,xs,_,hr⟩:=h;simp only [FM.wfL];refine ⟨hl,fun y hy=>?_⟩
 obtain ⟨i,hi⟩:=v2y hy;exact Kd.RelAll.wf (hr i y hi)
theorem ygu {B:BT} {nt:Nat} {w0:World} {X:Zone} {γ:Nat→Value} {a:Act} {w:World} {cs:List V} (h:Rel B nt w0 X γ ⟨[],z83 cs⟩ a w):wfLs cs:=by
 by_cases hb:∃ s,cs=[.bld s]
 ·obtain ⟨s,rfl⟩:=hb
  have:=h.ob 900000 (.bld s) (by simp [z83,z01])
  simp only [ObRel] at this;obtain ⟨b,v,p,_,_,_,_,_,hs⟩:=this;simp only [FM.wfLs,FM.wfL,v18];exact hs
 ·have he:z83 cs=(900000,some (.box (z71 900001 cs))) :: zgf 900001 cs:=zxc (fun s e=>hb ⟨s,e⟩)
  have hbox:=h.ob 900000 (.box (z71 900001 cs)) (by rw [he,z01,v1f rfl])
  simp only [ObRel] at hbox;obtain ⟨b,c,T,_,_,hr⟩:=hbox;have hall:∀ (j:Nat) (v:V),cs[j]?=some v→FM.wfL v:=by
   intro j v hj
   by_cases hv:∃ e ag ks l,v = .vec e ag ks l
   ·obtain ⟨e,ag,ks,l,rfl⟩:=hv
    have hat:=zmb (nr:=900001) hj
    have:=h.ob (900001+j) _ (show z04 (z83 cs) (900001+j)=_ by rw [he,z01,v10 (by omega)]; exact hat)
    exact yjg this
   ·have hbk:(z71 900001 cs)[j]?=some v:=by
     rw [zgx,hj];cases v <;> first | rfl | exact absurd ⟨_,_,_,_,rfl⟩ hv
    obtain ⟨x,_,hx⟩:=hr.get hbk;exact hx.wfL
  clear hr he hb h
  induction cs with
  | nil=>simp only [FM.wfLs]
  | cons v r ih=>
   simp only [FM.wfLs];exact ⟨hall 0 v rfl,ih (fun j u hj=>hall (j+1) u (by simpa using hj))⟩
theorem ydg {B:BT} {nt:Nat} {w0:World} {X:Zone} {γ:Nat→Value} {a:Act} {w:World} {O:Nat→Prop} {o:Store} {cs:Option (List V)} (hcs:∀ l,cs=some l→wfLs l):∀ {vs:List V} {xs:List Value},(∀ l,.bor l∈vs→cs=some l)→VRels γ o w O (vs.map z8s) xs→yfd vs
 | [],_,_,_=>by simp only [yfd]
 | v :: r,[],_,h=>by simp only [v0d,VRels] at h
 | v :: r,x :: xs,hb,h=>by
  simp only [v0d,VRels] at h;simp only [yfd];refine ⟨?_,ydg (B:=B) (nt:=nt) (w0:=w0) (X:=X) (a:=a) hcs (fun l hl=>hb l (v0b _ hl)) h.2⟩
  have h1:=h.1
  by_cases hbor:∃ l,v = .bor l
  ·obtain ⟨l,rfl⟩:=hbor
   simp only [wfV];exact hcs l (hb l (v0a ..))
  ·by_cases hagg:∃ l,v = .agg l
   ·obtain ⟨l,rfl⟩:=hagg
    simp only [z8s,VRel] at h1;obtain ⟨cs',_,hr⟩:=h1;simp only [wfV];exact hr.wfLs
   ·have:wfV v=FM.wfL v:=by cases v <;> first | rfl | exact absurd ⟨_,rfl⟩ hbor | exact absurd ⟨_,rfl⟩ hagg
    rw [this];cases v <;> first | exact h1.wfL | exact absurd ⟨_,rfl⟩ hbor | exact absurd ⟨_,rfl⟩ hagg | (simp only [FM.wfL])
def zc8:List V→Option (List V)→Prop
 | [],_=>True
 | .bor l :: r,c=>c=some l∧zc8 r c
 | _ :: r,c=>zc8 r c
theorem zmu:∀ {vs:List V} {c:Option (List V)},zc8 vs c→∀ l,.bor l∈vs→c=some l
 | [],_,_,l,h=>by cases h
 | v :: r,c,ho,l,h=>by
  rcases v15.1 h with e | e
  ·subst e
   exact ho.1
  ·cases v <;> simp only [zc8] at ho <;> first | exact zmu ho l e | exact zmu ho.2 l e
theorem yc2 {P:Program} {B:BT} {f:FuncId} {fn:Func} (E:Nat→Env) (sp:z0q) (rks:List (List Kd)) (hf:P.funcs[f]?=some fn) {code:Code} {rs:List ResultVar} {nt:Nat}
  (hc:(fn.name == "runtime.NumGoroutine")=false∧fn.body=some code∧fn.ntmps=nt∧Nat.ble nt 900000=true∧fn.results.toList=rs) (hnt:∀ N,(E N).nt=nt) (hm:P.follows .mixedOrders=true)
  (hT:∀ N,TiOK P B (E N)) (hE:∀ N t,t∈(E N).eqs→EqSnd P t ((E N).tyd t).ks) (hSp:∀ N f sp,lk (E N).sp f=some sp→z2y P B f sp) (hIp:∀ N f p,lk (E N).ip f=some p→zzs P f p) (hB:∀ N,BldOK P B (E N))
  (h:∀ vs r,(zc8 vs (z6e vs)→yfd vs)→(sp vs).get=some r→∃ N,z11 (E N) code rs rks vs=some r):z2y P B f sp:=by
 intro w X γ vs xs r out hsp hg hx hR hV;have hwf:zc8 vs (z6e vs)→yfd vs:=fun ho=>by
  refine ydg (B:=B.base) (nt:=0) (w0:=w) (X:=X) (a:=zvv) (cs:=z6e vs) (fun l hl=>?_) (zmu ho) hV
  have hm:zcg vs=z83 l:=by simp only [zcg,hl]
  rw [hm] at hR;exact ygu hR
 obtain ⟨N,hN⟩:=h vs _ hwf hsp;exact ybo hf hc.1 hc.2.1 ((hnt N).trans hc.2.2.1.symm) (by rw [hc.2.2.1]; exact hc.2.2.2.1) hc.2.2.2.2 rks hm (hT N) (hE N) (hSp N) (hIp N) (hB N) w X γ vs xs r out hN hg hx hR hV
abbrev ic (n:Nat):Int:=n
abbrev lpE (E:Env) (c:Code) (kp:KP) (n:Nat) (s:St) (k:Out→St→Res):Res:=ztq c (evG ztq E c) kp n s k
abbrev kSq (E:Env) (c:Code) (k:Out→St→Res):Out→St→Res:=ylh c (evG ztq E c) k
abbrev rnd (E:Env) (c:Code) (s:St) (k:Out→St→Res):Res:=evG ztq E c s k
theorem z05 (E:Env) (c:Code) (kp:KP) (n:Nat) (s:St) (k:Out→St→Res):lpE E c kp (n+1) s k=rnd E c s (z3t (fun s'=>lpE E c kp n s' k) kp k):=rfl
def z0g (fn:Func):Code:=match fn.body with | some c=>c | none=>.skip
def z0j:Code→List Nat→Code
 | c,[]=>c
 | .seq a _,0 :: r=>z0j a r
 | .seq _ b,_ :: r=>z0j b r
 | .cond _ a _,0 :: r=>z0j a r
 | .cond _ _ b,_ :: r=>z0j b r
 | .block _ c,_ :: r=>z0j c r
 | .loop c,_ :: r=>z0j c r
 | .scope c,_ :: r=>z0j c r
 | _,_=>.skip
open Go Go.RowKit
section
variable {P:Program} {B:BT} {f:FuncId}
theorem Does.of_calls {fn:Func} (hf:P.funcs[f]?=some fn) (hn:(fn.name == "runtime.NumGoroutine")=false) (hb:fn.body.isNone=false) {xs:List Value} {w:World} {R:Ending→World→Prop} (h:Calls P f xs.toArray w R):Does P f xs w R:=Does.enter hf hn hb h
theorem yap {r:V} (h:∀ cs,r≠.bor cs) (hv:∀ e ag ks l,r≠.vec e ag ks l):z3l r []=[]:=by
 cases r <;> first | rfl | exact absurd rfl (h _) | exact absurd rfl (hv _ _ _ _)
theorem z8o {w:World} {X:Zone} {γ:Nat→Value} {vs:List V} {xs:List Value} {r:V} (hR:Rel B.base 0 w X γ ⟨[],zcg vs⟩ zvv w) (hb:z6e vs=none) (hr:zil r=true)
  (h:Does P f xs w fun e w'=>∃ x,e = .returned x∧Keep (fun _=>False) w w'∧∀ O:Nat→Prop,(∀ b,O b→b < w.heap.size)→VRel γ [] w' O r x) :
  Does P f xs w fun e w'=>∃ x,e = .returned x∧∃ γ',Rel B.base 0 w X γ' ⟨[],z3l r []⟩ zvv w'∧VRel γ' (z3l r []) w' (z0a X γ' (z3l r [])) (y6u r) x∧zai vs r [] (γ 900000) (γ' 900000):=by
 have hm:zcg vs=[]:=by simp only [zcg,hb]
 rw [hm] at hR;have hnb:∀ cs,r≠.bor cs:=fun cs e=>by subst e; simp [zil,z9t] at hr
 have hnv:∀ e ag ks l,r≠.vec e ag ks l:=fun e ag ks l h=>by subst h; simp [zil,z9t] at hr
 rw [yap hnb hnv,zbb hr];refine h.mono ?_
 rintro e w' ⟨x,rfl,hk,hv⟩
 refine ⟨x,rfl,γ,hR.world hk,hv _ (fun b hb=>?_),?_⟩
 ·rcases hb with ⟨n,ob,hn,_⟩ | hb
  ·simp [z04,lkd] at hn
  ·exact hR.fl b hb
 ·simp only [zai,hb]
  cases r <;> first | exact hr | exact absurd rfl (hnb _) | exact absurd rfl (hnv _ _ _ _)
structure BldIs (B:BT) (w:World) (b:Nat) (p v:Value) (s:ByteArray):Prop where
 self:p = .pointer none∨p = .pointer (some ⟨b,0,none⟩)
 heap:w.heap[b]?=some (.cells #[p,v] B.T (0,0))
 own:w.ownsRowF 0 B.e 1 v s.size (Lib.strCells s)
 ne:v.ownBlock≠some b
 size:s.size≤strMax
theorem y5f {w:World} {X:Zone} {γ:Nat→Value} {vs:List V} {xs:List Value} {r:V} {s s':ByteArray} (hR:Rel B.base 0 w X γ ⟨[],zcg vs⟩ zvv w) (hb:z6e vs=some [.bld s]) (hr:zil r=true) (hnl:∀ γ' o w' O x,VRel γ [] w O r x→VRel γ' o w' O r x)
  (h:∀ b v p,γ 900000 = .tuple #[.pointer (some ⟨b,0,none⟩),v]→BldIs B w b p v s→Does P f xs w fun e w'=>∃ x,e = .returned x∧(∃ p' v',BldIs B w' b p' v' s'∧Keep (fun k=>k=b∨v.ownBlock=some k) w w'∧∀ k,v'.ownBlock=some k→v.ownBlock=some k∨w.heap.size≤k)∧∀ O,VRel γ [] w O r x) :
  Does P f xs w fun e w'=>∃ x,e = .returned x∧∃ γ',Rel B.base 0 w X γ' ⟨[],z3l r [[.bld s']]⟩ zvv w'∧VRel γ' (z3l r [[.bld s']]) w' (z0a X γ' (z3l r [[.bld s']])) (y6u r) x∧zai vs r [[.bld s']] (γ 900000) (γ' 900000):=by
 have hm:zcg vs=z83 [.bld s]:=by simp only [zcg,hb]
 have hmo:z3l r [[.bld s']]=z83 [.bld s']:=by cases r <;> rfl
 rw [hm] at hR;have hob:z04 (z83 [.bld s]) 900000=some (.bld s):=by simp [z83,z01]
 have hor:=hR.ob 900000 _ hob;simp only [ObRel,BT.base] at hor;obtain ⟨b,v,p,hg,hp,hh,how,hne,hsz⟩:=hor;rw [hmo,zbb hr];refine (h b v p hg ⟨hp,hh,how,hne,hsz⟩).mono ?_
 rintro e w' ⟨x,rfl,⟨p',v',hB,hk,hnew⟩,hx⟩
 have hPb:∀ k,(k=b∨v.ownBlock=some k)→z1q γ (z83 [.bld s]) k:=by
  rintro k hk
  refine ⟨900000,_,hob,⟨b,0,none⟩,v,hg,?_⟩;rcases hk with rfl | hk
  ·exact .inl rfl
  ·exact .inr hk
 have hXb:∀ k,(k=b∨v.ownBlock=some k)→k < w.heap.size∧X.own k∧¬ X.far k:=fun k hk=>by
  obtain ⟨h1,h2⟩:=hR.lt k (hPb k hk);exact ⟨h1,h2.resolve_left (by omega),hR.nr k (hPb k hk)⟩
 have hkX:Keep X.own w w':=hk.mono (fun k _ h=>(hXb k h).2.1)
 have hobs:∀ n ob,z04 (z83 [.bld s']) n=some ob→n=900000∧ob = .bld s':=by
  intro n ob hn;simp only [z83,z01] at hn
  split at hn
  ·rename_i e
   simp only [v00] at hn;exact ⟨e.symm,hn.symm⟩
  ·simp [z04,lkd] at hn
 have hP':∀ k,z1q (fun _=>.tuple #[.pointer (some ⟨b,0,none⟩),v']) (z83 [.bld s']) k→k=b∨v'.ownBlock=some k:=by
  rintro k ⟨n,ob,hn,hbk⟩
  obtain ⟨rfl,rfl⟩:=hobs n ob hn;obtain ⟨a,v2,h1,h2⟩:=hbk;simp only [Value.tuple.injEq] at h1;have e1:a=⟨b,0,none⟩∧v2=v':=by
   have:=congrArg Array.toList h1
   simp at this;exact ⟨this.1.symm,this.2.symm⟩
  obtain ⟨rfl,rfl⟩:=e1;rcases h2 with h2 | h2
  ·exact .inl h2.symm
  ·exact .inr h2
 have hlt':∀ k,v'.ownBlock=some k→k < w'.heap.size:=by
  intro k hk;rcases hB.own.2 with ⟨rfl,_⟩ | ⟨g,cap,cur,fz,rfl,_,hgh,_⟩
  ·simp [Value.ownBlock] at hk
  ·simp only [Value.ownBlock,v00] at hk
   subst hk;exact (Array.getElem?_eq_some_iff.1 hgh).1
 refine ⟨x,rfl,fun _=>.tuple #[.pointer (some ⟨b,0,none⟩),v'],⟨rfl,rfl,fun i=>by simp only [St.get,lkd,VRel],fun n ob hn=>?_,fun k hk2=>?_,fun n m ob ob' k hnm h1 h2=>?_,hkX,fun k hk2 hf=>?_,fun k hf=>v1b (hR.fl k hf) hk.size,fun q hq=>by cases hq⟩,hnl _ _ _ _ _ (hx _),?_⟩
 ·obtain ⟨rfl,rfl⟩:=hobs n ob hn
  simp only [ObRel,BT.base];exact ⟨b,v',p',rfl,hB.self,hB.heap,hB.own,hB.ne,hB.size⟩
 ·rcases hP' k hk2 with rfl | h2
  ·obtain ⟨h3,h4,_⟩:=hXb k (.inl rfl)
   exact ⟨v1b h3 hk.size,.inr h4⟩
  ·refine ⟨hlt' k h2,?_⟩
   rcases hnew k h2 with h3 | h3
   ·exact .inr (hXb k (.inr h3)).2.1
   ·exact .inl h3
 ·obtain ⟨rfl,rfl⟩:=hobs n ob h1
  obtain ⟨rfl,rfl⟩:=hobs m ob' h2;exact absurd rfl hnm
 ·rcases hP' k hk2 with rfl | h2
  ·exact (hXb k (.inl rfl)).2.2 hf
  ·rcases hnew k h2 with h3 | h3
   ·exact (hXb k (.inr h3)).2.2 hf
   ·have:=hR.fl k hf
    omega
 ·simp only [zai,hb]
  exact ⟨hr,rfl,by rw [hg]; rfl⟩
theorem y6w {w:World} {γ:Nat→Value} {s:ByteArray} {O:Nat→Prop} {x:Value} {b:Nat} {v:Value} (hg:γ 900000 = .tuple #[.pointer (some ⟨b,0,none⟩),v]) (h:VRel γ (z83 [.bld s]) w O (.ptr 900000 0 0) x):x = .pointer (some ⟨b,0,none⟩):=by
 simp only [VRel,z83,z01,v1o] at h;obtain ⟨_,b',v',h1,rfl⟩:=h;rw [hg] at h1;simp only [Value.tuple.injEq] at h1
 have:=congrArg Array.toList h1
 simp at this;rw [this.1]
theorem y1r {w:World} {X:Zone} {γ:Nat→Value} {vs:List V} {xs:List Value} {e:Nat} {ag:Bool} {ks:List Kd} {l:List IV} (hR:Rel B.base 0 w X γ ⟨[],zcg vs⟩ zvv w) (hb:z6e vs=none) (he:e < 1000000) (hks:0 < ks.length) (hl:l.length≤strMax)
  (h:Does P f xs w fun e' w'=>∃ v ys,e' = .returned v∧Keep (fun _=>False) w w'∧w'.ownsRow w.heap.size e ks.length v l.length ys∧∀ (O:Nat→Prop) i y,l[i]?=some y→Kd.RelAll w' O ks (z2w ag y) 0 (fun j u=>ys[i*ks.length+j]?=some u)) :
  Does P f xs w fun e' w'=>∃ x,e' = .returned x∧∃ γ',Rel B.base 0 w X γ' ⟨[],z3l (.vec e ag ks l) []⟩ zvv w'∧VRel γ' (z3l (.vec e ag ks l) []) w' (z0a X γ' (z3l (.vec e ag ks l) [])) (y6u (.vec e ag ks l)) x∧zai vs (.vec e ag ks l) [] (γ 900000) (γ' 900000):=by
 have hm:zcg vs=[]:=by simp only [zcg,hb]
 rw [hm] at hR;have hmo:z3l (.vec e ag ks l) []=[(900000,some (.row true e ag ks l))]:=rfl;rw [hmo];refine h.mono ?_
 rintro e' w' ⟨v,ys,rfl,hk,hown,hel⟩
 have hown0:w'.ownsRow 0 e ks.length v l.length ys:=by
  refine ⟨hown.1,?_⟩;rcases hown.2 with h1 | ⟨g,cap,cur,h1,_,h2,h3,h4,h5,h6⟩
  ·exact .inl h1
  ·exact .inr ⟨g,cap,cur,h1,v0y _,h2,h3,h4,h5,h6⟩
 have obs:∀ n ob,z04 [(900000,some (Ob.row true e ag ks l))] n=some ob→n=900000∧ob = .row true e ag ks l:=fun n ob hn=>by
  rw [z01] at hn
  split at hn
  ·rename_i h9
   simp only [v00] at hn;exact ⟨h9.symm,hn.symm⟩
  ·simp [z04,lkd] at hn
 have hfresh:∀ b,v.ownBlock=some b→w.heap.size≤b∧b < w'.heap.size:=fun b hb=>hown.lt b hb
 have ownP:∀ b,z1q (fun n=>if n=900000 then v else γ n) [(900000,some (Ob.row true e ag ks l))] b→v.ownBlock=some b:=by
  rintro b ⟨n,ob,hn,hb⟩
  obtain ⟨rfl,rfl⟩:=obs n ob hn
  simpa only [z0l,v1o] using hb
 refine ⟨v,rfl,fun n=>if n=900000 then v else γ n,⟨hR.sz,hR.df,fun i=>by simp only [St.get,lkd,VRel],fun n ob hn=>?_,fun b hb=>?_,fun n m ob ob' b hnm h1 h2=>?_,hk.mono (fun _ _ h=>h.elim),fun b hb hf=>?_,fun b hf=>v1b (hR.fl b hf) hk.size,fun p hp=>by cases hp⟩,?_,?_⟩
 ·obtain ⟨rfl,rfl⟩:=obs n ob hn
  simp only [ObRel,v1o];exact ⟨hks,hl,ys,OwnRow.of hown0 he,hel _⟩
 ·have:=hfresh b (ownP b hb)
  exact ⟨this.2,.inl this.1⟩
 ·obtain ⟨rfl,rfl⟩:=obs n ob h1
  obtain ⟨rfl,rfl⟩:=obs m ob' h2;exact absurd rfl hnm
 ·have:=hfresh b (ownP b hb)
  have:=hR.fl b hf
  omega
 ·simp only [y6u,VRel,z01,v1o]
  refine ⟨v09 _,?_⟩;rcases hown.2 with ⟨rfl,h0⟩ | ⟨g,cap,cur,rfl,_,h2,h3,h4,h5,h6⟩
  ·exact ⟨none,0,0,none,rfl,by rw [h0],v0y _,by rw [h0]; exact v09 _,v09 _,v0y _,.inl rfl,fun _=>rfl⟩
  ·refine ⟨some ⟨g,0,none⟩,l.length,cap,some ⟨g,0,none⟩,rfl,by simp,v0y _,v09 _,h3,h4,.inl ?_,fun _=>rfl⟩
   simp [Addr.add]
 ·simp only [zai,hb,okR]
end
theorem yfa {w w':World} {O:Nat→Prop} (hO:∀ b,O b→b < w.heap.size) {g:Nat} {T:TypeId} {l:List ByteArray} {c:Nat} (hg:w.heap.size≤g) (hh:w'.heap[g]?=some (.cells (l.map Value.string).toArray T (0,0))) (hc:l.length≤c) (hcm:c≤maxLen) (hl:l.length≤strMax)
  (hs:∀ s∈l,s.size≤strMax):Kd.Rel w' O (.list false [.str]) (.list (l.map IV.str)) (.slice (some ⟨g,0,none⟩) l.length c):=by
 simp only [Kd.Rel,IV.toList,v12];refine ⟨_,c,rfl,hc,hcm,hl,fun i y hy=>⟨g,0,rfl,fun h=>by have:=hO g h; omega,(Array.getElem?_eq_some_iff.1 hh).1,?_⟩⟩
 simp only [v0x,v1d] at hy;obtain ⟨s,hs1,rfl⟩:=hy;simp only [Kd.RelAll,v05,v0o,v0n,v40,v1m,v18];refine ⟨.string s,?_,?_⟩
 ·simp only [World.cell?,hh]
  simp [hs1]
 ·simp only [Kd.Rel,z2w,IV.toStr]
  exact ⟨trivial,hs s (v1l hs1)⟩
open Go Go.RowKit
theorem R.get_br (b:Bool) (x y:R):(R.br b x y).get=cond b x.get y.get:=by cases b <;> rfl
theorem R.get_ok (v:V) (o:List (List V)):(R.ok v o).get=some (v,o):=rfl
theorem R.get_no:R.no.get=none:=rfl
def z0p (n:Int):ByteArray:=⟨(Lib.itoa n).toArray⟩
def z6t (s:ByteArray):Int:=match Lib.atoiAll s.data.toList with | .ok v=>v | .range=>Lib.atoiSat s.data.toList | _=>0
def zs0 (s:ByteArray):Bool:=match Lib.atoiAll s.data.toList with | .ok _=>true | _=>false
def cutL (s sep:ByteArray):ByteArray:=⟨(Lib.cut s.data.toList sep.data.toList).1.toArray⟩
def zkf (s sep:ByteArray):ByteArray:=⟨(Lib.cut s.data.toList sep.data.toList).2.1.toArray⟩
def yly (s sep:ByteArray):Bool:=(Lib.cut s.data.toList sep.data.toList).2.2
def z0s (s sep:ByteArray):List ByteArray:=Lib.splitB sep 0 (Lib.countB s sep) s
def zdq (c:Int):UInt8:=UInt8.ofNat c.toNat
def z0z:z0q
 | [.bor [.bld s],.str t]=>.br (decide (s.size+t.size≤strMax)) (.ok (.tup [.int .i64 (ic t.size),.err true]) [[.bld (s++t)]]) .no
 | _=>.no
def z1t:z0q
 | [.bor [.bld s],.int .u8 c]=>.br (decide (s.size+1≤strMax)) (.ok (.err true) [[.bld (s.push (zdq c))]]) .no
 | _=>.no
def z1f:z0q
 | [.bor [.bld s]]=>.ok (.str s) [[.bld s]]
 | _=>.no
def z32:z0q
 | [.int .i64 n]=>.ok (.str (z0p n)) []
 | _=>.no
def z6y:z0q
 | [.str s]=>.ok (.tup [.int .i64 (z6t s),.err (zs0 s)]) []
 | _=>.no
def z7v:z0q
 | [.str s,.str sep]=>.br (decide (s.size < 4294967281)) (.ok (.tup [.str (cutL s sep),.str (zkf s sep),.bool (yly s sep)]) []) .no
 | _=>.no
def z2p:z0q
 | [.str s,.str sep]=>.br (decide (s.size < 4294967281)&&decide (1≤sep.size)) (.ok (.list false [.str] ((z0s s sep).map IV.str)) []) .no
 | _=>.no
def za8 (n:Int):ByteArray:=⟨(Lib.decDigits n.toNat).toArray⟩
def puV (s:ByteArray):Int:=match Lib.parseMag s.data.toList with | .ok v=>(v:Int) | .range=>18446744073709551615 | _=>0
def puN (s:ByteArray):Bool:=match Lib.parseMag s.data.toList with | .ok _=>true | _=>false
def zfw (s cs:ByteArray):ByteArray:=⟨(Lib.trimRightB s.data.toList (cs.data.toList.headD 0)).toArray⟩
def zmf (s:ByteArray) (n:Nat):ByteArray:=⟨(Lib.repeatL s.data.toList n).toArray⟩
def z1w (s p:ByteArray):ByteArray:=⟨(Lib.trimPrefix s.data.toList p.data.toList).toArray⟩
def zmw (s p:ByteArray):Bool:=Lib.hasPrefix s.data.toList p.data.toList
def z5r:z0q
 | [.int .u64 n,.int .i64 b]=>.br (decide (b=10)) (.ok (.str (za8 n)) []) .no
 | _=>.no
def z6i:z0q
 | [.str s,.int .i64 b,.int .i64 c]=>.br (decide (b=10)&&decide (c=64)) (.ok (.tup [.int .u64 (puV s),.err (puN s)]) []) .no
 | _=>.no
def z6g:z0q
 | [.str s,.str cs]=>.br (decide (cs.size=1)&&decide ((cs.data.toList.headD 0).toNat < 128)) (.ok (.str (zfw s cs)) []) .no
 | _=>.no
def z54:z0q
 | [.str s,.int .i64 n]=>.br (decide (0≤n)&&decide (s.size*n.toNat≤strMax)) (.ok (.str (zmf s n.toNat)) []) .no
 | _=>.no
def z6f:z0q
 | [.str s,.str p]=>.ok (.tup [.str (z1w s p),.bool (zmw s p)]) []
 | _=>.no
def zar (l:List ByteArray) (sep:ByteArray):ByteArray:=⟨(Lib.join (l.map (·.data.toList)) sep.data.toList).toArray⟩
def z6z:z0q
 | [.list false [.str] l,.str sep]=>.br (decide (l.length≤strMax)&&decide ((zar (l.map IV.toStr) sep).size≤strMax)) (.ok (.str (zar (l.map IV.toStr) sep)) []) .no
 | _=>.no
def zfd:List IV→ByteArray→Int→Int
 | [],_,_ => -1
 | x :: l,s,i=>cond (s.toList==x.toStr.toList) i (zfd l s (i+1))
theorem zyu {l:List UInt8} {v:Int} (h:Lib.atoiAll l = .ok v):IntKind.i64.min≤v∧v≤IntKind.i64.max:=by
 have e1:IntKind.i64.min = -9223372036854775808:=rfl;have e2:IntKind.i64.max=9223372036854775807:=rfl;rw [e1,e2];unfold Lib.atoiAll at h
 split at h
 ·cases h
 ·simp only at h
  split at h
  ·cases h
  ·cases h
  ·rename_i u hu
   split at h
   ·cases h
   ·split at h
    ·cases h
    ·simp only [Lib.NumEnd.ok.injEq] at h
     subst h
     split <;> omega
theorem y5p (s:ByteArray):IntKind.i64.min≤z6t s∧z6t s≤IntKind.i64.max:=by
 have e1:IntKind.i64.min = -9223372036854775808:=rfl;have e2:IntKind.i64.max=9223372036854775807:=rfl;unfold z6t
 split
 ·rename_i v hv
  exact zyu hv
 ·unfold Lib.atoiSat
  rw [e1,e2]
  split <;> omega
 ·rw [e1,e2]; omega
theorem znd {n:Int} (h0:IntKind.i64.min≤n) (h1:n≤IntKind.i64.max):(z0p n).size≤21:=by
 have e1:IntKind.i64.min = -9223372036854775808:=rfl;have e2:IntKind.i64.max=9223372036854775807:=rfl;rw [e1] at h0;rw [e2] at h1
 have:=Lib.itoa_length_le n h0 h1
 simpa [z0p,ByteArray.size] using this
theorem zqp (s:ByteArray):IntKind.u64.min≤puV s∧puV s≤IntKind.u64.max:=by
 have e1:IntKind.u64.min=0:=rfl;have e2:IntKind.u64.max=18446744073709551615:=rfl;unfold puV
 split
 ·rename_i v hv
  have:=Lib.parseMag_lt hv
  rw [e1,e2]; omega
 ·rw [e1,e2]; omega
 ·rw [e1,e2]; omega
theorem zqv {n:Int} (h0:0≤n) (h1:n≤18446744073709551615):(za8 n).size≤20:=by
 rcases Int.lt_or_le 0 n with h | h
 ·have hd:=Lib.numDigits_eq n.toNat (by omega) (by omega)
  have hl:=Lib.decDigits_length n.toNat;have hs:(za8 n).size=(Lib.decDigits n.toNat).length:=by simp [za8,ByteArray.size]
  rw [hs,hl]
  split at hd <;> omega
 ·have:n=0:=by omega
  subst this;have hd:Lib.decDigits (0:Int).toNat=[UInt8.ofNat (48+0)]:=by rw [show (0:Int).toNat=0 from rfl,Lib.decDigits]; rfl
  unfold za8;rw [hd]
  decide
theorem zr0 (s cs:ByteArray):(zfw s cs).size≤s.size:=by
 have:∀ (l:List UInt8) c,(Lib.trimRightB l c).length≤l.length:=fun l c=>by
  unfold Lib.trimRightB;rw [List.length_reverse]
  have:=(List.dropWhile_sublist (·==c) (l:=l.reverse)).length_le
  simpa using this
 have h:=this s.data.toList (cs.data.toList.headD 0);simp only [zfw,ByteArray.size,v1n]
 simpa using h
theorem zkt (s p:ByteArray):(z1w s p).size≤s.size:=by
 simp only [z1w,ByteArray.size,v1n,Lib.trimPrefix]
 split
 ·simp
 ·simp
theorem zro (s:ByteArray) (n:Nat):(zmf s n).size=s.size*n:=by
 have:∀ (l:List UInt8) n,(Lib.repeatL l n).length=l.length*n:=fun l n=>by rw [Lib.repeatL_length,Nat.mul_comm]
 show (Lib.repeatL s.data.toList n).toArray.size=s.size*n;rw [v1n,this,v14]
 rfl
theorem y2e (s sep:ByteArray):(cutL s sep).size≤s.size∧(zkf s sep).size≤s.size:=by
 unfold cutL zkf Lib.cut
 split
 ·simp only [ByteArray.size,v1n,v0j,v1j,v14]
  omega
 ·simp only [ByteArray.size,v1n,v14,v0o]
  omega
theorem z97 (sep:ByteArray):∀ (k:Nat) (s:ByteArray),(Lib.splitB sep 0 k s).length≤k+1∧∀ p∈Lib.splitB sep 0 k s,p.size≤s.size
 | 0,s=>by simp [Lib.splitB]
 | k+1,s=>by
  unfold Lib.splitB
  split
  ·simp
  ·obtain ⟨h1,h2⟩:=z97 sep k (s.extract ((Lib.indexB s sep).toNat+sep.size) s.size)
   refine ⟨by simp only [v05]; omega,fun p hp=>?_⟩
   rcases v15.1 hp with h | h
   ·subst h
    simp only [v3j];omega
   ·have:=h2 p h
    simp only [v3j] at this;omega
open Go Go.Proofs
def ydc:List (Nat × TI):=[
 (2,⟨1,8,false,[.int .i64],[.int .i64 0],.leaf⟩),
 (3,⟨1,8,false,[.int .i64],[.int .i64 0],.leaf⟩),
 (4,⟨1,1,false,[.bool],[.bool false],.leaf⟩),
 (5,⟨1,1,false,[.int .u8],[.int .u8 0],.leaf⟩),
 (6,⟨1,1,false,[.int .u8],[.int .u8 0],.leaf⟩),
 (7,⟨4,24,true,[.int .i64,.int .i64,.bool,.int .u8],[.int .i64 0,.int .i64 0,.bool false,.int .u8 0],.struct [(0,2),(1,3),(2,4),(3,6)]⟩),
 (8,⟨4,24,true,[.int .i64,.int .i64,.bool,.int .u8],[.int .i64 0,.int .i64 0,.bool false,.int .u8 0],.struct [(0,2),(1,3),(2,4),(3,6)]⟩),
 (9,⟨1,16,false,[.str],[.str ⟨#[]⟩],.leaf⟩),
 (22,⟨1,24,false,[.list false [.int .i64]],[.zs],.slice 3⟩),
 (23,⟨1,24,false,[.list true [.int .i64,.list false [.int .i64],.list false [.int .i64],.list false [.int .i64],.list false [.int .i64]]],[.zs],.slice 84⟩),
 (25,⟨4,64,true,[.int .i64,.int .i64,.list false [.int .i64],.list true [.int .i64,.list false [.int .i64],.list false [.int .i64],.list false [.int .i64],.list false [.int .i64]]],[.int .i64 0,.int .i64 0,.zs,.zs],.struct [(0,3),(1,3),(2,22),(3,23)]⟩),
 (26,⟨1,24,false,[.list true [.int .i64,.int .i64,.int .i64,.int .i64,.int .i64,.int .i64,.bool,.list false [.int .i64]]],[.zs],.slice 40⟩),
 (27,⟨3,24,true,[.int .i64,.int .i64,.int .i64],[.int .i64 0,.int .i64 0,.int .i64 0],.array 3 3⟩),
 (28,⟨1,24,false,[.list true [.int .i64,.list false [.int .u64]]],[.zs],.slice 88⟩),
 (30,⟨6,64,true,[.int .i64,.int .i64,.int .i64,.int .i64,.int .i64,.list true [.int .i64,.list false [.int .u64]]],[.int .i64 0,.int .i64 0,.int .i64 0,.int .i64 0,.int .i64 0,.zs],.struct [(0,3),(1,3),(2,27),(5,28)]⟩),
 (32,⟨1,24,false,[.list true [.int .i64,.int .i64,.int .i64,.int .i64,.int .i64,.int .i64,.int .i64,.int .i64,.int .i64,.int .i64,.int .i64,.int .i64,.int .i64,.int .i64,.int .i64,.bool,.int .i64]],[.zs],.slice 38⟩),
 (34,⟨2,16,true,[.int .i64,.int .i64],[.int .i64 0,.int .i64 0],.struct [(0,3),(1,3)]⟩),
 (36,⟨10,80,true,[.int .i64,.int .i64,.int .i64,.int .i64,.int .i64,.int .i64,.int .i64,.int .i64,.int .i64,.int .i64],[.int .i64 0,.int .i64 0,.int .i64 0,.int .i64 0,.int .i64 0,.int .i64 0,.int .i64 0,.int .i64 0,.int .i64 0,.int .i64 0],.array 5 34⟩),
 (38,⟨17,136,true,[.int .i64,.int .i64,.int .i64,.int .i64,.int .i64,.int .i64,.int .i64,.int .i64,.int .i64,.int .i64,.int .i64,.int .i64,.int .i64,.int .i64,.int .i64,.bool,.int .i64],[.int .i64 0,.int .i64 0,.int .i64 0,.int .i64 0,.int .i64 0,.int .i64 0,.int .i64 0,.int .i64 0,.int .i64 0,.int .i64 0,.int .i64 0,.int .i64 0,.int .i64 0,.int .i64 0,.int .i64 0,.bool false,.int .i64 0],.struct [(0,3),(1,3),(2,36),(12,3),(13,3),(14,3),(15,4),(16,3)]⟩),
 (40,⟨8,80,true,[.int .i64,.int .i64,.int .i64,.int .i64,.int .i64,.int .i64,.bool,.list false [.int .i64]],[.int .i64 0,.int .i64 0,.int .i64 0,.int .i64 0,.int .i64 0,.int .i64 0,.bool false,.zs],.struct [(0,3),(1,3),(2,3),(3,3),(4,3),(5,3),(6,4),(7,22)]⟩),
 (47,⟨1,24,false,[.list true [.int .i64,.list true [.bool,.int .i64,.int .i64],.int .i64,.int .i64,.int .i64,.int .i64,.int .i64,.int .i64]],[.zs],.slice 55⟩),
 (51,⟨1,24,false,[.list true [.bool,.int .i64,.int .i64]],[.zs],.slice 127⟩),
 (53,⟨4,32,true,[.int .i64,.int .i64,.int .i64,.int .i64],[.int .i64 0,.int .i64 0,.int .i64 0,.int .i64 0],.array 4 3⟩),
 (55,⟨8,80,true,[.int .i64,.list true [.bool,.int .i64,.int .i64],.int .i64,.int .i64,.int .i64,.int .i64,.int .i64,.int .i64],[.int .i64 0,.zs,.int .i64 0,.int .i64 0,.int .i64 0,.int .i64 0,.int .i64 0,.int .i64 0],.struct [(0,3),(1,51),(2,53),(6,3),(7,3)]⟩),
 (66,⟨1,24,false,[.list false [.str]],[.zs],.slice 9⟩),
 (69,⟨1,24,false,[.list false [.int .u8]],[.zs],.slice 5⟩),
 (84,⟨5,104,true,[.int .i64,.list false [.int .i64],.list false [.int .i64],.list false [.int .i64],.list false [.int .i64]],[.int .i64 0,.zs,.zs,.zs,.zs],.struct [(0,3),(1,22),(2,22),(3,22),(4,22)]⟩),
 (85,⟨1,24,false,[.list false [.int .u64]],[.zs],.slice 103⟩),
 (88,⟨2,32,true,[.int .i64,.list false [.int .u64]],[.int .i64 0,.zs],.struct [(0,3),(1,85)]⟩),
 (93,⟨1,24,false,[.list true [.int .i64,.int .i64]],[.zs],.slice 34⟩),
 (95,⟨1,8,false,[.list false []],[.nilp],.ptr 98⟩),
 (98,⟨1,24,true,[.list false [.str]],[.zs],.struct [(0,66)]⟩),
 (103,⟨1,8,false,[.int .u64],[.int .u64 0],.leaf⟩),
 (106,⟨1,8,false,[.list false []],[.nilp],.ptr 108⟩),
 (108,⟨2,32,true,[.list false [],.list false [.int .u8]],[.nilp,.zs],.bld⟩),
 (111,⟨6,48,true,[.bool,.int .i64,.int .i64,.int .i64,.int .i64,.int .i64],[.bool false,.int .i64 0,.int .i64 0,.int .i64 0,.int .i64 0,.int .i64 0],.struct [(0,4),(1,3),(2,3),(3,3),(4,3),(5,3)]⟩),
 (120,⟨1,16,false,[.list false []],[.err true],.iface⟩),
 (127,⟨3,24,true,[.bool,.int .i64,.int .i64],[.bool false,.int .i64 0,.int .i64 0],.struct [(0,4),(1,3),(2,3)]⟩),
 (131,⟨1,24,false,[.list true [.int .i64,.int .i64,.int .i64,.int .i64,.int .i64,.int .i64,.int .i64,.int .i64,.int .i64,.int .i64]],[.zs],.slice 36⟩),
 (141,⟨1,8,false,[.list false []],[.nilp],.ptr 183⟩),
 (150,⟨1,24,false,[.list true [.bool,.int .i64,.int .i64,.int .i64,.int .i64,.int .i64]],[.zs],.slice 111⟩),
 (152,⟨1,8,false,[.int .u64],[.int .u64 0],.leaf⟩),
 (183,⟨34,336,true,[.int .i64,.int .i64,.int .i64,.int .i64,.int .i64,.list true [.int .i64,.list false [.int .u64]],.int .i64,.int .i64,.int .i64,.int .i64,.int .i64,.int .i64,.int .i64,.int .i64,.int .i64,.int .i64,.int .i64,.int .i64,.int .i64,.int .i64,.int .i64,.bool,.int .i64,.list true [.int .i64,.int .i64,.int .i64,.int .i64,.int .i64,.int .i64,.int .i64,.int .i64,.int .i64,.int .i64],.list true [.bool,.int .i64,.int .i64],.int .i64,.list true [.bool,.int .i64,.int .i64],.int .i64,.int .i64,.int .i64,.int .i64,.int .i64,.int .i64,.int .i64],[.int .i64 0,.int .i64 0,.int .i64 0,.int .i64 0,.int .i64 0,.zs,.int .i64 0,.int .i64 0,.int .i64 0,.int .i64 0,.int .i64 0,.int .i64 0,.int .i64 0,.int .i64 0,.int .i64 0,.int .i64 0,.int .i64 0,.int .i64 0,.int .i64 0,.int .i64 0,.int .i64 0,.bool false,.int .i64 0,.zs,.zs,.int .i64 0,.zs,.int .i64 0,.int .i64 0,.int .i64 0,.int .i64 0,.int .i64 0,.int .i64 0,.int .i64 0],.struct [(0,30),(6,38),(23,131),(24,51),(25,55),(33,3)]⟩),
 (252,⟨11,88,true,[.int .i64,.int .i64,.int .i64,.int .i64,.int .i64,.int .i64,.int .i64,.int .i64,.int .i64,.int .i64,.int .i64],[.int .i64 0,.int .i64 0,.int .i64 0,.int .i64 0,.int .i64 0,.int .i64 0,.int .i64 0,.int .i64 0,.int .i64 0,.int .i64 0,.int .i64 0],.struct [(0,3),(1,36)]⟩),
 (253,⟨1,24,false,[.list true [.int .i64,.int .i64,.int .i64,.int .i64,.int .i64,.int .i64,.int .i64,.int .i64,.int .i64,.int .i64,.int .i64]],[.zs],.slice 252⟩),
 (272,⟨1,24,false,[.list true [.int .i64,.int .i64,.int .i64,.int .i64,.int .i64,.int .i64,.int .i64,.int .i64,.int .i64,.int .i64,.int .i64]],[.zs],.slice 275⟩),
 (275,⟨11,88,true,[.int .i64,.int .i64,.int .i64,.int .i64,.int .i64,.int .i64,.int .i64,.int .i64,.int .i64,.int .i64,.int .i64],[.int .i64 0,.int .i64 0,.int .i64 0,.int .i64 0,.int .i64 0,.int .i64 0,.int .i64 0,.int .i64 0,.int .i64 0,.int .i64 0,.int .i64 0],.struct [(0,36),(10,3)]⟩)]
def yhx:List Nat:=[34,38,53,111,127]
noncomputable abbrev PR:Program:=Tryz.prog
theorem yjs:yj4 PR 108 ydc=true:=by kernel_rfl
theorem yk2:yke PR ydc yhx=true:=by kernel_rfl
theorem yj2:PR.follows .mixedOrders=true:=by kernel_rfl
theorem yjt:∃ i,PR.info? 108=some i∧i.zero=some (.agg #[.pointer none,.slice none 0 0]):=by
 refine ⟨(PR.info? 108).getD default,by kernel_rfl,by kernel_rfl⟩
theorem ycq (_h:(lkd TI.none ydc 108).d = .bld):∃ i,PR.info? 108=some i∧i.zero=some (.agg #[.pointer none,.slice none 0 0]):=yjt
def mkE (sp:List (Nat × z0q)) (lp:List (Nat × KP)) (nt N:Nat):Env:=⟨ydc,sp,[],lp,nt,N,yhx,[]⟩
def mkI (sp:List (Nat × z0q)) (ip:List (Nat × Ip)) (lp:List (Nat × KP)) (nt N:Nat):Env:=⟨ydc,sp,[],lp,nt,N,yhx,ip⟩
abbrev V.i (n:Int):V:=.int .i64 n
abbrev HF (fn:Func) (c:Code) (nt:Nat) (rs:List ResultVar):Prop:=(fn.name == "runtime.NumGoroutine")=false∧fn.body=some c∧fn.ntmps=nt∧Nat.ble nt 900000=true∧fn.results.toList=rs
theorem z18 {fn:Func} {nt:Nat} {rs:List ResultVar} (h:(!(fn.name == "runtime.NumGoroutine")&&(fn.body.isSome&&(fn.ntmps==nt&&Nat.ble nt 900000)))=true) (h2:fn.results.toList=rs):HF fn (z0g fn) nt rs:=by
 simp only [v02,v17,v1g] at h;refine ⟨h.1,?_,h.2.2.1,h.2.2.2,h2⟩;unfold z0g;cases hb:fn.body with
 | none=>rw [hb] at h; exact absurd h.2.1 (by decide)
 | some c=>rfl
noncomputable def z9y:Code:=z0g Tryz.f6
theorem zez:HF Tryz.f6 z9y 16 [.tmp 0]:=z18 (by kernel_rfl) (by kernel_rfl)
noncomputable def z0b:Code:=z0g Tryz.f7
theorem zem:HF Tryz.f7 z0b 91 [.tmp 4]:=z18 (by kernel_rfl) (by kernel_rfl)
noncomputable def z2k:Code:=z0g Tryz.f18
theorem y6t:HF Tryz.f18 z2k 100 [.tmp 4]:=z18 (by kernel_rfl) (by kernel_rfl)
noncomputable def z1c:Code:=z0g Tryz.f19
theorem y2t:HF Tryz.f19 z1c 88 [.cell 2 30,.tmp 3]:=z18 (by kernel_rfl) (by kernel_rfl)
noncomputable def z1p:Code:=z0g Tryz.f20
theorem y3u:HF Tryz.f20 z1p 94 [.tmp 2]:=z18 (by kernel_rfl) (by kernel_rfl)
noncomputable def z77:Code:=z0g Tryz.f22
theorem y3v:HF Tryz.f22 z77 37 [.tmp 4]:=z18 (by kernel_rfl) (by kernel_rfl)
noncomputable def z7g:Code:=z0g Tryz.f24
theorem y4h:HF Tryz.f24 z7g 61 [.tmp 2]:=z18 (by kernel_rfl) (by kernel_rfl)
noncomputable def z1h:Code:=z0g Tryz.f26
theorem ztr:HF Tryz.f26 z1h 59 [.tmp 6]:=z18 (by kernel_rfl) (by kernel_rfl)
noncomputable def zei:Code:=z0g Tryz.f28
theorem znk:HF Tryz.f28 zei 14 [.cell 0 30]:=z18 (by kernel_rfl) (by kernel_rfl)
noncomputable def z1k:Code:=z0g Tryz.f30
theorem zfp:HF Tryz.f30 z1k 26 [.tmp 4]:=z18 (by kernel_rfl) (by kernel_rfl)
noncomputable def zjc:Code:=z0g Tryz.f31
theorem zuu:HF Tryz.f31 zjc 8 [.tmp 2]:=z18 (by kernel_rfl) (by kernel_rfl)
noncomputable def zh8:Code:=z0g Tryz.f32
theorem zsw:HF Tryz.f32 zh8 46 [.cell 4 55]:=z18 (by kernel_rfl) (by kernel_rfl)
noncomputable def z64:Code:=z0g Tryz.f35
theorem y43:HF Tryz.f35 z64 13 [.cell 4 55]:=z18 (by kernel_rfl) (by kernel_rfl)
noncomputable def zwx:Code:=z0g Tryz.f41
theorem y9i:HF Tryz.f41 zwx 39 [.cell 4 38]:=z18 (by kernel_rfl) (by kernel_rfl)
noncomputable def zsm:Code:=z0g Tryz.f42
theorem y5o:HF Tryz.f42 zsm 9 [.tmp 2]:=z18 (by kernel_rfl) (by kernel_rfl)
noncomputable def ztk:Code:=z0g Tryz.f44
theorem y62:HF Tryz.f44 ztk 38 [.tmp 2]:=z18 (by kernel_rfl) (by kernel_rfl)
noncomputable def zca:Code:=z0g Tryz.f47
theorem zij:HF Tryz.f47 zca 8 [.tmp 4]:=z18 (by kernel_rfl) (by kernel_rfl)
noncomputable def zdn:Code:=z0g Tryz.f48
theorem zla:HF Tryz.f48 zdn 26 [.tmp 2]:=z18 (by kernel_rfl) (by kernel_rfl)
noncomputable def zp1:Code:=z0g Tryz.f49
theorem y18:HF Tryz.f49 zp1 24 [.tmp 4]:=z18 (by kernel_rfl) (by kernel_rfl)
noncomputable def zt1:Code:=z0g Tryz.f50
theorem y76:HF Tryz.f50 zt1 13 [.tmp 4]:=z18 (by kernel_rfl) (by kernel_rfl)
noncomputable def zs2:Code:=z0g Tryz.f51
theorem y5e:HF Tryz.f51 zs2 11 [.tmp 2]:=z18 (by kernel_rfl) (by kernel_rfl)
noncomputable def zdv:Code:=z0g Tryz.f52
theorem zkz:HF Tryz.f52 zdv 28 [.tmp 2]:=z18 (by kernel_rfl) (by kernel_rfl)
noncomputable def z3s:Code:=z0g Tryz.f53
theorem zzv:HF Tryz.f53 z3s 54 [.tmp 2]:=z18 (by kernel_rfl) (by kernel_rfl)
noncomputable def ztb:Code:=z0g Tryz.f54
theorem y73:HF Tryz.f54 ztb 10 []:=z18 (by kernel_rfl) (by kernel_rfl)
noncomputable def zl1:Code:=z0g Tryz.f55
theorem zya:HF Tryz.f55 zl1 33 [.cell 2 111,.tmp 3]:=z18 (by kernel_rfl) (by kernel_rfl)
noncomputable def zpb:Code:=z0g Tryz.f62
theorem y1b:HF Tryz.f62 zpb 47 [.tmp 2]:=z18 (by kernel_rfl) (by kernel_rfl)
noncomputable def z91:Code:=z0g Tryz.f63
theorem y6d:HF Tryz.f63 z91 26 []:=z18 (by kernel_rfl) (by kernel_rfl)
noncomputable def zm6:Code:=z0g Tryz.f65
theorem zxa:HF Tryz.f65 zm6 41 [.tmp 4]:=z18 (by kernel_rfl) (by kernel_rfl)
noncomputable def zki:Code:=z0g Tryz.f66
theorem zxn:HF Tryz.f66 zki 16 [.cell 2 36]:=z18 (by kernel_rfl) (by kernel_rfl)
noncomputable def z9b:Code:=z0g Tryz.f67
theorem y1h:HF Tryz.f67 z9b 75 [.tmp 4,.tmp 5]:=z18 (by kernel_rfl) (by kernel_rfl)
noncomputable def z2i:Code:=z0g Tryz.f68
theorem zzh:HF Tryz.f68 z2i 94 [.tmp 6]:=z18 (by kernel_rfl) (by kernel_rfl)
noncomputable def y19:Code:=z0g Tryz.f69
theorem yd7:HF Tryz.f69 y19 25 [.tmp 6]:=z18 (by kernel_rfl) (by kernel_rfl)
noncomputable def z26:Code:=z0g Tryz.f70
theorem zuk:HF Tryz.f70 z26 75 [.tmp 8]:=z18 (by kernel_rfl) (by kernel_rfl)
noncomputable def zfx:Code:=z0g Tryz.f71
theorem zpt:HF Tryz.f71 zfx 32 [.tmp 2]:=z18 (by kernel_rfl) (by kernel_rfl)
noncomputable def z6j:Code:=z0g Tryz.f73
theorem y5c:HF Tryz.f73 z6j 82 [.cell 2 38,.tmp 3,.tmp 4]:=z18 (by kernel_rfl) (by kernel_rfl)
noncomputable def zos:Code:=z0g Tryz.f74
theorem y44:HF Tryz.f74 zos 26 [.tmp 4]:=z18 (by kernel_rfl) (by kernel_rfl)
noncomputable def z49:Code:=z0g Tryz.f75
theorem zir:HF Tryz.f75 z49 165 [.tmp 2]:=z18 (by kernel_rfl) (by kernel_rfl)
noncomputable def z3c:Code:=z0g Tryz.f76
theorem zf7:HF Tryz.f76 z3c 22 [.cell 2 55]:=z18 (by kernel_rfl) (by kernel_rfl)
noncomputable def y0x:Code:=z0g Tryz.f81
theorem ydn:HF Tryz.f81 y0x 16 [.cell 2 53]:=z18 (by kernel_rfl) (by kernel_rfl)
noncomputable def zwn:Code:=z0g Tryz.f84
theorem y9u:HF Tryz.f84 zwn 8 [.tmp 0]:=z18 (by kernel_rfl) (by kernel_rfl)
noncomputable def z58:Code:=z0g Tryz.f89
theorem za3:HF Tryz.f89 z58 16 [.tmp 4]:=z18 (by kernel_rfl) (by kernel_rfl)
noncomputable def zwl:Code:=z0g Tryz.f91
theorem y9z:HF Tryz.f91 zwl 76 [.tmp 2,.tmp 3]:=z18 (by kernel_rfl) (by kernel_rfl)
noncomputable def zs5:Code:=z0g Tryz.f92
theorem y54:HF Tryz.f92 zs5 32 [.tmp 2]:=z18 (by kernel_rfl) (by kernel_rfl)
noncomputable def zsx:Code:=z0g Tryz.f93
theorem y5z:HF Tryz.f93 zsx 25 [.tmp 4]:=z18 (by kernel_rfl) (by kernel_rfl)
noncomputable def z4j:Code:=z0g Tryz.f94
theorem z8h:HF Tryz.f94 z4j 9 [.tmp 4]:=z18 (by kernel_rfl) (by kernel_rfl)
noncomputable def zhn:Code:=z0g Tryz.f95
theorem zrk:HF Tryz.f95 zhn 22 [.tmp 3]:=z18 (by kernel_rfl) (by kernel_rfl)
noncomputable def z27:Code:=z0g Tryz.f96
theorem y3c:HF Tryz.f96 z27 94 [.tmp 4]:=z18 (by kernel_rfl) (by kernel_rfl)
noncomputable def zkw:Code:=z0g Tryz.f98
theorem zxl:HF Tryz.f98 zkw 14 [.tmp 6]:=z18 (by kernel_rfl) (by kernel_rfl)
noncomputable def zwv:Code:=z0g Tryz.f99
theorem yak:HF Tryz.f99 zwv 18 [.tmp 6]:=z18 (by kernel_rfl) (by kernel_rfl)
noncomputable def zgr:Code:=z0g Tryz.f100
theorem zt4:HF Tryz.f100 zgr 11 [.tmp 5]:=z18 (by kernel_rfl) (by kernel_rfl)
noncomputable def z69:Code:=z0g Tryz.f106
theorem y16:HF Tryz.f106 z69 37 [.tmp 2]:=z18 (by kernel_rfl) (by kernel_rfl)
noncomputable def zix:Code:=z0g Tryz.f107
theorem zut:HF Tryz.f107 zix 35 [.tmp 4]:=z18 (by kernel_rfl) (by kernel_rfl)
noncomputable def zp9:Code:=z0g Tryz.f108
theorem y1c:HF Tryz.f108 zp9 71 [.tmp 4]:=z18 (by kernel_rfl) (by kernel_rfl)
noncomputable def ziw:Code:=z0g Tryz.f109
theorem zu9:HF Tryz.f109 ziw 16 [.tmp 2]:=z18 (by kernel_rfl) (by kernel_rfl)
noncomputable def zkl:Code:=z0g Tryz.f110
theorem zyr:HF Tryz.f110 zkl 6 [.tmp 2]:=z18 (by kernel_rfl) (by kernel_rfl)
noncomputable def ydk:Code:=z0g Tryz.f111
theorem ydq:HF Tryz.f111 ydk 32 [.cell 6 36,.cell 7 36]:=z18 (by kernel_rfl) (by kernel_rfl)
noncomputable def zsk:Code:=z0g Tryz.f112
theorem y63:HF Tryz.f112 zsk 12 [.tmp 2]:=z18 (by kernel_rfl) (by kernel_rfl)
noncomputable def z12:Code:=z0g Tryz.f113
theorem y3r:HF Tryz.f113 z12 66 [.tmp 6,.tmp 7]:=z18 (by kernel_rfl) (by kernel_rfl)
noncomputable def zvr:Code:=z0g Tryz.f114
theorem y9l:HF Tryz.f114 zvr 15 [.tmp 4]:=z18 (by kernel_rfl) (by kernel_rfl)
noncomputable def zpf:Code:=z0g Tryz.f115
theorem y3y:HF Tryz.f115 zpf 24 [.tmp 6]:=z18 (by kernel_rfl) (by kernel_rfl)
noncomputable def zjb:Code:=z0g Tryz.f116
theorem zuf:HF Tryz.f116 zjb 14 [.cell 6 53]:=z18 (by kernel_rfl) (by kernel_rfl)
noncomputable def zbr:Code:=z0g Tryz.f117
theorem zgk:HF Tryz.f117 zbr 66 [.tmp 2]:=z18 (by kernel_rfl) (by kernel_rfl)
noncomputable def z15:Code:=z0g Tryz.f118
theorem zd8:HF Tryz.f118 z15 19 [.tmp 4]:=z18 (by kernel_rfl) (by kernel_rfl)
noncomputable def zvl:Code:=z0g Tryz.f119
theorem y99:HF Tryz.f119 zvl 46 [.cell 2 38]:=z18 (by kernel_rfl) (by kernel_rfl)
noncomputable def zwa:Code:=z0g Tryz.f120
theorem yav:HF Tryz.f120 zwa 11 [.tmp 2]:=z18 (by kernel_rfl) (by kernel_rfl)
noncomputable def zsd:Code:=z0g Tryz.f121
theorem y5h:HF Tryz.f121 zsd 11 [.tmp 2]:=z18 (by kernel_rfl) (by kernel_rfl)
noncomputable def zl4:Code:=z0g Tryz.f122
theorem zzq:HF Tryz.f122 zl4 86 [.tmp 6]:=z18 (by kernel_rfl) (by kernel_rfl)
noncomputable def zm7:Code:=z0g Tryz.f123
theorem zxi:HF Tryz.f123 zm7 9 [.cell 2 53,.tmp 3]:=z18 (by kernel_rfl) (by kernel_rfl)
noncomputable def z57:Code:=z0g Tryz.f124
theorem y1d:HF Tryz.f124 z57 31 [.tmp 6,.tmp 7,.tmp 8]:=z18 (by kernel_rfl) (by kernel_rfl)
noncomputable def zjo:Code:=z0g Tryz.f126
theorem y77:HF Tryz.f126 zjo 24 [.tmp 8]:=z18 (by kernel_rfl) (by kernel_rfl)
noncomputable def z5o:Code:=z0g Tryz.f141
theorem zab:HF Tryz.f141 z5o 21 [.tmp 4]:=z18 (by kernel_rfl) (by kernel_rfl)
noncomputable def zou:Code:=z0g Tryz.f144
theorem y42:HF Tryz.f144 zou 19 [.tmp 2,.tmp 3]:=z18 (by kernel_rfl) (by kernel_rfl)
noncomputable def zok:Code:=z0g Tryz.f145
theorem y0h:HF Tryz.f145 zok 43 [.tmp 2]:=z18 (by kernel_rfl) (by kernel_rfl)
noncomputable def zvq:Code:=z0g Tryz.f146
theorem ya7:HF Tryz.f146 zvq 30 [.tmp 8]:=z18 (by kernel_rfl) (by kernel_rfl)
noncomputable def z0h:Code:=z0g Tryz.f147
theorem z9m:HF Tryz.f147 z0h 19 [.tmp 4]:=z18 (by kernel_rfl) (by kernel_rfl)
noncomputable def zqx:Code:=z0g Tryz.f148
theorem y6f:HF Tryz.f148 zqx 21 [.tmp 4]:=z18 (by kernel_rfl) (by kernel_rfl)
noncomputable def zp3:Code:=z0g Tryz.f149
theorem y2z:HF Tryz.f149 zp3 21 [.tmp 4]:=z18 (by kernel_rfl) (by kernel_rfl)
noncomputable def zsn:Code:=z0g Tryz.f150
theorem y71:HF Tryz.f150 zsn 7 [.tmp 2]:=z18 (by kernel_rfl) (by kernel_rfl)
noncomputable def zoq:Code:=z0g Tryz.f155
theorem y40:HF Tryz.f155 zoq 8 [.tmp 2]:=z18 (by kernel_rfl) (by kernel_rfl)
noncomputable def z68:Code:=z0g Tryz.f156
theorem y2a:HF Tryz.f156 z68 40 [.tmp 2]:=z18 (by kernel_rfl) (by kernel_rfl)
noncomputable def zvy:Code:=z0g Tryz.f157
theorem yay:HF Tryz.f157 zvy 29 [.cell 4 34,.cell 5 34]:=z18 (by kernel_rfl) (by kernel_rfl)
noncomputable def z9d:Code:=z0g Tryz.f158
theorem y0y:HF Tryz.f158 z9d 88 [.tmp 4,.tmp 5]:=z18 (by kernel_rfl) (by kernel_rfl)
noncomputable def z3g:Code:=z0g Tryz.f159
theorem y46:HF Tryz.f159 z3g 33 [.tmp 6]:=z18 (by kernel_rfl) (by kernel_rfl)
noncomputable def zfy:Code:=z0g Tryz.f160
theorem zpw:HF Tryz.f160 zfy 27 [.tmp 4]:=z18 (by kernel_rfl) (by kernel_rfl)
noncomputable def z1a:Code:=z0g Tryz.f162
theorem y61:HF Tryz.f162 z1a 69 [.tmp 6,.tmp 7,.tmp 8]:=z18 (by kernel_rfl) (by kernel_rfl)
noncomputable def z4p:Code:=z0g Tryz.f163
theorem zv3:HF Tryz.f163 z4p 62 [.tmp 6,.tmp 7]:=z18 (by kernel_rfl) (by kernel_rfl)
noncomputable def zft:Code:=z0g Tryz.f164
theorem zpx:HF Tryz.f164 zft 23 [.tmp 4]:=z18 (by kernel_rfl) (by kernel_rfl)
noncomputable def zhl:Code:=z0g Tryz.f165
theorem zsh:HF Tryz.f165 zhl 54 [.tmp 6,.tmp 7,.tmp 8]:=z18 (by kernel_rfl) (by kernel_rfl)
noncomputable def zis:Code:=z0g Tryz.f166
theorem zur:HF Tryz.f166 zis 23 [.tmp 4]:=z18 (by kernel_rfl) (by kernel_rfl)
noncomputable def z1d:Code:=z0g Tryz.f168
theorem zkp:HF Tryz.f168 z1d 54 [.tmp 4]:=z18 (by kernel_rfl) (by kernel_rfl)
noncomputable def zor:Code:=z0g Tryz.f190
theorem y1n:HF Tryz.f190 zor 9 [.tmp 2]:=z18 (by kernel_rfl) (by kernel_rfl)
noncomputable def zlh:Code:=z0g Tryz.f192
theorem zyt:HF Tryz.f192 zlh 16 [.tmp 2]:=z18 (by kernel_rfl) (by kernel_rfl)
noncomputable def y2n:Code:=z0g Tryz.f193
theorem ydf:HF Tryz.f193 y2n 12 [.cell 4 34]:=z18 (by kernel_rfl) (by kernel_rfl)
noncomputable def zrz:Code:=z0g Tryz.f194
theorem y5d:HF Tryz.f194 zrz 2 [.cell 0 34]:=z18 (by kernel_rfl) (by kernel_rfl)
noncomputable def zp8:Code:=z0g Tryz.f195
theorem y38:HF Tryz.f195 zp8 15 [.tmp 4]:=z18 (by kernel_rfl) (by kernel_rfl)
noncomputable def z6c:Code:=z0g Tryz.f196
theorem y4e:HF Tryz.f196 z6c 43 [.tmp 4,.tmp 5,.tmp 6]:=z18 (by kernel_rfl) (by kernel_rfl)
noncomputable def ziz:Code:=z0g Tryz.f197
theorem zug:HF Tryz.f197 ziz 16 [.tmp 2]:=z18 (by kernel_rfl) (by kernel_rfl)
noncomputable def zj9:Code:=z0g Tryz.f198
theorem zu6:HF Tryz.f198 zj9 10 [.cell 4 36]:=z18 (by kernel_rfl) (by kernel_rfl)
noncomputable def zh2:Code:=z0g Tryz.f199
theorem zqw:HF Tryz.f199 zh2 15 [.cell 4 36]:=z18 (by kernel_rfl) (by kernel_rfl)
noncomputable def z4r:Code:=z0g Tryz.f217
theorem yar:HF Tryz.f217 z4r 46 [.tmp 4,.cell 5 111]:=z18 (by kernel_rfl) (by kernel_rfl)
noncomputable def z5a:Code:=z0g Tryz.f218
theorem y04:HF Tryz.f218 z5a 79 [.tmp 4]:=z18 (by kernel_rfl) (by kernel_rfl)
open Go Go.Proofs Go.RowKit
theorem Keep.freeze {O:Nat→Prop} (w:World) (a:Addr) (n:Nat) (h:O a.block):Keep O w (w.freeze a n):=by
 unfold World.freeze
 split
 ·exact Keep.refl _ _
 ·exact ⟨rfl,rfl,rfl,by simp,fun b _ hn=>by simp only [v3d]; rw [v10 (fun e:a.block=b=>hn (e ▸ h))]⟩
theorem Keep.setCell {O:Nat→Prop} (w:World) (a:Addr) (v:Value) (h:O a.block):Keep O w (w.setCell a v):=
 ⟨rfl,rfl,rfl,by simp [World.setCell],fun b _ hn=>Below.heap_setCell _ _ _ _ (fun e=>hn (e ▸ h))⟩
theorem zec {w:World} {b:Nat} {o:Obj} (h:w.heap[b]?=some o):b < w.heap.size:=(Array.getElem?_eq_some_iff.1 h).1
theorem yey:liesAt PR PR.depth 108 (2 / PR.cellsOf 108) 0 108 1=true:=by kernel_rfl
theorem y7s:(PR.info? 108).map (·.size)=some 2:=by kernel_rfl
theorem ye3:(PR.info? 5).map (fun i=>(i.zero,i.size,i.bytes))=some (some (.int .u8 0),1,1):=by kernel_rfl
set_option maxHeartbeats 1000000 in
theorem y06 (b:Nat) (w:World) (h0:w.cell? ⟨b,0,none⟩=some (.pointer (some ⟨b,0,none⟩))) :
  Calls Tryz.prog 103 #[.pointer (some ⟨b,0,none⟩)] w fun e w'=>e = .returned (.tuple #[])∧w'=w:=by
 obtain ⟨j,hj,_⟩:=v1d.1 y7s
 go_enter Tryz.func103,Tryz.ntmps103
 go_wp2
 rw [Lib.run_neq_ptr_same w _ Tryz.underlying106 hj]
 go_wp2
 go_end0
 exact ⟨rfl,rfl⟩
set_option maxHeartbeats 1000000 in
theorem zvc (b:Nat) (w:World) (h0:w.cell? ⟨b,0,none⟩=some (.pointer none)) (hsh:w.shape? b=some (108,2)) (hfz:w.frozen? ⟨b,0,none⟩=false) :
  Calls Tryz.prog 103 #[.pointer (some ⟨b,0,none⟩)] w fun e w'=>e = .returned (.tuple #[])∧w'=w.setCell ⟨b,0,none⟩ (.pointer (some ⟨b,0,none⟩)):=by
 obtain ⟨j,hj,hjs⟩:=v1d.1 y7s
 go_enter Tryz.func103,Tryz.ntmps103
 go_wp2
 rw [Lib.run_to_unsafe w ⟨b,0,none⟩ Tryz.underlying106 Tryz.underlying211 hj (by rw [hjs]; decide) hsh (Nat.zero_lt_succ 1)]
 simp only [Result.andThen];rw [Oper.upon_value]
 go_wp2
 rw [run_callFunc_extern Tryz.func153 (by kernel_rfl) (by kernel_rfl) (by kernel_rfl) (e:=Extern.AbiNoEscape.same) (by kernel_rfl)]
 rw [Lib.run_noEscape];simp only [Result.andThen];rw [Oper.upon_value]
 go_wp2
 rw [Lib.run_from_unsafe w ⟨b,0,none⟩ Tryz.underlying211 Tryz.underlying106 hj hsh yey];simp only [Result.andThen];rw [Oper.upon_value]
 go_wp2
 go_end0
 exact ⟨rfl,rfl⟩
theorem y81 (b:Nat) (p v:Value) (w:World) (hp:p = .pointer none∨p = .pointer (some ⟨b,0,none⟩)) (hbk:w.heap[b]?=some (.cells #[p,v] 108 (0,0))) :
  Calls Tryz.prog 103 #[.pointer (some ⟨b,0,none⟩)] w fun e w'=>e = .returned (.tuple #[])∧w'.heap[b]?=some (.cells #[.pointer (some ⟨b,0,none⟩),v] 108 (0,0))∧Keep (fun k=>k=b) w w'∧w'.heap.size=w.heap.size:=by
 have hc0:w.cell? ⟨b,0,none⟩=some p:=by rw [Lib.cell_of_heap hbk]; rfl
 rcases hp with rfl | rfl
 ·refine (zvc b w hc0 (by simp [World.shape?,hbk]) (Lib.frozen_of_heap hbk 0)).mono ?_
  rintro e w' ⟨rfl,rfl⟩
  exact ⟨rfl,by simp [World.setCell,v3d,hbk],Keep.setCell w ⟨b,0,none⟩ _ rfl,by simp [World.setCell]⟩
 ·refine (y06 b w hc0).mono ?_
  rintro e w' ⟨rfl,rfl⟩
  exact ⟨rfl,hbk,Keep.refl _ _,rfl⟩
def zr1 (b:Nat) (v:Value) (bs:List Value) (w w':World):Prop:=
 ∃ v',w'.heap[b]?=some (.cells #[.pointer (some ⟨b,0,none⟩),v'] 108 (0,0))∧w'.ownsRowF 0 5 1 v' bs.length bs∧v'.ownBlock≠some b ∧
  Keep (fun k=>k=b∨v.ownBlock=some k) w w'∧∀ k,v'.ownBlock=some k→v.ownBlock=some k∨w.heap.size≤k
theorem y8w {b:Nat} {v v':Value} {bs:List Value} {w w1 w2:World} (hs1:w1.heap.size=w.heap.size) (hk1:Keep (fun k=>k=b) w w1)
  (hb2:w2.heap[b]?=some (.cells #[.pointer (some ⟨b,0,none⟩),v] 108 (0,0))) (hown:w2.ownsRowF 0 5 1 v' bs.length bs) (hk2:Keep (fun k=>v.ownBlock=some k) w1 w2) (hv:∀ k,v'.ownBlock=some k→v.ownBlock=some k∨w1.heap.size≤k) :
  zr1 b v bs w (w2.setCell ⟨b,1,none⟩ v'):=by
 have hput:=Lib.BuilderAtF.put (T:=108) (e:=5) (v0y b) hb2 hown (by decide)
 obtain ⟨_,v2,q1,q2,q3⟩:=hput;have e2:v2=v':=by
  have:(w2.setCell ⟨b,1,none⟩ v').heap[b]?=some (.cells #[.pointer (some ⟨b,0,none⟩),v'] 108 (0,0)):=by simp [World.setCell,v3d,hb2]
  rw [this] at q1;simp at q1;exact q1.symm
 subst e2;refine ⟨v2,q1,q2,q3,?_,fun k hk=>by rw [← hs1]; exact hv k hk⟩
 have h3:Keep (fun k=>k=b) w2 (w2.setCell ⟨b,1,none⟩ v2):=Keep.setCell w2 ⟨b,1,none⟩ v2 rfl
 refine (hk1.mono (fun _ _ h=>Or.inl h)).trans ((hk2.mono (O':=fun k=>k=b∨v.ownBlock=some k) (fun _ _ h=>Or.inr h)).trans h3 (fun _ _ h=>Or.inl h)) (fun _ _ h=>h)
theorem y2i {w w':World} {v:Value} (hg:w.grownBy w' v.ownBlock):Keep (fun k=>v.ownBlock=some k) w w':=
 ⟨hg.os,hg.tape,hg.output,hg.size,fun b hb hn=>hg.block b hb (fun h=>hn h.symm)⟩
theorem zcy {g n c k:Nat} (h:(Value.slice (some ⟨g,0,none⟩) n c).ownBlock=some k):k=g:=by
 simp only [Value.ownBlock,v00] at h;exact h.symm
theorem y93 {P:Program} (w:World) (t u ty e:TypeId) (i:TypeInfo) (ht:P.underlying t=some (.slice e)) (hu:P.underlying u=some .string) (hi:P.info? e=some i) (hz:i.zero=some (.int .u8 0)) (hsize:i.size=1) (hby:i.bytes=1)
  (v:Value) (n:Nat) (xs:List Value) (hown:w.ownsRowF 0 e 1 v n xs) (s:ByteArray) (hbytes:n+s.size≤140737488355328) :
  ∃ v' w',(Builtin.append_ #[t,u] ty #[v,.string s]).run P w = .ok v' w'∧w'.ownsRowF 0 e 1 v' (n+s.size) (xs++Lib.strCells s)∧w.grownBy w' v.ownBlock∧∀ k,v'.ownBlock=some k→v.ownBlock=some k∨w.heap.size≤k:=by
 have h63:n+s.size≤maxLen:=by unfold maxLen; omega
 rcases hown.2 with ⟨rfl,rfl⟩ | ⟨g,cap,cur,fz,rfl,hbg,hg,hfz,hnc,hcm,hcs,htake⟩
 ·obtain ⟨v',w',h1,h2,h3,_⟩:=Lib.run_append_own_string (P:=P) w w.heap.size t u ty e i ht hu hi hz hsize hby (.slice none 0 0) 0 xs ⟨hown.1,.inl ⟨rfl,rfl⟩⟩ s h63 hbytes (v09 _)
  refine ⟨v',w',h1,⟨h2.1,?_⟩,h3,fun k hk=>.inr ?_⟩
  ·rcases h2.2 with q | ⟨g,cap,cur,q1,_,q2,q3,q4,q5,q6⟩
   ·exact .inl q
   ·exact .inr ⟨g,cap,cur,(0,0),q1,v0y _,q2,v0y _,q3,q4,q5,q6⟩
  ·rcases h2.2 with ⟨rfl,_⟩ | ⟨g,cap,cur,rfl,q1,_⟩
   ·simp [Value.ownBlock] at hk
   ·rw [zcy hk]; exact q1
 ·obtain ⟨v',w',h1,h2,h3,_⟩:=Lib.run_append_own_stringF (P:=P) w 0 t u ty e i ht hu hi hz hsize hby _ n xs hown s h63 hbytes (v0y _)
  refine ⟨v',w',h1,h2,h3,fun k hk=>?_⟩
  have hsmall:n+s.size≤9223372036854775807:=by omega
  by_cases hroom:n+s.size≤cap
  ·have hr:=Lib.run_append_room_stringF (P:=P) w t u ty e i ht hu hi hsize g n cap cur fz hg (by simpa using hfz) s hroom (by simp at hcs; omega)
   rw [h1] at hr;simp only [Result.ok.injEq] at hr;obtain ⟨rfl,_⟩:=hr;exact .inl (by rw [zcy hk]; rfl)
  ·have hxl:xs.length=n:=by simpa using hown.1
   have hr:=Lib.run_append_grow_string (P:=P) w t u ty e i (.int .u8 0) ht hu hi hz ⟨g,0,none⟩ n cap xs (by rw [hsize]; simpa using hxl) (hown.cells (g:=g) rfl) s (by omega) (by omega) (by rw [hby]; exact growslice_fits (by omega) (by omega))
   rw [h1] at hr;simp only [Result.ok.injEq] at hr;obtain ⟨rfl,_⟩:=hr;exact .inr (by rw [zcy hk]; exact v09 _)
theorem zno {P:Program} {w:World} {ops:Array Oper} {rest:List Oper} {o:Oper} {a:Act} {Q:Exit→Act→World→Prop} (hgd:o.guard=none) (sl x:Operand) (t u:TypeId)
  (ho:o.op = .call { callee:=.builtin .append,args:=#[sl,x],argTypes:=#[t,u] })
  (e:TypeId) (i:TypeInfo) (ht:P.underlying t=some (.slice e)) (hu:P.underlying u=some .string) (hi:P.info? e=some i) (hz:i.zero=some (.int .u8 0)) (hsize:i.size=1) (hby:i.bytes=1)
  (v:Value) (n:Nat) (xs:List Value) (hs:a.eval sl=v) (hown:w.ownsRowF 0 e 1 v n xs) (s:ByteArray) (hx:a.eval x = .string s) (hbytes:n+s.size≤140737488355328)
  (h:∀ v' w',w'.ownsRowF 0 e 1 v' (n+s.size) (xs++Lib.strCells s)→w.grownBy w' v.ownBlock→(∀ k,v'.ownBlock=some k→v.ownBlock=some k∨w.heap.size≤k)→wpList P ops Q rest (a.put o.dst v') w'):wpList P ops Q (o :: rest) a w:=by
 refine wpList_plain hgd fun K hK=>?_
 obtain ⟨v',w',hr,h2,h3,h4⟩:=y93 (P:=P) w t u o.type e i ht hu hi hz hsize hby v n xs hown s hbytes;unfold Oper.wp execOp;simp only [ho,resolve,invoke,builtin,Sem.run_bind,Sem.run_pure,Result.andThen_ok,List.map_toArray,v0d,v16,hs,hx,hr];exact hK _ _ (h v' w' h2 h3 h4)
theorem y68 {P:Program} (w:World) (t ty e:TypeId) (i:TypeInfo) (ht:P.underlying t=some (.slice e)) (hi:P.info? e=some i) (hz:i.zero=some (.int .u8 0)) (hsize:i.size=1) (hby:i.bytes=1)
  (v:Value) (n:Nat) (xs:List Value) (hown:w.ownsRowF 0 e 1 v n xs) (ad:Addr) (c:Nat) (x:Int) (hx:w.cell? ad=some (.int .u8 x)) (hbytes:n+1≤140737488355328) :
  ∃ v' w',(Builtin.append_ #[t,t] ty #[v,.slice (some ad) 1 c]).run P w = .ok v' w'∧w'.ownsRowF 0 e 1 v' (n+1) (xs++[.int .u8 x])∧w.grownBy w' v.ownBlock∧∀ k,v'.ownBlock=some k→v.ownBlock=some k∨w.heap.size≤k:=by
 have h63:n+1≤maxLen:=by unfold maxLen; omega
 have hnews:∀ j u,[Value.int .u8 x][j]?=some u→w.cell? (ad.add j)=some u:=by
  intro j u hj
  match j,hj with
  | 0,hj=>simp at hj; subst hj; obtain ⟨b,o,p⟩:=ad; cases p <;> simpa [Addr.add] using hx
 have h1c:∀ u∈[Value.int .u8 x],u.oneCell'=true:=fun u hu=>by simp at hu; subst hu; rfl
 rcases hown.2 with ⟨rfl,rfl⟩ | ⟨g,cap,cur,fz,rfl,hbg,hg,hfz,hnc,hcm,hcs,htake⟩
 ·obtain ⟨v',w',h1,h2,h3,_⟩:=run_append_own (P:=P) w w.heap.size t ty e i (.int .u8 0) 1 1 ht hi hz hsize hby rfl (by decide) (.slice none 0 0) 0 xs ⟨hown.1,.inl ⟨rfl,rfl⟩⟩ ad 1 c [.int .u8 x] rfl hnews h1c h63 (by omega) (v09 _)
  refine ⟨v',w',h1,⟨h2.1,?_⟩,h3,fun k hk=>.inr ?_⟩
  ·rcases h2.2 with q | ⟨g,cap,cur,q1,_,q2,q3,q4,q5,q6⟩
   ·exact .inl q
   ·exact .inr ⟨g,cap,cur,(0,0),q1,v0y _,q2,v0y _,q3,q4,q5,q6⟩
  ·rcases h2.2 with ⟨rfl,_⟩ | ⟨g,cap,cur,rfl,q1,_⟩
   ·simp [Value.ownBlock] at hk
   ·rw [zcy hk]; exact q1
 ·obtain ⟨v',w',h1,h2,h3,_⟩:=run_append_ownF (P:=P) w 0 t ty e i (.int .u8 0) 1 1 ht hi hz hsize hby rfl (by decide) _ n xs hown ad 1 c [.int .u8 x] rfl hnews h1c h63 (by omega) (v0y _)
  refine ⟨v',w',h1,h2,h3,fun k hk=>?_⟩
  by_cases hroom:n+1≤cap
  ·have hr:=run_append_roomF (P:=P) w t ty e i ht hi g n cap cur fz hg (by rw [hsize]; simpa using hfz) ad 1 c [.int .u8 x] (by rw [hsize]; rfl) hnews h1c hroom (by rw [hsize]; simp at hcs ⊢; omega)
   rw [h1] at hr;simp only [Result.ok.injEq] at hr;obtain ⟨rfl,_⟩:=hr;exact .inl (by rw [zcy hk]; rfl)
  ·have hxl:xs.length=n:=by simpa using hown.1
   have hr:=run_append_grow (P:=P) w t ty e i (.int .u8 0) ht hi hz ⟨g,0,none⟩ n cap xs (by rw [hsize]; simpa using hxl) (hown.cells (g:=g) rfl) ad 1 c [.int .u8 x] (by rw [hsize]; rfl) hnews (by omega) (by omega) (by rw [hby]; exact growslice_fits (by omega) (by omega))
   rw [h1] at hr;simp only [Result.ok.injEq] at hr;obtain ⟨rfl,_⟩:=hr;exact .inr (by rw [zcy hk]; exact v09 _)
theorem zko {P:Program} {w:World} {ops:Array Oper} {rest:List Oper} {o:Oper} {a:Act} {Q:Exit→Act→World→Prop} (hgd:o.guard=none) (sl x:Operand) (t:TypeId)
  (ho:o.op = .call { callee:=.builtin .append,args:=#[sl,x],argTypes:=#[t,t] })
  (e:TypeId) (i:TypeInfo) (ht:P.underlying t=some (.slice e)) (hi:P.info? e=some i) (hz:i.zero=some (.int .u8 0)) (hsize:i.size=1) (hby:i.bytes=1)
  (v:Value) (n:Nat) (xs:List Value) (hs:a.eval sl=v) (hown:w.ownsRowF 0 e 1 v n xs) (ad:Addr) (c:Nat) (y:Int) (hx:a.eval x = .slice (some ad) 1 c) (hc:w.cell? ad=some (.int .u8 y)) (hbytes:n+1≤140737488355328)
  (h:∀ v' w',w'.ownsRowF 0 e 1 v' (n+1) (xs++[.int .u8 y])→w.grownBy w' v.ownBlock→(∀ k,v'.ownBlock=some k→v.ownBlock=some k∨w.heap.size≤k)→wpList P ops Q rest (a.put o.dst v') w'):wpList P ops Q (o :: rest) a w:=by
 refine wpList_plain hgd fun K hK=>?_
 obtain ⟨v',w',hr,h2,h3,h4⟩:=y68 (P:=P) w t o.type e i ht hi hz hsize hby v n xs hown ad c y hc hbytes;unfold Oper.wp execOp;simp only [ho,resolve,invoke,builtin,Sem.run_bind,Sem.run_pure,Result.andThen_ok,List.map_toArray,v0d,v16,hs,hx,hr];exact hK _ _ (h v' w' h2 h3 h4)
theorem yec {w:World} {e:Nat} {v:Value} {bs:List Value} {n k:Nat} (hown:w.ownsRowF 0 e 1 v n bs) (hk:v.ownBlock=some k):k < w.heap.size:=by
 rcases hown.2 with ⟨rfl,_⟩ | ⟨g,cap,cur,fz,rfl,_,hg,_⟩
 ·simp [Value.ownBlock] at hk
 ·rw [zcy hk]
  exact zec hg
set_option maxHeartbeats 2000000 in
theorem ztn (b:Nat) (p v:Value) (bs:List Value) (s:ByteArray) (w:World) (hp:p = .pointer none∨p = .pointer (some ⟨b,0,none⟩)) (hbk:w.heap[b]?=some (.cells #[p,v] 108 (0,0)))
  (hown:w.ownsRowF 0 5 1 v bs.length bs) (hne:v.ownBlock≠some b) (hlen:bs.length+s.size≤140737488355328) :
  Calls Tryz.prog 60 #[.pointer (some ⟨b,0,none⟩),.string s] w fun e w'=>e = .returned (.tuple #[.int .i64 s.size,.nilIface])∧zr1 b v (bs++Lib.strCells s) w w':=by
 obtain ⟨i0,hi,hz0,hz1,hz2⟩:=info_parts ye3
 go_enter Tryz.func60,Tryz.ntmps60
 go_wp2_with (go_at_call 103; refine (y81 b p v _ hp hbk).mono ?_)
 rintro e w1 ⟨rfl,hb1,hk1,hs1⟩
 have HS:Hid (w1.heap.size=w.heap.size):=hs1;clear hs1;have hown1:w1.ownsRowF 0 5 1 v bs.length bs:=z4q hown (fun k hk=>hk1.block k (yec hown hk) (fun e=>hne (e ▸ hk)))
 have c0:w1.cell? ⟨b,0,none⟩=some (.pointer (some ⟨b,0,none⟩)):=by rw [Lib.cell_of_heap hb1]; rfl
 have c1:w1.cell? ⟨b,1,none⟩=some v:=by rw [Lib.cell_of_heap hb1]; rfl
 go_wp2_with (at_builtin; refine zno rfl _ _ 69 9 rfl 5 i0 Tryz.underlying69 Tryz.underlying9 hi hz0 hz1 hz2 _ _ _ rfl hown1 s rfl hlen ?_)
 intro v' w2 hown' hgrow hblk;have hlt:b < w1.heap.size:=zec hb1;have hb2:w2.heap[b]?=some (.cells #[.pointer (some ⟨b,0,none⟩),v] 108 (0,0)):=by
  rw [hgrow.block b hlt (fun e=>hne e.symm)]
  exact hb1
 have d0:w2.cell? ⟨b,0,none⟩=some (.pointer (some ⟨b,0,none⟩)):=by rw [Lib.cell_of_heap hb2]; rfl
 have d1:w2.cell? ⟨b,1,none⟩=some v:=by rw [Lib.cell_of_heap hb2]; rfl
 have f1:w2.frozen? ⟨b,1,none⟩=false:=Lib.frozen_of_heap hb2 1;have hX:Hid (zr1 b v (bs++Lib.strCells s) w (w2.setCell ⟨b,1,none⟩ v')):=y8w HS hk1 hb2 (by simpa [Lib.strCells_length] using hown') (y2i hgrow) hblk
 clear hblk HS;obtain ⟨ao,n',cap,rfl⟩:∃ ao n' cap,v' = .slice ao n' cap:=by
  rcases hown'.2 with ⟨hv,_⟩ | ⟨g,cap,cur,fz,hv,_⟩
  ·exact ⟨_,_,_,hv⟩
  ·exact ⟨_,_,_,hv⟩
 go_wp2
 go_ret2
 exact ⟨rfl,hX⟩
set_option maxHeartbeats 2000000 in
theorem zz6 (b:Nat) (p v:Value) (bs:List Value) (c:Int) (w:World) (hp:p = .pointer none∨p = .pointer (some ⟨b,0,none⟩)) (hbk:w.heap[b]?=some (.cells #[p,v] 108 (0,0)))
  (hown:w.ownsRowF 0 5 1 v bs.length bs) (hne:v.ownBlock≠some b) (hlen:bs.length+1≤140737488355328) :
  Calls Tryz.prog 97 #[.pointer (some ⟨b,0,none⟩),.int .u8 c] w fun e w'=>e = .returned .nilIface∧zr1 b v (bs++[.int .u8 c]) w w':=by
 obtain ⟨i0,hi,hz0,hz1,hz2⟩:=info_parts ye3
 go_enter Tryz.func97,Tryz.ntmps97
 go_wp2_with (go_at_call 103; refine (y81 b p v _ hp hbk).mono ?_)
 rintro e w1 ⟨rfl,hb1,hk1,hs1⟩
 have HS:Hid (w1.heap.size=w.heap.size):=hs1;clear hs1;have hown1:w1.ownsRowF 0 5 1 v bs.length bs:=z4q hown (fun k hk=>hk1.block k (yec hown hk) (fun e=>hne (e ▸ hk)))
 have c0:w1.cell? ⟨b,0,none⟩=some (.pointer (some ⟨b,0,none⟩)):=by rw [Lib.cell_of_heap hb1]; rfl
 have c1:w1.cell? ⟨b,1,none⟩=some v:=by rw [Lib.cell_of_heap hb1]; rfl
 have hlt:b < w1.heap.size:=zec hb1
 go_wp2_with (at_builtin; refine zko rfl _ _ 69 rfl 5 i0 Tryz.underlying69 hi hz0 hz1 hz2 _ _ _ rfl (hown1.alloc _) ⟨w1.heap.size,0,none⟩ 1 c rfl (by rw [Lib.cell_of_heap (heap_alloc_new w1 _)]; rfl) hlen ?_)
 intro v' w2 hown' hgrow hblk;have hb2:w2.heap[b]?=some (.cells #[.pointer (some ⟨b,0,none⟩),v] 108 (0,0)):=by
  rw [hgrow.block b (by simp; omega) (fun e=>hne e.symm),Lib.alloc_old w1 _ b hlt]
  exact hb1
 have d0:w2.cell? ⟨b,0,none⟩=some (.pointer (some ⟨b,0,none⟩)):=by rw [Lib.cell_of_heap hb2]; rfl
 have d1:w2.cell? ⟨b,1,none⟩=some v:=by rw [Lib.cell_of_heap hb2]; rfl
 have f1:w2.frozen? ⟨b,1,none⟩=false:=Lib.frozen_of_heap hb2 1;have hX:Hid (zr1 b v (bs++[.int .u8 c]) w (w2.setCell ⟨b,1,none⟩ v')):=y8w HS hk1 hb2 (by simpa using hown') (((Keep.alloc (fun k=>v.ownBlock=some k) w1 _)).trans (y2i hgrow) (fun _ _ h=>h)) (fun k hk=>(hblk k hk).imp_right (fun h=>by first | omega | (simp at h; omega)))
 clear hblk HS;obtain ⟨ao,n',cap,rfl⟩:∃ ao n' cap,v' = .slice ao n' cap:=by
  rcases hown'.2 with ⟨hv,_⟩ | ⟨g,cap,cur,fz,hv,_⟩
  ·exact ⟨_,_,_,hv⟩
  ·exact ⟨_,_,_,hv⟩
 go_wp2
 go_ret
 exact ⟨rfl,hX⟩
def zc2 (b:Nat) (p v:Value) (n:Nat) (bs:List Value) (w w':World):Prop:=
 w'.heap[b]?=some (.cells #[p,v] 108 (0,0))∧w'.ownsRowF 0 5 1 v n bs∧Keep (fun k=>k=b∨v.ownBlock=some k) w w'
theorem zzc {b g cap:Nat} {p:Value} {bs:List Value} {w:World} (hbk:w.heap[b]?=some (.cells #[p,.slice (some ⟨g,0,none⟩) bs.length cap] 108 (0,0))) (hown:w.ownsRowF 0 5 1 (.slice (some ⟨g,0,none⟩) bs.length cap) bs.length bs) (hne:(Value.slice (some ⟨g,0,none⟩) bs.length cap).ownBlock≠some b) :
  zc2 b p (.slice (some ⟨g,0,none⟩) bs.length cap) bs.length bs w (w.drew.freeze ⟨g,0,none⟩ bs.length):=by
 have hA:Lib.BuilderAtF 108 5 0 b p bs w.drew:=⟨v0y _,_,hbk,hown,hne⟩;have c1:w.drew.cell? ⟨b,1,none⟩=some (.slice (some ⟨g,0,none⟩) bs.length cap):=by
  have:w.drew.heap[b]?=some (.cells #[p,.slice (some ⟨g,0,none⟩) bs.length cap] 108 (0,0)):=hbk
  rw [Lib.cell_of_heap this]; rfl
 obtain ⟨_,v',q1,q2,q3⟩:=hA.froze c1;have hk:Keep (fun k=>k=g) w (w.drew.freeze ⟨g,0,none⟩ bs.length):=(Keep.drew _ w).trans (Keep.freeze (O:=fun k=>k=g) w.drew ⟨g,0,none⟩ _ rfl) (fun _ _ h=>h)
 have hgb:b≠g:=fun e=>hne (by simp [Value.ownBlock,e])
 have hb2:(w.drew.freeze ⟨g,0,none⟩ bs.length).heap[b]?=some (.cells #[p,.slice (some ⟨g,0,none⟩) bs.length cap] 108 (0,0)):=(hk.block b (zec hbk) hgb).trans hbk;have e:v' = .slice (some ⟨g,0,none⟩) bs.length cap:=by
  rw [hb2] at q1;simp at q1;exact q1.symm
 subst e;exact ⟨hb2,q2,hk.mono (fun k _ h=>.inr (by rw [h]; rfl))⟩
set_option maxHeartbeats 1000000 in
theorem zs1 (b g cap:Nat) (p:Value) (l:List UInt8) (w:World) (h0:l≠[]) (hbk:w.heap[b]?=some (.cells #[p,.slice (some ⟨g,0,none⟩) l.length cap] 108 (0,0)))
  (hown:w.ownsRowF 0 5 1 (.slice (some ⟨g,0,none⟩) l.length cap) l.length (Lib.byteCells l)) (hne:(Value.slice (some ⟨g,0,none⟩) l.length cap).ownBlock≠some b) :
  Calls Tryz.prog 56 #[.pointer (some ⟨b,0,none⟩)] w fun e w'=>e = .returned (.string ⟨l.toArray⟩)∧zc2 b p (.slice (some ⟨g,0,none⟩) l.length cap) l.length (Lib.byteCells l) w w':=by
 have hl0:l.length≠0:=by simpa using h0
 obtain ⟨cur,fz,hg,hnc,hcm,hcs⟩:∃ cur fz,w.heap[g]?=some (.cells cur 5 fz)∧l.length≤cap∧cap≤maxLen∧cur.size=cap*1:=by
  rcases hown.2 with ⟨hv,_⟩ | ⟨g',cap',cur,fz,hv,_,q1,_,q2,q3,q4,_⟩
  ·cases hv
  ·injection hv with ha _ hc
   injection ha with ha
   injection ha with hgg
   subst hgg; subst hc;exact ⟨cur,fz,q1,q2,q3,q4⟩
 have c1:w.drew.cell? ⟨b,1,none⟩=some (.slice (some ⟨g,0,none⟩) l.length cap):=by
  have:w.drew.heap[b]?=some (.cells #[p,.slice (some ⟨g,0,none⟩) l.length cap] 108 (0,0)):=hbk
  rw [Lib.cell_of_heap this]; rfl
 have hSD:(Builtin.unsafeSliceData_ #[69] 165 #[.slice (some ⟨g,0,none⟩) l.length cap]).run Tryz.prog w.drew = .ok (.pointer (some ⟨g,0,none⟩)) w.drew:=
  Lib.run_unsafeSliceData_row _ _ _ _ _ _ (by omega)
 have hcells:PR.cellsOf 5=1:=by kernel_rfl
 have hUS:(Builtin.unsafeString_ #[165,3] 9 #[.pointer (some ⟨g,0,none⟩),.int .i64 l.length]).run Tryz.prog w.drew = .ok (.string ⟨l.toArray⟩) (w.drew.freeze ⟨g,0,none⟩ l.length):=by
  refine Lib.run_unsafeString_row w.drew 165 3 9 5 Tryz.underlying165 hcells g cur.size (by have hg':w.drew.heap[g]?=some (.cells cur 5 fz):=hg; simp [World.shape?,hg']) l h0 (by omega) (by unfold maxLen at hcm; omega) ?_
  intro j x hx
  have:=hown.cells (g:=g) rfl j (.int .u8 x.toNat) (by simp [Lib.byteCells,hx])
  exact this
 have hP:Hid (zc2 b p (.slice (some ⟨g,0,none⟩) l.length cap) l.length (Lib.byteCells l) w (w.drew.freeze ⟨g,0,none⟩ l.length)):=by
  have:=zzc (bs:=Lib.byteCells l) (by rw [Lib.byteCells_length]; exact hbk) (by rw [Lib.byteCells_length]; exact hown) (by rw [Lib.byteCells_length]; exact hne)
  rw [Lib.byteCells_length] at this;exact this
 clear hcells hcs hg hnc hcm hl0
 go_enter Tryz.func56,Tryz.ntmps56
 go_wp2
 go_region
 all_goals (go_wp2; go_ret; exact ⟨rfl,hP⟩)
set_option maxHeartbeats 2000000 in
theorem zts (b:Nat) (p:Value) (w:World) (hbk:w.heap[b]?=some (.cells #[p,.slice none 0 0] 108 (0,0))) :
  Calls Tryz.prog 56 #[.pointer (some ⟨b,0,none⟩)] w fun e w'=>e = .returned (.string ⟨#[]⟩)∧zc2 b p (.slice none 0 0) 0 [] w w':=by
 have hUS:∀ (W:World) (q:Option Addr),(Builtin.unsafeString_ #[165,3] 9 #[.pointer q,.int .i64 0]).run Tryz.prog W = .ok (.string .empty) W:=fun W q=>Lib.run_unsafeString_none W _ _ _ q
 have c1:w.drew.cell? ⟨b,1,none⟩=some (.slice none 0 0):=by
  have:w.drew.heap[b]?=some (.cells #[p,.slice none 0 0] 108 (0,0)):=hbk
  rw [Lib.cell_of_heap this]; rfl
 have hSD:(Builtin.unsafeSliceData_ #[69] 165 #[.slice none 0 0]).run Tryz.prog w.drew = .ok (.pointer none) w.drew:=rfl;have hP:Hid (zc2 b p (.slice none 0 0) 0 [] w w.drew):=⟨hbk,⟨rfl,.inl ⟨rfl,rfl⟩⟩,Keep.drew _ w⟩
 go_enter Tryz.func56,Tryz.ntmps56
 go_wp2
 go_region
 all_goals (go_wp2; go_ret; exact ⟨rfl,hP⟩)
set_option maxHeartbeats 2000000 in
theorem zn9 (b g:Nat) (p:Value) (cur:Array Value) (fz:Nat × Nat) (w:World) (hbk:w.heap[b]?=some (.cells #[p,.slice (some ⟨g,0,none⟩) 0 0] 108 (0,0))) (hg:w.heap[g]?=some (.cells cur 5 fz)) (hown:w.ownsRowF 0 5 1 (.slice (some ⟨g,0,none⟩) 0 0) 0 []) :
  Calls Tryz.prog 56 #[.pointer (some ⟨b,0,none⟩)] w fun e w'=>e = .returned (.string ⟨#[]⟩)∧zc2 b p (.slice (some ⟨g,0,none⟩) 0 0) 0 [] w w':=by
 have hUS:∀ (W:World) (q:Option Addr),(Builtin.unsafeString_ #[165,3] 9 #[.pointer q,.int .i64 0]).run Tryz.prog W = .ok (.string .empty) W:=fun W q=>Lib.run_unsafeString_none W _ _ _ q
 have hlt:b < w.heap.size:=zec hbk;have c1:w.drew.cell? ⟨b,1,none⟩=some (.slice (some ⟨g,0,none⟩) 0 0):=by
  have:w.drew.heap[b]?=some (.cells #[p,.slice (some ⟨g,0,none⟩) 0 0] 108 (0,0)):=hbk
  rw [Lib.cell_of_heap this]; rfl
 have hSD:(Builtin.unsafeSliceData_ #[69] 165 #[.slice (some ⟨g,0,none⟩) 0 0]).run Tryz.prog w.drew = .ok (.pointer (some ⟨w.drew.heap.size,0,none⟩)) (w.drew.alloc (.view ⟨g,0,none⟩ 5)):=
  Lib.run_unsafeSliceData_zero w.drew _ _ 5 Tryz.underlying165 ⟨g,0,none⟩ 0 (5,cur.size) (by have hg':w.drew.heap[g]?=some (.cells cur 5 fz):=hg; simp [World.shape?,hg'])
 have c2:(w.drew.alloc (.view ⟨g,0,none⟩ 5)).cell? ⟨b,1,none⟩=some (.slice (some ⟨g,0,none⟩) 0 0):=by
  have:(w.drew.alloc (.view ⟨g,0,none⟩ 5)).heap[b]?=_:=(Lib.alloc_old w.drew _ b hlt).trans hbk
  rw [Lib.cell_of_heap this]; rfl
 have c3:(w.alloc (.view ⟨g,0,none⟩ 5)).drew.cell? ⟨b,1,none⟩=some (.slice (some ⟨g,0,none⟩) 0 0):=c2;have c0:w.cell? ⟨b,1,none⟩=some (.slice (some ⟨g,0,none⟩) 0 0):=c1;have hP:∀ W:World,W.heap=(w.drew.alloc (.view ⟨g,0,none⟩ 5)).heap→W.os=w.os→W.tape=w.tape→W.output=w.output→zc2 b p (.slice (some ⟨g,0,none⟩) 0 0) 0 [] w W:=by
  intro W h1 h2 h3 h4;have hk:Keep (fun k=>k=b∨(Value.slice (some ⟨g,0,none⟩) 0 0).ownBlock=some k) w W:=by
   have:=Keep.alloc (fun _=>False) w.drew (.view ⟨g,0,none⟩ 5)
   exact ⟨h2,h3,h4,by rw [h1]; exact this.size,fun k hk _=>by rw [h1]; exact this.block k hk (fun h=>h)⟩
  have hblk:∀ k,k < w.heap.size→W.heap[k]?=w.heap[k]?:=fun k hk=>by
   rw [h1]; exact (Keep.alloc (fun _=>False) w.drew (.view ⟨g,0,none⟩ 5)).block k hk (fun h=>h)
  exact ⟨(hblk b hlt).trans hbk,z4q hown (fun k hk=>hblk k (yec hown hk)),hk⟩
 have hP:Hid (∀ W:World,W.heap=(w.drew.alloc (.view ⟨g,0,none⟩ 5)).heap→W.os=w.os→W.tape=w.tape→W.output=w.output→zc2 b p (.slice (some ⟨g,0,none⟩) 0 0) 0 [] w W):=hP
 go_enter Tryz.func56,Tryz.ntmps56
 go_wp2
 go_region
 all_goals (go_wp2; go_ret; exact ⟨rfl,hP _ rfl rfl rfl rfl⟩)
set_option maxHeartbeats 2000000 in
theorem zt7 (b g cap:Nat) (p:Value) (w:World) (hc0:cap≠0) (hbk:w.heap[b]?=some (.cells #[p,.slice (some ⟨g,0,none⟩) 0 cap] 108 (0,0))) (hown:w.ownsRowF 0 5 1 (.slice (some ⟨g,0,none⟩) 0 cap) 0 []) :
  Calls Tryz.prog 56 #[.pointer (some ⟨b,0,none⟩)] w fun e w'=>e = .returned (.string ⟨#[]⟩)∧zc2 b p (.slice (some ⟨g,0,none⟩) 0 cap) 0 [] w w':=by
 have hUS:∀ (W:World) (q:Option Addr),(Builtin.unsafeString_ #[165,3] 9 #[.pointer q,.int .i64 0]).run Tryz.prog W = .ok (.string .empty) W:=fun W q=>Lib.run_unsafeString_none W _ _ _ q
 have c1:w.drew.cell? ⟨b,1,none⟩=some (.slice (some ⟨g,0,none⟩) 0 cap):=by
  have:w.drew.heap[b]?=some (.cells #[p,.slice (some ⟨g,0,none⟩) 0 cap] 108 (0,0)):=hbk
  rw [Lib.cell_of_heap this]; rfl
 have hSD:(Builtin.unsafeSliceData_ #[69] 165 #[.slice (some ⟨g,0,none⟩) 0 cap]).run Tryz.prog w.drew = .ok (.pointer (some ⟨g,0,none⟩)) w.drew:=
  Lib.run_unsafeSliceData_row _ _ _ _ _ _ hc0
 clear hc0;have hP:Hid (zc2 b p (.slice (some ⟨g,0,none⟩) 0 cap) 0 [] w w.drew):=⟨hbk,hown,Keep.drew _ w⟩
 go_enter Tryz.func56,Tryz.ntmps56
 go_wp2
 go_region
 all_goals (go_wp2; go_ret; exact ⟨rfl,hP⟩)
theorem zuh (s:ByteArray):Lib.strCells s=Lib.byteCells s.data.toList:=by
 simp [Lib.strCells,Lib.byteCells]
theorem yab (b:Nat) (p v:Value) (s:ByteArray) (w:World) (hbk:w.heap[b]?=some (.cells #[p,v] 108 (0,0))) (hown:w.ownsRowF 0 5 1 v s.size (Lib.strCells s)) (hne:v.ownBlock≠some b) :
  Calls Tryz.prog 56 #[.pointer (some ⟨b,0,none⟩)] w fun e w'=>e = .returned (.string s)∧zc2 b p v s.size (Lib.strCells s) w w':=by
 obtain ⟨⟨l⟩⟩:=s;rw [zuh] at hown ⊢
 change w.ownsRowF 0 5 1 v l.length (Lib.byteCells l) at hown
 change Calls Tryz.prog 56 #[.pointer (some ⟨b,0,none⟩)] w fun e w'=>e = .returned (.string ⟨l.toArray⟩)∧zc2 b p v l.length (Lib.byteCells l) w w'
 by_cases h0:l=[]
 ·subst h0
  rcases hown.2 with ⟨rfl,_⟩ | ⟨g,cap,cur,fz,rfl,_,hg,_⟩
  ·exact zts b p w hbk
  ·by_cases hc:cap=0
   ·subst hc
    exact zn9 b g p cur fz w hbk hg hown
   ·exact zt7 b g cap p w hc hbk hown
 ·rcases hown.2 with ⟨rfl,hz⟩ | ⟨g,cap,cur,fz,rfl,_⟩
  ·exact absurd (v1s hz) h0
  ·exact zs1 b g cap p l w h0 hbk hown hne
end Go.FM
