/-
  A small machine that reads a function of the program and reckons what a call of it comes to; what Go's library on the road comes to; the functions of the program, one by one. No conditions beyond each specification's own. (THE SMALL MACHINE (22): what comes back from a call., THE SMALL MACHINE (23): what a function is said to do; a cal, THE SMALL MACHINE (24): a call., and so on.)
-/
import Derived.Test.YtehhekmihbaghaaGreatDoorRa
import Derived.Lib.ConvBytes
import Derived.Orders
import Derived.DeepKeys
import Derived.KernelRfl
import Derived.Lib.AtoiAll
import Derived.Lib.ItoaLen
import Derived.Lib.Split
import Derived.Lib.IndexMore
import Derived.Lib.LaidTab
import Derived.Lib.SplitLaws
import Derived.Lib.TrimByte
import Derived.Lib.Repeat
import Derived.Lib.ItoaNum
import Derived.Lib.Join
import Derived.Test.YtehhekmihbaghaaGreatDoorProg
import Derived.Shelf.Strings.BuilderK
set_option linter.all false
set_option maxRecDepth 100000
namespace Go.FM
open Go Go.RowKit
theorem zmn:∀ l:List V,y8t l=l.map fun _=>.any
 | []=>rfl
 | _ :: r=>by simp [y8t,zmn r]
section
variable {B:BT} {nt:Nat} {w0:World} {X:Zone} {γ:Nat→Value} {st st':St} {a:Act} {w:World} {P:Program} {E:Env}
theorem zhu {B':BT} {own:Nat→Prop} {O1:Nat→Prop} {g:Nat→Value} (nm:Nat):∀ (r:List V) (j0:Nat) {γ:Nat→Value} {st:St} {F:Nat→Prop},nm+j0+r.length≤900000→Rel B nt w0 ⟨own,F⟩ γ st a w →
  (∀ b,z08 ⟨own,F⟩ γ st.o b→O1 b) →
  (∀ j e ag ks l,r[j]?=some (.vec e ag ks l)→ObRel B' γ [] w O1 (g (j0+j)) (.row true e ag ks l)∧∀ b,(g (j0+j)).ownBlock=some b→F b∧(w0.heap.size≤b∨own b)) →
  (∀ i j e ag ks l e' ag' ks' l' b,i≠j→r[i]?=some (.vec e ag ks l)→r[j]?=some (.vec e' ag' ks' l')→(g (j0+i)).ownBlock=some b→(g (j0+j)).ownBlock=some b→False) →
  ∃ γd F',Rel B nt w0 ⟨own,F'⟩ γd (st.ups (zef (nm+j0) r)) a w∧(∀ b,F' b→F b)∧(∀ b,F b→(∀ j e ag ks l,r[j]?=some (.vec e ag ks l)→(g (j0+j)).ownBlock≠some b)→F' b) ∧
   (∀ b,z08 ⟨own,F'⟩ γd (st.ups (zef (nm+j0) r)).o b→z08 ⟨own,F⟩ γ st.o b) ∧
   (∀ j e ag ks l,r[j]?=some (.vec e ag ks l)→γd (nm+j0+j)=g (j0+j)∧z03 (st.ups (zef (nm+j0) r)).o (nm+j0+j)=some (.row true e ag ks l)) ∧
   (∀ m,(m < nm+j0∨nm+j0+r.length≤m)→γd m=γ m∧(∀ cs:List V,z03 st.o m=some (.box (y8t cs))→z03 (st.ups (zef (nm+j0) r)).o m=some (.box (y8t cs))) ∧
    (∀ e ag ks l,z03 st.o m=some (.row true e ag ks l)→z03 (st.ups (zef (nm+j0) r)).o m=some (.row true e ag ks l)))
 | [],j0,γ,st,F,_,h,hO,hr,hd=>⟨γ,F,h,fun _ h=>h,fun _ h _=>h,fun _ h=>h,fun j e ag ks l hj=>by simp at hj,fun m _=>⟨rfl,fun _ h=>h,fun _ _ _ _ h=>h⟩⟩
 | v :: r,j0,γ,st,F,h9,h,hO,hr,hd=>by
  rw [v05] at h9
  by_cases hv:∃ e ag ks l,v = .vec e ag ks l
  ·obtain ⟨e,ag,ks,l,rfl⟩:=hv
   obtain ⟨hr0,hb0⟩:=hr 0 e ag ks l (by simp)
   rw [v1j] at hr0 hb0;have h1:=h.add (nm+j0) (by omega) (.row true e ag ks l) (g j0) (fun b hb=>hb0 b hb) (fun O' hO'=>by
    simp only [ObRel] at hr0 ⊢
    obtain ⟨k1,k2,xs,k3,k4⟩:=hr0;exact ⟨k1,k2,xs,k3,fun i y hy=>Kd.RelAll.mono (Keep.refl _ w) (fun b _ hb=>hO b (hO' b hb)) (fun _ _ hu=>hu) (k4 i y hy)⟩)
   have hO2:∀ b,z08 ⟨own,fun b=>F b∧¬ z0h (g j0) (.row true e ag ks l) b⟩ (fun m=>if nm+j0=m then g j0 else γ m) (st.up (.new (nm+j0) (.row true e ag ks l))).o b→z08 ⟨own,F⟩ γ st.o b:=by
    rintro b (⟨m,ob1,hm,hb1⟩ | hb)
    ·rw [z0a] at hm
     split at hm
     ·rename_i e1
      subst e1;simp only [v00] at hm;subst hm;simp only [v1l] at hb1;exact .inr (hb0 b hb1).1
     ·rename_i e1
      obtain ⟨ob0,h0,hs⟩:=z3u hm;simp only [v0x e1] at hb1;exact .inl ⟨m,ob0,h0,((z70 hs).2 _ _).1 hb1⟩
    ·exact .inr hb.1
   obtain ⟨γd,F',r1,r2,r3,r4,r5,r6⟩:=zhu (B':=B') nm r (j0+1) (by omega) h1 (fun b hb=>hO b (hO2 b hb)) (fun j e' ag' ks' l' hj=>by
     obtain ⟨q1,q2⟩:=hr (j+1) e' ag' ks' l' (by simpa using hj)
     rw [show j0+(j+1)=j0+1+j by omega] at q1 q2
     refine ⟨ygc q1,fun b hb=>⟨⟨(q2 b hb).1,fun hb'=>?_⟩,(q2 b hb).2⟩⟩
     exact hd 0 (j+1) e ag ks l e' ag' ks' l' b (by omega) (by simp) (by simpa using hj) hb' (by rw [show j0+(j+1)=j0+1+j by omega]; exact hb))
    (fun i j e1 ag1 ks1 l1 e2 ag2 ks2 l2 b hij h1 h2 hb1 hb2=>hd (i+1) (j+1) e1 ag1 ks1 l1 e2 ag2 ks2 l2 b (by omega) (by simpa using h1) (by simpa using h2) (by rw [show j0+(i+1)=j0+1+i by omega]; exact hb1) (by rw [show j0+(j+1)=j0+1+j by omega]; exact hb2))
   refine ⟨γd,F',r1,fun b hb=>(r2 b hb).1,fun b hb hn=>r3 b ⟨hb,fun hb'=>hn 0 e ag ks l (by simp) hb'⟩ (fun j e' ag' ks' l' hj=>by
     have:=hn (j+1) e' ag' ks' l' (by simpa using hj)
     rwa [show j0+(j+1)=j0+1+j by omega] at this),fun b hb=>hO2 b (r4 b hb),?_,?_⟩
   ·intro j e' ag' ks' l' hj
    cases j with
    | zero=>
     simp only [v0q,v00,V.vec.injEq] at hj;obtain ⟨rfl,rfl,rfl,rfl⟩:=hj;obtain ⟨p1,_,p3⟩:=r6 (nm+j0) (.inl (by omega))
     refine ⟨by rw [v1j,v1j,p1]; simp,?_⟩
     rw [v1j];exact p3 e ag ks l (by rw [z0a,v1c rfl])
    | succ j=>
     obtain ⟨p1,p2⟩:=r5 j e' ag' ks' l' (by simpa using hj)
     rw [show nm+(j0+1)+j=nm+j0+(j+1) by omega] at p1 p2
     exact ⟨by rw [p1]; congr 1; omega,p2⟩
   ·intro m hm
    have hne:nm+j0≠m:=by
     simp only [v05] at hm;omega
    obtain ⟨p1,p2,p3⟩:=r6 m (by simp only [v05] at hm; omega)
    refine ⟨by rw [p1,v0x hne],fun cs hc=>p2 cs ?_,fun e' ag' ks' l' hc=>p3 e' ag' ks' l' ?_⟩
    ·rw [z0a,v0x hne,hc]
     simp only [z4v,zmn,v40,v00,Ob.box.injEq]
     rfl
    ·rw [z0a,v0x hne,hc]
     rfl
  ·have hu:zef (nm+j0) (v :: r)=zef (nm+(j0+1)) r:=by
    cases v <;> first | rfl | exact absurd ⟨_,_,_,_,rfl⟩ hv
   rw [hu];obtain ⟨γd,F',r1,r2,r3,r4,r5,r6⟩:=zhu (B':=B') nm r (j0+1) (by omega) h hO (fun j e' ag' ks' l' hj=>by
     obtain ⟨q1,q2⟩:=hr (j+1) e' ag' ks' l' (by simpa using hj)
     rw [show j0+(j+1)=j0+1+j by omega] at q1 q2
     exact ⟨q1,q2⟩)
    (fun i j e1 ag1 ks1 l1 e2 ag2 ks2 l2 b hij h1 h2 hb1 hb2=>hd (i+1) (j+1) e1 ag1 ks1 l1 e2 ag2 ks2 l2 b (by omega) (by simpa using h1) (by simpa using h2) (by rw [show j0+(i+1)=j0+1+i by omega]; exact hb1) (by rw [show j0+(j+1)=j0+1+j by omega]; exact hb2))
   refine ⟨γd,F',r1,r2,fun b hb hn=>r3 b hb (fun j e' ag' ks' l' hj=>by
     have:=hn (j+1) e' ag' ks' l' (by simpa using hj)
     rwa [show j0+(j+1)=j0+1+j by omega] at this),r4,?_,?_⟩
   ·intro j e' ag' ks' l' hj
    cases j with
    | zero=>
     simp only [v0q,v00] at hj;exact absurd ⟨_,_,_,_,hj⟩ hv
    | succ j=>
     obtain ⟨p1,p2⟩:=r5 j e' ag' ks' l' (by simpa using hj)
     rw [show nm+(j0+1)+j=nm+j0+(j+1) by omega] at p1 p2
     exact ⟨by rw [p1]; congr 1; omega,p2⟩
   ·intro m hm
    exact r6 m (by simp only [v05] at hm; omega)
end
open Go Go.RowKit
def zi8:V→Bool
 | .agg l=>l.all z9e
 | .tup l=>l.all fun v=>match v with | .agg l=>l.all z9e | v=>z9e v
 | v=>z9e v
def okR:V→Bool
 | .bor cs=>cs.all okC
 | .vec _ _ _ _=>true
 | v=>zi8 v
def zyv:List V→List V→Bool
 | [.bld _],[.bld _]=>true
 | [.bld _],_=>false
 | _,cs=>cs.all okC
def zaa (vs:List V) (r:V) (out:List (List V)) (g g':Value):Prop:=
 match z6a vs,out with
 | none,[]=>okR r=true
 | some cs,[cs']=>zi8 r=true∧zyv cs cs'=true∧zks g'=zks g
 | _,_=>False
def Does (P:Program) (f:FuncId) (xs:List Value) (w:World) (R:Ending→World→Prop):Prop:=
 match (callFunc f xs.toArray).run P w with
 | .ok (.enter g args) w'=>Calls P g args w' R
 | .ok (.value x) w'=>R (.returned x) w'
 | .ok (.row row args) w'=>Rows P row args w' fun x w''=>R (.returned x) w''
 | _=>False
theorem Does.mono {P:Program} {f:FuncId} {xs:List Value} {w:World} {R R':Ending→World→Prop} (h:Does P f xs w R) (hr:∀ e w',R e w'→R' e w'):Does P f xs w R':=by
 unfold Does at h ⊢
 split at h
 ·exact Calls.mono h hr
 ·exact hr _ _ h
 ·exact Rows.mono h (fun v w'=>hr _ _)
 ·exact h.elim
theorem Does.enter {P:Program} {f:FuncId} {fn:Func} (hf:P.funcs[f]?=some fn) (hn:(fn.name == "runtime.NumGoroutine")=false) (hb:fn.body.isNone=false) {xs:List Value} {w:World} {R:Ending→World→Prop} (h:Calls P f xs.toArray w R):Does P f xs w R:=by
 have:(callFunc f xs.toArray).run P w = .ok (.enter f xs.toArray) w:=by
  unfold callFunc;have hn':¬ fn.name = "runtime.NumGoroutine":=by simpa using hn
  have hb':¬ fn.body=none:=fun h=>by rw [h] at hb; cases hb
  simp [hf,hn',hb']
 unfold Does;rw [this];exact h
def Snd (P:Program) (B:BT) (f:FuncId) (sp:yff):Prop:=
 ∀ (w:World) (X:Zone) (γ:Nat→Value) (vs:List V) (xs:List Value) (r:V) (out:List (List V)),sp vs=some (r,out)→Glob B w→(∀ b,X.own b→B.ng≤b) →
  Rel B.base 0 w X γ ⟨[],zbz vs⟩ zwe w→VRels γ (zbz vs) w (z08 X γ (zbz vs)) (vs.map z8p) xs →
  Does P f xs w fun e w'=>∃ x,e = .returned x∧∃ γ',Rel B.base 0 w X γ' ⟨[],z3h r out⟩ zwe w'∧VRel γ' (z3h r out) w' (z08 X γ' (z3h r out)) (y48 r) x∧zaa vs r out (γ 900000) (γ' 900000)
theorem zko {γ γ':Nat→Value} {o o':Store} {w:World} {O O':Nat→Prop} {v:V} (hf:z9e v=true) (hO:isL v=true→∀ b,b < w.heap.size→O' b→O b) {x:Value} (h:VRel γ o w O v x):VRel γ' o' w O' v x:=by
 cases v <;> simp only [z9e] at hf <;> first | (cases hf; done) | (exact zaz rfl (VRel.mono (Keep.refl _ w) (hO rfl) h)) | (simp only [VRel] at h ⊢; try exact h)
theorem zpm:∀ {l:List V} {v:V},v∈l→isL v=true→zod l=true
 | u :: r,v,hm,hv=>by
  simp only [zod];cases hu:isL u with
  | true=>rfl
  | false=>
   rcases v13.1 hm with h1 | h1
   ·subst h1
    rw [hv] at hu;cases hu
   ·exact zpm h1 hv
theorem zn1 {γ γ':Nat→Value} {o o':Store} {w:World} {O O':Nat→Prop}:∀ {l:List V} {xs:List Value},l.all z9e=true→(zod l=true→∀ b,b < w.heap.size→O' b→O b)→VRels γ o w O l xs→VRels γ' o' w O' l xs
 | [],[],_,_,_=>by simp only [VRels]
 | [],_ :: _,_,_,h=>by simp only [VRels] at h
 | _ :: _,[],_,_,h=>by simp only [VRels] at h
 | v :: l,x :: xs,hf,hO,h=>by
  simp only [VRels] at h ⊢
  simp only [v2w,v02] at hf;exact ⟨zko hf.1 (fun hv=>hO (zpm (v09 ..) hv)) h.1,zn1 hf.2 (fun hl=>hO (by simp only [zod]; split <;> first | rfl | exact hl)) h.2⟩
theorem zrc {γ γ':Nat→Value} {o o':Store} {w:World} {O O':Nat→Prop} {v:V} (hf:zi8 v=true) (hO:z3r v=true→∀ b,b < w.heap.size→O' b→O b) {x:Value} (h:VRel γ o w O v x):VRel γ' o' w O' v x:=by
 by_cases ha:∃ l,v = .agg l
 ·obtain ⟨l,rfl⟩:=ha
  simp only [VRel] at h ⊢
  obtain ⟨cs,hx,hr⟩:=h;exact ⟨cs,hx,zn1 hf hO hr⟩
 by_cases ht:∃ l,v = .tup l
 ·obtain ⟨l,rfl⟩:=ht
  simp only [VRel] at h ⊢
  obtain ⟨cs,hx,hr⟩:=h;refine ⟨cs,hx,?_⟩;simp only [zi8] at hf;have key:∀ (l:List V) (xs:List Value),(l.all fun v=>match v with | .agg l=>l.all z9e | v=>z9e v)=true→(z3r.go l=true→∀ b,b < w.heap.size→O' b→O b)→VRels γ o w O l xs→VRels γ' o' w O' l xs:=by
   intro l
   induction l with
   | nil=>
    intro xs _ _ h;cases xs with
    | nil=>simp only [VRels]
    | cons _ _=>simp only [VRels] at h
   | cons v l ih=>
    intro xs hf hO h;cases xs with
    | nil=>simp only [VRels] at h
    | cons x xs=>
     simp only [VRels] at h ⊢
     simp only [v2w,v02] at hf;have h2:z3r.go l=true→z3r.go (v :: l)=true:=fun hl=>by cases v <;> simp only [z3r.go] <;> first | exact hl | (split <;> first | rfl | exact hl)
     refine ⟨?_,ih xs hf.2 (fun hl=>hO (h2 hl)) h.2⟩
     by_cases hv:∃ l',v = .agg l'
     ·obtain ⟨l',rfl⟩:=hv
      have h1:=h.1;simp only [VRel] at h1 ⊢
      obtain ⟨cs,hx,hr⟩:=h1;exact ⟨cs,hx,zn1 hf.1 (fun hl=>hO (by simp only [z3r.go,hl])) hr⟩
     ·have hf1:z9e v=true:=by
       have:=hf.1
       split at this
       ·exact absurd ⟨_,rfl⟩ hv
       ·exact this
      exact zko hf1 (fun hl=>hO (by cases v <;> simp_all [z3r.go])) h.1
  exact key l _ hf hO hr
 have h1:z9e v=true:=by cases v <;> first | exact hf | exact absurd ⟨_,rfl⟩ ha | exact absurd ⟨_,rfl⟩ ht
 exact zko h1 (fun hl=>hO (by cases v <;> first | exact hl | (simp only [isL] at hl; cases hl))) h
theorem zba {v:V} (h:zi8 v=true):y48 v=v:=by
 cases v <;> first | rfl | (simp only [zi8,z9e] at h; cases h)
theorem y7l {o:Store} {bs:List V} {tk:Option Kd} {v:V} (h:zd4.lentC [v]=[]):∀ cs,z8i o bs tk v≠.bor cs:=by
 intro cs hc;cases v
 case ptr n i c=>simp [zd4.lentC] at h
 all_goals simp only [z8i] at hc
 all_goals (repeat' split at hc)
 all_goals (cases hc)
theorem y2p {o:Store} {bs:List V} {tk:Option Kd} {v:V} {cs:List V} (h:z8i o bs tk v = .bor cs):cs=bs:=by
 cases v <;> simp only [z8i] at h <;> try (cases h; done)
 all_goals (repeat' split at h)
 all_goals first | (cases h; done) | (cases h; rfl)
theorem zzr {o:Store} {bs:List V}:∀ {l:List V},(z6a.borC (l.map (z8i o bs none))=none∨z6a.borC (l.map (z8i o bs none))=some bs)∧(zd4.lentC l=[]→z6a.borC (l.map (z8i o bs none))=none)
 | []=>by simp [z6a.borC]
 | v :: r=>by
  have ih:=zzr (o:=o) (bs:=bs) (l:=r);have hl:zd4.lentC (v :: r)=[]→zd4.lentC [v]=[]∧zd4.lentC r=[]:=by cases v <;> simp [zd4.lentC]
  simp only [v0e];cases hv:z8i o bs none v
  case bor cs=>
   simp only [z6a.borC];refine ⟨.inr (by rw [y2p hv]),fun h=>absurd hv (y7l (hl h).1 cs)⟩
  all_goals (simp only [z6a.borC]; exact ⟨ih.1,fun h=>ih.2 (hl h).2⟩)
theorem zek {o:Store} {bs:List V}:∀ {l:List V} {tks:List (List Kd)},(z6a (z5r o bs tks l)=none∨z6a (z5r o bs tks l)=some bs)∧(zd4 l=[]→z6a (z5r o bs tks l)=none)
 | [],tks=>by cases tks <;> simp [z5r,z6a]
 | v :: r,tks=>by
  obtain ⟨ks,tks',he⟩:∃ ks tks',z5r o bs tks (v :: r)=y3l o bs ks v :: z5r o bs tks' r:=by
   cases tks with
   | nil=>exact ⟨[],[],rfl⟩
   | cons k ks=>exact ⟨k,ks,rfl⟩
  have ih:=zek (o:=o) (bs:=bs) (l:=r) (tks:=tks');rw [he];have hl:zd4 (v :: r)=[]→zd4 [v]=[]∧zd4 r=[]:=by cases v <;> simp [zd4]
  by_cases hc:∃ f l,v = .clo f l
  ·obtain ⟨f,l,rfl⟩:=hc
   have hb:=zzr (o:=o) (bs:=bs) (l:=l);simp only [y3l,z6a];cases hx:z6a.borC (l.map (z8i o bs none)) with
   | none=>exact ⟨ih.1,fun h=>ih.2 (hl h).2⟩
   | some cs=>
    simp only;refine ⟨.inr ?_,fun h=>?_⟩
    ·rcases hb.1 with h1 | h1 <;> rw [hx] at h1
     ·cases h1
     ·exact h1
    ·have:=hb.2 (by have:=(hl h).1; simpa [zd4] using this)
     rw [hx] at this;cases this
  ·by_cases ha:∃ l,v = .agg l
   ·obtain ⟨l,rfl⟩:=ha
    simp only [y3l,z6a];exact ⟨ih.1,fun h=>ih.2 (hl h).2⟩
   ·have h1:y3l o bs ks v=z8i o bs ks.head? v:=by
     cases v <;> first | rfl | exact absurd ⟨_,rfl⟩ ha | exact absurd ⟨_,_,rfl⟩ hc
    rw [h1];cases hv:z8i o bs ks.head? v
    case bor cs=>
     simp only [z6a];refine ⟨.inr (by rw [y2p hv]),fun h=>absurd hv (y7l (v:=v) ?_ cs)⟩
     have:=(hl h).1
     cases v <;> simp_all [zd4,zd4.lentC]
    case clo f l=>
     exfalso;cases v <;> simp only [z8i] at hv <;> try (cases hv; done)
     all_goals (repeat' split at hv)
     all_goals (cases hv)
    all_goals (simp only [z6a]; exact ⟨ih.1,fun h=>ih.2 (hl h).2⟩)
open Go Go.RowKit
section
variable {B:BT} {nt:Nat} {w0:World} {X:Zone} {γ:Nat→Value} {st st':St} {a:Act} {w:World} {P:Program} {E:Env}
theorem zbk (h:Rel B nt w0 X γ st a w) (ns:List Nat) {b:Nat} (hb:z08 X γ (st.ups (z0g st.o ns)).o b):z08 X γ st.o b∧∀ m∈ns,¬ RowOf γ st.o m b:=by
 obtain ⟨h1,h2,h3,h4,h5⟩:=z3t st.o ns (FrzLe.refl _) h;refine ⟨h2.owned hb,?_⟩
 rintro m hm ⟨e,ag,ks,l,ho,hob⟩
 rcases hb with ⟨m',ob',hm',hb'⟩ | hb
 ·by_cases e1:m=m'
  ·subst e1
   rcases h2 m with h6 | ⟨e',ag',ks',l',h6,h7⟩
   ·rw [h6,ho] at hm'
    have:=h4 m hm true e ag ks l (by rw [h6,ho])
    cases this
   ·rw [h7,v00] at hm'
    subst hm';exact hb'.elim
  ·rcases h2 m' with h6 | ⟨e',ag',ks',l',h6,h7⟩
   ·rw [h6] at hm'
    exact h.dis m m' _ ob' b e1 ho hm' hob hb'
   ·rw [h7,v00] at hm'
    subst hm';exact hb'.elim
 ·exact h.near ⟨m,_,ho,hob⟩ hb
theorem zns (h:Rel B nt w0 X γ st a w) (hg:GX B w0 X) {f:FuncId} {sp:yff} (hS:Snd P B f sp) {vs:List V} {xs:List Value} (hv:VRels γ st.o w (z08 X γ st.o) vs xs) (hl:zd4 vs=[]) {tks:List (List Kd)} {v:V} {out:List (List V)}
  (hsp:sp (z5r st.o [] tks vs)=some (v,out)) :
  Does P f xs w fun e w'=>∃ x,e = .returned x∧∃ γ',Rel B.base 0 w ⟨fun _=>False,fun b=>z08 X γ st.o b∧∀ m∈z1a vs,¬ RowOf γ st.o m b⟩ γ' ⟨[],z3h v out⟩ zwe w' ∧
   VRel γ' (z3h v out) w' (z08 ⟨fun _=>False,fun b=>z08 X γ st.o b∧∀ m∈z1a vs,¬ RowOf γ st.o m b⟩ γ' (z3h v out)) (y48 v) x∧okR v=true∧out=[]:=by
 have hb:z6a (z5r st.o [] tks vs)=none:=zek.2 hl;have hm:zbz (z5r st.o [] tks vs)=[]:=by simp only [zbz,hb]
 have hR:Rel B.base 0 w ⟨fun _=>False,fun b=>z08 X γ st.o b∧∀ m∈z1a vs,¬ RowOf γ st.o m b⟩ γ ⟨[],[]⟩ zwe w:=by
  refine ⟨rfl,rfl,fun i=>by simp only [St.get,lkd,VRel],fun n ob hn=>?_,?_,?_,Keep.refl _ w,?_,?_,fun p hp=>by cases hp⟩
  ·simp only [z03,lkd] at hn; cases hn
  ·rintro b ⟨n,ob,hn,_⟩; simp only [z03,lkd] at hn; cases hn
  ·intro n m ob ob' b _ hn; simp only [z03,lkd] at hn; cases hn
  ·rintro b ⟨n,ob,hn,_⟩; simp only [z03,lkd] at hn; cases hn
  ·rintro b ⟨hb | hb,_⟩
   ·exact (h.lt b hb).1
   ·exact h.fl b hb
 have:=hS w ⟨fun _=>False,fun b=>z08 X γ st.o b∧∀ m∈z1a vs,¬ RowOf γ st.o m b⟩ γ (z5r st.o [] tks vs) xs v out hsp (h.glob hg) (fun _ hf=>hf.elim) (by rw [hm]; exact hR) (by
  rw [hm];refine zk4 h (fun b _ hb=>?_) [] hv (fun m hm b hr hb=>?_) (fun m hm=>by rw [hl] at hm; cases hm)
  ·rcases hb with ⟨n,ob,hn,_⟩ | hb
   ·simp only [z03,lkd] at hn; cases hn
   ·exact hb.1
  ·rcases hb with ⟨n,ob,hn,_⟩ | hb
   ·simp only [z03,lkd] at hn; cases hn
   ·exact hb.2 m hm hr)
 refine this.mono ?_
 rintro e w' ⟨x,he,γ',h1,h2,h3⟩
 refine ⟨x,he,γ',h1,h2,?_⟩;simp only [zaa,hb] at h3;cases out with
 | nil=>exact ⟨h3,rfl⟩
 | cons _ _=>exact h3.elim
theorem zje (h:Rel B nt w0 X γ st a w) {w':World} {X':Zone} (hX:∀ b,¬ X'.own b) {γ':Nat→Value} {st':St} {a':Act} (hc:Rel B.base 0 w X' γ' st' a' w') (F:Nat→Prop) (hF:∀ b,F b→X.far b∨(w.heap.size≤b∧b < w'.heap.size)):Rel B nt w0 ⟨X.own,F⟩ γ st a w':=
 (h.fresh (hc.keep) (fun b _ hb=>(hX b hb).elim)).shrink hF
theorem zhq {cs:List V} (h:cs.all okC=true):z7r cs=(900000,some (.box (z6v 900001 cs))) :: zg3 900001 cs:=by
 refine zyi (fun s he=>?_)
 subst he;simp [okC,z9e] at h
theorem zvl {w':World} {X':Zone} {γ':Nat→Value} {cs:List V} (hok:cs.all okC=true) (_:Rel B.base 0 w X' γ' ⟨[],z7r cs⟩ zwe w') {c:Array Value}
  (hr:VRels γ' (z7r cs) w' (z08 X' γ' (z7r cs)) (z6v 900001 cs) c.toList) {γf:Nat→Value} {of:Store} {nm:Nat}
  (hrow:∀ j e ag ks l,cs[j]?=some (.vec e ag ks l)→γf (nm+j)=γ' (900001+j)∧z03 of (nm+j)=some (.row true e ag ks l)) {O':Nat→Prop} (hO:zod cs=true→∀ b,b < w'.heap.size→O' b→z08 X' γ' (z7r cs) b) :
  VRels γf of w' O' (z6v nm cs) c.toList:=by
 have hl:=hr.length;rw [z95] at hl;refine VRels.of_get (by rw [z95,hl]) (fun j v x hv hx=>?_)
 rw [zgr] at hv;cases hcj:cs[j]? with
 | none=>rw [hcj] at hv; cases hv
 | some u=>
  rw [hcj] at hv;simp only [v2d,v00] at hv;have hb:(z6v 900001 cs)[j]?=some (match (generalizing:=false) u with | .vec _ _ _ l=>.row (900001+j) 0 l.length | v=>v):=by rw [zgr,hcj]; rfl
  have hux:=hr.get' hb hx;have huok:okC u=true:=v30.1 hok u (v1o hcj)
  by_cases hvec:∃ e ag ks l,u = .vec e ag ks l
  ·obtain ⟨e,ag,ks,l,rfl⟩:=hvec
   simp only at hv hux;subst hv;obtain ⟨h1,h2⟩:=hrow j e ag ks l hcj;have hat:=zlm (nr:=900001) hcj;have hat':z03 (z7r cs) (900001+j)=some (.row true e ag ks l):=by
    rw [zhq hok,z01,v0x (by omega)]
    exact hat
   simp only [VRel,hat'] at hux;simp only [VRel,h2,h1];exact hux
  ·have hf:z9e u=true:=by cases u <;> first | exact huok | exact absurd ⟨_,_,_,_,rfl⟩ hvec
   have hvu:v=u:=by cases u <;> first | exact hv.symm | exact absurd ⟨_,_,_,_,rfl⟩ hvec
   have hux':VRel γ' (z7r cs) w' (z08 X' γ' (z7r cs)) u x:=by cases u <;> first | exact hux | exact absurd ⟨_,_,_,_,rfl⟩ hvec
   subst hvu;exact zko hf (fun hv=>hO (zpm (v1o hcj) hv)) hux'
theorem y0y {w':World} {X':Zone} {γ':Nat→Value} {cs:List V} (hok:cs.all okC=true) (hc:Rel B.base 0 w X' γ' ⟨[],z7r cs⟩ zwe w') :
  (∀ (γ:Nat→Value) j e ag ks l,cs[j]?=some (.vec e ag ks l)→ObRel B.base γ [] w' (fun b=>zod cs=true→z08 X' γ' (z7r cs) b) (γ' (900001+j)) (.row true e ag ks l)∧∀ b,(γ' (900001+j)).ownBlock=some b→z1l γ' (z7r cs) b) ∧
  (∀ i j e ag ks l e' ag' ks' l' b,i≠j→cs[i]?=some (.vec e ag ks l)→cs[j]?=some (.vec e' ag' ks' l')→(γ' (900001+i)).ownBlock=some b→(γ' (900001+j)).ownBlock=some b→False) ∧
  (∀ j e ag ks l b,cs[j]?=some (.vec e ag ks l)→(γ' (900001+j)).ownBlock=some b→z0t γ' (z7r cs) 900000 b→False):=by
 have hat:∀ {j e ag ks l},cs[j]?=some (V.vec e ag ks l)→z03 (z7r cs) (900001+j)=some (.row true e ag ks l):=by
  intro j e ag ks l hj;rw [zhq hok,z01,v0x (by omega)]
  exact zlm hj
 refine ⟨fun γ j e ag ks l hj=>⟨?_,fun b hb=>⟨_,_,hat hj,hb⟩⟩,?_,?_⟩
 ·have hr:=hc.ob _ _ (hat hj)
  simp only [ObRel] at hr ⊢
  obtain ⟨k1,k2,xs,k3,k4⟩:=hr;refine ⟨k1,k2,xs,k3,fun i y hy=>Kd.RelAll.mono (Keep.refl _ w') (fun b _ hb=>?_) (fun _ _ hu=>hu) (k4 i y hy)⟩
  exact hb (zpm (v1o hj) rfl)
 ·intro i j e ag ks l e' ag' ks' l' b hij h1 h2 hb1 hb2
  exact hc.dis _ _ _ _ b (by omega) (hat h1) (hat h2) hb1 hb2
 ·rintro j e ag ks l b hj hb ⟨ob,h1,h2⟩
  exact hc.dis _ _ _ _ b (by omega) (hat hj) h1 hb h2
theorem y8l (h:Rel B nt w0 X γ st a w) (hg:GX B w0 X) {f:FuncId} {sp:yff} (hS:Snd P B f sp) {vs:List V} {xs:List Value} (hv:VRels γ st.o w (z08 X γ st.o) vs xs) (hl:zd4 vs=[]) {tks:List (List Kd)} {v:V} {out:List (List V)}
  (hsp:sp (z5r st.o [] tks vs)=some (v,out)) (hnb:∀ cs,v≠.bor cs) (hnv:∀ e ag ks l,v≠.vec e ag ks l) :
  Does P f xs w fun e w'=>∃ x,e = .returned x∧∃ γ',Rel B nt w0 X γ' (st.ups (z0g st.o (match z3r v with | true=>z1a vs | false=>[]))) a w' ∧
   VRel γ' (st.ups (z0g st.o (match z3r v with | true=>z1a vs | false=>[]))).o w' (z08 X γ' (st.ups (z0g st.o (match z3r v with | true=>z1a vs | false=>[]))).o) v x:=by
 refine (zns h hg hS hv hl hsp).mono ?_
 rintro e w' ⟨x,he,γ',h1,h2,h3,rfl⟩
 have hf:zi8 v=true:=by cases v <;> first | exact h3 | exact absurd rfl (hnb _) | exact absurd rfl (hnv _ _ _ _)
 have hmo:z3h v []=[]:=by cases v <;> first | rfl | exact absurd rfl (hnb _) | exact absurd rfl (hnv _ _ _ _)
 rw [hmo] at h1 h2;rw [zba hf] at h2;have hz:=(z3t st.o (match z3r v with | true=>z1a vs | false=>[]) (FrzLe.refl _) h).1
 have hp:=zje hz (fun b hb=>hb) h1 X.far (fun b hb=>.inl hb)
 refine ⟨x,he,γ,hp,zrc hf (fun hhl b _ hb=>?_) h2⟩
 have:=zbk h _ hb
 rw [hhl] at this;exact .inr this
theorem yb3 (h:Rel B nt w0 X γ st a w) (hg:GX B w0 X) {f:FuncId} {sp:yff} (hS:Snd P B f sp) {vs:List V} {xs:List Value} (hv:VRels γ st.o w (z08 X γ st.o) vs xs) (hl:zd4 vs=[]) {tks:List (List Kd)} {cs:List V} {out:List (List V)}
  (hsp:sp (z5r st.o [] tks vs)=some (.bor cs,out)) (d:Nat) (hd9:d≠900000) (hn9:1000*(d+1)+cs.length≤900000) :
  Does P f xs w fun e w'=>∃ x,e = .returned x∧∃ γ',Rel B nt w0 X γ' (st.ups (z0g st.o (match zod cs with | true=>z1a vs | false=>[])++(zef (1000*(d+1)) cs++[.new d (.box (z6v (1000*(d+1)) cs))]))) a w' ∧
   VRel γ' (st.ups (z0g st.o (match zod cs with | true=>z1a vs | false=>[])++(zef (1000*(d+1)) cs++[.new d (.box (z6v (1000*(d+1)) cs))]))).o w'
    (z08 X γ' (st.ups (z0g st.o (match zod cs with | true=>z1a vs | false=>[])++(zef (1000*(d+1)) cs++[.new d (.box (z6v (1000*(d+1)) cs))]))).o) (.ptr d 0 0) x:=by
 refine (zns h hg hS hv hl hsp).mono ?_
 rintro e w' ⟨x,he,γ',h1,h2,h3,rfl⟩
 simp only [okR] at h3;have hmo:z3h (.bor cs) []=z7r cs:=rfl;rw [hmo] at h1 h2;generalize hX':(⟨fun _=>False,fun b=>z08 X γ st.o b∧∀ m∈z1a vs,¬ RowOf γ st.o m b⟩:Zone)=X' at h1 h2
 have hXo:∀ b,¬ X'.own b:=fun b hb=>by rw [← hX'] at hb; exact hb
 have hz:=(z3t st.o (match zod cs with | true=>z1a vs | false=>[]) (FrzLe.refl _) h).1
 have hPf:∀ b,z1l γ' (z7r cs) b→w.heap.size≤b∧b < w'.heap.size:=fun b hb=>by
  obtain ⟨q1,q2⟩:=h1.lt b hb;exact ⟨q2.resolve_right (hXo b),q1⟩
 have hp:=zje hz hXo h1 (fun b=>X.far b∨z1l γ' (z7r cs) b) (fun b hb=>hb.imp_right (hPf b))
 obtain ⟨br1,br2,br3⟩:=y0y h3 h1;have hO1:∀ b,z08 ⟨X.own,fun b=>X.far b∨z1l γ' (z7r cs) b⟩ γ (st.ups (z0g st.o (match zod cs with | true=>z1a vs | false=>[]))).o b→(zod cs=true→z08 X' γ' (z7r cs) b):=by
  intro b hb hal;rw [hal] at hb;have key:z08 X γ (st.ups (z0g st.o (z1a vs))).o b∨z1l γ' (z7r cs) b:=by
   rcases hb with hb | hb | hb
   ·exact .inl (.inl hb)
   ·exact .inl (.inr hb)
   ·exact .inr hb
  rcases key with hb | hb
  ·have:=zbk h _ hb
   exact .inr (by rw [← hX']; exact this)
  ·exact .inl hb
 obtain ⟨γd,F',r1,r2,r3,r4,r5,r6⟩:=zhu (B':=B.base) (g:=fun j=>γ' (900001+j)) (1000*(d+1)) cs 0 (by omega) hp hO1 (fun j e ag ks l hj=>by
   rw [v0n];obtain ⟨q1,q2⟩:=br1 γ j e ag ks l hj;exact ⟨q1,fun b hb=>⟨.inr (q2 b hb),.inl (v1m h.keep.size (hPf b (q2 b hb)).1)⟩⟩)
  (fun i j e ag ks l e' ag' ks' l' b hij q1 q2 q3 q4=>by
   rw [v0n] at q3 q4;exact br2 i j e ag ks l e' ag' ks' l' b hij q1 q2 q3 q4)
 simp only [v1j,v0n] at r1 r3 r4 r5 r6;have hob0:z03 (z7r cs) 900000=some (.box (z6v 900001 cs)):=by rw [zhq h3,z01,v1c rfl]
 have hor:=h1.ob _ _ hob0;simp only [ObRel] at hor;obtain ⟨b0,c,T,hg,hh,hr⟩:=hor;have hb0P:z1l γ' (z7r cs) b0:=⟨900000,_,hob0,⟨_,hg,rfl⟩⟩;have hadd:=r1.add d hd9 (.box (z6v (1000*(d+1)) cs)) (γ' 900000) (fun b hb=>by
   obtain ⟨ad,q1,q2⟩:=hb;rw [hg] at q1;simp only [Value.pointer.injEq,v00] at q1;subst q1;simp only at q2;subst q2;exact ⟨r3 b0 (.inr hb0P) (fun j e ag ks l hj hb=>br3 j e ag ks l b0 hj hb ⟨_,hob0,_,hg,rfl⟩),.inl (v1m h.keep.size (hPf b0 hb0P).1)⟩)
  (fun O' hO'=>by
   simp only [ObRel];refine ⟨b0,c,T,hg,hh,zvl h3 h1 hr (fun j e ag ks l hj=>?_) (fun hal b _ hb=>hO1 b (r4 b (hO' b hb)) hal)⟩
   obtain ⟨q1,q2⟩:=r5 j e ag ks l hj;refine ⟨by rw [v0x (by omega)]; exact q1,?_⟩
   rw [z0a,v0x (by omega),q2]
   rfl)
 have hfin:=hadd.shrink (F:=X.far) (fun b hb=>by
   have hlt:=h.fl b hb;refine ⟨r3 b (.inl hb) (fun j e ag ks l hj hbj=>?_),fun hbb=>?_⟩
   ·have:=hPf b ((br1 γ j e ag ks l hj).2 b hbj)
    omega
   ·obtain ⟨ad,q1,q2⟩:=hbb
    rw [hg] at q1;simp only [Value.pointer.injEq,v00] at q1;subst q1;simp only at q2;subst q2
    have:=hPf b0 hb0P
    omega)
 refine ⟨x,he,_,by rw [z2s,z2s]; exact hfin,?_⟩
 rw [z2s,z2s];simp only [St.ups,VRel,z0a,v1l];simp only [y48,z8p,VRel,hob0] at h2;exact h2
theorem ydb (h:Rel B nt w0 X γ st a w) (hg:GX B w0 X) {f:FuncId} {sp:yff} (hS:Snd P B f sp) {vs:List V} {xs:List Value} (hv:VRels γ st.o w (z08 X γ st.o) vs xs) (hl:zd4 vs=[]) {tks:List (List Kd)} {e:Nat} {ag:Bool} {ks:List Kd} {l:List IV} {out:List (List V)}
  (hsp:sp (z5r st.o [] tks vs)=some (.vec e ag ks l,out)) (d:Nat) (hd9:d≠900000) :
  Does P f xs w fun e' w'=>∃ x,e' = .returned x∧∃ γ',Rel B nt w0 X γ' (st.ups (z0g st.o (z1a vs)++[.new d (.row true e ag ks l)])) a w' ∧
   VRel γ' (st.ups (z0g st.o (z1a vs)++[.new d (.row true e ag ks l)])).o w' (z08 X γ' (st.ups (z0g st.o (z1a vs)++[.new d (.row true e ag ks l)])).o) (.row d 0 l.length) x:=by
 refine (zns h hg hS hv hl hsp).mono ?_
 rintro e' w' ⟨x,he,γ',h1,h2,h3,rfl⟩
 have hmo:z3h (.vec e ag ks l) []=[(900000,some (.row true e ag ks l))]:=rfl;rw [hmo] at h1 h2;generalize hX':(⟨fun _=>False,fun b=>z08 X γ st.o b∧∀ m∈z1a vs,¬ RowOf γ st.o m b⟩:Zone)=X' at h1 h2
 have hXo:∀ b,¬ X'.own b:=fun b hb=>by rw [← hX'] at hb; exact hb
 have hz:=(z3t st.o (z1a vs) (FrzLe.refl _) h).1;have hPf:∀ b,z1l γ' [(900000,some (.row true e ag ks l))] b→w.heap.size≤b∧b < w'.heap.size:=fun b hb=>by
  obtain ⟨q1,q2⟩:=h1.lt b hb;exact ⟨q2.resolve_right (hXo b),q1⟩
 have hp:=zje hz hXo h1 (fun b=>X.far b∨z1l γ' [(900000,some (.row true e ag ks l))] b) (fun b hb=>hb.imp_right (hPf b))
 have hO1:∀ b,z08 ⟨X.own,fun b=>X.far b∨z1l γ' [(900000,some (.row true e ag ks l))] b⟩ γ (st.ups (z0g st.o (z1a vs))).o b→z08 X' γ' [(900000,some (.row true e ag ks l))] b:=by
  intro b hb;have key:z08 X γ (st.ups (z0g st.o (z1a vs))).o b∨z1l γ' [(900000,some (.row true e ag ks l))] b:=by
   rcases hb with hb | hb | hb
   ·exact .inl (.inl hb)
   ·exact .inl (.inr hb)
   ·exact .inr hb
  rcases key with hb | hb
  ·have:=zbk h _ hb
   exact .inr (by rw [← hX']; exact this)
  ·exact .inl hb
 have hob0:z03 [(900000,some (.row true e ag ks l))] 900000=some (.row true e ag ks l):=by rw [z01,v1c rfl]
 have hor:=h1.ob _ _ hob0;simp only [ObRel] at hor;obtain ⟨k1,k2,ys,k3,k4⟩:=hor;have hg0:∀ b,z0h (γ' 900000) (.row true e ag ks l) b→z1l γ' [(900000,some (.row true e ag ks l))] b:=fun b hb=>⟨900000,_,hob0,hb⟩
 have hadd:=hp.add d hd9 (.row true e ag ks l) (γ' 900000) (fun b hb=>⟨.inr (hg0 b hb),.inl (v1m h.keep.size (hPf b (hg0 b hb)).1)⟩)
  (fun O' hO'=>by
   simp only [ObRel];exact ⟨k1,k2,ys,k3,fun i y hy=>Kd.RelAll.mono (Keep.refl _ w') (fun b _ hb=>hO1 b (hO' b hb)) (fun _ _ hu=>hu) (k4 i y hy)⟩)
 have hfin:=hadd.shrink (F:=X.far) (fun b hb=>by
   have hlt:=h.fl b hb;refine ⟨.inl hb,fun hbb=>?_⟩
   have:=hPf b (hg0 b hbb)
   omega)
 refine ⟨x,he,_,by rw [z2s]; exact hfin,?_⟩
 rw [z2s];simp only [St.ups,VRel,z0a,v1l];simp only [y48,VRel,hob0] at h2;exact h2
end
open Go Go.RowKit
mutual
theorem VRel.leaves {γ γ':Nat→Value} {o o':Store} {w:World} {O:Nat→Prop} (h1:∀ n lo hi x,VRel γ o w O (.row n lo hi) x→VRel γ' o' w O (.row n lo hi) x) (h2:∀ n i c x,VRel γ o w O (.ptr n i c) x→VRel γ' o' w O (.ptr n i c) x)
  (h3:∀ n c cap sz len x,VRel γ o w O (.bview n c cap sz len) x→VRel γ' o' w O (.bview n c cap sz len) x):∀ {v:V} {x:Value},VRel γ o w O v x→VRel γ' o' w O v x
 | .any,_,_=>by simp only [VRel]
 | .int _ _,_,h=>by simpa only [VRel] using h
 | .bool _,_,h=>by simpa only [VRel] using h
 | .str _,_,h=>by simpa only [VRel] using h
 | .list _ _ _,_,h=>by simpa only [VRel] using h
 | .zs,_,h=>by simpa only [VRel] using h
 | .row _ _ _,_,h=>h1 _ _ _ _ h
 | .ptr _ _ _,_,h=>h2 _ _ _ _ h
 | .iptr _ _ _,_,h=>by simpa only [VRel] using h
 | .bview _ _ _ _ _,_,h=>h3 _ _ _ _ _ _ h
 | .agg l,x,h=>by
  simp only [VRel] at h ⊢
  obtain ⟨cs,hx,hr⟩:=h;exact ⟨cs,hx,VRels.leaves h1 h2 h3 hr⟩
 | .tup l,x,h=>by
  simp only [VRel] at h ⊢
  obtain ⟨cs,hx,hr⟩:=h;exact ⟨cs,hx,VRels.leaves h1 h2 h3 hr⟩
 | .err _,_,h=>by simpa only [VRel] using h
 | .nilp,_,h=>by simpa only [VRel] using h
 | .clo _ l,x,h=>by
  simp only [VRel] at h ⊢
  obtain ⟨cs,hx,hr⟩:=h;exact ⟨cs,hx,VRels.leaves h1 h2 h3 hr⟩
 | .bor _,_,h=>by simp only [VRel] at h
 | .vec _ _ _ _,_,h=>by simp only [VRel] at h
 | .bld _,_,h=>by simp only [VRel] at h
theorem VRels.leaves {γ γ':Nat→Value} {o o':Store} {w:World} {O:Nat→Prop} (h1:∀ n lo hi x,VRel γ o w O (.row n lo hi) x→VRel γ' o' w O (.row n lo hi) x) (h2:∀ n i c x,VRel γ o w O (.ptr n i c) x→VRel γ' o' w O (.ptr n i c) x)
  (h3:∀ n c cap sz len x,VRel γ o w O (.bview n c cap sz len) x→VRel γ' o' w O (.bview n c cap sz len) x):∀ {l:List V} {xs:List Value},VRels γ o w O l xs→VRels γ' o' w O l xs
 | [],[],_=>by simp only [VRels]
 | [],_ :: _,h=>by simp only [VRels] at h
 | _ :: _,[],h=>by simp only [VRels] at h
 | v :: vs,x :: xs,h=>by
  simp only [VRels] at h ⊢
  exact ⟨VRel.leaves h1 h2 h3 h.1,VRels.leaves h1 h2 h3 h.2⟩
end
section
variable {B:BT} {nt:Nat} {w0:World} {X:Zone} {γ:Nat→Value} {st st':St} {a:Act} {w:World} {P:Program} {E:Env}
theorem y1z:∀ (hs:List Nat) {st:St} {X:Zone},Rel B nt w0 X γ st a w →
  Rel B nt w0 ⟨X.own,fun b=>X.far b∨∃ m∈hs,z0t γ st.o m b⟩ γ (st.ups (zby hs)) a w∧(st.ups (zby hs)).t=st.t∧∀ m,z03 (st.ups (zby hs)).o m=if m∈hs then none else z03 st.o m
 | [],st,X,h=>⟨h.shrink (fun b hb=>by simpa using hb),rfl,fun m=>by simp [zby,St.ups]⟩
 | n :: r,st,X,h=>by
  obtain ⟨h1,h2,h3⟩:=y1z r (h.kill n);have hob:∀ m,z03 (st.up (.kill n)).o m=if n=m then none else z03 st.o m:=fun m=>by simp only [St.up,z01]
  refine ⟨?_,h2,fun m=>?_⟩
  ·simp only [zby,St.ups]
   refine h1.shrink (fun b hb=>?_)
   rcases hb with hb | ⟨m,hm,hb⟩
   ·exact .inl (.inl hb)
   ·by_cases e:n=m
    ·subst e
     exact .inl (.inr hb)
    ·rcases v13.1 hm with h4 | h4
     ·exact absurd h4.symm e
     ·obtain ⟨ob,p1,p2⟩:=hb
      exact .inr ⟨m,h4,ob,by rw [hob,v0x e]; exact p1,p2⟩
  ·simp only [zby,St.ups]
   rw [h3,hob]
   by_cases h4:m∈r
   ·simp [h4]
   ·by_cases h5:n=m
    ·subst h5
     simp
    ·have:¬ m=n:=fun e=>h5 e.symm
     simp [h4,h5,this]
theorem zwd (h:Rel B nt w0 X γ st a w) (ns:List Nat) {n:Nat} {ob:Ob} (ho:z03 st.o n=some ob) (hb:∀ e ag ks l,ob≠.row true e ag ks l):z03 (st.ups (z0g st.o ns)).o n=some ob:=by
 obtain ⟨_,h2,_⟩:=z3t st.o ns (FrzLe.refl _) h;rcases h2 n with h3 | ⟨e,ag,ks,l,h3,_⟩
 ·rw [h3,ho]
 ·rw [ho,v00] at h3
  exact absurd h3 (hb _ _ _ _)
theorem Rel.boundB (h:Rel B nt w0 X γ st a w) {n:Nat} {s:ByteArray} (ho:z03 st.o n=some (.bld s)) {w1:World} {own1 F:Nat→Prop} (hk:Keep own1 w1 w)
  (hF:∀ b,F b→z08 X γ st.o b∧¬ z0t γ st.o n b) (hown:∀ b,z0t γ st.o n b→w1.heap.size≤b∨own1 b) :
  Rel B.base 0 w1 ⟨own1,F⟩ (fun _=>γ n) ⟨[],z7r [.bld s]⟩ zwe w∧∀ b,z1l (fun _=>γ n) (z7r [.bld s]) b→z0t γ st.o n b:=by
 have hP:∀ b,z1l (fun _=>γ n) (z7r [.bld s]) b→z0t γ st.o n b:=by
  rintro b ⟨m,ob,hm,hb⟩
  simp only [z7r] at hm;rw [z01] at hm
  split at hm
  ·simp only [v00] at hm
   subst hm;exact ⟨_,ho,hb⟩
  ·simp only [z03,lkd] at hm; cases hm
 refine ⟨⟨rfl,rfl,fun i=>by simp only [St.get,lkd,VRel],fun m ob hm=>?_,fun b hb=>?_,?_,hk,?_,?_,fun p hp=>by cases hp⟩,hP⟩
 ·simp only [z7r] at hm
  rw [z01] at hm
  split at hm
  ·simp only [v00] at hm
   subst hm
   have:=h.ob n _ ho
   simpa only [ObRel,BT.base] using this
  ·simp only [z03,lkd] at hm; cases hm
 ·obtain ⟨ob,h1,h2⟩:=hP b hb
  exact ⟨(h.lt b ⟨n,ob,h1,h2⟩).1,hown b (hP b hb)⟩
 ·intro m1 m2 ob1 ob2 b hne h1 h2 _ _
  simp only [z7r] at h1 h2;rw [z01] at h1 h2
  split at h1
  ·split at h2
   ·omega
   ·simp only [z03,lkd] at h2; cases h2
  ·simp only [z03,lkd] at h1; cases h1
 ·intro b hb hf
  exact (hF b hf).2 (hP b hb)
 ·intro b hb
  rcases (hF b hb).1 with h1 | h1
  ·exact (h.lt b h1).1
  ·exact h.fl b h1
theorem ydv (h:Rel B nt w0 X γ st a w) (hg:GX B w0 X) {f:FuncId} {sp:yff} (hS:Snd P B f sp) {vs:List V} {xs:List Value} (hv:VRels γ st.o w (z08 X γ st.o) vs xs) {n:Nat} (hl:zd4 vs=[n]) {s s':ByteArray} (ho:z03 st.o n=some (.bld s))
  {tks:List (List Kd)} {v:V} (hsp:sp (z5r st.o [.bld s] tks vs)=some (v,[[.bld s']])) (hib:yeo (z6a (z5r st.o [.bld s] tks vs))=true) :
  Does P f xs w fun e w'=>∃ x,e = .returned x∧∃ γ',Rel B nt w0 X γ' (st.ups (z0g st.o (match z3r v with | true=>z1a vs | false=>[])++[.set n (.bld s')])) a w' ∧
   VRel γ' (st.ups (z0g st.o (match z3r v with | true=>z1a vs | false=>[])++[.set n (.bld s')])).o w' (z08 X γ' (st.ups (z0g st.o (match z3r v with | true=>z1a vs | false=>[])++[.set n (.bld s')])).o) v x:=by
 have hL:∀ b,z0t γ st.o n b→w.heap.size≤b∨z0t γ st.o n b:=fun b hb=>.inr hb
 obtain ⟨hR,hP⟩:=h.boundB ho (w1:=w) (own1:=z0t γ st.o n) (F:=fun b=>z08 X γ st.o b∧¬ z0t γ st.o n b∧∀ m∈z1a vs,¬ RowOf γ st.o m b) (Keep.refl _ w) (fun b hb=>⟨hb.1,hb.2.1⟩) hL
 generalize hX':(⟨z0t γ st.o n,fun b=>z08 X γ st.o b∧¬ z0t γ st.o n b∧∀ m∈z1a vs,¬ RowOf γ st.o m b⟩:Zone)=X' at hR
 have hXf:∀ b,X'.far b↔(z08 X γ st.o b∧¬ z0t γ st.o n b∧∀ m∈z1a vs,¬ RowOf γ st.o m b):=fun b=>by rw [← hX']
 have hXo:∀ b,X'.own b↔z0t γ st.o n b:=fun b=>by rw [← hX']
 have hnP:∀ b,z0t γ st.o n b→z1l γ st.o b:=fun b ⟨ob,h1,h2⟩=>⟨n,ob,h1,h2⟩
 rcases (zek (o:=st.o) (bs:=[.bld s]) (l:=vs) (tks:=tks)).1 with hb | hb
 ·rw [hb] at hib
  cases hib
 ·have hm:zbz (z5r st.o [.bld s] tks vs)=z7r [.bld s]:=by simp only [zbz,hb]
  have hcall:=hS w X' (fun _=>γ n) (z5r st.o [.bld s] tks vs) xs v [[.bld s']] hsp (h.glob hg) (fun b hb=>h.high hg (hnP b ((hXo b).1 hb))) (by rw [hm]; exact hR) (by
   rw [hm];refine zk4 h (fun b _ hb=>?_) [.bld s] hv (fun m hm b hr hb=>?_) (fun m hm=>?_)
   ·rcases hb with hb | hb
    ·exact .inl (hnP b (hP b hb))
    ·exact ((hXf b).1 hb).1
   ·rcases hb with hb | hb
    ·obtain ⟨e,ag,ks,l,h5,h6⟩:=hr
     obtain ⟨ob,h7,h8⟩:=hP b hb;have hne:n≠m:=by
      rintro rfl
      rw [ho] at h5;cases h5
     exact h.dis n m ob _ b hne h7 h5 h8 h6
    ·exact ((hXf b).1 hb).2.2 m hm hr
   ·rw [hl] at hm
    simp only [v28] at hm;subst hm;exact ⟨rfl,.inr ⟨s,s,ho,by simp [z7r,z01]⟩⟩)
  refine hcall.mono ?_
  rintro e w' ⟨x,he,γ',h1,h2,h3⟩
  simp only [zaa,hb] at h3;obtain ⟨hf,_,had⟩:=h3;have hmo:z3h v [[.bld s']]=z7r [.bld s']:=by cases v <;> rfl
  rw [hmo] at h1 h2;rw [zba hf] at h2;refine ⟨x,he,?_⟩;generalize hF0:(match z3r v with | true=>z1a vs | false=>[])=F0
  have hz:=(z3t st.o F0 (FrzLe.refl _) h).1;have hon:=zwd h F0 ho (fun _ _ _ _=>by simp)
  have hob0:z03 (z7r [.bld s']) 900000=some (.bld s'):=by simp [z7r,z01]
  have hor:=h1.ob _ _ hob0;have hor0:=h.ob _ _ ho;simp only [ObRel] at hor hor0;obtain ⟨b1,v1,p1,hg1,_⟩:=hor;obtain ⟨b0,v0,p0,hg0,_⟩:=hor0;have hbb:b1=b0:=by
   rw [hg1,hg0] at had
   simpa [zks] using had
  subst hbb;have hbl:∀ b,z0t γ (st.ups (z0g st.o F0)).o n b↔z0t γ st.o n b:=fun b=>by simp only [z0t,hon,ho]
  have hOP:∀ b,z0h (γ' 900000) (.bld s') b→z1l γ' (z7r [.bld s']) b:=fun b hb=>⟨_,_,hob0,hb⟩
  have hsz:=h1.keep.size;have hlend:=hz.lend (n:=n) (ob':=.bld s') (g':=γ' 900000) hon had h1.keep (K:=X'.own) (fun b _ hb=>.inl ((hbl b).2 ((hXo b).1 hb)))
   (fun b hb=>by
    obtain ⟨q1,q2⟩:=h1.lt b (hOP b hb);exact ⟨q1,q2.elim .inr (fun hb=>.inl ((hbl b).2 ((hXo b).1 hb)))⟩)
   (fun O v x hvx=>VRel.leaves (fun m lo hi x hx=>by
     simp only [VRel] at hx ⊢
     rw [z01]
     by_cases e:n=m
     ·subst e; simp only [v1l]
     ·simp only [v0x e]; exact hx) (fun m i c x hx=>by
     simp only [VRel] at hx ⊢
     rw [z01]
     by_cases e:n=m
     ·subst e
      simp only [v1l];rw [hon] at hx;obtain ⟨rfl,b,v',hg,hxx⟩:=hx;rw [hg0] at hg;simp only [Value.tuple.injEq,Array.mk.injEq,v2x,Value.pointer.injEq,v00,Addr.mk.injEq,v18] at hg;refine ⟨rfl,b1,v1,hg1,?_⟩;rw [hxx,hg.1]
     ·simp only [v0x e]; exact hx) (fun m c cap sz len x hx=>by
     simp only [VRel] at hx ⊢
     rw [z01]
     by_cases e:n=m
     ·subst e; simp only [v1l]
     ·simp only [v0x e]; exact hx) hvx)
   (by
    have hor:=h1.ob _ _ hob0
    simpa only [ObRel,BT.base] using hor)
  have hfin:=hlend.shrink (F:=X.far) (fun b hb=>⟨.inl hb,fun hbb=>by
   obtain ⟨q1,q2⟩:=h1.lt b (hOP b hbb)
   have:=h.fl b hb
   rcases q2 with q2 | q2
   ·omega
   ·exact h.nr b (hnP b ((hXo b).1 q2)) hb⟩)
  refine ⟨_,by rw [z2s]; exact hfin,?_⟩
  rw [z2s];refine zrc hf (fun hhl b hlt hb=>?_) h2
  rw [hhl] at hF0;simp only at hF0;rcases hb with ⟨m,ob,hm,hbm⟩ | hb
  ·simp only [St.ups,St.up] at hm
   rw [z01] at hm
   by_cases e:n=m
   ·subst e
    simp only [v1l,v00] at hm hbm;subst hm;exact .inl (hOP b hbm)
   ·simp only [v0x e] at hm hbm
    obtain ⟨q1,q2⟩:=zbk h F0 (b:=b) (.inl ⟨m,ob,hm,hbm⟩);refine .inr ((hXf b).2 ⟨q1,fun hbn=>?_,by rw [hF0]; exact q2⟩)
    obtain ⟨ob2,q3,q4⟩:=(hbl b).2 hbn;exact hz.dis n m ob2 ob b e q3 hm q4 hbm
  ·refine .inr ((hXf b).2 ⟨.inr hb,fun hbn=>h.nr b (hnP b hbn) hb,fun m _ ⟨e,ag,ks,l,q1,q2⟩=>h.nr b ⟨m,_,q1,q2⟩ hb⟩)
theorem zhm {o:Store} {all:List Nat} {n:Nat}:∀ {cs:List V},n∈z5i o all cs→∃ lo hi own e ag ks l,.row n lo hi∈cs∧z03 o n=some (.row own e ag ks l)∧(own&&(Nat.beq lo 0&&Nat.beq (occ n all) 1))=false
 | [],h=>by simp [z5i] at h
 | v :: r,h=>by
  have up:n∈z5i o all r→∃ lo hi own e ag ks l,.row n lo hi∈v :: r∧z03 o n=some (.row own e ag ks l)∧(own&&(Nat.beq lo 0&&Nat.beq (occ n all) 1))=false:=fun h'=>by
   obtain ⟨lo,hi,own,e,ag,ks,l,h1,h2,h3⟩:=zhm h';exact ⟨lo,hi,own,e,ag,ks,l,v0b _ h1,h2,h3⟩
  cases v
  case row m lo hi=>
   simp only [z5i] at h
   split at h
   ·rename_i own e ag ks l hob
    split at h
    ·exact up h
    ·rename_i hb
     rcases v13.1 h with h1 | h1
     ·subst h1
      exact ⟨lo,hi,own,e,ag,ks,l,v09 ..,hob,hb⟩
     ·exact up h1
   ·exact up h
  all_goals exact up h
theorem yez (h:Rel B nt w0 X γ st a w) (hg:GX B w0 X) {f:FuncId} {sp:yff} (hS:Snd P B f sp) {vs:List V} {xs:List Value} (hv:VRels γ st.o w (z08 X γ st.o) vs xs) {n:Nat} (hl:zd4 vs=[n]) {cs:List V} (ho:z03 st.o n=some (.box cs)) {all:List Nat} (hall:z1c cs++z1a vs=all)
  {tks:List (List Kd)} {v:V} {out:List V} (hsp:sp (z5r st.o (cs.map (z3q st.o all)) tks vs)=some (v,[out])) (hib:yeo (z6a (z5r st.o (cs.map (z3q st.o all)) tks vs))=true) {nm:Nat} (hlen:out.length=cs.length) (hnm:n < nm∨nm+out.length≤n) (hn9:nm+out.length≤900000) :
  Does P f xs w fun e w'=>∃ x,e = .returned x∧∃ γ',Rel B nt w0 X γ' (st.ups (z0g st.o (z5i st.o all cs++(match z3r v||zod out with | true=>z1a vs | false=>[])) ++
     (zby (z3x st.o all cs)++(.set n (.box (y8t cs)) :: (zef nm out++[.set n (.box (z6v nm out))]))))) a w' ∧
   VRel γ' (st.ups (z0g st.o (z5i st.o all cs++(match z3r v||zod out with | true=>z1a vs | false=>[])) ++
     (zby (z3x st.o all cs)++(.set n (.box (y8t cs)) :: (zef nm out++[.set n (.box (z6v nm out))]))))).o w' (z08 X γ' (st.ups (z0g st.o (z5i st.o all cs++(match z3r v||zod out with | true=>z1a vs | false=>[])) ++
     (zby (z3x st.o all cs)++(.set n (.box (y8t cs)) :: (zef nm out++[.set n (.box (z6v nm out))]))))).o) v x:=by
 let L:Nat→Prop:=fun b=>z0t γ st.o n b∨∃ m∈z3x st.o all cs,z0t γ st.o m b
 have hLP:∀ b,L b→z1l γ st.o b:=by
  rintro b (⟨ob,h1,h2⟩ | ⟨m,_,ob,h1,h2⟩)
  ·exact ⟨n,ob,h1,h2⟩
  ·exact ⟨m,ob,h1,h2⟩
 have hbound:=h.bound ho (z1a vs) (w1:=w) (own1:=L) (F:=fun b=>z08 X γ st.o b∧¬ L b∧(∀ m∈z5i st.o all cs,¬ z0t γ st.o m b)∧∀ m∈z1a vs,¬ RowOf γ st.o m b) (Keep.refl _ w)
  (fun b hb=>⟨hb.1,fun h1=>hb.2.1 (.inl h1),fun m hm h1=>hb.2.1 (.inr ⟨m,by rw [← hall]; exact hm,h1⟩),by rw [hall]; exact hb.2.2.1⟩) (fun b hb=>.inr (by rw [hall] at hb; exact hb))
 rw [hall] at hbound;obtain ⟨γb,hR,hg0,hP⟩:=hbound;generalize hX':(⟨L,fun b=>z08 X γ st.o b∧¬ L b∧(∀ m∈z5i st.o all cs,¬ z0t γ st.o m b)∧∀ m∈z1a vs,¬ RowOf γ st.o m b⟩:Zone)=X' at hR
 have hXf:∀ b,X'.far b↔(z08 X γ st.o b∧¬ L b∧(∀ m∈z5i st.o all cs,¬ z0t γ st.o m b)∧∀ m∈z1a vs,¬ RowOf γ st.o m b):=fun b=>by rw [← hX']
 have hXo:∀ b,X'.own b↔L b:=fun b=>by rw [← hX']
 have hb:z6a (z5r st.o (cs.map (z3q st.o all)) tks vs)=some (cs.map (z3q st.o all)):=by
  rcases (zek (o:=st.o) (bs:=cs.map (z3q st.o all)) (l:=vs) (tks:=tks)).1 with hb | hb
  ·rw [hb] at hib; cases hib
  ·exact hb
 have hm:zbz (z5r st.o (cs.map (z3q st.o all)) tks vs)=z7r (cs.map (z3q st.o all)):=by simp only [zbz,hb]
 have hargs:∀ m∈z1a vs,∀ b,RowOf γ st.o m b→¬ L b:=by
  intro m hm b hr hLb;obtain ⟨e,ag,ks,l,h5,h6⟩:=hr;rcases hLb with ⟨ob,h7,h8⟩ | ⟨m2,h9,ob,h7,h8⟩
  ·have hne:n≠m:=by
    rintro rfl
    rw [ho] at h5;cases h5
   exact h.dis n m ob _ b hne h7 h5 h8 h6
  ·by_cases hne:m2=m
   ·subst hne
    obtain ⟨hi2,e2,ag2,ks2,l2,k1,k2,k3⟩:=z7m.1 h9;rw [← hall,z90] at k3;have q1:=zh3 (zae k1);have q2:=zh3 hm;omega
   ·exact h.dis m2 m ob _ b hne h7 h5 h8 h6
 have hok0:∀ v,okC (z3q st.o all v)=true:=by
  intro v;rcases zcm st.o all v with ⟨_,_,_,_,_,_,_,_,_,h1⟩ | ⟨h1,_⟩
  ·rw [h1]; rfl
  ·cases hcc:z3q st.o all v <;> first | rfl | (rw [hcc] at h1; cases h1)
 have hcall:=hS w X' γb (z5r st.o (cs.map (z3q st.o all)) tks vs) xs v [out] hsp (h.glob hg) (fun b hb=>h.high hg (hLP b ((hXo b).1 hb))) (by rw [hm]; exact hR) (by
  rw [hm];refine zk4 h (fun b _ hb=>?_) _ hv (fun m hm b hr hb=>?_) (fun m hm=>?_)
  ·rcases hb with hb | hb
   ·exact .inl (hLP b (hP b hb))
   ·exact ((hXf b).1 hb).1
  ·rcases hb with hb | hb
   ·exact hargs m hm b hr (hP b hb)
   ·exact ((hXf b).1 hb).2.2.2 m hm hr
  ·rw [hl] at hm
   simp only [v28] at hm;subst hm;exact ⟨hg0,.inl ⟨cs,_,ho,by rw [zhq (v30.2 (fun v hv=>by obtain ⟨u,_,rfl⟩:=List.mem_map.1 hv; exact hok0 u)),z01,v1c rfl]⟩⟩)
 refine hcall.mono ?_
 rintro e w' ⟨x,he,γ',h1,h2,h3⟩
 simp only [zaa,hb] at h3;obtain ⟨hf,hsk,had⟩:=h3;have hok:out.all okC=true:=by
  unfold zyv at hsk
  split at hsk
  ·rename_i s s' hcs
   cases cs with
   | nil=>simp at hcs
   | cons u r=>
    simp only [v0e,v2x] at hcs
    have:=hok0 u
    rw [hcs.1] at this;cases this
  ·cases hsk
  ·exact hsk
 have hmo:z3h v [out]=z7r out:=by cases v <;> rfl
 rw [hmo] at h1 h2;rw [zba hf] at h2;refine ⟨x,he,?_⟩;generalize hF0:z5i st.o all cs++(match z3r v||zod out with | true=>z1a vs | false=>[])=F0
 have hz:=(z3t st.o F0 (FrzLe.refl _) h).1;have hzf:=(z3t st.o F0 (FrzLe.refl _) h).2.1;have hon:=zwd h F0 ho (fun _ _ _ _=>by simp)
 obtain ⟨hk,hkt,hko⟩:=y1z (z3x st.o all cs) hz;have hnh:n ∉ z3x st.o all cs:=by
  intro hn;obtain ⟨_,_,_,_,_,_,q,_⟩:=z7m.1 hn;rw [ho] at q;cases q
 have hon2:z03 ((st.ups (z0g st.o F0)).ups (zby (z3x st.o all cs))).o n=some (.box cs):=by rw [hko,v0x hnh]; exact hon
 have hor0:=h.ob _ _ ho;simp only [ObRel] at hor0;obtain ⟨b0,c0,T0,hgn,hh0,hr0⟩:=hor0;have hob0:z03 (z7r out) 900000=some (.box (z6v 900001 out)):=by rw [zhq hok,z01,v1c rfl]
 have hor:=h1.ob _ _ hob0;simp only [ObRel] at hor;obtain ⟨b1,c,T,hg,hh,hr⟩:=hor;have hbb:b1=b0:=by
  rw [hg,hg0,hgn] at had
  simpa [zks] using had
 subst hbb;have hg':γ' 900000=γ n:=by rw [hg,hgn]
 have hsz:=h1.keep.size;have hbn:∀ b,z0t γ st.o n b↔b=b1:=by
  intro b;constructor
  ·rintro ⟨ob,h5,h6⟩
   rw [ho] at h5;cases h5;obtain ⟨ad,h7,h8⟩:=h6;rw [hgn] at h7;cases h7;exact h8.symm
  ·rintro rfl
   exact ⟨_,ho,_,hgn,rfl⟩
 have hbn2:∀ b,z0t γ ((st.ups (z0g st.o F0)).ups (zby (z3x st.o all cs))).o n b↔b=b1:=by
  intro b;rw [← hbn b];simp only [z0t,hon2,ho]
 have hbx:∀ l b,z0h (γ n) (.box l) b↔b=b1:=by
  intro l b;rw [← hbn b];simp only [z0t,ho,v00,exists_eq_left',z0h]
 have hhb:∀ m∈z3x st.o all cs,∀ b,z0t γ st.o m b→z0t γ (st.ups (z0g st.o F0)).o m b:=by
  rintro m hm b ⟨ob,h5,h6⟩
  obtain ⟨hi2,e2,ag2,ks2,l2,k1,k2,k3⟩:=z7m.1 hm;refine ⟨ob,?_,h6⟩;rw [(z3t st.o F0 (FrzLe.refl _) h).2.2.2.2 m ?_]
  ·exact h5
  ·intro hmF
   rw [← hF0] at hmF;rcases v0k.1 hmF with h7 | h7
   ·obtain ⟨lo3,hi3,own3,e3,ag3,ks3,l3,q1,q2,q3⟩:=zhm h7
    obtain ⟨i1,hi1⟩:=List.mem_iff_getElem?.1 k1;obtain ⟨i2,hi2⟩:=List.mem_iff_getElem?.1 q1;rw [← hall,z90] at k3;rcases Nat.lt_trichotomy i1 i2 with hlt | hlt | hlt
    ·have:=zj7 hlt hi1 hi2
     omega
    ·subst hlt
     rw [hi1] at hi2;simp only [v00,V.row.injEq,v43] at hi2;obtain ⟨rfl,rfl⟩:=hi2;rw [k2] at q2;simp only [v00,Ob.row.injEq] at q2;obtain ⟨rfl,_⟩:=q2;rw [← hall,z90,k3] at q3;simp at q3
    ·have:=zj7 hlt hi2 hi1
     omega
   ·have q1:m∈z1a vs:=by
     split at h7
     ·exact h7
     ·cases h7
    rw [← hall,z90] at k3
    have:=zh3 (zae k1)
    have:=zh3 q1
    omega
 have hlend:=hk.lend (n:=n) (ob':=.box (y8t cs)) (g':=γ n) hon2 rfl h1.keep (K:=X'.own)
  (fun b hlt hb=>by
   have hLb:=(hXo b).1 hb;rcases hLb with h5 | ⟨m,h6,h7⟩
   ·exact .inl ((hbn2 b).2 ((hbn b).1 h5))
   ·refine .inr ⟨.inr ⟨m,h6,hhb m h6 b h7⟩,?_⟩
    exact (h.lt b (hLP b (.inr ⟨m,h6,h7⟩))).2)
  (fun b hb=>by
   have:=(hbx _ b).1 hb
   subst this;exact ⟨v17 (h.lt _ ⟨n,_,ho,(hbx _ _).2 rfl⟩).1 hsz,.inl ((hbn2 _).2 rfl)⟩)
  (fun O v x hvx=>by
   refine VRel.cmp ?_ hvx;intro m ob1 hm;refine ⟨by by_cases e:n=m <;> simp [e],?_⟩
   rw [z01] at hm
   by_cases e:n=m
   ·subst e
    simp only [v1l,v00] at hm;subst hm;exact ⟨_,hon2,by simp [Ob.fits,zmn]⟩
   ·rw [v0x e] at hm
    exact ⟨ob1,hm,ob1.fits_refl⟩)
  (by
   simp only [ObRel];refine ⟨b1,c,T,hgn,hh,?_⟩;have hcl:=hr.length;rw [z95,hlen] at hcl;refine VRels.of_get (by rw [zmn,v15,hcl]) (fun j v x hv hx=>?_)
   rw [zmn,v19] at hv;cases hcj:cs[j]? with
   | none=>rw [hcj] at hv; cases hv
   | some u=>
    rw [hcj] at hv;simp only [v2d,v00] at hv;subst hv;simp only [VRel])
 obtain ⟨br1,br2,br3⟩:=y0y hok h1;have hPf:∀ b,z1l γ' (z7r out) b→(w.heap.size≤b∧b < w'.heap.size)∨L b:=fun b hb=>by
  obtain ⟨q1,q2⟩:=h1.lt b hb;rcases q2 with q2 | q2
  ·exact .inl ⟨q2,q1⟩
  ·exact .inr ((hXo b).1 q2)
 have hb1P:z1l γ' (z7r out) b1:=⟨900000,_,hob0,⟨_,hg,rfl⟩⟩;have hLb1:L b1:=.inl ((hbn b1).2 rfl);have hsh:=hlend.shrink (F:=fun b=>(X.far b∨z1l γ' (z7r out) b)∧b≠b1) (fun b hb=>by
  refine ⟨?_,fun hbb=>hb.2 ((hbx _ b).1 hbb)⟩
  rcases hb.1 with h5 | h5
  ·exact .inl (.inl h5)
  ·rcases hPf b h5 with h6 | h6 | ⟨m,h6,h7⟩
   ·exact .inr h6
   ·exact absurd ((hbn b).1 h6) hb.2
   ·exact .inl (.inr ⟨m,h6,hhb m h6 b h7⟩))
 have hfarX:∀ b,X.far b→X'.far b:=fun b hb=>(hXf b).2 ⟨.inr hb,fun hL=>h.nr b (hLP b hL) hb,fun m _ ⟨ob,q1,q2⟩=>h.nr b ⟨m,ob,q1,q2⟩ hb,fun m _ ⟨e,ag,ks,l,q1,q2⟩=>h.nr b ⟨m,_,q1,q2⟩ hb⟩
 have hO1:∀ b,z08 ⟨X.own,fun b=>(X.far b∨z1l γ' (z7r out) b)∧b≠b1⟩ (fun m=>if n=m then γ n else γ m) (((st.ups (z0g st.o F0)).ups (zby (z3x st.o all cs))).up (.set n (.box (y8t cs)))).o b →
   ((z3r v||zod out)=true→z08 X' γ' (z7r out) b):=by
  intro b hb hflag;rcases hb with ⟨m,ob,hm,hbm⟩ | ⟨hb | hb,_⟩
  ·simp only [St.up] at hm
   rw [z01] at hm
   by_cases e:n=m
   ·subst e
    simp only [v1l,v00] at hm hbm;subst hm
    have:=(hbx _ b).1 hbm
    subst this;exact .inl hb1P
   ·simp only [v0x e] at hm hbm
    rw [hko] at hm
    split at hm
    ·cases hm
    rename_i hmh;obtain ⟨q1,q2⟩:=zbk h F0 (b:=b) (.inl ⟨m,ob,hm,hbm⟩);refine .inr ((hXf b).2 ⟨q1,fun hL=>?_,fun m' hm' hbl=>?_,fun m' hm'=>?_⟩)
    ·rcases hL with h5 | ⟨m2,h5,h6⟩
     ·obtain ⟨ob2,q3,q4⟩:z0t γ (st.ups (z0g st.o F0)).o n b:=⟨_,hon,(hbx _ b).2 ((hbn b).1 h5)⟩
      exact hz.dis n m ob2 ob b e q3 hm q4 hbm
     ·obtain ⟨ob2,q3,q4⟩:=hhb m2 h5 b h6
      exact hz.dis m2 m ob2 ob b (fun e=>hmh (e ▸ h5)) q3 hm q4 hbm
    ·obtain ⟨lo3,hi3,own3,e3,ag3,ks3,l3,p1,p2,p3⟩:=zhm hm'
     obtain ⟨ob2,q3,q4⟩:=hbl;rw [p2,v00] at q3;subst q3;cases own3 with
     | false=>exact q4.elim
     | true=>exact q2 m' (by rw [← hF0]; exact v2u _ hm') ⟨e3,ag3,ks3,l3,p2,q4⟩
    ·refine q2 m' ?_
     rw [← hF0,hflag];exact v2q _ hm'
  ·exact .inr (hfarX b hb)
  ·exact .inl hb
 have hrows:=zhu (B':=B.base) (O1:=fun b=>zod out=true→z08 X' γ' (z7r out) b) (g:=fun j=>γ' (900001+j)) nm out 0 (by omega) hsh (fun b hb hal=>hO1 b hb (by simp [hal])) (fun j e ag ks l hj=>by
   rw [v0n];obtain ⟨q1,q2⟩:=br1 (fun m=>if n=m then γ n else γ m) j e ag ks l hj
   refine ⟨q1,fun b hb=>⟨⟨.inr (q2 b hb),?_⟩,?_⟩⟩
   ·rintro rfl
    exact br3 j e ag ks l _ hj hb ⟨_,hob0,_,hg,rfl⟩
   ·rcases hPf b (q2 b hb) with h5 | h5
    ·exact .inl (v1m h.keep.size h5.1)
    ·exact (h.lt b (hLP b h5)).2)
  (fun i j e ag ks l e' ag' ks' l' b hij q1 q2 q3 q4=>by
   rw [v0n] at q3 q4;exact br2 i j e ag ks l e' ag' ks' l' b hij q1 q2 q3 q4)
 obtain ⟨γ4,F4,r1,r2,r3,r4,r5,r6⟩:=hrows;simp only [v1j,v0n] at r1 r3 r4 r5 r6;obtain ⟨hγn,hobn,_⟩:=r6 n hnm;have hon4:=hobn cs (by simp only [St.up,z01,v1l])
 simp only [v1l] at hγn;have hset:=r1.set (n:=n) (ob':=.box (z6v nm out)) hon4 (by simp only [Ob.fits,zmn,v15,z95,hlen]) (Keep.refl _ w') (fun b hb=>hb) (fun hown hcmp=>by
  simp only [ObRel];refine ⟨b1,c,T,by rw [hγn,hgn],hh,zvl hok h1 hr (fun j e ag ks l hj=>?_) (fun hal b _ hb=>hO1 b (r4 b (hown b hb)) (by simp [hal]))⟩
  obtain ⟨q1,q2⟩:=r5 j e ag ks l hj;refine ⟨q1,?_⟩;have hjl:j < out.length:=by
   rcases v1u j out.length with h' | h'
   ·exact h'
   ·rw [v0p h'] at hj; cases hj
  rw [z01,v0x (by omega)]
  exact q2)
 have hfin:=hset.shrink (F:=X.far) (fun b hb=>by
  refine r3 b ⟨.inl hb,fun e=>h.nr b (hLP b (e ▸ hLb1)) hb⟩ (fun j e ag ks l hj hbj=>?_)
  rcases hPf b ((br1 γ j e ag ks l hj).2 b hbj) with h5 | h5
  ·have:=h.fl b hb
   omega
  ·exact h.nr b (hLP b h5) hb)
 have hst:(st.ups (z0g st.o F0++(zby (z3x st.o all cs)++(.set n (.box (y8t cs)) :: (zef nm out++[.set n (.box (z6v nm out))]))))) =
   (((((st.ups (z0g st.o F0)).ups (zby (z3x st.o all cs))).up (.set n (.box (y8t cs)))).ups (zef nm out)).up (.set n (.box (z6v nm out)))):=by
  rw [z2s,z2s];simp only [St.ups];rw [z2s]
  rfl
 rw [hst];refine ⟨_,hfin,zrc hf (fun hhl b _ hb=>?_) h2⟩
 rcases hb with ⟨m,ob,hm,hbm⟩ | hb
 ·simp only [St.up] at hm
  rw [z01] at hm;refine hO1 b (r4 b (.inl ?_)) (by simp [hhl])
  by_cases e:n=m
  ·subst e
   simp only [v1l,v00] at hm;subst hm;exact ⟨n,_,hon4,hbm⟩
  ·rw [v0x e] at hm
   exact ⟨m,ob,hm,hbm⟩
 ·exact .inr (hfarX b hb)
end
open Go Go.RowKit
section
variable {B:BT} {nt:Nat} {w0:World} {X:Zone} {γ:Nat→Value} {st st':St} {a:Act} {w:World} {P:Program} {E:Env}
theorem y33 (h:Rel B nt w0 X γ st a w) (hg:GX B w0 X) {f:FuncId} {sp:z0n} (hS:Snd P B f (fun vs=>(sp vs).get)) {vs:List V} {xs:List Value} (hv:VRels γ st.o w (z08 X γ st.o) vs xs) {d:Nat} (hd9:d≠900000) {tks:List (List Kd)} {v:V} {us:List Upd} (he:(y06 st.o d tks sp vs).get=some (v,us)) :
  Does P f xs w fun e w'=>∃ x,e = .returned x∧∃ γ',Rel B nt w0 X γ' (st.ups us) a w'∧VRel γ' (st.ups us).o w' (z08 X γ' (st.ups us).o) v x:=by
 unfold y06 at he
 split at he
 ·rename_i hl
  obtain ⟨r,out,hsp,he⟩:=R.toT_get he;unfold zlg at he
  split at he
  ·split at he
   ·rename_i cs
    split at he
    ·rename_i hc
     simp only [T.get,v00,v04] at he;obtain ⟨rfl,rfl⟩:=he;exact yb3 h hg hS hv hl hsp d hd9 (v03 hc)
    ·simp [T.get] at he
   ·simp only [T.get,v00,v04] at he
    obtain ⟨rfl,rfl⟩:=he;exact ydb h hg hS hv hl hsp d hd9
   ·rename_i hnb hnv
    simp only [T.get,v00,v04] at he;obtain ⟨rfl,rfl⟩:=he;exact y8l h hg hS hv hl hsp hnb hnv
  ·simp [T.get] at he
 ·rename_i n hl
  split at he
  ·rename_i cs ho
   split at he
   ·rename_i hib
    obtain ⟨r,outs,hsp,he⟩:=R.toT_get he;unfold y2a at he
    split at he
    ·split at he
     ·rename_i hc
      simp only [T.get,v00,v04] at he;obtain ⟨rfl,rfl⟩:=he;simp only [v02,v2y] at hc;refine yez h hg hS hv hl ho rfl hsp hib (z1j.1 hc.1) (hc.2.1.imp (fun h=>v03 h) (fun h=>v03 h)) (v03 hc.2.2)
     ·simp [T.get] at he
    ·simp [T.get] at he
   ·simp [T.get] at he
  ·rename_i s ho
   split at he
   ·rename_i hib
    obtain ⟨r,outs,hsp,he⟩:=R.toT_get he;unfold y1p at he
    split at he
    ·simp only [T.get,v00,v04] at he
     obtain ⟨rfl,rfl⟩:=he;exact ydv h hg hS hv hl ho hsp hib
    ·simp [T.get] at he
   ·simp [T.get] at he
  ·simp [T.get] at he
 ·simp [T.get] at he
def zcu (l:List IV):List Value:=l.map fun x=>Value.int .i64 x.toInt
def yhw:V→Value
 | .int k n=>.int k n
 | _=>undef
def zo3 (w:World) (v:Value):List V→List Value→Prop
 | [],[]=>True
 | [.clo f [.bor cs]],[y]=>∃ b c T,y = .func (.func f) #[] #[.pointer (some ⟨b,0,none⟩)]∧w.heap[b]?=some (.cells c T (0,0))∧c.toList=cs.map yhw∧v.ownBlock≠some b
 | _,_=>False
def zwu (P:Program) (f:FuncId) (p:Ip):Prop:=
 ∀ (w:World) (v:Value) (l l':List IV) (rs:List V) (ys:List Value),w.ownsRow 0 p.e 1 v l.length (zcu l)→(∀ x∈l,IntKind.i64.min≤x.toInt∧x.toInt≤IntKind.i64.max)→l.length≤strMax →
  zo3 w v rs ys→p.g rs l=some l' →
  Does P f (v :: ys) w fun e w'=>∃ x,e = .returned x∧w.grownBy w' v.ownBlock∧(∀ x∈l',IntKind.i64.min≤x.toInt∧x.toInt≤IntKind.i64.max) ∧
   (p.ret=true→w'.ownsRow 0 p.e 1 x l'.length (zcu l')∧∀ b,x.ownBlock=some b→v.ownBlock=some b∨w.heap.size≤b) ∧
   (p.ret=false→w'.ownsRow 0 p.e 1 v l'.length (zcu l'))
theorem y8u {w:World} {O:Nat→Prop} {l:List IV} {xs:List Value} (hl:xs.length=l.length*1)
  (h:∀ i y,l[i]?=some y→Kd.RelAll w O [.int .i64] (z2q false y) 0 (fun j u=>xs[i*1+j]?=some u)):xs=zcu l∧∀ x∈l,IntKind.i64.min≤x.toInt∧x.toInt≤IntKind.i64.max:=by
 have one:∀ (i:Nat) (y:IV),l[i]?=some y→xs[i]?=some (.int .i64 y.toInt)∧IntKind.i64.min≤y.toInt∧y.toInt≤IntKind.i64.max:=fun i y hy=>by
  have:=h i y hy
  simp only [Kd.RelAll,z2q,v18,v3u,v1j] at this;obtain ⟨u,hu,hk⟩:=this;simp only [Kd.Rel] at hk;rw [hu,hk.1];exact ⟨rfl,hk.2⟩
 constructor
 ·apply List.ext_getElem?
  intro i;unfold zcu;rw [v19];cases hy:l[i]? with
  | none=>
   rw [List.getElem?_eq_none_iff] at hy;rw [v0p (by omega)]
   rfl
  | some y=>rw [(one i y hy).1]; rfl
 ·intro x hx
  obtain ⟨i,hi⟩:=v2t hx;exact (one i x hi).2
theorem zno {w:World} {O:Nat→Prop} {l:List IV} (h:∀ x∈l,IntKind.i64.min≤x.toInt∧x.toInt≤IntKind.i64.max) (i:Nat) (y:IV) (hy:l[i]?=some y) :
  Kd.RelAll w O [.int .i64] (z2q false y) 0 (fun j u=>(zcu l)[i*1+j]?=some u):=by
 simp only [Kd.RelAll,z2q,v18,v3u,v1j];refine ⟨.int .i64 y.toInt,?_,?_⟩
 ·unfold zcu
  rw [v19,hy]
  rfl
 ·simp only [Kd.Rel]
  exact ⟨trivial,h y (v1o hy)⟩
theorem zro {γ:Nat→Value} {o:Store} {w:World} {O:Nat→Prop}:∀ {cs:List V} {xs:List Value},ydw cs=true→VRels γ o w O cs xs→xs=cs.map yhw
 | [],[],_,_=>rfl
 | [],_ :: _,_,h=>by simp only [VRels] at h
 | v :: cs,[],h,h'=>by simp only [VRels] at h'
 | v :: cs,x :: xs,h,h'=>by
  simp only [VRels] at h';unfold ydw at h
  split at h
  ·rename_i h0; cases h0
  ·rename_i n r h0
   injection h0 with h1 h2
   subst h1 h2;have h3:=h'.1;simp only [VRel] at h3;rw [v0e,← zro h h'.2,h3.1]
   rfl
  ·cases h
theorem y7e (h:Rel B nt w0 X γ st a w) {v:Value} (hv:∀ m cs b,z03 st.o m=some (.box cs)→z0h (γ m) (.box cs) b→v.ownBlock≠some b) {rest rs:List V} {ys:List Value} (hr:VRels γ st.o w (z08 X γ st.o) rest ys) (he:zrh st.o rest=some rs):zo3 w v rs ys:=by
 unfold zrh at he
 split at he
 ·simp only [v00] at he
  subst he;cases ys with
  | nil=>trivial
  | cons y ys=>simp only [VRels] at hr
 ·rename_i f m i c
  split at he
  ·rename_i cs hic ho
   split at he
   ·rename_i hi
    simp only [v00] at he;subst he;simp only [v02] at hic;obtain rfl:=z1j.1 hic.1;obtain rfl:=z1j.1 hic.2
    match ys,hr with
    | [y],hr=>
     simp only [VRels,v18] at hr;simp only [VRel] at hr;obtain ⟨cs',rfl,hc⟩:=hr;obtain ⟨b,c,T,hg,hh,hcs⟩:=h.ob m _ ho;have hc1:∃ x0,cs' = #[x0]∧x0 = .pointer (some ⟨b,0,none⟩):=by
      obtain ⟨l⟩:=cs'
      match l,hc with
      | [x0],hc=>
       simp only [VRels,v18,VRel,ho] at hc;obtain ⟨_,b',hb',rfl⟩:=hc;rw [hg] at hb';simp only [Value.pointer.injEq,v00,Addr.mk.injEq,v18] at hb';subst hb';exact ⟨_,rfl,rfl⟩
      | [],hc=>simp only [VRels] at hc
      | _ :: _ :: _,hc=>simp only [VRels,and_false] at hc
     obtain ⟨x0,rfl,rfl⟩:=hc1;exact ⟨b,c,T,rfl,hh,zro hi hcs,hv m cs b ho ⟨_,hg,rfl⟩⟩
    | [],hr=>simp only [VRels] at hr
    | _ :: _ :: _,hr=>simp only [VRels,and_false] at hr
   ·cases he
  ·cases he
 ·cases he
theorem yhz (h:Rel B nt w0 X γ st a w) {f:FuncId} {p:Ip} (hI:zwu P f p) {vs:List V} {xs:List Value} (hv:VRels γ st.o w (z08 X γ st.o) vs xs) {d:Option Nat} (hd9:∀ d',d=some d'→d'≠900000) {v:V} {us:List Upd} (he:(ipT st.o d p vs).get=some (v,us)) :
  Does P f xs w fun e w'=>∃ x,e = .returned x∧∃ γ',Rel B nt w0 X γ' (st.ups us) a w'∧VRel γ' (st.ups us).o w' (z08 X γ' (st.ups us).o) v x:=by
 unfold ipT at he
 split at he
 ·rename_i n lo hi rest
  cases xs with
  | nil=>simp only [VRels] at hv
  | cons sv ys=>
  simp only [VRels] at hv;obtain ⟨hs,hrest⟩:=hv
  split at he
  ·rename_i e l rs hob hra
   split at he
   ·rename_i hc
    simp only [v02] at hc;obtain ⟨hc1,hc3,hc4⟩:=hc;have he2:=T.get_when he;clear he;obtain ⟨hc2,he⟩:=he2;obtain rfl:=z1j.1 hc1;obtain rfl:=z1j.1 hc2;obtain rfl:=z1j.1 hc3;have he6:p.e < 1000000:=v03 hc4;simp only [VRel,hob] at hs;obtain ⟨hlen,q,len,cap,q',hg,hvv,_,h2,h3,hm,_,h5⟩:=hs;rw [h5 rfl,v2n,v2n] at hvv;have hor:=h.ob n _ hob;simp only [ObRel] at hor;obtain ⟨hkp,hstr,xs,hx,hrx⟩:=hor;have hx':=hx.plain he6;have hlen':len=l.length:=by
     rcases hx'.2 with ⟨h6,h7⟩ | ⟨g,cap',cur,h6,_⟩
     ·rw [hg] at h6; simp only [Value.slice.injEq] at h6; omega
     ·rw [hg] at h6; simp only [Value.slice.injEq] at h6; exact h6.2.1
    subst hlen';have hsv:sv=γ n:=by rw [hvv,hg]
    subst hsv;obtain ⟨rfl,hrng⟩:=y8u hx.1 hrx
    split at he
    ·rename_i l' hgl
     have hrok:=y7e h (v:=γ n) (fun m cs b hm hb hne=>by
      have hnm:n≠m:=fun e=>by subst e; rw [hob] at hm; cases hm
      exact h.dis n m _ _ b hnm hob hm (by simp only [z0h]; exact hne) hb) hrest hra
     have hdoes:=hI w (γ n) l l' rs ys hx' hrng hstr hrok hgl
     split at he
     ·rename_i d' hret
      obtain ⟨hk,he⟩:=T.get_when he;simp only [T.get,v00,v04] at he;obtain ⟨rfl,rfl⟩:=he;have hk:=v03 hk;refine hdoes.mono ?_
      rintro e w' ⟨x,rfl,hgrow,hrng',hr1,_⟩
      obtain ⟨hown,hblk⟩:=hr1 hret;refine ⟨x,rfl,fun m=>if d'=m then x else γ m,?_,?_⟩
      ·refine Rel.new h [n] d' (hd9 d' rfl) (.row true p.e false [.int .i64] l') x (Keep.grown hgrow (fun g hg'=>⟨n,by simp,_,hob,hg'⟩)) (fun b hb=>⟨(hown.lt b hb).2,?_⟩) (fun O' hO hcmp=>?_)
       ·rcases hblk b hb with h1 | h1
        ·exact .inr ⟨n,by simp,_,hob,h1⟩
        ·exact .inl h1
       ·simp only [ObRel]
        exact ⟨by simp,by omega,zcu l',OwnRow.of hown he6,fun i y hy=>zno hrng' i y hy⟩
      ·simp only [St.ups,St.up,VRel,z01,v1l]
       refine ⟨v08 _,?_⟩;rcases hown.2 with ⟨h6,h7⟩ | ⟨g,cap',cur,h6,_,_,h8,h9,_⟩
       ·refine ⟨none,0,0,none,h6,?_,v0y _,by omega,v08 _,by simp [maxLen],.inr rfl,fun _=>rfl⟩
        rw [h6,h7]
       ·refine ⟨some ⟨g,0,none⟩,l'.length,cap',some ⟨g,0,none⟩,h6,by rw [h6]; simp,v0y _,v08 _,h8,h9,.inl ?_,fun _=>rfl⟩
        simp [Addr.add]
     ·rename_i hret
      obtain ⟨hk,he⟩:=T.get_when he;simp only [T.get,v00,v04] at he;obtain ⟨rfl,rfl⟩:=he;have hk:=z1j.1 hk;refine hdoes.mono ?_
      rintro e w' ⟨x,rfl,hgrow,hrng',_,hr2⟩
      have hown:=hr2 hret;refine ⟨x,rfl,γ,?_,by simp only [VRel]⟩
      refine Rel.set h (ob':=.row true p.e false [.int .i64] l') hob ⟨rfl,hk.symm⟩ (Keep.grown hgrow (fun g hg'=>hg')) (fun b hb=>hb) (fun hO hcmp=>?_)
      simp only [ObRel];exact ⟨by simp,by omega,zcu l',OwnRow.of hown he6,fun i y hy=>zno hrng' i y hy⟩
     ·simp [T.get] at he
    ·simp [T.get] at he
   ·simp [T.get] at he
  ·simp [T.get] at he
 ·rename_i rest
  cases xs with
  | nil=>simp only [VRels] at hv
  | cons sv ys=>
  simp only [VRels] at hv;obtain ⟨hs,hrest⟩:=hv;simp only [VRel] at hs;subst hs
  split at he
  ·rename_i rs hra
   split at he
   ·rename_i hgl
    have hrok:=y7e h (v:=.slice none 0 0) (fun m cs b _ _ hne=>by simp [Value.ownBlock] at hne) hrest hra
    have hdoes:=hI w (.slice none 0 0) [] [] rs ys (World.ownsRow_nil w 0 p.e _) (fun x hx=>by cases hx) (by simp) hrok hgl
    split at he
    ·rename_i d' hret
     obtain ⟨hk,he⟩:=T.get_when he;simp only [T.get,v00,v04] at he;obtain ⟨rfl,rfl⟩:=he;have he6:p.e < 1000000:=v03 hk;refine hdoes.mono ?_
     rintro e w' ⟨x,rfl,hgrow,hrng',hr1,_⟩
     obtain ⟨hown,hblk⟩:=hr1 hret;refine ⟨x,rfl,fun m=>if d'=m then x else γ m,?_,?_⟩
     ·refine Rel.new h [] d' (hd9 d' rfl) (.row true p.e false [.int .i64] []) x (Keep.grown hgrow (fun g hg'=>by simp [Value.ownBlock] at hg')) (fun b hb=>⟨(hown.lt b hb).2,?_⟩) (fun O' hO hcmp=>?_)
      ·rcases hblk b hb with h1 | h1
       ·simp [Value.ownBlock] at h1
       ·exact .inl h1
      ·simp only [ObRel]
       exact ⟨by simp,by simp,zcu [],OwnRow.of hown he6,fun i y hy=>zno hrng' i y hy⟩
     ·simp only [St.ups,St.up,VRel,z01,v1l]
      refine ⟨v08 _,?_⟩;rcases hown.2 with ⟨h6,h7⟩ | ⟨g,cap',cur,h6,_,_,h8,h9,_⟩
      ·refine ⟨none,0,0,none,h6,?_,v0y _,by omega,v08 _,by simp [maxLen],.inr rfl,fun _=>rfl⟩
       rw [h6]
      ·refine ⟨some ⟨g,0,none⟩,0,cap',some ⟨g,0,none⟩,h6,by rw [h6]; simp,v0y _,v08 _,v0y _,h9,.inl ?_,fun _=>rfl⟩
       simp [Addr.add]
    ·rename_i hret
     simp only [T.get,v00,v04] at he;obtain ⟨rfl,rfl⟩:=he;refine hdoes.mono ?_
     rintro e w' ⟨x,rfl,hgrow,_,_,_⟩
     refine ⟨x,rfl,γ,Rel.world h (Keep.grown hgrow (fun g hg'=>by simp [Value.ownBlock] at hg')),by simp only [VRel]⟩
    ·simp [T.get] at he
   ·simp [T.get] at he
  ·simp [T.get] at he
 ·simp [T.get] at he
def SpOK (P:Program) (B:BT) (E:Env) (w0:World) (X:Zone):Prop:=GX B w0 X∧(∀ f sp,lk E.sp f=some sp→Snd P B f (fun vs=>(sp vs).get))∧∀ f p,lk E.ip f=some p→zwu P f p
theorem SpOK.get (h:SpOK P B E w0 X) (f:FuncId):Snd P B f (fun vs=>(lkd (fun _=>R.no) E.sp f vs).get):=by
 rw [zvd];cases hf:lk E.sp f with
 | none=>
  intro w X γ vs xs r out hsp;simp [R.get] at hsp
 | some sp=>exact h.2.1 f sp hf
theorem zpn (h:Rel B nt w0 X γ st a w):∀ l:List Operand,VRels γ st.o w (z08 X γ st.o) (zvb (opd st) l) (l.map a.eval)
 | []=>by simp only [zvb,v10,VRels]
 | x :: r=>by
  simp only [zvb,v0e,VRels];exact ⟨z1o h x,zpn h r⟩
theorem y5g (o:Oper) {f:FuncId} {xs:List Value} {v:V} {us:List Upd} (hr:(execOp a.eval o).run P w=(callFunc f xs.toArray).run P w)
  (hd:Does P f xs w fun e w'=>∃ x,e = .returned x∧∃ γ',Rel B nt w0 X γ' (st.ups us) a w'∧VRel γ' (st.ups us).o w' (z08 X γ' (st.ups us).o) v x):OpWp P B nt w0 X a w o st v us:=by
 intro K Q hK;unfold Oper.wp;rw [hr];unfold Does at hd
 split at hd
 ·rename_i g args w' hc
  rw [hc,Oper.upon_enter];refine hd.mono ?_
  rintro e w'' ⟨x,rfl,γ',h1,h2⟩
  exact hK γ' x w'' h1 h2
 ·rename_i x w' hc
  rw [hc,Oper.upon_value];obtain ⟨x',he,γ',h1,h2⟩:=hd;cases he;exact hK γ' x w' h1 h2
 ·rename_i row args w' hc
  rw [hc,Oper.upon_row];refine Rows.mono hd ?_
  rintro x w'' ⟨x',he,γ',h1,h2⟩
  cases he;exact hK γ' x w'' h1 h2
 ·exact hd.elim
theorem yh0 (hT:TiOK P B E) (hSp:SpOK P B E w0 X) (h:Rel B nt w0 X γ st a w) (o:Oper) (hd9:∀ d,o.dst=some d→d≠900000) {c:Call} (ho:o.op = .call c) {v:V} {us:List Upd}
  (he:(z4r E st.o (opd st) o.dst o.op).get=some (v,us)):OpWp P B nt w0 X a w o st v us:=by
 obtain ⟨callee,args,ats⟩:=c;cases callee with
 | builtin b=>exact y8v hT h o hd9 ho he
 | invoke recv name=>
  rw [ho] at he;simp only [z4r,zkz] at he;simp [T.get] at he
 | value x=>
  rw [ho] at he;obtain ⟨args⟩:=args;have clo:∀ (x:Operand),o.op = .call ⟨.value x,⟨args⟩,ats⟩→∀ d,o.dst=some d→(match opd st x with
    | .clo f caps=>match zrk caps with
     | true=>y06 st.o d (y7q E ats.toList) (lkd (fun _=>R.no) E.sp f) (zvb (opd st) args++caps)
     | false=>.no
    | _=>.no).get=some (v,us)→OpWp P B nt w0 X a w o st v us:=by
   intro x ho d hd he
   split at he
   ·rename_i f caps hclo
    split at he
    case h_2=>simp [T.get] at he
    have hx:=z1o h x;rw [hclo] at hx;simp only [VRel] at hx;obtain ⟨cs,hx1,hx2⟩:=hx;have hrel:=y33 h hSp.1 (hSp.get f) ((zpn h args).append hx2) (hd9 d hd) he;refine y5g o (xs:=args.map a.eval++cs.toList) ?_ hrel;obtain ⟨dst,op,type,pos,after,guard⟩:=o;simp only at ho;subst ho
    have:execOp a.eval { dst,op:=.call { callee:=.value x,args:=⟨args⟩,argTypes:=ats },type,pos,after,guard }=(do let d ← Deferred.ofValue (a.eval x) ((⟨args⟩:Array Operand).map a.eval); invoke d.target d.args):=rfl
    rw [this,hx1];have hla:(args.map a.eval).toArray++cs=(args.map a.eval++cs.toList).toArray:=by
     apply Array.ext';simp
    simp [Deferred.ofValue,invoke,hla]
   ·simp [T.get] at he
  cases x with
  | func f=>
   simp only [z4r,zkz,ygp] at he;have hrun:∀ {f:Nat},o.op = .call ⟨.value (.func f),⟨args⟩,ats⟩→(execOp a.eval o).run P w=(callFunc f (args.map a.eval).toArray).run P w:=fun {f} ho=>by
    obtain ⟨dst,op,type,pos,after,guard⟩:=o;simp only at ho;subst ho
    have:execOp a.eval { dst,op:=.call { callee:=.value (.func f),args:=⟨args⟩,argTypes:=ats },type,pos,after,guard }=callFunc f (#[]++(⟨args⟩:Array Operand).map a.eval++#[]):=rfl
    rw [this];simp
   split at he
   ·rename_i p hp
    exact y5g o (xs:=args.map a.eval) (hrun ho) (yhz h (hSp.2.2 f p hp) (zpn h args) hd9 he)
   ·split at he
    ·rename_i d hd
     exact y5g o (xs:=args.map a.eval) (hrun ho) (y33 h hSp.1 (hSp.get f) (zpn h args) (hd9 d hd) he)
    ·simp [T.get] at he
  | tmp t=>
   simp only [z4r,zkz] at he;cases hd:o.dst with
   | none=>rw [hd] at he; simp [T.get] at he
   | some d=>rw [hd] at he; exact clo _ ho d hd he
  | const t=>
   simp only [z4r,zkz] at he;cases hd:o.dst with
   | none=>rw [hd] at he; simp [T.get] at he
   | some d=>rw [hd] at he; exact clo _ ho d hd he
  | global t=>
   simp only [z4r,zkz] at he;cases hd:o.dst with
   | none=>rw [hd] at he; simp [T.get] at he
   | some d=>rw [hd] at he; exact clo _ ho d hd he
theorem y5t (hT:TiOK P B E) (h:Rel B nt w0 X γ st a w) (o:Oper) (hd9:∀ d,o.dst=some d→d≠900000) {s t:Nat} {x:Operand} (ho:o.op = .convert s t x) {v:V} {u:Upd} {us:List Upd}
  (he:(z4r E st.o (opd st) o.dst o.op).get=some (v,u :: us)):OpWp P B nt w0 X a w o st v (u :: us):=by
 have hx:=z1o h x;rw [ho] at he;simp only [z4r] at he
 split at he
 ·split at he
  ·simp [T.get] at he
  ·simp [T.get] at he
 ·rename_i b hop
  rw [hop] at hx;simp only [VRel] at hx
  split at he
  ·simp [T.get] at he
  ·rename_i e k1 kss hd hks hkss
   split at he
   ·rename_i d hdst hde hkse
    simp only [T.get,v00,v04,v2x] at he;obtain ⟨rfl,rfl,rfl⟩:=he;have hu1:=zbd hT hd;obtain ⟨d',hd1',_,_⟩:=(hT.kinds (t:=s) (by rw [hkss]; simp)).und
    obtain ⟨d'',hd1'',_,hd2''⟩:=(hT.kinds (t:=e) (by rw [hkse]; simp)).und
    rw [hde] at hd2'';obtain rfl:=hd2''.1 _ hkse;have hrun:(execOp a.eval o).run P w = .ok (.value (.slice (some ⟨w.heap.size,0,none⟩) b.size (grownCap w b.size 0 e))) (Lib.bytesWorld w e b):=by
     unfold execOp;simp only [ho,hx.1,Sem.run_bind,Lib.run_convert_string_bytes w s t e b hd1' hu1 hd1'',Result.andThen_ok,Sem.run_pure]
    have hsm:=zk9;have hcg:=grownCap_ge w b.size 0 e;have hcm:grownCap w b.size 0 e≤maxLen:=grownCap_le_maxLen w b.size 0 e (v1m hx.2 hsm);have hcs:(Lib.bytesCells w e b).size=grownCap w b.size 0 e:=by
     have:b.data.size=b.size:=rfl
     simp only [Lib.bytesCells,Array.size_append,Array.size_map,v38,this];omega
    have hkp:Keep (fun _=>False) w (Lib.bytesWorld w e b):=by
     refine ⟨?_,?_,?_,by rw [Lib.bytesWorld_size]; omega,fun j hj _=>Lib.bytesWorld_at_old w e b j hj⟩
     ·simp [Lib.bytesWorld,World.freeze]; rfl
     ·simp [Lib.bytesWorld,World.freeze]
     ·simp [Lib.bytesWorld,World.freeze]; rfl
    have hn:=Rel.new h [] d (hd9 d hdst) (.row true (e+1000000) false [.int .u8] (b.data.toList.map fun b=>.int (b.toNat:Int))) (.slice (some ⟨w.heap.size,0,none⟩) b.size (grownCap w b.size 0 e)) (w':=Lib.bytesWorld w e b) (hkp.mono (fun _ _ h=>h.elim))
     (by
      intro b1 hb;simp only [z0h,Value.ownBlock,v00] at hb;subst hb;rw [Lib.bytesWorld_size];exact ⟨by omega,.inl (v08 _)⟩)
     (by
      intro O' hO hcmp;simp only [ObRel];have hln:(b.data.toList.map fun b=>IV.int (b.toNat:Int)).length=b.size:=by simp
      refine ⟨by simp,by rw [hln]; exact hx.2,b.data.toList.map fun b=>.int .u8 b.toNat,?_,fun i y hy=>?_⟩
      ·rw [hln]
       refine ⟨by simp,.inr ⟨w.heap.size,grownCap w b.size 0 e,_,_,_,rfl,Lib.bytesWorld_at_new w e b,hcg,hcm,by rw [hcs]; simp,?_,.inr ⟨by omega,v08 _⟩⟩⟩
       simp only [Lib.bytesCells,v2a,v05,v0o];rw [List.take_append_of_le_length (by simp)]
       rw [v1a (by simp)]
       simp
      ·rw [v19] at hy
       cases hbi:b.data.toList[i]? with
       | none=>rw [hbi] at hy; cases hy
       | some c=>
        rw [hbi] at hy;simp only [v2d,v00] at hy;subst hy;simp only [Kd.RelAll,z2q,Kd.Rel,IV.toInt,v05,v0o];refine ⟨⟨.int .u8 c.toNat,by simp [hbi],rfl,?_,?_⟩,trivial⟩
        ·simp [IntKind.min,IntKind.signed]
        ·have:=c.toNat_lt
         simp [IntKind.max,IntKind.signed,IntKind.bits];omega)
    refine OpWp.value hrun hn ?_;simp only [St.ups,VRel,z0a,v1l];refine ⟨by simp,some ⟨w.heap.size,0,none⟩,b.size,grownCap w b.size 0 e,some ⟨w.heap.size,0,none⟩,rfl,by simp,v0y _,v08 _,hcg,hcm,.inl ?_,fun _=>rfl⟩
    simp [Addr.add]
   ·simp [T.get] at he
  ·simp [T.get] at he
 ·split at he
  ·split at he
   ·simp [T.get] at he
   ·simp [T.get] at he
  ·simp [T.get] at he
def BldOK (P:Program) (B:BT) (E:Env):Prop:=(E.tyd B.T).d = .bld→∃ i,P.info? B.T=some i∧i.zero=some (.agg #[.pointer none,.slice none 0 0])
theorem yf8 (hT:TiOK P B E) (hE:∀ t,t∈E.eqs→EqSnd P t (E.tyd t).ks) (hSp:SpOK P B E w0 X) (hB:BldOK P B E) (h:Rel B nt w0 X γ st a w) (o:Oper) (hd9:∀ d,o.dst=some d→d≠900000) {v:V} {us:List Upd}
  (he:(z4r E st.o (opd st) o.dst o.op).get=some (v,us)):OpWp P B nt w0 X a w o st v us:=by
 cases ho:o.op with
 | move x=>exact ya6 h o (.inl ho) he
 | assign x=>exact ya6 h o (.inr ho) he
 | pick c x y=>exact yfu h o ho he
 | alloc t=>exact ydc hT h o hd9 ho hB he
 | box t x=>exact yin h o hd9 ho he
 | build t parts=>exact ydj hT h o ho he
 | buildSlice t len parts=>exact zzb hT h o hd9 ho he
 | load t x=>exact yg8 hT h o ho he
 | store t p x=>exact ydd hT h o ho he
 | nilCheck x=>exact y5x h o ho he
 | binOp op t x y t'=>exact yi3 hT hE h o ho he
 | unOp op t x=>exact yjg h o ho he
 | convert s t x=>
  cases us with
  | nil=>exact y8m hT h o ho he
  | cons u us=>exact y5t hT h o hd9 ho he
 | makeFunc f first caps=>exact y5v h o ho he
 | makeSlice t n m=>exact y05 hT h o hd9 ho he
 | slice t x lo hi mx=>exact ydh hT h o ho he
 | fieldAddr s x f=>exact y2k hT h o ho he
 | field t x f=>exact ydn hT h o ho he
 | indexAddr t x ix=>exact y2i hT h o ho he
 | index t x ix=>exact ydr hT h o ho he
 | extract x i=>exact y8d h o ho he
 | call c=>exact yh0 hT hSp h o hd9 ho he
 | _=>rw [ho] at he; simp [z4r,T.get] at he
end
open Go Go.RowKit
theorem zla:∀ {l:List V} {n:Nat},n∈z3l l→n∈za5.go l
 | v :: r,n,h=>by
  simp only [z3l,v0k] at h;rcases h with h | h
  ·cases v <;> simp only [z8k] at h <;> first | (cases h; done) | (simp only [za5.go,v0k]; exact .inl h)
  ·cases v <;> simp only [za5.go,v0k] <;> exact .inr (zla h)
def Agree (o o':Store) (l:List Nat):Prop:=∀ n∈l,z03 o' n=z03 o n
theorem Agree.left {o o':Store} {l l':List Nat} (h:Agree o o' (l++l')):Agree o o' l:=fun n hn=>h n (v2u _ hn)
theorem Agree.right {o o':Store} {l l':List Nat} (h:Agree o o' (l++l')):Agree o o' l':=fun n hn=>h n (v2q _ hn)
theorem zoq {o o':Store} {v:V} (h:Agree o o' (z8k v)):zb5 o' v=zb5 o v:=by
 cases v <;> simp only [zb5]
 all_goals rw [h _ (by simp [z8k])]
theorem zr0 {o o':Store} {v:V} (h:Agree o o' (z8k v)):okV o' v=okV o v:=by
 cases v <;> simp only [okV] <;> exact zoq h
theorem zja {o o':Store}:∀ {l:List V},Agree o o' (z3l l)→zxy o' l=zxy o l
 | [],_=>rfl
 | v :: r,h=>by simp only [zxy,zoq h.left,zja (l:=r) h.right]
theorem zlo {o o':Store} {v:V} (h:Agree o o' (z8k v)):zf3 o' v=zf3 o v:=by
 cases v <;> simp only [zf3]
 rw [h _ (by simp [z8k])]
theorem zli {o o':Store} {v:V} (h:Agree o o' (z8k v)):zc7 o' v=zc7 o v:=by
 cases v <;> simp only [zc7]
 rw [h _ (by simp [z8k])]
theorem zzt {o o':Store} {k:Kd} {v:V} (h:Agree o o' (z8k v)):ziv o' k v=ziv o k v:=by
 cases k <;> cases v <;> simp only [ziv]
 rw [h _ (by simp [z8k])]
theorem z81 {o o':Store}:∀ {ks:List Kd} {l:List V},Agree o o' (z3l l)→z41 o' ks l=z41 o ks l
 | [],[],_=>rfl
 | [],_ :: _,_=>rfl
 | _ :: _,[],_=>rfl
 | k :: ks,v :: r,h=>by simp only [z41,zzt h.left,z81 (l:=r) h.right]
theorem z89 {v:V} {n:Nat} (h:n∈z8k v):n∈za5 v:=by
 cases v <;> simp only [z8k] at h <;> first | exact h | cases h
theorem y34 {o o':Store} {ag:Bool} {ks:List Kd} {v:V} (h:Agree o o' (za5 v)):zhi o' ag ks v=zhi o ag ks v:=by
 cases ag with
 | false=>
  simp only [zhi];rw [z81 (o:=o) (o':=o') (fun n hn=>h n (z89 (by simpa [z3l] using hn)))]
 | true=>
  cases v <;> simp only [zhi]
  rw [z81 h]
theorem zoj:∀ (a b:List V),z3l (a++b)=z3l a++z3l b
 | [],b=>rfl
 | v :: r,b=>by simp [z3l,zoj r b]
theorem y2w {l:List V} {v:V} {n:Nat} (hv:v∈l) (hn:n∈z8k v):n∈z3l l:=by
 induction l with
 | nil=>cases hv
 | cons u r ih=>
  simp only [z3l,v0k];rcases v13.1 hv with h | h
  ·subst h; exact .inl hn
  ·exact .inr (ih h)
theorem zrp {l l':List V} (h:∀ v∈l,v∈l') {n:Nat} (hn:n∈z3l l):n∈z3l l':=by
 induction l with
 | nil=>simp [z3l] at hn
 | cons u r ih=>
  simp only [z3l,v0k] at hn;rcases hn with hn | hn
  ·exact y2w (h u (v09 ..)) hn
  ·exact ih (fun v hv=>h v (v0b _ hv)) hn
theorem zei {o o':Store} {ag:Bool} {ks:List Kd} {sz:Nat}:∀ {n:Nat} {cs:List V},Agree o o' (z3l cs)→zkh ag ks o' cs sz n=zkh ag ks o cs sz n
 | 0,cs,_=>rfl
 | n+1,cs,h=>by
  simp only [zkh];rw [zei (n:=n) (cs:=zj9 cs sz) (fun m hm=>h m (by rw [zaq] at hm; exact zrp (fun v hv=>v2l hv) hm))]
  cases ag with
  | true=>
   rw [y34];intro m hm;simp only [za5,zej] at hm;exact h m (zrp (fun v hv=>v2m hv) hm)
  | false=>
   simp only [zhi];rw [z81 (o:=o) (o':=o')];intro m hm;rw [zr2] at hm;cases hc:cs[0]? with
   | none=>rw [hc] at hm; simp [z3l,z8k] at hm
   | some u=>
    rw [hc] at hm;simp only [v1w,z3l,v2k] at hm;exact h m (y2w (v1o hc) hm)
theorem z8t {l:List V} {n:Nat} (h:n∈z1c l):n∈z3l l:=by
 induction l with
 | nil=>simp [z1c] at h
 | cons v r ih=>
  simp only [z3l,v0k];cases v <;> simp only [z1c,v13] at h <;> first | exact .inr (ih h) | skip
  rcases h with h | h
  ·exact .inl (by simp [z8k,h])
  ·exact .inr (ih h)
theorem z9f {o o':Store}:∀ {l:List Nat},Agree o o' l→z0g o' l=z0g o l
 | [],_=>rfl
 | n :: r,h=>by
  simp only [z0g];rw [h n (v09 ..),z9f (l:=r) (fun m hm=>h m (v0b _ hm))]
theorem zjf {o o':Store} {place:Nat→Option (Nat × Nat)}:∀ {cs:List V} {l:List (Nat × V)},(∀ i v,(i,v)∈l→Agree o o' (za5 v))→zic o' place cs l=zic o place cs l
 | cs,[],_=>rfl
 | cs,(i,v) :: r,h=>by
  simp only [zic];have h1:okV o' v=okV o v:=zr0 (fun n hn=>h i v (v09 ..) n (z89 hn))
  rw [h1]
  split
  ·split
   ·exact zjf (fun i v hv=>h i v (v0b _ hv))
   ·rfl
  ·rfl
theorem zc3 {o o':Store} {d e:Nat} {ag:Bool} {ks:List Kd} {bytes:Nat} {s:V} {l:List IV} (h:Agree o o' (z8k s)):zbt o' d e ag ks bytes s l=zbt o d e ag ks bytes s l:=by
 cases s <;> simp only [zbt]
 rw [h _ (by simp [z8k])]
theorem zf0 {o:Store} {n m:Nat} {cs:List V}:∀ {l:List Nat},n∈l→z03 o n=some (.box cs)→m∈z3l cs→m∈zzg o l
 | x :: r,hn,ho,hm=>by
  simp only [zzg];rcases v13.1 hn with h | h
  ·subst h
   rw [ho];exact v2u _ hm
  ·have:=zf0 h ho hm
   split
   ·exact v2q _ this
   ·exact this
theorem zyg {o o':Store} {d et:Nat} {e:TI} {tk:List Kd} {s x:V} (h:Agree o o' (z8k s)):zne o' d et e tk s x=zne o d et e tk s x:=by
 unfold zne;simp only [zc3 h]
theorem zyo {o o':Store} {d et:Nat} {e:TI} {s x:V} (h:Agree o o' (z8k s)) (h':Agree o o' (z8k x++zzg o (z8k x))):zj2 o' d et e s x=zj2 o d et e s x:=by
 have gen:(match zf3 o' x,zc7 o' x with
   | some l,some (ag,ks)=>match zsz (.list e.agg e.ks) (.list ag ks) with
    | true=>zbt o' d et e.agg e.ks e.bytes s l
    | false=>.no
   | _,_=>.no)=(match zf3 o x,zc7 o x with
   | some l,some (ag,ks)=>match zsz (.list e.agg e.ks) (.list ag ks) with
    | true=>zbt o d et e.agg e.ks e.bytes s l
    | false=>.no
   | _,_=>.no):=by
  simp only [zlo h'.left,zli h'.left,zc3 h]
 cases x
 case bview n c cap sz len=>
  simp only [zj2];rw [h' n (by simp [z8k])]
  split
  ·rename_i cs ho
   simp only [zc3 h]
   split
   ·congr 1
    funext m
    rw [zei (o:=o) (o':=o')];intro k hk;rw [zaq] at hk;exact h' k (v2q _ (zf0 (by simp [z8k]) ho (zrp (fun v hv=>v2l hv) hk)))
   ·rfl
  ·rfl
 case zs=>simp only [zj2,zc3 h]
 all_goals exact gen
theorem zi1 {o o':Store} {bs:List V} {tk:Option Kd} {v:V} (h:Agree o o' (z8k v)):z8i o' bs tk v=z8i o bs tk v:=by
 cases v <;> simp only [z8i]
 all_goals rw [h _ (by simp [z8k])]
theorem znp {o o':Store} {bs:List V}:∀ {l:List V} {ks:List Kd},Agree o o' (z3l l)→y3k (fun k v=>zdr (z8i o' bs k v)) ks l=y3k (fun k v=>zdr (z8i o bs k v)) ks l
 | [],ks,_=>by cases ks <;> rfl
 | v :: l,[],h=>by simp only [y3k,zi1 h.left,znp (l:=l) h.right]
 | v :: l,k :: ks,h=>by simp only [y3k,zi1 h.left,znp (l:=l) h.right]
theorem zid {o o':Store} {bs:List V} {tk:Option Kd}:∀ {l:List V},Agree o o' (z3l l)→l.map (z8i o' bs tk)=l.map (z8i o bs tk)
 | [],_=>rfl
 | v :: l,h=>by simp only [v0e,zi1 h.left,zid (l:=l) h.right]
theorem zvq {o o':Store} {bs:List V} {ks:List Kd} {v:V} (h:Agree o o' (za5 v)):y3l o' bs ks v=y3l o bs ks v:=by
 by_cases ha:∃ l,v = .agg l
 ·obtain ⟨l,rfl⟩:=ha
  simp only [y3l,znp (o:=o) (o':=o') h]
 by_cases hc:∃ f l,v = .clo f l
 ·obtain ⟨f,l,rfl⟩:=hc
  simp only [y3l,zid (o:=o) (o':=o') (l:=l) (fun n hn=>h n (zla hn))]
 have h1:∀ o,y3l o bs ks v=z8i o bs ks.head? v:=by
  intro o;cases v <;> first | rfl | exact absurd ⟨_,rfl⟩ ha | exact absurd ⟨_,_,rfl⟩ hc
 rw [h1,h1];exact zi1 (fun n hn=>h n (z89 hn))
theorem zjw {o o':Store} {bs:List V}:∀ {l:List V} {tks:List (List Kd)},Agree o o' (z4c l)→z5r o' bs tks l=z5r o bs tks l
 | [],tks,_=>by cases tks <;> rfl
 | v :: l,[],h=>by simp only [z5r,zvq h.left,zjw (l:=l) h.right]
 | v :: l,t :: ts,h=>by simp only [z5r,zvq h.left,zjw (l:=l) h.right]
theorem y54 {o o':Store} {all:List Nat} {v:V} (h:Agree o o' (z8k v)):z3q o' all v=z3q o all v:=by
 cases v <;> simp only [z3q]
 rw [h _ (by simp [z8k])]
theorem zgi {o o':Store} {all:List Nat}:∀ {l:List V},Agree o o' (z3l l)→l.map (z3q o' all)=l.map (z3q o all)
 | [],_=>rfl
 | v :: l,h=>by simp only [v0e,y54 h.left,zgi (l:=l) h.right]
theorem znv {o o':Store} {all:List Nat}:∀ {l:List V},Agree o o' (z3l l)→z3x o' all l=z3x o all l
 | [],_=>rfl
 | v :: l,h=>by
  have ih:=znv (all:=all) (l:=l) h.right;cases v <;> simp only [z3x,ih]
  rw [h.left _ (by simp [z8k])]
theorem zos {o o':Store} {all:List Nat}:∀ {l:List V},Agree o o' (z3l l)→z5i o' all l=z5i o all l
 | [],_=>rfl
 | v :: l,h=>by
  have ih:=zos (all:=all) (l:=l) h.right;cases v <;> simp only [z5i,ih]
  rw [h.left _ (by simp [z8k])]
theorem y8h {v:V} {n:Nat} (h:n∈zg0 v):n∈za5 v:=by
 cases v <;> simp only [zg0] at h <;> try (cases h; done)
 case row=>simpa [za5,z8k] using h
 case agg=>exact z8t h
 case clo=>exact zla (z8t h)
 case tup l=>
  simp only [za5]
  induction l with
  | nil=>simp [zg0.go] at h
  | cons v r ih=>
   cases v <;> simp only [zg0.go,za5.go,v13,v0k] at h ⊢ <;> first | exact .inr (ih h) | skip
   ·rcases h with h | h
    ·exact .inl (by simp [z8k,h])
    ·exact .inr (ih h)
   ·rcases h with h | h
    ·exact .inl (z8t h)
    ·exact .inr (ih h)
theorem zj8:∀ {l:List V} {n:Nat},n∈z1a l→n∈z4c l
 | v :: l,n,h=>by
  simp only [z1a,z4c,v0k] at h ⊢
  exact h.imp y8h zj8
theorem zgk:∀ {l:List V} {n:Nat},n∈zd4 l→n∈z4c l
 | v :: l,n,h=>by
  simp only [z4c,v0k];cases v <;> simp only [zd4,v13,v0k] at h <;> first | exact .inr (zgk h) | skip
  ·rcases h with h | h
   ·exact .inl (by simp [za5,z8k,h])
   ·exact .inr (zgk h)
  ·rename_i f caps
   rcases h with h | h
   ·refine .inl ?_
    simp only [za5];refine zla ?_;clear zgk
    induction caps with
    | nil=>simp [zd4.lentC] at h
    | cons v r ih=>
     simp only [z3l,v0k];cases v <;> simp only [zd4.lentC,v13] at h <;> first | exact .inr (ih h) | skip
     rcases h with h | h
     ·exact .inl (by simp [z8k,h])
     ·exact .inr (ih h)
   ·exact .inr (zgk h)
theorem zrs {o o':Store} {d:Nat} {tks:List (List Kd)} {sp:z0n} {vs:List V} (h:Agree o o' (z4c vs++zzg o (z4c vs))):y06 o' d tks sp vs=y06 o d tks sp vs:=by
 have hA:∀ bs,z5r o' bs tks vs=z5r o bs tks vs:=fun bs=>zjw h.left
 have hF:∀ l,(∀ n∈l,n∈z4c vs++zzg o (z4c vs))→z0g o' l=z0g o l:=fun l hl=>z9f (fun n hn=>h n (hl n hn))
 have hFv:z0g o' (z1a vs)=z0g o (z1a vs):=hF _ (fun n hn=>v2u _ (zj8 hn))
 have hF0:z0g o' []=z0g o []:=rfl;have hPl:zlg o' d vs=zlg o d vs:=by
  funext v out
  unfold zlg
  split
  ·split
   ·rename_i cs
    cases zod cs <;> simp only [hFv,hF0]
   ·simp only [hFv]
   ·cases z3r v <;> simp only [hFv,hF0]
  ·rfl
 unfold y06;simp only [hA,hPl]
 split
 ·rfl
 ·rename_i n hl
  have hn:n∈z4c vs:=zgk (by rw [hl]; exact v09 ..)
  rw [h n (v2u _ hn)]
  split
  ·rename_i cs ho
   have hcs:Agree o o' (z3l cs):=fun m hm=>h m (v2q _ (zf0 hn ho hm))
   have hsh:∀ m∈z5i o (z1c cs++z1a vs) cs,m∈z4c vs++zzg o (z4c vs):=by
    intro m hm;obtain ⟨lo,hi,_,_,_,_,_,h1,_⟩:=zhm hm;exact v2q _ (zf0 hn ho (z8t (zae h1)))
   have hBx:y2a o' d n cs vs=y2a o d n cs vs:=by
    funext v outs
    unfold y2a;rw [znv hcs,zos hcs]
    split
    ·rename_i out
     have h1:z0g o' (z5i o (z1c cs++z1a vs) cs++z1a vs)=z0g o (z5i o (z1c cs++z1a vs) cs++z1a vs):=hF _ (fun m hm=>(v0k.1 hm).elim (hsh m) (fun hm=>v2u _ (zj8 hm)))
     have h2:z0g o' (z5i o (z1c cs++z1a vs) cs++[])=z0g o (z5i o (z1c cs++z1a vs) cs++[]):=hF _ (fun m hm=>hsh m (by simpa using hm))
     cases (z3r v||zod out) <;> simp only [h1,h2]
    ·rfl
   rw [zgi hcs,hBx]
  ·have hBd:y1p o' n vs=y1p o n vs:=by
    funext v outs
    unfold y1p
    split
    ·cases z3r v <;> simp only [hFv,hF0]
    ·rfl
   rw [hBd]
  ·rfl
 ·rfl
theorem zny {o o':Store} {l:List V} (h:Agree o o' (z4c l)):zrh o' l=zrh o l:=by
 unfold zrh
 split
 ·rfl
 ·rename_i f m i c
  rw [h m (by simp [z4c,za5,za5.go,z8k])]
 ·rfl
theorem ybf {o o':Store} {d:Option Nat} {p:Ip} {vs:List V} (h:Agree o o' (z4c vs)):ipT o' d p vs=ipT o d p vs:=by
 unfold ipT
 split
 ·rename_i n lo hi rest
  rw [h n (by simp [z4c,za5,z8k]),zny (fun k hk=>h k (by simp only [z4c,v0k]; exact .inr hk))]
 ·rename_i rest
  rw [zny (fun k hk=>h k (by simp only [z4c,v0k]; exact .inr hk))]
 ·rfl
theorem zpq:∀ (cs:List V) (n:Nat) (vs:List V) {m:Nat},m∈z3l (zho cs n vs)→m∈z3l cs∨m∈z3l vs
 | cs,n,[],m,h=>by cases cs <;> cases n <;> exact .inl h
 | [],n,v :: vs,m,h=>by cases n <;> simp [zho,z3l] at h
 | c :: r,0,v :: vs,m,h=>by
  simp only [zho,z3l,v0k] at h ⊢
  rcases h with h | h
  ·exact .inr (.inl h)
  ·rcases zpq r 0 vs h with h | h
   ·exact .inl (.inr h)
   ·exact .inr (.inr h)
 | c :: r,n+1,v :: vs,m,h=>by
  simp only [zho,z3l,v0k] at h ⊢
  rcases h with h | h
  ·exact .inl (.inl h)
  ·rcases zpq r n (v :: vs) h with h | h
   ·exact .inl (.inr h)
   ·exact .inr (by simpa [z3l] using h)
theorem zvp {v:V} {m:Nat} (h:m∈z3l (cells v)):m∈za5 v:=by
 by_cases ha:∃ l,v = .agg l
 ·obtain ⟨l,rfl⟩:=ha
  exact h
 ·have:cells v=[v]:=by cases v <;> first | rfl | exact absurd ⟨_,rfl⟩ ha
  rw [this] at h;exact z89 (by simpa [z3l] using h)
theorem zc6 {l:List V} {v:V} {n:Nat} (hv:v∈l) (hn:n∈za5 v):n∈z4c l:=by
 induction l with
 | nil=>cases hv
 | cons u r ih=>
  simp only [z4c,v0k];rcases v13.1 hv with h | h
  ·subst h; exact .inl hn
  ·exact .inr (ih h)
theorem zvc {o:Store} {place:Nat→Option (Nat × Nat)}:∀ {l:List (Nat × V)} {cs cs':List V},zic o place cs l=some cs'→∀ m∈z3l cs',m∈z3l cs∨∃ i v,(i,v)∈l∧m∈za5 v
 | [],cs,cs',h,m,hm=>by
  simp only [zic,v00] at h;subst h;exact .inl hm
 | (i,v) :: r,cs,cs',h,m,hm=>by
  simp only [zic] at h
  split at h
  ·split at h
   ·rcases zvc h m hm with h1 | ⟨j,u,h1,h2⟩
    ·rcases zpq _ _ _ h1 with h2 | h2
     ·exact .inl h2
     ·exact .inr ⟨i,v,v09 ..,zvp h2⟩
    ·exact .inr ⟨j,u,v0b _ h1,h2⟩
   ·cases h
  ·cases h
theorem zo4 {z:List V}:∀ {n m:Nat},m∈z3l (zcg z n)→m∈z3l z
 | 0,m,h=>by simp [zcg,z3l] at h
 | n+1,m,h=>by
  simp only [zcg,zoj,v0k] at h;exact h.elim id (zo4 (n:=n))
theorem zn5 (ρ:Operand→V):∀ {l:List (Nat × Operand)} {i:Nat} {v:V},(i,v)∈zb6 ρ l→v∈(l.map (·.2)).map ρ
 | (j,x) :: r,i,v,h=>by
  simp only [zb6,v13,v04] at h;simp only [v0e,v13];rcases h with ⟨_,rfl⟩ | h
  ·exact .inl rfl
  ·exact .inr (zn5 ρ h)
theorem zuz:∀ {l:List V} {n:Nat},n∈z4c l→∃ v∈l,n∈za5 v
 | v :: r,n,h=>by
  simp only [z4c,v0k] at h;rcases h with h | h
  ·exact ⟨v,v09 ..,h⟩
  ·obtain ⟨u,h1,h2⟩:=zuz h
   exact ⟨u,v0b _ h1,h2⟩
theorem zwn {o:Store} {m:Nat}:∀ {l:List Nat},m∈zzg o l→∃ n∈l,∃ cs,z03 o n=some (.box cs)∧m∈z3l cs
 | n :: r,h=>by
  simp only [zzg] at h
  split at h
  ·rename_i cs ho
   rcases v0k.1 h with h | h
   ·exact ⟨n,v09 ..,cs,ho,h⟩
   ·obtain ⟨k,h1,h2⟩:=zwn h
    exact ⟨k,v0b _ h1,h2⟩
  ·obtain ⟨k,h1,h2⟩:=zwn h
   exact ⟨k,v0b _ h1,h2⟩
theorem y73 {o:Store} {l l':List Nat} (hs:∀ k∈l,k∈l') {n:Nat} (h:n∈zzg o l):n∈zzg o l':=by
 obtain ⟨k,h1,cs,h2,h3⟩:=zwn h;exact zf0 (hs k h1) h2 h3
theorem ybo {v:V} {n:Nat}:∀ {l:List V},zrk l=true→v∈l→n∈za5 v→n∈za5.go l
 | u :: r,hok,hv,hn=>by
  rcases v13.1 hv with h | h
  ·subst h
   cases v <;> simp only [zrk] at hok <;> first | (cases hok; done) | (simp only [za5,z8k] at hn; simp only [za5.go,z8k,v0k]; first | exact .inl hn | (cases hn; done))
  ·have hr:zrk r=true:=by cases u <;> simp only [zrk] at hok <;> first | exact hok | (cases hok; done)
   have:=ybo hr h hn
   cases u <;> simp only [za5.go,v0k] <;> exact .inr this
theorem zw3 {E:Env} {o o':Store} {ρ:Operand→V} {d:Option Nat} {op:Op} (h:Agree o o' (reads E o ρ op)):z4r E o' ρ d op=z4r E o ρ d op:=by
 cases hq:yip op with
 | true=>cases op <;> first | rfl | cases hq
 | false=>
 unfold reads at h;rw [hq] at h;replace h:Agree o o' (y6n E o ρ op):=h;unfold y6n at h;have hz:=h.left.right;have hd:=h.right;have hv:=h.left.left;clear h;have one:∀ {x:Operand} {n:Nat},x∈op.operands.toList→n∈za5 (ρ x)→z03 o' n=z03 o n:=fun hx hn=>hv _ (zc6 (v3q hx) hn)
 have two:∀ {x:Operand} {n:Nat} {cs:List V},x∈op.operands.toList→n∈za5 (ρ x)→z03 o n=some (.box cs)→Agree o o' (z3l cs):=fun hx hn ho m hm=>hd _ (zf0 (zc6 (v3q hx) hn) ho hm)
 cases op
 case box t x=>
  simp only [z4r];rw [zr0 (fun n hn=>one (x:=x) (by simp [Op.operands]) (z89 hn))]
 case build t parts=>
  have hp:∀ i v,(i,v)∈zb6 ρ parts.toList→Agree o o' (za5 v):=fun i v hm n hn=>hv _ (zc6 (by have:=zn5 ρ hm; simpa [Op.operands] using this) hn)
  simp only [z4r,zjf hp]
 case buildSlice t len parts=>
  have hp:∀ i v,(i,v)∈zb6 ρ parts.toList→Agree o o' (za5 v):=fun i v hm n hn=>hv _ (zc6 (by have:=zn5 ρ hm; simpa [Op.operands] using this) hn)
  simp only [z4r]
  split
  ·rename_i d e hd1
   simp only [zxj,hd1] at hz;rw [zjf hp]
   split
   ·rename_i cs hf
    have hcs:Agree o o' (z3l cs):=by
     intro m hm;rcases zvc hf m hm with h1 | ⟨i,v,h1,h2⟩
     ·exact hz m (zo4 h1)
     ·exact hp i v h1 m h2
    rw [zei hcs,z9f (fun m hm=>hcs m (z8t hm))]
   ·rfl
  ·rfl
 case load t x=>
  simp only [z4r]
  split
  ·rename_i n i c hx
   rw [one (x:=x) (by simp [Op.operands]) (by rw [hx]; simp [za5,z8k])]
  ·rfl
  ·rfl
 case nilCheck x=>
  simp only [z4r]
  split
  ·rename_i n i c hx
   rw [one (x:=x) (by simp [Op.operands]) (by rw [hx]; simp [za5,z8k])]
  ·rfl
 case fieldAddr s x f=>
  simp only [z4r]
  split
  ·split
   ·split
    ·rename_i n i c hx
     rw [one (x:=x) (by simp [Op.operands]) (by rw [hx]; simp [za5,z8k])]
    ·rfl
    ·rfl
   ·rfl
  ·rfl
 case binOp op t x y t'=>
  simp only [z4r];unfold yj9
  split <;> try rfl
  rename_i n i c hx hy;rw [one (x:=x) (by simp [Op.operands]) (by rw [hx]; simp [za5,z8k])]
 case convert s t x=>
  simp only [z4r]
  split <;> try rfl
  rw [zlo (fun n hn=>one (x:=x) (by simp [Op.operands]) (z89 hn)),zli (fun n hn=>one (x:=x) (by simp [Op.operands]) (z89 hn))]
 case slice t x lo hi mx=>
  simp only [z4r]
  split <;> try rfl
  ·rename_i n a b hx
   rw [one (x:=x) (by simp [Op.operands]) (by rw [hx]; simp [za5,z8k])]
  ·rename_i n a c hx
   rw [one (x:=x) (by simp [Op.operands]) (by rw [hx]; simp [za5,z8k])]
 case indexAddr t x ix=>
  simp only [z4r]
  split
  ·split
   ·rfl
   ·rename_i n lo hi hx
    rw [one (x:=x) (by simp [Op.operands]) (by rw [hx]; simp [za5,z8k])]
   ·rename_i n c cap sz len hx
    rw [one (x:=x) (by simp [Op.operands]) (by rw [hx]; simp [za5,z8k])]
   ·rfl
  ·split
   ·rename_i n i0 c hx
    rw [one (x:=x) (by simp [Op.operands]) (by rw [hx]; simp [za5,z8k])]
   ·rfl
   ·rfl
  ·rfl
 case store t p x=>
  simp only [z4r];have hx:Agree o o' (za5 (ρ x)):=fun n hn=>one (x:=x) (by simp [Op.operands]) hn
  have hc:Agree o o' (z3l (cells (ρ x))):=fun n hn=>hx n (zvp hn)
  unfold zgt
  split
  ·rename_i n i c hp
   rw [one (x:=p) (by simp [Op.operands]) (by rw [hp]; simp [za5,z8k]),zr0 (fun n hn=>hx n (z89 hn)),zja hc,z9f (fun m hm=>hc m (z8t hm))]
   simp only [z81 hc]
  ·rfl
 case makeSlice t n m=>
  simp only [z4r]
  split
  ·rename_i d e k1 n1 k2 m1 hd1 _ _
   simp only [zxj,hd1] at hz;rw [zei hz]
   split
   ·rw [z9f (fun m hm=>hz m (z8t hm))]
   ·rfl
  ·rfl
 case call c=>
  obtain ⟨callee,args,ats⟩:=c;simp only [z4r,zkz];have hmem:∀ {x:Operand},x∈args.toList→x∈(Op.call ⟨callee,args,ats⟩).operands.toList:=fun {x} hx=>by
   simp only [Op.operands,Call.operands,v2a,v0k];exact .inr hx
  have harg:∀ {x:Operand},x∈args.toList→Agree o o' (za5 (ρ x)):=fun {x} hx n hn=>one (x:=x) (hmem hx) hn
  have hdp:∀ {x:Operand},x∈args.toList→Agree o o' (z8k (ρ x)++zzg o (z8k (ρ x))):=fun {x} hx n hn=>by
   rcases v0k.1 hn with hn | hn
   ·exact harg hx n (z89 hn)
   ·refine hd n (y73 (fun k hk=>zc6 (v3q (hmem hx)) (z89 hk)) hn)
  have hsub:∀ (l:List V),(∀ v∈l,∃ y∈(Op.call ⟨callee,args,ats⟩).operands.toList,∀ n∈za5 v,n∈za5 (ρ y))→Agree o o' (z4c l++zzg o (z4c l)):=by
   intro l hl n hn;have h1:∀ k∈z4c l,k∈z4c ((Op.call ⟨callee,args,ats⟩).operands.toList.map ρ):=by
    intro k hk;obtain ⟨v,hv1,hv2⟩:=zuz hk;obtain ⟨y,hy1,hy2⟩:=hl v hv1;exact zc6 (v3q hy1) (hy2 k hv2)
   rcases v0k.1 hn with hn | hn
   ·exact hv n (h1 n hn)
   ·exact hd n (y73 h1 hn)
  split
  ·split
   ·rename_i x t hx _
    have hxm:x∈args.toList:=by rw [hx]; simp
    have:=hdp hxm
    unfold yj7
    split <;> try rfl
    ·rename_i n lo hi hr
     rw [this.left n (by rw [hr]; simp [z8k])]
    ·rename_i n c cap sz len hr
     rw [this.left n (by rw [hr]; simp [z8k])]
   ·rfl
  ·split
   ·rename_i s x t t' hx _
    have hsm:s∈args.toList:=by rw [hx]; simp
    have hxm:x∈args.toList:=by rw [hx]; simp
    simp only [zyo (hdp hsm).left (hdp hxm),zyg (hdp hsm).left]
   ·rfl
  ·split
   ·rename_i x y t t' hx _
    have hxm:x∈args.toList:=by rw [hx]; simp
    have hym:y∈args.toList:=by rw [hx]; simp
    unfold yeq
    split
    ·rename_i n c cap sz len n' c' cap' sz' len' h1 h2
     rw [(hdp hxm).left n (by rw [h1]; simp [z8k]),(hdp hym).left n' (by rw [h2]; simp [z8k])]
     split
     ·rename_i cs cs' e ho ho' hde
      rw [zja (o:=o) (o':=o') (l:=cs') (fun m hm=>(hdp hym).right m (zf0 (by rw [h2]; simp [z8k]) ho' hm))]
     ·rfl
    ·rfl
   ·rfl
  ·rfl
  ·rfl
  ·rename_i f d hcal
   have hs:=hsub (args.toList.map ρ) (fun v hv=>by
    obtain ⟨y,hy,rfl⟩:=List.mem_map.1 hv;exact ⟨y,hmem hy,fun n hn=>hn⟩)
   unfold ygp;rw [zre]
   split
   ·rw [ybf hs.left]
   ·split
    ·rw [zrs hs]
    ·rfl
  ·split
   ·rename_i f caps hx
    split
    ·rename_i hok
     rw [zre,zrs (hsub _ (fun v hv=>by
      rcases v0k.1 hv with hv | hv
      ·obtain ⟨y,hy,rfl⟩:=List.mem_map.1 hv
       exact ⟨y,hmem hy,fun n hn=>hn⟩
      ·refine ⟨_,by simp only [Op.operands,Call.operands,v2a,v0k]; exact .inl (v09 ..),fun n hn=>?_⟩
       rw [hx];simp only [za5];exact ybo hok hv hn))]
    ·rfl
   ·rfl
  ·rfl
 case makeFunc f a b=>cases f <;> rfl
 all_goals rfl
open Go Go.RowKit
theorem zgx {ρ ρ':Operand→V}:∀ {l:List (Nat × Operand)},(∀ x∈l.map (·.2),ρ x=ρ' x)→zb6 ρ l=zb6 ρ' l
 | [],_=>rfl
 | (i,x) :: r,h=>by
  simp only [zb6,h x (by simp),zgx (l:=r) (fun y hy=>h y (v0b _ hy))]
theorem zms {ρ ρ':Operand→V}:∀ {l:List Operand},(∀ x∈l,ρ x=ρ' x)→zvb ρ l=zvb ρ' l
 | [],_=>rfl
 | x :: r,h=>by simp only [zvb,h x (v09 ..),zms (l:=r) (fun y hy=>h y (v0b _ hy))]
theorem zoc {ρ ρ':Operand→V} {x:Option Operand} (h:∀ y∈x.toArray.toList,ρ y=ρ' y):x.map ρ=x.map ρ':=by
 cases x with
 | none=>rfl
 | some x=>simp only [v2d,h x (by simp)]
theorem y7z {E:Env} {o:Store} {ρ ρ':Operand→V} {d:Option Nat} {op:Op} (h:∀ x∈op.operands.toList,ρ x=ρ' x):z4r E o ρ d op=z4r E o ρ' d op:=by
 cases op
 case build t ps=>simp only [z4r,zgx (l:=ps.toList) (fun x hx=>h x (by simpa [Op.operands] using hx))]
 case buildSlice t n ps=>simp only [z4r,zgx (l:=ps.toList) (fun x hx=>h x (by simpa [Op.operands] using hx))]
 case makeFunc f first caps=>
  cases f <;> simp only [z4r]
  rw [zms (l:=caps.toList) (fun x hx=>h x (by simp only [Op.operands,v2a,v0k]; exact .inr hx))]
 case slice t x lo hi mx=>
  have h1:ρ x=ρ' x:=h x (by simp [Op.operands])
  have h2:lo.map ρ=lo.map ρ':=zoc (fun y hy=>h y (by simp only [Op.operands,v2a,v0k]; exact .inl (.inl (.inr hy))))
  have h3:hi.map ρ=hi.map ρ':=zoc (fun y hy=>h y (by simp only [Op.operands,v2a,v0k]; exact .inl (.inr hy)))
  simp only [z4r,h1,h2,h3]
 case call c=>
  obtain ⟨callee,args,ats⟩:=c;have ha:∀ x∈args.toList,ρ x=ρ' x:=fun x hx=>h x (by simp only [Op.operands,Call.operands,v2a,v0k]; exact .inr hx)
  have hm:zvb ρ args.toList=zvb ρ' args.toList:=zms ha;simp only [z4r,zkz]
  split
  ·split
   ·rename_i x t hx _
    rw [ha x (by rw [hx]; simp)]
   ·rfl
  ·split
   ·rename_i s x t t' hx _
    rw [ha s (by rw [hx]; simp),ha x (by rw [hx]; simp)]
   ·rfl
  ·split
   ·rename_i x y t t' hx _
    rw [ha x (by rw [hx]; simp),ha y (by rw [hx]; simp)]
   ·rfl
  ·simp only [hm]
  ·simp only [hm]
  ·simp only [hm]
  ·rename_i x _ _
   have hxx:ρ x=ρ' x:=h x (by simp [Op.operands,Call.operands])
   simp only [hm,hxx]
  ·rfl
 all_goals first
  | rfl
  | (simp only [Op.operands] at h; simp only [z4r]; simp (config:={decide:=false}) only [v13,v1q,v3i,forall_eq_or_imp,forall_eq] at h; simp only [h])
structure SEq (s s':St):Prop where
 t:∀ i,s.get i=s'.get i
 o:∀ n,z03 s.o n=z03 s'.o n
theorem SEq.refl (s:St):SEq s s:=⟨fun _=>rfl,fun _=>rfl⟩
theorem SEq.symm {s s':St} (h:SEq s s'):SEq s' s:=⟨fun i=>(h.t i).symm,fun n=>(h.o n).symm⟩
theorem SEq.trans {a b c:St} (h:SEq a b) (k:SEq b c):SEq a c:=⟨fun i=>(h.t i).trans (k.t i),fun n=>(h.o n).trans (k.o n)⟩
theorem SEq.opd {s s':St} (h:SEq s s'):opd s=opd s':=by
 funext x
 cases x <;> simp only [FM.opd,h.t]
theorem SEq.put {s s':St} (h:SEq s s') (d:Option Nat) (v:V):SEq (s.put d v) (s'.put d v):=by
 cases d with
 | none=>exact h
 | some d=>exact ⟨fun i=>by simp only [St.put,St.get,zao]; split <;> first | rfl | exact h.t i,h.o⟩
theorem yfo (s:St) (d:Nat) (v:V) (i:Nat):(s.put (some d) v).get i=if d=i then v else s.get i:=by simp only [St.put,St.get,zao]
theorem SEq.up {s s':St} (h:SEq s s') (u:Upd):SEq (s.up u) (s'.up u):=by
 cases u with
 | new n ob=>exact ⟨fun i=>by rw [ze0,ze0,h.t],fun m=>by rw [z0a,z0a,h.o]⟩
 | set n ob=>exact ⟨h.t,fun m=>by simp only [St.up,z01,h.o]⟩
 | kill n=>exact ⟨h.t,fun m=>by simp only [St.up,z01,h.o]⟩
theorem SEq.ups:∀ {us:List Upd} {s s':St},SEq s s'→SEq (s.ups us) (s'.ups us)
 | [],_,_,h=>h
 | u :: r,_,_,h=>SEq.ups (us:=r) (h.up u)
theorem SEq.lit {s:St} {j:Nat} {b:Bool} (h:s.get j = .bool b):SEq s (y71 s j b):=
 ⟨fun i=>by
  simp only [y71,St.get,zao]
  split
  ·rename_i e; subst e; exact h
  ·rfl,fun _=>rfl⟩
theorem zi0:∀ {us:List Upd} {o o':Store},(∀ n,z03 o n=z03 o' n)→∀ n,z03 (zug us o) n=z03 (zug us o') n
 | [],_,_,h=>h
 | .set m ob :: r,o,o',h=>zi0 (us:=r) (fun n=>by rw [z01,z01,h])
 | .new m ob :: r,o,o',h=>zi0 (us:=r) (fun n=>by rw [z01,z01,h])
 | .kill m :: r,o,o',h=>zi0 (us:=r) (fun n=>by rw [z01,z01,h])
theorem zdi:∀ {us:List Upd} {o:Store} {n:Nat},n ∉ z6x us→z03 (zug us o) n=z03 o n
 | [],_,_,_=>rfl
 | .set m ob :: r,o,n,h=>by
  simp only [z6x,v13,not_or] at h;rw [zug,zdi h.2,z01,v0x (fun e=>h.1 e.symm)]
 | .new m ob :: r,o,n,h=>by
  simp only [z6x,v13,not_or] at h;rw [zug,zdi h.2,z01,v0x (fun e=>h.1 e.symm)]
 | .kill m :: r,o,n,h=>by
  simp only [z6x,v13,not_or] at h;rw [zug,zdi h.2,z01,v0x (fun e=>h.1 e.symm)]
theorem y56:∀ {us:List Upd} {o o':Store} {n:Nat},n∈z6x us→z03 (zug us o) n=z03 (zug us o') n
 | [],_,_,_,h=>by simp [z6x] at h
 | u :: r,o,o',n,h=>by
  by_cases hr:n∈z6x r
  ·cases u <;> simp only [zug] <;> exact y56 hr
  ·cases u <;> simp only [z6x,v13,hr,v3i] at h <;> subst h <;> simp only [zug] <;> rw [zdi hr,zdi hr,z01,z01,v1c rfl,v1c rfl]
theorem SEq.apD {s s':St} (h:SEq s s') (x:Dn):SEq (apD s x) (apD s' x):=⟨(h.put x.dst x.v).t,zi0 h.o⟩
theorem SEq.apDs:∀ {l:List Dn} {s s':St},SEq s s'→SEq (apDs s l) (apDs s' l)
 | [],_,_,h=>h
 | x :: r,_,_,h=>SEq.apDs (l:=r) (h.apD x)
theorem zj4:∀ (l l':List Dn) (s:St),apDs s (l++l')=apDs (apDs s l) l'
 | [],_,_=>rfl
 | x :: r,l',s=>zj4 r l' (apD s x)
theorem yci {n:Nat} {v:V} (hc:zvf v=true) (hn:n ∉ z8k v):z2i.leaf n v=v:=by
 cases v <;> simp only [zvf] at hc <;> first | (cases hc; done) | rfl | skip
 ·simp only [z8k,v28] at hn
  simp only [z2i.leaf,z42.2 (fun e=>hn e.symm)]
 ·simp only [z8k,v28] at hn
  simp only [z2i.leaf,z42.2 (fun e=>hn e.symm)]
theorem zkt {n:Nat}:∀ {l:List V},zlz l=true→n ∉ z3l l→l.map (z2i.leaf n)=l
 | [],_,_=>rfl
 | v :: r,hc,hn=>by
  simp only [zlz] at hc
  split at hc
  ·rename_i h1
   simp only [z3l,v0k,not_or] at hn;simp only [v0e,yci h1 hn.1,zkt hc hn.2]
  ·cases hc
theorem znf {n:Nat}:∀ {l:List V},zhd.go l=true→n ∉ za5.go l→l.map (z2i.leaf2 n)=l
 | [],_,_=>rfl
 | v :: r,hc,hn=>by
  by_cases ha:∃ l,v = .agg l
  ·obtain ⟨l,rfl⟩:=ha
   simp only [zhd.go] at hc
   split at hc
   ·rename_i h1
    simp only [za5.go,v0k,not_or] at hn;simp only [v0e,z2i.leaf2,zkt h1 hn.1,znf hc hn.2]
   ·cases hc
  ·have h0:z2i.leaf2 n v=z2i.leaf n v:=by cases v <;> first | rfl | exact absurd ⟨_,rfl⟩ ha
   have h1:zvf v=true∧zhd.go r=true:=by
    cases v <;> simp only [zhd.go,zvf] at hc ⊢ <;> first | (simp at hc; done) | (simpa using hc) | (cases hc; done) | exact absurd ⟨_,rfl⟩ ha
   have h2:n ∉ z8k v∧n ∉ za5.go r:=by
    cases v <;> simp only [za5.go,v0k,not_or] at hn <;> first | exact hn | exact absurd ⟨_,rfl⟩ ha
   simp only [v0e,h0,yci h1.1 h2.1,znf h1.2 h2.2]
theorem y6a {n:Nat} {v:V} (hc:zhd v=true) (hn:n ∉ za5 v):z2i n v=v:=by
 cases v <;> simp only [zhd] at hc <;> first | rfl | skip
 case row a b c=>simp only [za5,z8k,v28] at hn; simp only [z2i,z42.2 (fun e=>hn e.symm)]
 case ptr a b c=>simp only [za5,z8k,v28] at hn; simp only [z2i,z42.2 (fun e=>hn e.symm)]
 case bview a b c d e=>simp only [za5,z8k,v28] at hn; simp only [z2i,z42.2 (fun e=>hn e.symm)]
 case agg l=>simp only [z2i,zkt hc hn]
 case tup l=>simp only [z2i,znf hc hn]
 case clo f l=>
  have:n ∉ z3l l:=fun h=>hn (zla h)
  simp only [z2i,zkt hc this]
theorem y21 {n:Nat}:∀ {l:List V},zy1 l=true→n ∉ z4c l→l.map (z2i n)=l
 | [],_,_=>rfl
 | v :: r,hc,hn=>by
  simp only [zy1] at hc
  split at hc
  ·rename_i h1
   simp only [z4c,v0k,not_or] at hn;simp only [v0e,y6a h1 hn.1,y21 hc hn.2]
  ·cases hc
theorem zlq {n:Nat} {ob:Ob} (hc:y3v ob=true) (hn:n ∉ zzo ob):z4v n (some ob)=some ob:=by
 cases ob with
 | box cs=>simp only [z4v,y21 hc hn]
 | row _ _ _ _ _=>rfl
 | bld _=>rfl
theorem y6k {p:Nat→Bool} {n:Nat} (hp:p n=true) (v:V):z2i.leaf n (z3k.leaf p v)=z3k.leaf p v:=by
 cases v <;> simp only [z3k.leaf] <;> first | rfl | skip
 all_goals
  rename_i m _ _;cases hm:p m with
  | true=>rfl
  | false=>
   simp only [z2i.leaf];rw [z42.2 (fun e=>by subst e; rw [hp] at hm; cases hm)]
theorem zht {p:Nat→Bool} {n:Nat} (hp:p n=true):∀ (l:List V),(z3k.go p l).map (z2i.leaf n)=z3k.go p l
 | []=>rfl
 | v :: r=>by simp only [z3k.go,v0e,y6k hp,zht hp r]
theorem ybt {p:Nat→Bool} {n:Nat} (hp:p n=true) (v:V):z2i.leaf2 n (z3k.leaf2 p v)=z3k.leaf2 p v:=by
 by_cases ha:∃ l,v = .agg l
 ·obtain ⟨l,rfl⟩:=ha
  simp only [z3k.leaf2,z2i.leaf2,zht hp]
 ·have h0:z3k.leaf2 p v=z3k.leaf p v:=by cases v <;> first | rfl | exact absurd ⟨_,rfl⟩ ha
  rw [h0]
  have:=y6k hp v
  cases hx:z3k.leaf p v <;> rw [hx] at this <;> first | exact this | skip
  exfalso;cases v <;> simp only [z3k.leaf] at hx <;> try (cases hx; done)
  all_goals (split at hx <;> cases hx)
theorem zsw {p:Nat→Bool} {n:Nat} (hp:p n=true):∀ (l:List V),(z3k.go2 p l).map (z2i.leaf2 n)=z3k.go2 p l
 | []=>rfl
 | v :: r=>by simp only [z3k.go2,v0e,ybt hp,zsw hp r]
theorem y2x {p:Nat→Bool} {n:Nat} (hp:p n=true) (v:V):z2i n (z3k p v)=z3k p v:=by
 have key:∀ m,p m=false→Nat.beq m n=false:=fun m hm=>z42.2 (fun e=>by subst e; rw [hp] at hm; cases hm)
 cases v <;> simp only [z3k] <;> try rfl
 case row m _ _=>cases hm:p m <;> simp only [z2i,key m,hm]
 case ptr m _ _=>cases hm:p m <;> simp only [z2i,key m,hm]
 case bview m _ _ _ _=>cases hm:p m <;> simp only [z2i,key m,hm]
 case agg l=>simp only [z2i,zht hp]
 case tup l=>simp only [z2i,zsw hp]
 case clo f l=>simp only [z2i,zht hp]
theorem zyz (f:V→V):∀ l,z7x.mapV f l=l.map f
 | []=>rfl
 | v :: r=>by simp only [z7x.mapV,v0e,zyz f r]
theorem y96 {p:Nat→Bool} {n:Nat} (hp:p n=true) (x:Option Ob):z4v n (z7x p x)=z7x p x:=by
 match x with
 | none=>rfl
 | some (.row _ _ _ _ _)=>rfl
 | some (.bld _)=>rfl
 | some (.box cs)=>
  simp only [z7x,z4v,zyz,v40]
  congr 2
  exact List.map_congr_left (fun v _=>y2x hp v)
structure Fr (n:Nat) (s:St):Prop where
 t:∀ i,z2i n (s.get i)=s.get i
 o:∀ m,z4v n (z03 s.o m)=z03 s.o m
theorem Fr.congr {n:Nat} {s s':St} (h:Fr n s) (e:SEq s s'):Fr n s':=⟨fun i=>by rw [← e.t]; exact h.t i,fun m=>by rw [← e.o]; exact h.o m⟩
theorem zk7 {n:Nat} {l:List Nat}:zyj n l=false↔n ∉ l:=by
 rw [← zlk]; simp
theorem zhp:∀ {l l':List Nat},yer l l'=true↔∀ n∈l,n ∉ l'
 | [],l'=>by simp [yer]
 | m :: r,l'=>by
  simp only [yer];cases hb:zyj m l' with
  | true=>simp [zlk.1 hb]
  | false=>simp [zk7.1 hb,zhp (l:=r)]
theorem zz7:∀ {us:List Upd} {s:St},(∀ n∈zpf us,Fr n s)→y9v us=true→SEq (s.ups us) ⟨s.t,zug us s.o⟩
 | [],s,_,_=>SEq.refl s
 | .kill m :: r,s,hf,ho=>by
  simp only [St.ups,zug];exact zz7 (us:=r) (s:=s.up (.kill m)) (fun n hn=>⟨(hf n hn).t,fun k=>by
   simp only [St.up,z01]
   split
   ·rfl
   ·exact (hf n hn).o k⟩) ho
 | .set m ob :: r,s,hf,ho=>by
  simp only [y9v,v02] at ho;simp only [St.ups,zug];exact zz7 (us:=r) (s:=s.up (.set m ob)) (fun n hn=>⟨(hf n hn).t,fun k=>by
   simp only [St.up,z01]
   split
   ·exact zlq ho.1 (zhp.1 ho.2.1 n hn)
   ·exact (hf n hn).o k⟩) ho.2.2
 | .new m ob :: r,s,hf,ho=>by
  simp only [y9v,v02] at ho;simp only [St.ups,zug];have hm:Fr m s:=hf m (by simp [zpf])
  have e:SEq (s.up (.new m ob)) (s.up (.set m ob)):=⟨fun i=>by rw [ze0,hm.t]; rfl,fun k=>by rw [z0a,hm.o]; simp only [St.up,z01]⟩
  refine (e.ups (us:=r)).trans ?_;exact zz7 (us:=r) (s:=s.up (.set m ob)) (fun n hn=>⟨(hf n (by simp [zpf,hn])).t,fun k=>by
   simp only [St.up,z01]
   split
   ·exact zlq ho.1 (zhp.1 ho.2.1 n hn)
   ·exact (hf n (by simp [zpf,hn])).o k⟩) ho.2.2
open Go Go.RowKit
def CmpP (p:Nat→Bool) (γ:Nat→Value) (o:Store) (γ':Nat→Value) (o':Store):Prop:=
 ∀ n ob',p n=false→z03 o' n=some ob'→γ' n=γ n∧∃ ob,z03 o n=some ob∧ob.fits ob'
section
variable {γ γ':Nat→Value} {o o':Store} {w:World} {O:Nat→Prop} {p:Nat→Bool}
theorem CmpP.but (hc:CmpP p γ o γ' o') {n:Nat} (hn:p n=false) {v:V} (hv:v = .any∨(∃ lo hi,v = .row n lo hi)∨(∃ i c,v = .ptr n i c)∨∃ c cap sz len,v = .bview n c cap sz len) {x:Value} (h:VRel γ o w O v x):VRel γ' o' w O v x:=by
 let f:Nat→Value:=fun m=>if m=n then γ' n else γ m
 rcases hv with rfl | ⟨lo,hi,rfl⟩ | ⟨i,c,rfl⟩ | ⟨c,cap,sz,len,rfl⟩
 ·simp only [VRel]
 ·simp only [VRel] at h ⊢
  cases h':z03 o' n with
  | none=>trivial
  | some ob'=>
   obtain ⟨hg,ob,ho,hf⟩:=hc n ob' hn h';rw [ho] at h;rw [hg];cases ob <;> cases ob' <;> simp only [Ob.fits] at hf <;> try trivial
   obtain ⟨rfl,hl⟩:=hf;exact ⟨by rw [← hl]; exact h.1,h.2⟩
 ·simp only [VRel] at h ⊢
  cases h':z03 o' n with
  | none=>trivial
  | some ob'=>
   obtain ⟨hg,ob,ho,hf⟩:=hc n ob' hn h';rw [ho] at h;rw [hg];cases ob <;> cases ob' <;> simp only [Ob.fits] at hf
   ·exact h
   ·obtain ⟨rfl,hl⟩:=hf
    exact ⟨by rw [← hl]; exact h.1,h.2⟩
   ·exact h
 ·simp only [VRel] at h ⊢
  cases h':z03 o' n with
  | none=>trivial
  | some ob'=>
   obtain ⟨hg,ob,ho,hf⟩:=hc n ob' hn h';rw [ho] at h;rw [hg];cases ob <;> cases ob' <;> simp only [Ob.fits] at hf <;> try trivial
   exact ⟨h.1,h.2.1,by rw [← hf]; exact h.2.2.1,h.2.2.2⟩
theorem zzk (hc:CmpP p γ o γ' o') {v:V} {x:Value} (h:VRel γ o w O v x):VRel γ' o' w O (z3k.leaf p v) x:=by
 cases v <;> simp only [z3k.leaf]
 case row n lo hi=>
  cases hb:p n with
  | true=>simp only [VRel]
  | false=>exact hc.but hb (.inr (.inl ⟨_,_,rfl⟩)) h
 case ptr n i c=>
  cases hb:p n with
  | true=>simp only [VRel]
  | false=>exact hc.but hb (.inr (.inr (.inl ⟨_,_,rfl⟩))) h
 all_goals first
  | (simp only [VRel] at h ⊢; exact h)
  | simp only [VRel]
theorem zen (hc:CmpP p γ o γ' o'):∀ {l:List V} {xs:List Value},VRels γ o w O l xs→VRels γ' o' w O (z3k.go p l) xs
 | [],[],_=>by simp only [z3k.go,VRels]
 | [],_ :: _,h=>by simp only [VRels] at h
 | _ :: _,[],h=>by simp only [VRels] at h
 | v :: vs,x :: xs,h=>by
  simp only [VRels,z3k.go] at h ⊢
  exact ⟨zzk hc h.1,zen hc h.2⟩
theorem y8o (hc:CmpP p γ o γ' o') {v:V} {x:Value} (h:VRel γ o w O v x):VRel γ' o' w O (z3k.leaf2 p v) x:=by
 cases v <;> simp only [z3k.leaf2] <;> try exact zzk hc h
 simp only [VRel] at h ⊢
 obtain ⟨cs,hx,hr⟩:=h;exact ⟨cs,hx,zen hc hr⟩
theorem zon (hc:CmpP p γ o γ' o'):∀ {l:List V} {xs:List Value},VRels γ o w O l xs→VRels γ' o' w O (z3k.go2 p l) xs
 | [],[],_=>by simp only [z3k.go2,VRels]
 | [],_ :: _,h=>by simp only [VRels] at h
 | _ :: _,[],h=>by simp only [VRels] at h
 | v :: vs,x :: xs,h=>by
  simp only [VRels,z3k.go2] at h ⊢
  exact ⟨y8o hc h.1,zon hc h.2⟩
theorem zva (hc:CmpP p γ o γ' o') {v:V} {x:Value} (h:VRel γ o w O v x):VRel γ' o' w O (z3k p v) x:=by
 cases v <;> simp only [z3k]
 case row n lo hi=>
  cases hb:p n with
  | true=>simp only [VRel]
  | false=>exact hc.but hb (.inr (.inl ⟨_,_,rfl⟩)) h
 case ptr n i c=>
  cases hb:p n with
  | true=>simp only [VRel]
  | false=>exact hc.but hb (.inr (.inr (.inl ⟨_,_,rfl⟩))) h
 case bview n c cap sz len=>
  cases hb:p n with
  | true=>simp only [VRel]
  | false=>exact hc.but hb (.inr (.inr (.inr ⟨_,_,_,_,rfl⟩))) h
 case agg l=>
  simp only [VRel] at h ⊢
  obtain ⟨cs,hx,hr⟩:=h;exact ⟨cs,hx,zen hc hr⟩
 case tup l=>
  simp only [VRel] at h ⊢
  obtain ⟨cs,hx,hr⟩:=h;exact ⟨cs,hx,zon hc hr⟩
 case clo f l=>
  simp only [VRel] at h ⊢
  obtain ⟨cs,hx,hr⟩:=h;exact ⟨cs,hx,zen hc hr⟩
 all_goals (simp only [VRel] at h ⊢; try exact h)
theorem zr7 (hc:CmpP p γ o γ' o'):∀ {l:List V} {xs:List Value},VRels γ o w O l xs→VRels γ' o' w O (l.map (z3k p)) xs
 | [],[],_=>by simp only [v10,VRels]
 | [],_ :: _,h=>by simp only [VRels] at h
 | _ :: _,[],h=>by simp only [VRels] at h
 | v :: vs,x :: xs,h=>by
  simp only [VRels,v0e] at h ⊢
  exact ⟨zva hc h.1,zr7 hc h.2⟩
end
theorem znb (p:Nat→Bool):∀ (o:Store) (n:Nat),z03 (zw2 p o) n=match p n with | true=>none | false=>z7x p (z03 o n)
 | [],n=>by simp only [zw2,z03,lkd]; cases p n <;> rfl
 | (m,x) :: r,n=>by
  simp only [zw2]
  by_cases e:m=n
  ·subst e
   cases hp:p m <;> simp only [z01,v1l]
  ·cases hp:p m <;> simp only [z01,v0x e,znb p r n]
theorem y2h {p:Nat→Bool} {x:Option Ob} {ob:Ob} (h:z7x p x=some ob):∃ ob0,x=some ob0∧z7x p (some ob0)=some ob:=by
 cases x with
 | none=>simp [z7x] at h
 | some ob0=>exact ⟨ob0,rfl,h⟩
theorem zb8 {p:Nat→Bool} {ob0 ob:Ob} (h:z7x p (some ob0)=some ob):ob0.fits ob∧∀ g b,z0h g ob b↔z0h g ob0 b:=by
 cases ob0 <;> simp only [z7x,v00] at h <;> subst h
 ·exact ⟨by simp [Ob.fits,zyz],fun _ _=>Iff.rfl⟩
 ·exact ⟨⟨rfl,rfl⟩,fun _ _=>Iff.rfl⟩
 ·exact ⟨trivial,fun _ _=>Iff.rfl⟩
section
variable {B:BT} {nt:Nat} {w0:World} {X:Zone} {γ:Nat→Value} {st st':St} {a:Act} {w:World} {P:Program} {E:Env}
theorem Rel.less (h:Rel B nt w0 X γ st a w) {st':St} (ht:∀ i,st'.get i=st.get i∨st'.get i = .any) (ho:∀ n ob,z03 st'.o n=some ob→z03 st.o n=some ob):Rel B nt w0 X γ st' a w:=by
 have hP:∀ b,z1l γ st'.o b→z1l γ st.o b:=fun b ⟨n,ob,h1,h2⟩=>⟨n,ob,ho n ob h1,h2⟩
 have hO:∀ b,b < w.heap.size→z08 X γ st'.o b→z08 X γ st.o b:=fun b _ hb=>hb.imp_left (hP b)
 have hc:Cmp γ st.o γ st'.o:=fun n ob hn=>⟨rfl,ob,ho n ob hn,ob.fits_refl⟩
 refine ⟨h.sz,h.df,fun i=>?_,fun n ob hn=>(h.ob n ob (ho n ob hn)).later (fun _ _=>rfl) (Keep.refl _ w) hO hc,fun b hb=>h.lt b (hP b hb),fun n m ob ob' b hne h1 h2=>h.dis n m ob ob' b hne (ho n ob h1) (ho m ob' h2),h.keep,fun b hb=>h.nr b (hP b hb),h.fl,fun p hp ob h1=>h.pn p hp ob (ho _ ob h1)⟩
 rcases ht i with h1 | h1
 ·rw [h1]
  exact VRel.mono (Keep.refl _ w) hO (VRel.cmp hc (h.tm i))
 ·rw [h1]
  simp only [VRel]
theorem Rel.lit (h:Rel B nt w0 X γ st a w) {i:Nat} {v:V} (hv:st.get i=v):Rel B nt w0 X γ ⟨(i,v) :: st.t,st.o⟩ a w:=by
 refine h.less (fun j=>?_) (fun _ _ h=>h)
 simp only [St.get,zao]
 by_cases e:i=j
 ·subst e
  simp only [v1l];exact .inl hv.symm
 ·simp only [v0x e]
  exact .inl trivial
theorem zlf:∀ (ops:List Oper) (j d:Nat),zp8 ops j=some d→(ops[j]?).bind (·.dst)=some d
 | [],j,d,h=>by simp [zp8] at h
 | o :: r,0,d,h=>by simpa [zp8] using h
 | o :: r,j+1,d,h=>by simpa [zp8] using zlf r j d (by simpa [zp8] using h)
theorem y6d (h:Rel B nt w0 X γ st a w) {i:Nat} {c:Bool} (hv:st.get i = .bool c):a.tmps[i]?=some (.bool c):=by
 have:=h.tm i
 rw [hv] at this;simp only [VRel,v29] at this;cases ht:a.tmps[i]? with
 | none=>rw [ht] at this; simp [undef] at this
 | some u=>rw [ht] at this; simp only [v1w] at this; rw [this]
theorem zzl (h:Rel B nt w0 X γ st a w) {i:Nat} (hv:st.get i = .tup []):a.tmps[i]?=none∨a.tmps[i]?=some (.tuple #[]):=by
 have:=h.tm i
 rw [hv] at this;simp only [VRel,v29] at this;obtain ⟨cs,h1,h2⟩:=this;cases hl:cs.toList with
 | nil=>
  have e:cs = #[]:=by simpa using hl
  rw [e] at h1;cases ht:a.tmps[i]? with
  | none=>exact .inl rfl
  | some u=>rw [ht] at h1; simp only [v1w] at h1; rw [h1]; exact .inr rfl
 | cons x l=>rw [hl] at h2; simp only [VRels] at h2
theorem Rel.clear (h:Rel B nt w0 X γ st a w) (ds:List Nat):Rel B nt w0 X γ (zdg ds st) a w:=by
 have hget:∀ n ob,z03 (zdg ds st).o n=some ob→zpi ds n=false∧∃ ob0,z03 st.o n=some ob0∧z7x (zpi ds) (some ob0)=some ob:=by
  intro n ob hn;simp only [zdg,znb] at hn
  split at hn
  ·cases hn
  ·rename_i hp
   exact ⟨hp,y2h hn⟩
 have hP:∀ b,z1l γ (zdg ds st).o b→z1l γ st.o b:=by
  rintro b ⟨n,ob,h1,h2⟩
  obtain ⟨_,ob0,h3,h4⟩:=hget n ob h1;exact ⟨n,ob0,h3,((zb8 h4).2 _ _).1 h2⟩
 have hO:∀ b,b < w.heap.size→z08 X γ (zdg ds st).o b→z08 X γ st.o b:=fun b _ hb=>hb.imp_left (hP b)
 have hc:CmpP (zpi ds) γ st.o γ (zdg ds st).o:=by
  intro n ob' _ hn;obtain ⟨_,ob0,h3,h4⟩:=hget n ob' hn;exact ⟨rfl,ob0,h3,(zb8 h4).1⟩
 refine ⟨h.sz,h.df,fun i=>?_,fun n ob hn=>?_,fun b hb=>h.lt b (hP b hb),fun n m ob ob' b hne h1 h2 hb1 hb2=>?_,h.keep,fun b hb=>h.nr b (hP b hb),h.fl,fun p hp ob h1=>?_⟩
 ·have:(zdg ds st).get i=z3k (zpi ds) (st.get i):=by
   simp only [zdg,St.get];exact ze8 _ _ rfl _ _
  rw [this];exact VRel.mono (Keep.refl _ w) hO (zva hc (h.tm i))
 ·obtain ⟨_,ob0,h3,h4⟩:=hget n ob hn
  have hor:=h.ob n ob0 h3;cases ob0 with
  | box l=>
   simp only [z7x,v00] at h4;subst h4;simp only [ObRel] at hor ⊢
   obtain ⟨b,c,T,hg,hh,hr⟩:=hor;rw [zyz];exact ⟨b,c,T,hg,hh,VRels.mono (Keep.refl _ w) hO (zr7 hc hr)⟩
  | row own e ag ks l=>
   simp only [z7x,v00] at h4;subst h4;exact hor.later (fun _ _=>rfl) (Keep.refl _ w) hO (fun m ob1 hm=>by
    obtain ⟨_,ob0,h5,h6⟩:=hget m ob1 hm;exact ⟨rfl,ob0,h5,(zb8 h6).1⟩)
  | bld s=>
   simp only [z7x,v00] at h4;subst h4
   simpa only [ObRel] using hor
 ·obtain ⟨_,ob0,h3,h4⟩:=hget n ob h1
  obtain ⟨_,ob1,h5,h6⟩:=hget m ob' h2;exact h.dis n m ob0 ob1 b hne h3 h5 (((zb8 h4).2 _ _).1 hb1) (((zb8 h6).2 _ _).1 hb2)
 ·obtain ⟨_,ob0,h3,_⟩:=hget _ ob h1
  exact h.pn p hp ob0 h3
theorem Rel.seq (h:Rel B nt w0 X γ st a w) (e:SEq st st'):Rel B nt w0 X γ st' a w:=
 h.less (fun i=>.inl (e.t i).symm) (fun n ob hn=>by rw [e.o]; exact hn)
end
theorem yes {ds:List Nat} {n:Nat} (hn:zpi ds n=true) (s:St):Fr n (zdg ds s):=by
 refine ⟨fun i=>?_,fun m=>?_⟩
 ·have:(zdg ds s).get i=z3k (zpi ds) (s.get i):=by
   simp only [zdg,St.get];exact ze8 _ _ rfl _ _
  rw [this];exact y2x hn _
 ·simp only [zdg,znb]
  split
  ·rfl
  ·exact y96 hn _
def StepOK (E:Env) (all:List Oper) (o:Oper) (s:St) (D:Dn):Prop:=
 zpu E o.dst=true∧D.dst=o.dst∧D.tm=zi6 all o ∧
 match o.guard with
 | none=>(z4r E s.o (opd s) o.dst o.op).get=some (D.v,D.us)∧D.rd=reads E s.o (opd s) o.op
 | some (j,b)=>(∃ dj c,zp8 all j=some dj∧s.get dj = .bool c ∧
  ((c=b∧(z4r E s.o (opd s) o.dst o.op).get=some (D.v,D.us)∧D.rd=reads E s.o (opd s) o.op)∨(c≠b∧D.v = .tup []∧D.us=[]))) ∨
  (∃ dj,zp8 all j=some dj∧s.get dj = .tup []∧D.v = .tup []∧D.us=[])
def Steps (E:Env) (all:List Oper):List Oper→St→List Dn→Prop
 | [],_,[]=>True
 | o :: r,s,D :: Ds=>StepOK E all o s D∧Steps E all r (apD s D) Ds
 | _,_,_=>False
theorem StepOK.congr {E:Env} {all:List Oper} {o:Oper} {s s':St} {D:Dn} (h:StepOK E all o s D) (e:SEq s s'):StepOK E all o s' D:=by
 have hag:∀ (ρ:Operand→V) d op,z4r E s'.o ρ d op=z4r E s.o ρ d op:=fun ρ d op=>zw3 (fun n _=>(e.o n).symm)
 have hdp:∀ l,zzg s'.o l=zzg s.o l:=by
  intro l
  induction l with
  | nil=>rfl
  | cons n r ih=>simp only [zzg,ih,e.o]
 have hrd:∀ (ρ:Operand→V) op,reads E s'.o ρ op=reads E s.o ρ op:=fun ρ op=>by unfold reads y6n; rw [hdp]
 unfold StepOK at h ⊢
 refine ⟨h.1,h.2.1,h.2.2.1,?_⟩;have h3:=h.2.2.2;rw [← e.opd];simp only [hag,hrd]
 split at h3
 ·exact h3
 ·rcases h3 with ⟨dj,c,h4,h5,h6⟩ | ⟨dj,h4,h5,h6⟩
  ·exact .inl ⟨dj,c,h4,by rw [← e.t]; exact h5,h6⟩
  ·exact .inr ⟨dj,h4,by rw [← e.t]; exact h5,h6⟩
theorem Steps.congr {E:Env} {all:List Oper}:∀ {l:List Oper} {s s':St} {Ds:List Dn},Steps E all l s Ds→SEq s s'→Steps E all l s' Ds
 | [],_,_,[],_,_=>trivial
 | [],_,_,_ :: _,h,_=>by simp [Steps] at h
 | _ :: _,_,_,[],h,_=>by simp [Steps] at h
 | o :: r,s,s',D :: Ds,h,e=>by
  simp only [Steps] at h ⊢
  exact ⟨h.1.congr e,Steps.congr h.2 (e.apD D)⟩
theorem y3e {E:Env} {all:List Oper} {res:V × List (List V)}:∀ (l:List Oper) {s:St} {acc:List Dn} {k:List Dn→St→Res},evD E all l s acc k=some res →
  ∃ Ds s',Steps E all l s Ds∧SEq s' (apDs s Ds)∧k (Ds.reverse++acc) s'=some res
 | [],s,acc,k,h=>⟨[],s,trivial,SEq.refl s,by simpa [evD] using h⟩
 | o :: r,s,acc,k,h=>by
  simp only [evD] at h;have hd:zpu E o.dst=true:=by
   cases hd:zpu E o.dst with
   | true=>rfl
   | false=>rw [hd] at h; cases h
  rw [hd] at h;simp only at h;have fin:∀ (s1:St) (D:Dn),SEq s s1→StepOK E all o s1 D→evD E all r (apD s1 D) (D :: acc) k=some res →
    ∃ Ds s',Steps E all (o :: r) s Ds∧SEq s' (apDs s Ds)∧k (Ds.reverse++acc) s'=some res:=by
   intro s1 D e hs he;obtain ⟨Ds,s',h1,h2,h3⟩:=y3e r he;refine ⟨D :: Ds,s',⟨hs.congr e.symm,h1.congr (e.symm.apD D)⟩,h2.trans ((e.symm.apD D).apDs),?_⟩
   simpa using h3
  split at h
  ·rename_i hg
   obtain ⟨v,us,h1,h2⟩:=T.run_some h;exact fin s _ (SEq.refl s) ⟨hd,rfl,rfl,by rw [hg]; exact ⟨h1,rfl⟩⟩ h2
  ·rename_i j b hg
   split at h
   ·rename_i dj hdj
    split at h
    ·rename_i c hc
     have hl:∀ c',(y71 s dj c').get dj = .bool c':=fun c'=>by simp [y71,St.get,zao]
     cases c with
     | true=>
      have e:=SEq.lit hc;cases b with
      | true=>
       simp only at h;obtain ⟨v,us,h1,h2⟩:=T.run_some h;exact fin _ _ e ⟨hd,rfl,rfl,by rw [hg]; exact .inl ⟨dj,true,hdj,hl _,.inl ⟨rfl,h1,rfl⟩⟩⟩ h2
      | false=>exact fin _ _ e ⟨hd,rfl,rfl,by rw [hg]; exact .inl ⟨dj,true,hdj,hl _,.inr ⟨by simp,rfl,rfl⟩⟩⟩ h
     | false=>
      have e:=SEq.lit hc;cases b with
      | false=>
       simp only at h;obtain ⟨v,us,h1,h2⟩:=T.run_some h;exact fin _ _ e ⟨hd,rfl,rfl,by rw [hg]; exact .inl ⟨dj,false,hdj,hl _,.inl ⟨rfl,h1,rfl⟩⟩⟩ h2
      | true=>exact fin _ _ e ⟨hd,rfl,rfl,by rw [hg]; exact .inl ⟨dj,false,hdj,hl _,.inr ⟨by simp,rfl,rfl⟩⟩⟩ h
    ·rename_i hc
     exact fin _ _ (SEq.refl s) ⟨hd,rfl,rfl,by rw [hg]; exact .inr ⟨dj,hdj,hc,rfl,rfl⟩⟩ h
    ·cases h
   ·cases h
theorem Steps.length {E:Env} {all:List Oper}:∀ {l:List Oper} {s:St} {Ds:List Dn},Steps E all l s Ds→Ds.length=l.length
 | [],_,[],_=>rfl
 | [],_,_ :: _,h=>by simp [Steps] at h
 | _ :: _,_,[],h=>by simp [Steps] at h
 | _ :: _,_,_ :: _,h=>by simp only [v05,Steps.length h.2]
theorem Steps.get {E:Env} {all:List Oper}:∀ {l:List Oper} {s:St} {Ds:List Dn} {i:Nat} {o:Oper} {D:Dn},Steps E all l s Ds→l[i]?=some o→Ds[i]?=some D→StepOK E all o (apDs s (Ds.take i)) D
 | [],_,_,_,_,_,_,h,_=>by simp at h
 | _ :: _,_,[],_,_,_,_,_,h=>by simp at h
 | o :: r,s,D :: Ds,0,_,_,h,h1,h2=>by
  simp only [v0q,v00] at h1 h2;subst h1; subst h2;exact h.1
 | o :: r,s,D :: Ds,i+1,_,_,h,h1,h2=>by
  simp only [v1e] at h1 h2;simp only [v3d,apDs];exact Steps.get h.2 h1 h2
def sel (L:Nat→Bool):Nat→List Dn→List Dn
 | _,[]=>[]
 | i,D :: r=>match L i with | true=>D :: sel L (i+1) r | false=>sel L (i+1) r
theorem zdt {L L':Nat→Bool}:∀ (l:List Dn) (i:Nat),(∀ j,i≤j→j < i+l.length→L j=L' j)→sel L i l=sel L' i l
 | [],_,_=>rfl
 | D :: r,i,h=>by
  simp only [sel];rw [h i (v08 i) (by simp),zdt r (i+1) (fun j h1 h2=>h j (by omega) (by simp only [v05]; omega))]
theorem zll:∀ (l:List Dn) (i:Nat),sel (fun _=>false) i l=[]
 | [],_=>rfl
 | D :: r,i=>by simp only [sel,zll r]
theorem yak:∀ (l:List Dn) (i:Nat),sel (fun _=>true) i l=l
 | [],_=>rfl
 | D :: r,i=>by simp only [sel,yak r]
theorem yf6 (k:Nat):∀ (l:List Dn) (i:Nat),sel (fun j=>decide (j < i+k)) i l=l.take k
 | [],i=>by simp [sel]
 | D :: r,i=>by
  cases k with
  | zero=>
   rw [zdt (L':=fun _=>false) _ _ (fun j h1 h2=>by simp; omega),zll]
   rfl
  | succ k=>
   simp only [sel];rw [show decide (i < i+(k+1))=true by simp]
   simp only [v3d,v2x,v43]
   have:=yf6 k r (i+1)
   rw [show i+(k+1)=i+1+k by omega]
   exact this
theorem zem {L L':Nat→Bool} {n:Nat}:∀ (l:List Dn) (i:Nat) {s s':St},z03 s.o n=z03 s'.o n→(∀ j D,l[j]?=some D→n∈z6x D.us→L (i+j)=L' (i+j))→z03 (apDs s (sel L i l)).o n=z03 (apDs s' (sel L' i l)).o n
 | [],_,_,_,h,_=>h
 | D :: r,i,s,s',h,hl=>by
  have hr:∀ j E,r[j]?=some E→n∈z6x E.us→L (i+1+j)=L' (i+1+j):=fun j E hj hn=>by
   have:=hl (j+1) E (by simpa using hj) hn
   rwa [show i+(j+1)=i+1+j by omega] at this
  have one:∀ {s:St},n ∉ z6x D.us→z03 (apD s D).o n=z03 s.o n:=fun h=>zdi h
  by_cases hn:n∈z6x D.us
  ·have h0:=hl 0 D rfl hn
   simp only [v1j] at h0;simp only [sel,h0];cases L' i with
   | true=>exact zem r (i+1) (y56 hn) hr
   | false=>exact zem r (i+1) h hr
  ·simp only [sel]
   cases L i <;> cases L' i <;> simp only [apDs]
   ·exact zem r (i+1) h hr
   ·exact zem r (i+1) (h.trans (one hn).symm) hr
   ·exact zem r (i+1) ((one hn).trans h) hr
   ·exact zem r (i+1) ((one hn).trans (h.trans (one hn).symm)) hr
theorem zco (s:St) (D:Dn) (t:Nat):(apD s D).get t=if D.dst=some t then D.v else s.get t:=by
 unfold apD;cases hd:D.dst with
 | none=>simp [St.put,St.get]
 | some d=>
  have:=yfo s d D.v t
  simp only [v00];exact this
theorem zfd {L L':Nat→Bool} {t:Nat}:∀ (l:List Dn) (i:Nat) {s s':St},s.get t=s'.get t→(∀ j D,l[j]?=some D→D.dst=some t→L (i+j)=L' (i+j))→(apDs s (sel L i l)).get t=(apDs s' (sel L' i l)).get t
 | [],_,_,_,h,_=>h
 | D :: r,i,s,s',h,hl=>by
  have hr:∀ j E,r[j]?=some E→E.dst=some t→L (i+1+j)=L' (i+1+j):=fun j E hj hn=>by
   have:=hl (j+1) E (by simpa using hj) hn
   rwa [show i+(j+1)=i+1+j by omega] at this
  by_cases hn:D.dst=some t
  ·have h0:=hl 0 D rfl hn
   simp only [v1j] at h0;simp only [sel,h0];cases L' i with
   | true=>exact zfd r (i+1) (by rw [zco,zco,v1c hn,v1c hn]) hr
   | false=>exact zfd r (i+1) h hr
  ·simp only [sel]
   cases L i <;> cases L' i <;> simp only [apDs]
   ·exact zfd r (i+1) h hr
   ·exact zfd r (i+1) (by rw [zco,v0x hn]; exact h) hr
   ·exact zfd r (i+1) (by rw [zco,v0x hn]; exact h) hr
   ·exact zfd r (i+1) (by rw [zco,zco,v0x hn,v0x hn]; exact h) hr
theorem yay {L:Nat→Bool} {n:Nat}:∀ (l:List Dn) (i:Nat) {s:St},Fr n s→(∀ j D,l[j]?=some D→L (i+j)=true→zhd D.v=true∧n ∉ za5 D.v∧∀ u∈D.us,∀ m ob,(u = .new m ob∨u = .set m ob)→z4v n (some ob)=some ob)→Fr n (apDs s (sel L i l))
 | [],_,_,h,_=>h
 | D :: r,i,s,h,hl=>by
  have hr:∀ j E,r[j]?=some E→L (i+1+j)=true→zhd E.v=true∧n ∉ za5 E.v∧∀ u∈E.us,∀ m ob,(u = .new m ob∨u = .set m ob)→z4v n (some ob)=some ob:=fun j E hj hn=>by
   refine hl (j+1) E (by simpa using hj) ?_
   rwa [show i+(j+1)=i+1+j by omega]
  simp only [sel];cases hL:L i with
  | false=>exact yay r (i+1) h hr
  | true=>
   refine yay r (i+1) ?_ hr;obtain ⟨h1,h2,h3⟩:=hl 0 D rfl hL;refine ⟨fun t=>?_,?_⟩
   ·rw [zco]
    split
    ·exact y6a h1 h2
    ·exact h.t t
   ·have key:∀ (us:List Upd) (o:Store),(∀ u∈us,∀ m ob,(u = .new m ob∨u = .set m ob)→z4v n (some ob)=some ob)→(∀ m,z4v n (z03 o m)=z03 o m)→∀ m,z4v n (z03 (zug us o) m)=z03 (zug us o) m:=by
     intro us
     induction us with
     | nil=>intro o _ h; exact h
     | cons u us ih=>
      intro o hu ho;have hu':=fun u' hu'=>hu u' (v0b _ hu')
      cases u with
      | kill k=>exact ih _ hu' (fun m=>by rw [z01]; split <;> first | rfl | exact ho m)
      | set k ob=>exact ih _ hu' (fun m=>by rw [z01]; split <;> first | exact hu _ (v09 ..) k ob (.inr rfl) | exact ho m)
      | new k ob=>exact ih _ hu' (fun m=>by rw [z01]; split <;> first | exact hu _ (v09 ..) k ob (.inl rfl) | exact ho m)
    exact key D.us s.o h3 h.o
theorem zrx {L:Nat→Bool}:∀ (l l':List Dn) (i:Nat),sel L i (l++l')=sel L i l++sel L (i+l.length) l'
 | [],l',i=>by simp [sel]
 | D :: r,l',i=>by
  simp only [v1x,sel,v05];rw [show i+(r.length+1)=i+1+r.length by omega]
  cases L i <;> simp [zrx r l' (i+1)]
open Go Go.RowKit
theorem zmb:∀ (l:List (List Nat)) (i:Nat),zlw l i=(l[i]?).getD []
 | [],i=>by simp [zlw]
 | x :: r,0=>rfl
 | x :: r,i+1=>by simp only [zlw,zmb r i,v1e]
theorem zhk {acc:List (List Nat)} {j:Nat}:∀ {es:List Edge},j∈znx acc es→∃ e∈es,Region.binds .any e=true∧(j=e.on∨j∈zlw acc e.on)
 | [],h=>by simp [znx] at h
 | e :: r,h=>by
  simp only [znx] at h
  split at h
  ·rename_i hb
   simp only [v13,v0k] at h;rcases h with h | h | h
   ·exact ⟨e,v09 ..,hb,.inl h⟩
   ·exact ⟨e,v09 ..,hb,.inr h⟩
   ·obtain ⟨e',h1,h2⟩:=zhk h
    exact ⟨e',v0b _ h1,h2⟩
  ·obtain ⟨e',h1,h2⟩:=zhk h
   exact ⟨e',v0b _ h1,h2⟩
def ydo (acc:List Nat):List Nat→List Nat
 | []=>acc
 | n :: r=>match zyj n acc with
  | true=>ydo acc r
  | false=>ydo (n :: acc) r
theorem zj1 (k:List Nat→List (List Nat)):∀ (l acc:List Nat),yio acc l k=k (ydo acc l)
 | [],_=>rfl
 | n :: r,acc=>by
  simp only [yio,ydo];cases zyj n acc with
  | true=>exact zj1 k r acc
  | false=>exact zj1 k r (n :: acc)
theorem zy9 {j:Nat}:∀ {l acc:List Nat},j∈ydo acc l→j∈acc∨j∈l
 | [],_,h=>.inl h
 | n :: r,acc,h=>by
  simp only [ydo] at h;cases hb:zyj n acc with
  | true=>
   rw [hb] at h;exact (zy9 h).imp_right (v0b _)
  | false=>
   rw [hb] at h;rcases zy9 h with h1 | h1
   ·rcases v13.1 h1 with rfl | h1
    ·exact .inr (v09 ..)
    ·exact .inl h1
   ·exact .inr (v0b _ h1)
theorem ybc {j:Nat} {l:List Nat} (h:j∈ydo [] l):j∈l:=(zy9 h).resolve_left (by simp)
theorem zj3:∀ (l:List Oper) (acc:List (List Nat)) (i:Nat),i < acc.length→zlw (z4l acc l) i=zlw acc i
 | [],_,_,_=>rfl
 | o :: r,acc,i,h=>by
  simp only [z4l,zj1];rw [zj3 r _ i (by simp; omega),zmb,zmb,v3o h]
theorem zjg:∀ (l:List Oper) (acc:List (List Nat)) (i:Nat) (o:Oper),l[i]?=some o →
  ∃ acc',acc'.length=acc.length+i∧zlw (z4l acc l) (acc.length+i)=ydo [] (znx acc' o.after.toList)∧∀ k,k < acc'.length→zlw acc' k=zlw (z4l acc l) k
 | [],_,_,_,h=>by simp at h
 | o :: r,acc,0,o',h=>by
  simp only [v0q,v00] at h;subst h;refine ⟨acc,rfl,?_,fun k hk=>?_⟩
  ·simp only [z4l,zj1,v1j]
   rw [zj3 r _ acc.length (by simp),zmb]
   simp
  ·simp only [z4l,zj1]
   rw [zj3 r _ k (by simp; omega),zmb,zmb,v3o hk]
 | o :: r,acc,i+1,o',h=>by
  simp only [v1e] at h;obtain ⟨acc',h1,h2,h3⟩:=zjg r (acc++[ydo [] (znx acc o.after.toList)]) i o' h;simp only [v0a,v05,v0o] at h1 h2;refine ⟨acc',by omega,?_,fun k hk=>by rw [z4l,zj1]; exact h3 k hk⟩
  rw [show acc.length+(i+1)=acc.length+(0+1)+i by omega,z4l,zj1]
  exact h2
theorem zeq:∀ {l:List Oper} {k i:Nat} {o:Oper} {e:Edge},zf2 k l=true→l[i]?=some o→e∈o.after.toList→Region.binds .any e=true→e.on < k+i
 | [],_,_,_,_,_,h,_,_=>by simp at h
 | o :: r,k,0,o',e,hu,h,he,hb=>by
  simp only [v0q,v00] at h;subst h;simp only [zf2,v02] at hu;have key:∀ (es:List Edge),zf2.go k es=true→e∈es→e.on < k:=by
   intro es
   induction es with
   | nil=>intro _ h; cases h
   | cons x es ih=>
    intro hg hm;simp only [zf2.go] at hg;rcases v13.1 hm with h1 | h1
    ·subst h1
     rw [hb] at hg;simp only [v02] at hg;exact v03 hg.1
    ·split at hg
     ·simp only [v02] at hg
      exact ih hg.2 h1
     ·exact ih hg h1
  exact key _ hu.1 he
 | o :: r,k,i+1,o',e,hu,h,he,hb=>by
  simp only [v1e] at h;simp only [zf2,v02] at hu
  have:=zeq hu.2 h he hb
  omega
section
variable {ops:List Oper}
def yfe (ops:List Oper) (L:Nat→Bool):Prop:=∀ i o,ops[i]?=some o→L i=true→∀ e∈o.after.toList,Region.binds .any e=true→L e.on=true
theorem y7a (hu:zf2 0 ops=true):∀ (i:Nat) {o:Oper},ops[i]?=some o→∀ j∈zlw (z4l [] ops) i,j < i:=by
 intro i
 induction i using Nat.strongRecOn with
 | _ i ih=>
  intro o ho j hj;obtain ⟨acc',h1,h2,h3⟩:=zjg ops [] i o ho;simp only [v0o,v0n] at h1 h2;rw [h2] at hj;obtain ⟨e,he,hb,h4⟩:=zhk (ybc hj);have hlt:=zeq hu ho he hb;rw [v0n] at hlt;rcases h4 with h4 | h4
  ·omega
  ·have hk:e.on < acc'.length:=by omega
   rw [h3 _ hk] at h4;have hlen:i < ops.length:=(List.getElem?_eq_some_iff.1 ho).1
   have:=ih e.on hlt (o:=ops[e.on]'(by omega)) (by simp [Nat.lt_trans hlt hlen]) j h4
   omega
theorem zqn {L:Nat→Bool} (hu:zf2 0 ops=true) (hL:yfe ops L):∀ (i:Nat) {o:Oper},ops[i]?=some o→(∀ e∈o.after.toList,Region.binds .any e=true→L e.on=true)→∀ j∈zlw (z4l [] ops) i,L j=true:=by
 intro i
 induction i using Nat.strongRecOn with
 | _ i ih=>
  intro o ho hr j hj;obtain ⟨acc',h1,h2,h3⟩:=zjg ops [] i o ho;simp only [v0o,v0n] at h1 h2;rw [h2] at hj;obtain ⟨e,he,hb,h4⟩:=zhk (ybc hj);have hlt:=zeq hu ho he hb;rw [v0n] at hlt;rcases h4 with h4 | h4
  ·subst h4
   exact hr e he hb
  ·have hk:e.on < acc'.length:=by omega
   rw [h3 _ hk] at h4;have hlen:i < ops.length:=(List.getElem?_eq_some_iff.1 ho).1;have hg:ops[e.on]?=some (ops[e.on]'(by omega)):=by simp [Nat.lt_trans hlt hlen]
   exact ih e.on hlt hg (hL e.on _ hg (hr e he hb)) j h4
end
theorem ybi {d:Option Nat} {l:List Nat} (h:yif d l=false):∀ t,d=some t→t ∉ l:=by
 rintro t rfl
 exact zk7.1 h
theorem yc3 {d e:Option Nat} (h:yh2 d e=false):∀ t,d=some t→e≠some t:=by
 rintro t rfl h'
 subst h';simp only [yh2] at h;exact z42.1 h rfl
theorem zux {ps:List (List Nat)} {pi:List Nat} {i:Nat} {x:Dn}:∀ {l:List Dn} {k j:Nat} {y:Dn},zw9 ps pi i x k l=true→l[j]?=some y→i≠k+j→y2l pi (zlw ps (k+j)) i (k+j) x y=true
 | [],_,_,_,_,h,_=>by simp at h
 | z :: r,k,0,y,h,hy,hne=>by
  simp only [v0q,v00] at hy;subst hy;simp only [zw9,v02,v2y] at h;rcases h.1 with h1 | h1
  ·exact absurd (z1j.1 h1) hne
  ·exact h1
 | z :: r,k,j+1,y,h,hy,hne=>by
  simp only [v1e] at hy;simp only [zw9,v02] at h
  have:=zux (k:=k+1) h.2 hy (by omega)
  rw [show k+(j+1)=k+1+j by omega]
  exact this
theorem zv1 {ps:List (List Nat)} {all:List Dn}:∀ {l:List Dn} {k i:Nat} {x:Dn},y1h ps all k l=true→l[i]?=some x→zw9 ps (zlw ps (k+i)) (k+i) x 0 all=true
 | [],_,_,_,_,h=>by simp at h
 | z :: r,k,0,x,h,hx=>by
  simp only [v0q,v00] at hx;subst hx;simp only [y1h,v02] at h;exact h.1
 | z :: r,k,i+1,x,h,hx=>by
  simp only [v1e] at hx;simp only [y1h,v02] at h
  have:=zv1 (k:=k+1) h.2 hx
  rw [show k+(i+1)=k+1+i by omega]
  exact this
theorem zw4 {ds:List Nat}:∀ {l:List Nat},y7v ds l=true→∀ n∈l,zpi ds n=true
 | [],_,n,h=>by cases h
 | m :: r,h,n,hn=>by
  simp only [y7v,v02] at h;rcases v13.1 hn with e | e
  ·subst e; exact h.1
  ·exact zw4 h.2 n e
theorem zpr {ds:List Nat}:∀ {l:List Dn} {i:Nat} {x:Dn},y9y ds l=true→l[i]?=some x→zhd x.v=true∧y9v x.us=true∧∀ n∈zpf x.us,zpi ds n=true
 | [],_,_,_,h=>by simp at h
 | z :: r,0,x,h,hx=>by
  simp only [v0q,v00] at hx;subst hx;simp only [y9y,v02] at h;exact ⟨h.1,h.2.1,zw4 h.2.2.1⟩
 | z :: r,i+1,x,h,hx=>by
  simp only [v1e] at hx;simp only [y9y,v02] at h;exact zpr h.2.2.2 hx
theorem y68 {n:Nat}:∀ {us:List Upd},y9v us=true→n ∉ yfc us→∀ u∈us,∀ m ob,(u = .new m ob∨u = .set m ob)→z4v n (some ob)=some ob
 | [],_,_,u,hu,_,_,_=>by cases hu
 | u :: r,ho,hn,u',hu',m,ob,he=>by
  have h1:y9v r=true∧n ∉ yfc r∧(∀ m ob,(u = .new m ob∨u = .set m ob)→z4v n (some ob)=some ob):=by
   cases u with
   | kill k=>exact ⟨ho,hn,fun m ob h=>by rcases h with h | h <;> cases h⟩
   | set k ob'=>
    simp only [y9v,v02] at ho;simp only [yfc,v0k,not_or] at hn;refine ⟨ho.2.2,hn.2,fun m ob h=>?_⟩
    rcases h with h | h <;> cases h
    exact zlq ho.1 hn.1
   | new k ob'=>
    simp only [y9v,v02] at ho;simp only [yfc,v0k,not_or] at hn;refine ⟨ho.2.2,hn.2,fun m ob h=>?_⟩
    rcases h with h | h <;> cases h
    exact zlq ho.1 hn.1
  rcases v13.1 hu' with h | h
  ·subst h
   exact h1.2.2 m ob he
  ·exact y68 h1.1 h1.2.1 u' h m ob he
theorem zmm {t:Nat}:∀ {l:List Operand},Operand.tmp t∈l→t∈zsi l
 | x :: r,h=>by
  rcases v13.1 h with h1 | h1
  ·subst h1; exact v09 ..
  ·cases x <;> simp only [zsi,v13] <;> first | exact .inr (zmm h1) | exact zmm h1
theorem y11 {α:Type} {p q:α→Bool}:∀ {l:List α},(∀ x∈l,q x=true→p x=true)→(∃ x∈l,p x=true∧q x=false)→l.countP q < l.countP p
 | [],_,⟨_,h,_⟩=>by cases h
 | y :: r,h,⟨x,hx,h1,h2⟩=>by
  have hr:r.countP q≤r.countP p:=by
   clear hx;have h':∀ x∈r,q x=true→p x=true:=fun x hx=>h x (v0b _ hx)
   exact List.countP_mono_left h'
  rcases v13.1 hx with e | e
  ·subst e
   rw [v3e h1,List.countP_cons_of_neg (by simp [h2])]
   omega
  ·have:=y11 (l:=r) (fun x hx=>h x (v0b _ hx)) ⟨x,e,h1,h2⟩
   by_cases hq:q y=true
   ·rw [v3e (h y (v09 ..) hq),v3e hq]
    omega
   ·rw [List.countP_cons_of_neg hq]
    by_cases hp:p y=true
    ·rw [v3e hp]; omega
    ·rw [List.countP_cons_of_neg hp]; omega
section
variable {B:BT} {nt:Nat} {w0:World} {X:Zone} {γ:Nat→Value} {st st':St} {a:Act} {w:World} {P:Program} {E:Env}
variable (hT:TiOK P B E) (hE:∀ t,t∈E.eqs→EqSnd P t (E.tyd t).ks) (hSp:SpOK P B E w0 X) (hB:BldOK P B E) (hnt:E.nt=nt) (hn9:nt≤900000)
include hT hE hSp hB hnt hn9
theorem yej {Q:Exit→Act→World→Prop} {ops:Array Oper} {s0:St} {Ds:List Dn} (hs:Steps E ops.toList ops.toList s0 Ds) (hfree:ygl ops.toList Ds=true)
  (hfr:∀ n,zpi (zs8 ops.toList) n=true→Fr n s0) (hQ:∀ γ' a' w',Rel B nt w0 X γ' (apDs s0 Ds) a' w'→Q .normal a' w') :
  ∀ (fuel:Nat) (listed:Array Bool) {γ:Nat→Value} {a:Act} {w:World},listed.size=ops.size→yfe ops.toList (fun i=>listed.getD i false) →
   (List.range ops.size).countP (fun i=>!listed.getD i false)≤fuel→Rel B nt w0 X γ (apDs s0 (sel (fun i=>listed.getD i false) 0 Ds)) a w→wpAny P .any ops Q fuel listed a w:=by
 have hlen:Ds.length=ops.size:=by simpa using hs.length
 simp only [ygl,v02] at hfree;obtain ⟨hup,hone,hpairs⟩:=hfree;have hgd:∀ (listed:Array Bool) (i:Nat),listed.size=ops.size→i < ops.size→listed.getD i true=listed.getD i false:=fun listed i h1 h2=>by
  simp [Array.getD,h1,h2]
 have hready:∀ (listed:Array Bool) (i:Nat),listed.size=ops.size→(i∈Region.ready .any ops listed↔∃ o,ops.toList[i]?=some o∧listed.getD i false=false∧∀ e∈o.after.toList,Region.binds .any e=true→listed.getD e.on false=true):=by
  intro listed i hsz;simp only [Region.ready,List.mem_filter,List.mem_range,v02,v12];constructor
  ·rintro ⟨h1,h2,h3⟩
   refine ⟨ops[i],by simp [h1],by rw [← hgd listed i hsz h1]; exact h2,fun e he hb=>?_⟩
   simp only [Array.getElem?_eq_getElem h1,v2d,v1w,Array.all_eq_true_iff_forall_mem,v2y,v12] at h3;rcases h3 e (by simpa using he) with h4 | h4
   ·rw [hb] at h4; cases h4
   ·exact h4
  ·rintro ⟨o,ho,h2,h3⟩
   obtain ⟨h1,rfl⟩:=List.getElem?_eq_some_iff.1 ho;simp only [v16] at h1;refine ⟨h1,by rw [hgd listed i hsz h1]; exact h2,?_⟩
   simp only [Array.getElem?_eq_getElem h1,v2d,v1w,Array.all_eq_true_iff_forall_mem,v2y,v12];intro e he;cases hb:Region.binds .any e with
   | false=>exact .inl rfl
   | true=>exact .inr (h3 e (by simpa using he) hb)
 have hend:∀ (listed:Array Bool) {γ:Nat→Value} {a:Act} {w:World},(∀ i,i < ops.size→listed.getD i false=true)→Rel B nt w0 X γ (apDs s0 (sel (fun i=>listed.getD i false) 0 Ds)) a w→Q .normal a w:=by
  intro listed γ a w hall h;rw [zdt (L':=fun _=>true) _ _ (fun j _ h2=>hall j (by omega)),yak] at h
  exact hQ γ a w h
 have hnil:∀ (listed:Array Bool),listed.size=ops.size→Region.ready .any ops listed=[]→∀ i,i < ops.size→listed.getD i false=true:=by
  intro listed hsz hr i
  induction i using Nat.strongRecOn with
  | _ i ih=>
   intro hi;cases hL:listed.getD i false with
   | true=>rfl
   | false=>
    exfalso;have hm:i∈Region.ready .any ops listed:=by
     refine (hready listed i hsz).2 ⟨ops[i],by simp [hi],hL,fun e he hb=>?_⟩
     have:=zeq (i:=i) hup (by simp [hi]:ops.toList[i]?=some ops[i]) he hb
     exact ih e.on (by omega) (by omega)
    rw [hr] at hm;cases hm
 intro fuel
 induction fuel with
 | zero=>
  intro listed γ a w hsz hcl hcount h;have hall:∀ i,i < ops.size→listed.getD i false=true:=by
   intro i hi;have h0:(List.range ops.size).countP (fun i=>!listed.getD i false)=0:=by omega
   have:=(List.countP_eq_zero.1 h0) i (List.mem_range.2 hi)
   simpa using this
  refine ⟨?_,hend listed hall h⟩;refine List.eq_nil_iff_forall_not_mem.2 (fun i hi=>?_)
  obtain ⟨o,ho,h2,_⟩:=(hready listed i hsz).1 hi;have h1:i < ops.size:=by simpa using (List.getElem?_eq_some_iff.1 ho).1
  rw [hall i h1] at h2;cases h2
 | succ fuel ih=>
  intro listed γ a w hsz hcl hcount h;refine ⟨fun hr=>hend listed (hnil listed hsz hr) h,fun i hi=>?_⟩
  obtain ⟨o,ho,hLi,hedges⟩:=(hready listed i hsz).1 hi;have hi':i < ops.size:=by simpa using (List.getElem?_eq_some_iff.1 ho).1
  have hoi:ops[i]?=some o:=by simpa using ho
  obtain ⟨D,hD⟩:∃ D,Ds[i]?=some D:=⟨Ds[i]'(by omega),by simp [hlen,hi']⟩
  generalize hLdef:(fun i=>listed.getD i false)=L at *
  have hL:∀ j,listed.getD j false=L j:=fun j=>congrFun hLdef j
  simp only [hL] at hLi hedges;have hin:∀ j∈zlw (z4l [] ops.toList) i,L j=true:=zqn hup hcl i ho hedges;have hout:∀ j D',Ds[j]?=some D'→L j=true→i ∉ zlw (z4l [] ops.toList) j:=by
   intro j D' hj hLj hm;have hj':j < ops.size:=by have:=(List.getElem?_eq_some_iff.1 hj).1; omega
   have hoj:ops.toList[j]?=some ops[j]:=by simp [hj']
   have:=zqn hup hcl j hoj (hcl j _ hoj hLj) i hm
   rw [hLi] at this;cases this
  have hlt:∀ j,j∈zlw (z4l [] ops.toList) i→j < i:=y7a hup i ho;have hltj:∀ j D',Ds[j]?=some D'→i∈zlw (z4l [] ops.toList) j→i < j:=by
   intro j D' hj hm;have hj':j < ops.size:=by have:=(List.getElem?_eq_some_iff.1 hj).1; omega
   exact y7a hup j (by simp [hj']:ops.toList[j]?=some ops[j]) i hm
  have hpair:∀ j D',Ds[j]?=some D'→i≠j→y2l (zlw (z4l [] ops.toList) i) (zlw (z4l [] ops.toList) j) i j D D'=true:=by
   intro j D' hj hne;have h1:=zv1 (k:=0) hpairs hD;rw [v0n] at h1;have h2:=zux (k:=0) h1 hj (by omega)
   rwa [v0n] at h2
  have hunord:∀ j D',Ds[j]?=some D'→i≠j→i ∉ zlw (z4l [] ops.toList) j→j ∉ zlw (z4l [] ops.toList) i →
    (∀ t,D'.dst=some t→t ∉ D.tm)∧(∀ t,D.dst=some t→D'.dst≠some t)∧(∀ n∈z6x D'.us,n ∉ D.rd)∧(∀ n∈z6x D.us,n ∉ z6x D'.us):=by
   intro j D' hj hne h1 h2;have hp:=hpair j D' hj hne;simp only [y2l,zk7.2 h1,zk7.2 h2,v02,v12] at hp;exact ⟨ybi hp.2.1,yc3 hp.2.2.1,zhp.1 hp.2.2.2.1,zhp.1 hp.2.2.2.2⟩
  have hdiff:∀ j D',Ds[j]?=some D'→L j≠decide (j < i)→i≠j∧i ∉ zlw (z4l [] ops.toList) j∧j ∉ zlw (z4l [] ops.toList) i:=by
   intro j D' hj hne;cases hLj:L j with
   | true=>
    rw [hLj] at hne;have hji:¬ j < i:=fun h=>hne (by simp [h])
    have hij:i≠j:=fun e=>by subst e; rw [hLi] at hLj; cases hLj
    exact ⟨hij,hout j D' hj hLj,fun hm=>hji (hlt j hm)⟩
   | false=>
    rw [hLj] at hne;have hji:j < i:=by
     rcases v1u j i with h | h
     ·exact h
     ·exact absurd (by simp; omega) hne
    refine ⟨by omega,fun hm=>?_,fun hm=>?_⟩
    ·have:=hltj j D' hj hm; omega
    ·have:=hin j hm; rw [hLj] at this; cases this
  have hstep:=Steps.get hs ho hD;have htake:apDs s0 (Ds.take i)=apDs s0 (sel (fun j=>decide (j < i)) 0 Ds):=by
   have:=yf6 i Ds 0
   rw [v0n] at this;rw [this]
  rw [htake] at hstep;have hobj:∀ n∈D.rd,z03 (apDs s0 (sel L 0 Ds)).o n=z03 (apDs s0 (sel (fun j=>decide (j < i)) 0 Ds)).o n:=by
   intro n hn;refine zem Ds 0 rfl (fun j D' hj hnm=>?_)
   rw [v0n];refine Decidable.byContradiction (fun hne=>?_)
   obtain ⟨h1,h2,h3⟩:=hdiff j D' hj hne;exact (hunord j D' hj h1 h2 h3).2.2.1 n hnm hn
  have htm:∀ t∈D.tm,(apDs s0 (sel L 0 Ds)).get t=(apDs s0 (sel (fun j=>decide (j < i)) 0 Ds)).get t:=by
   intro t ht;refine zfd Ds 0 rfl (fun j D' hj hnm=>?_)
   rw [v0n];refine Decidable.byContradiction (fun hne=>?_)
   obtain ⟨h1,h2,h3⟩:=hdiff j D' hj hne;exact (hunord j D' hj h1 h2 h3).1 t hnm ht
  have hafter:SEq (apD (apDs s0 (sel L 0 Ds)) D) (apDs s0 (sel (fun j=>(listed.setIfInBounds i true).getD j false) 0 Ds)):=by
   have hset:∀ j,(listed.setIfInBounds i true).getD j false=(L j||Nat.beq j i):=by
    intro j;rw [← hL j];simp only [v29,Array.getElem?_setIfInBounds,hsz]
    by_cases e:i=j
    ·subst e
     simp [hi',v32]
    ·rw [v0x e,z42.2 (fun h=>e h.symm),v3l]
   rw [show (fun j=>(listed.setIfInBounds i true).getD j false)=(fun j=>L j||Nat.beq j i) from funext hset]
   have hsplit:Ds=Ds.take i++D :: Ds.drop (i+1):=by
    have hi2:i < Ds.length:=by omega
    have h1:Ds[i]=D:=by have:=List.getElem?_eq_some_iff.1 hD; exact this.2
    rw [← h1];simp
   have hlate:∀ j D',(Ds.drop (i+1))[j]?=some D'→L (i+1+j)=true→(∀ t,D.dst=some t→D'.dst≠some t)∧∀ n∈z6x D.us,n ∉ z6x D'.us:=by
    intro j D' hj hLj;have hj':Ds[i+1+j]?=some D':=by rw [← hj,v1r]
    have h2:=hout _ D' hj' hLj;have h3:i+1+j ∉ zlw (z4l [] ops.toList) i:=fun hm=>by have:=hlt _ hm; omega
    exact ⟨(hunord _ D' hj' (by omega) h2 h3).2.1,(hunord _ D' hj' (by omega) h2 h3).2.2.2⟩
   have hli:(Ds.take i).length=i:=by simp; omega
   have hR:∀ s,apDs s (sel (fun j=>L j||Nat.beq j i) 0 Ds)=apDs (apD (apDs s (sel L 0 (Ds.take i))) D) (sel L (i+1) (Ds.drop (i+1))):=by
    intro s;rw [show sel (fun j=>L j||Nat.beq j i) 0 Ds=sel (fun j=>L j||Nat.beq j i) 0 (Ds.take i++D :: Ds.drop (i+1)) by rw [← hsplit]]
    rw [zrx,zj4,hli,v0n];simp only [sel,v32,Bool.or_true,apDs];rw [zdt (L':=L) (Ds.take i) 0 (fun j _ h2=>by rw [z42.2 (by omega),v3l]),zdt (L':=L) (Ds.drop (i+1)) (i+1) (fun j h1 _=>by rw [z42.2 (by omega),v3l])]
   have hLs:∀ s,apDs s (sel L 0 Ds)=apDs (apDs s (sel L 0 (Ds.take i))) (sel L (i+1) (Ds.drop (i+1))):=by
    intro s;rw [show sel L 0 Ds=sel L 0 (Ds.take i++D :: Ds.drop (i+1)) by rw [← hsplit]]
    rw [zrx,zj4,hli,v0n];simp only [sel,hLi]
   rw [hR,hLs];generalize apDs s0 (sel L 0 (Ds.take i))=s1;refine ⟨fun t=>?_,fun n=>?_⟩
   ·by_cases e:D.dst=some t
    ·rw [zco,v1c e]
     have:(apDs (apD s1 D) (sel L (i+1) (Ds.drop (i+1)))).get t=(apDs (apD s1 D) (sel (fun _=>false) (i+1) (Ds.drop (i+1)))).get t:=by
      refine zfd _ _ rfl (fun j D' hj hd=>?_)
      cases hLj:L (i+1+j) with
      | false=>rfl
      | true=>exact absurd hd ((hlate j D' hj hLj).1 t e)
     rw [this,zll];simp only [apDs];rw [zco,v1c e]
    ·rw [zco,v0x e]
     exact zfd _ _ (by rw [zco,v0x e]) (fun _ _ _ _=>rfl)
   ·by_cases e:n∈z6x D.us
    ·have:z03 (apDs (apD s1 D) (sel L (i+1) (Ds.drop (i+1)))).o n=z03 (apDs (apD s1 D) (sel (fun _=>false) (i+1) (Ds.drop (i+1)))).o n:=by
      refine zem _ _ rfl (fun j D' hj hd=>?_)
      cases hLj:L (i+1+j) with
      | false=>rfl
      | true=>exact absurd hd ((hlate j D' hj hLj).2 n e)
     rw [this,zll];exact y56 e
    ·have h1:z03 (apD (apDs s1 (sel L (i+1) (Ds.drop (i+1)))) D).o n=z03 (apDs s1 (sel L (i+1) (Ds.drop (i+1)))).o n:=zdi e
     rw [h1];exact zem _ _ (zdi e).symm (fun _ _ _ _=>rfl)
  have hnext:∀ γ' a' w',Rel B nt w0 X γ' (apD (apDs s0 (sel L 0 Ds)) D) a' w'→wpAny P .any ops Q fuel (listed.setIfInBounds i true) a' w':=by
   intro γ' a' w' h';have hset:∀ j,(listed.setIfInBounds i true).getD j false=(L j||Nat.beq j i):=by
    intro j;rw [← hL j];simp only [v29,Array.getElem?_setIfInBounds,hsz]
    by_cases e:i=j
    ·subst e
     simp [hi',v32]
    ·rw [v0x e,z42.2 (fun h=>e h.symm),v3l]
   refine ih (listed.setIfInBounds i true) (by simpa using hsz) ?_ ?_ (h'.seq hafter)
   ·intro j o' ho' hLj e he hb
    simp only [hset] at hLj ⊢
    by_cases e':j=i
    ·subst e'
     rw [ho] at ho';simp only [v00] at ho';subst ho';rw [hedges e he hb]
     rfl
    ·rw [z42.2 e',v3l] at hLj
     rw [hcl j o' ho' hLj e he hb]
     rfl
   ·have:(List.range ops.size).countP (fun j=>!(listed.setIfInBounds i true).getD j false) < (List.range ops.size).countP (fun j=>!listed.getD j false):=by
     refine y11 (fun j _ hj=>?_) ⟨i,List.mem_range.2 hi',by rw [hL,hLi]; rfl,by rw [hset,v32,Bool.or_true]; rfl⟩
     rw [hset] at hj;rw [hL];cases hLj:L j <;> simp_all
    simp only [hL] at this hcount;omega
  obtain ⟨hok,hdst,htms,hguard⟩:=hstep;have hclean:=zpr hone hD;have run:(z4r E (apDs s0 (sel (fun j=>decide (j < i)) 0 Ds)).o (opd (apDs s0 (sel (fun j=>decide (j < i)) 0 Ds))) o.dst o.op).get=some (D.v,D.us)→D.rd=reads E (apDs s0 (sel (fun j=>decide (j < i)) 0 Ds)).o (opd (apDs s0 (sel (fun j=>decide (j < i)) 0 Ds))) o.op →
    (∀ x∈o.op.operands.toList,∀ t,x = .tmp t→t∈D.tm)→o.wp P a w (wpAny P .any ops Q fuel (listed.setIfInBounds i true)) Q:=by
   intro he hrd htmo;have h1:z4r E (apDs s0 (sel L 0 Ds)).o (opd (apDs s0 (sel L 0 Ds))) o.dst o.op=z4r E (apDs s0 (sel (fun j=>decide (j < i)) 0 Ds)).o (opd (apDs s0 (sel (fun j=>decide (j < i)) 0 Ds))) o.dst o.op:=by
    rw [y7z (ρ:=opd (apDs s0 (sel L 0 Ds))) (ρ':=opd (apDs s0 (sel (fun j=>decide (j < i)) 0 Ds))) (fun x hx=>?_)]
    ·exact zw3 (fun n hn=>hobj n (by rw [hrd]; exact hn))
    ·cases x with
     | tmp t=>exact htm t (htmo _ hx t rfl)
     | _=>rfl
   rw [← h1] at he;have hn9':∀ d,o.dst=some d→d≠900000:=fun d hdd e=>by
    subst e;rw [hdd] at hok;simp only [zpu] at hok;have h8:900000+1≤E.nt:=v03 hok;omega
   refine yf8 hT hE hSp hB h o hn9' he _ _ (fun γ' x w' h3 h4=>hnext γ' _ w' ?_)
   refine (h3.put hnt hok h4).seq ?_;have hfr':∀ n∈zpf D.us,Fr n (apDs s0 (sel L 0 Ds)):=by
    intro n hn;refine yay Ds 0 (hfr n (hclean.2.2 n hn)) (fun j D' hj hLj=>?_)
    rw [v0n] at hLj;have hne:i≠j:=fun e=>by subst e; rw [hLi] at hLj; cases hLj
    have hp:=hpair j D' hj hne;simp only [y2l,zk7.2 (hout j D' hj hLj),v02] at hp;have hdj:=zhp.1 hp.1 n hn;simp only [v0k,not_or] at hdj;have hc':=zpr hone hj;exact ⟨hc'.1,hdj.1,y68 hc'.2.1 hdj.2⟩
   have:=(zz7 hfr' hclean.2.1).put o.dst D.v
   refine this.trans ?_;rw [← hdst];cases hdd:D.dst <;> exact ⟨fun t=>by simp only [apD,hdd,St.put]; try rfl,fun n=>by simp only [apD,St.put]⟩
  unfold wpOp;rw [hoi];simp only;have htmo:∀ x∈o.op.operands.toList,∀ t,x = .tmp t→t∈D.tm:=by
   rintro x hx t rfl
   have:=zmm hx
   rw [htms];unfold zi6
   split
   ·split
    ·exact v0b _ this
    ·exact this
   ·exact this
  split at hguard
  ·rename_i hg
   rw [v1c (by simp [Region.wanted,hg])]
   exact .inl (run hguard.1 hguard.2 htmo)
  ·rename_i j b hg
   have skip:D.v = .tup []→D.us=[]→Region.wanted o (yielded ops a.tmps)=false→(if Region.wanted o (yielded ops a.tmps)=true then o.wp P a w (wpAny P .any ops Q fuel (listed.setIfInBounds i true)) Q∨(o.asks P a w∧LetsOut Q) else wpAny P .any ops Q fuel (listed.setIfInBounds i true) (a.put o.dst undef) w):=by
    intro h1 h2 h3;rw [v0x (by rw [h3]; simp)]
    refine hnext γ _ w ?_;refine (h.put hnt hok (v:=.tup []) (x:=undef) (by simp only [VRel]; exact ⟨#[],rfl,by simp only [VRels]⟩)).seq ?_
    rw [← hdst,← h1];cases hdd:D.dst <;> exact ⟨fun t=>by simp only [apD,hdd,St.put]; try rfl,fun n=>by simp only [apD,St.put,h2,zug]⟩
   have hdjm0:∀ dj,zp8 ops.toList j=some dj→dj∈D.tm:=by
    intro dj hdj;rw [htms];unfold zi6;rw [hg];simp only [hdj];exact v09 ..
   rcases hguard with ⟨dj,c,hdj,hc,hcase⟩ | ⟨dj,hdj,hc,h1,h2⟩
   case inr=>
    rw [← htm dj (hdjm0 dj hdj)] at hc;have hy:yielded ops a.tmps j=none:=by
     unfold yielded;rw [show ops[j]?=ops.toList[j]? by simp,zlf _ _ _ hdj]
     rcases zzl h hc with h0 | h0 <;> simp [h0]
    exact skip h1 h2 (by simp [Region.wanted,hg,hy])
   have hdjm:dj∈D.tm:=by
    rw [htms];unfold zi6;rw [hg];simp only [hdj];exact v09 ..
   rw [← htm dj hdjm] at hc;have hy:yielded ops a.tmps j=some c:=by
    unfold yielded;rw [show ops[j]?=ops.toList[j]? by simp,zlf _ _ _ hdj]
    simp [y6d h hc]
   rcases hcase with ⟨rfl,h1,h2⟩ | ⟨hne,h1,h2⟩
   ·rw [v1c (by simp [Region.wanted,hg,hy])]
    exact .inl (run h1 h2 htmo)
   ·exact skip h1 h2 (by simp [Region.wanted,hg,hy,hne])
theorem y9j {Q:Exit→Act→World→Prop} (hm:P.follows .mixedOrders=true) {r:V × List (List V)} {id:Nat} {ops:Array Oper} {k:St→Res} {γ:Nat→Value} {st:St} {a:Act} {w:World}
  (he:y9x E ops.toList st k=some r) (h:Rel B nt w0 X γ st a w) (hk:∀ γ' st' a' w',Rel B nt w0 X γ' st' a' w'→k st'=some r→Q .normal a' w'):(Code.region id ops true).wp P Q a w:=by
 refine wp_region_any hm ?_;unfold y9x at he;obtain ⟨Ds,s',h1,h2,h3⟩:=y3e ops.toList he
 split at h3
 ·rename_i hf
  simp only [v2k,List.reverse_reverse] at hf;have h0:Rel B nt w0 X γ (zdg (zs8 ops.toList) st) a { w with drawn:=w.drawn+1 }:=(h.clear (zs8 ops.toList)).world (Keep.drew _ w)
  refine yej hT hE hSp hB hnt hn9 h1 hf (fun n hn=>yes hn st) (fun γ' a' w' h'=>hk γ' s' a' w' (h'.seq h2.symm) h3) ops.size (Array.replicate ops.size false) (by simp) ?_ ?_ (γ:=γ) ?_
  ·intro i o ho hL
   have hi:i < ops.size:=by simpa using (List.getElem?_eq_some_iff.1 ho).1
   simp [Array.getD,hi] at hL
  ·refine v1m (List.countP_le_length) ?_
   simp
  ·rw [zdt (L':=fun _=>false) _ _ (fun j _ _=>by simp [Array.getD]),zll]
   exact h0
 ·cases h3
end
open Go Go.RowKit
section
variable {B:BT} {nt:Nat} {w0:World} {X:Zone} {γ:Nat→Value} {st st':St} {a:Act} {w:World} {P:Program} {E:Env}
theorem zkv (s:St):∀ (l:List Nat) (i:Nat),lkd .any (y3b s l) i=s.get i∨lkd .any (y3b s l) i = .any
 | [],i=>.inr rfl
 | j :: r,i=>by
  simp only [y3b,zao]
  by_cases e:j=i
  ·subst e; simp
  ·simp only [v0x e]
   exact zkv s r i
theorem zzi (s:St):∀ (l:List Nat) (n:Nat) (ob:Ob),z03 (yaa s l) n=some ob→z03 s.o n=some ob
 | [],n,ob,h=>by simp [yaa,z03,lkd] at h
 | j :: r,n,ob,h=>by
  simp only [yaa,z01] at h
  split at h
  ·rename_i e
   subst e;exact h
  ·exact zzi s r n ob h
theorem Rel.prune (h:Rel B nt w0 X γ st a w) (kp:Option (List Nat)):Rel B nt w0 X γ (prune kp st) a w:=by
 cases kp with
 | none=>exact h
 | some l=>exact h.less (fun i=>zkv st l i) (fun _ _ h=>h)
theorem VRels.putOne {γ:Nat→Value} {o:Store} {w:World} {O:Nat→Prop} {v:V} {x:Value} (hv:VRel γ o w O v x):∀ {cs:List V} {xs:List Value} {c:Nat},VRels γ o w O cs xs→xs[c]?=some x→VRels γ o w O (zho cs c [v]) xs
 | [],[],_,_,h=>by simp at h
 | [],_ :: _,_,h,_=>by simp only [VRels] at h
 | _ :: _,[],_,h,_=>by simp only [VRels] at h
 | u :: cs,y :: xs,0,h,hx=>by
  simp only [VRels] at h;simp only [v0q,v00] at hx;subst hx
  have:zho cs 0 []=cs:=by cases cs <;> rfl
  simp only [zho,this,VRels];exact ⟨hv,h.2⟩
 | u :: cs,y :: xs,c+1,h,hx=>by
  simp only [VRels] at h;simp only [v1e] at hx;simp only [zho,VRels];exact ⟨h.1,VRels.putOne hv h.2 hx⟩
def yjz (γ:Nat→Value) (o:Store) (w:World) (a:Act) (x:Value):Loc→Prop
 | .tmp t=>x=a.tmps.getD t undef
 | .cell b c=>∃ cs bb T cc,z03 o b=some (.box cs)∧γ b = .pointer (some ⟨bb,0,none⟩)∧w.heap[bb]?=some (.cells cc T (0,0))∧cc.toList[c]?=some x
def yhe (γ:Nat→Value) (o:Store) (w:World) (a:Act) (x:Value):Loc→Prop
 | .tmp t=>x=a.tmps.getD t undef
 | .cell b c=>∀ cs,z03 o b=some (.box cs)→∃ bb T cc,γ b = .pointer (some ⟨bb,0,none⟩)∧w.heap[bb]?=some (.cells cc T (0,0))∧cc.toList[c]?=some x
theorem Rel.at (h:Rel B nt w0 X γ st a w) (l:Loc) {v:V} (hv:yjs st l=v) (hne:v≠.any):∃ x,VRel γ st.o w (z08 X γ st.o) v x ∧
  yjz γ st.o w a x l:=by
 subst hv;cases l with
 | tmp t=>exact ⟨_,h.tm t,rfl⟩
 | cell b c=>
  simp only [yjs] at hne ⊢
  split at hne
  ·rename_i cs hob
   have hor:=h.ob b _ hob;simp only [ObRel] at hor;obtain ⟨bb,cc,T,hg,hh,hr⟩:=hor;rw [zr2] at hne ⊢
   cases hc:cs[c]? with
   | none=>rw [hc] at hne; exact absurd rfl hne
   | some u=>
    obtain ⟨x,hx,hrx⟩:=hr.get hc;exact ⟨x,hrx,cs,bb,T,cc,hob,hg,hh,hx⟩
  ·exact absurd rfl hne
theorem Rel.putLoc {γ2:Nat→Value} {st2:St} (h2:Rel B nt w0 X γ2 st2 a w) (l:Loc) {v:V} {x:Value} (hv:VRel γ2 st2.o w (z08 X γ2 st2.o) v x)
  (hx:yhe γ2 st2.o w a x l):Rel B nt w0 X γ2 (putLoc st2 v l) a w:=by
 cases l with
 | tmp t=>
  simp only [yhe] at hx;subst hx;refine ⟨h2.sz,h2.df,fun i=>?_,h2.ob,h2.lt,h2.dis,h2.keep,h2.nr,h2.fl,h2.pn⟩
  simp only [FM.putLoc,St.get,zao]
  split
  ·rename_i e
   subst e;exact hv
  ·exact h2.tm i
 | cell b c=>
  simp only [FM.putLoc]
  split
  ·rename_i cs hob
   simp only [yhe] at hx;obtain ⟨bb,T,cc,hg,hh,hcx⟩:=hx cs hob;have hob':∀ m,z03 ((b,some (.box (zho cs c [v]))) :: st2.o) m=if b=m then some (.box (zho cs c [v])) else z03 st2.o m:=fun m=>z01 ..
   have hlen:(zho cs c [v]).length=cs.length:=by
    have key:∀ (cs:List V) (c:Nat),(zho cs c [v]).length=cs.length:=by
     intro cs
     induction cs with
     | nil=>intro c; cases c <;> rfl
     | cons u r ih=>
      intro c;cases c with
      | zero=>
       have:zho r 0 []=r:=by cases r <;> rfl
       simp [zho,this]
      | succ c=>simp [zho,ih]
    exact key cs c
   have hP:∀ b',z1l γ2 ((b,some (.box (zho cs c [v]))) :: st2.o) b'→z1l γ2 st2.o b':=by
    rintro b' ⟨m,ob,hm,hb⟩
    rw [hob'] at hm
    split at hm
    ·rename_i e
     subst e;simp only [v00] at hm;subst hm;exact ⟨_,_,hob,hb⟩
    ·exact ⟨m,ob,hm,hb⟩
   have hO:∀ b',b' < w.heap.size→z08 X γ2 ((b,some (.box (zho cs c [v]))) :: st2.o) b'→z08 X γ2 st2.o b':=fun b' _ hb=>hb.imp_left (hP b')
   have hc:Cmp γ2 st2.o γ2 ((b,some (.box (zho cs c [v]))) :: st2.o):=by
    intro m ob' hm;rw [hob'] at hm
    split at hm
    ·rename_i e
     subst e;simp only [v00] at hm;subst hm;exact ⟨rfl,_,hob,hlen.symm⟩
    ·exact ⟨rfl,ob',hm,ob'.fits_refl⟩
   refine ⟨h2.sz,h2.df,fun i=>VRel.mono (Keep.refl _ w) hO (VRel.cmp hc (h2.tm i)),fun m ob hm=>?_,fun b' hb=>h2.lt b' (hP b' hb),fun m1 m2 ob1 ob2 b' hne h3 h4 hb1 hb2=>?_,h2.keep,fun b' hb=>h2.nr b' (hP b' hb),h2.fl,fun p hp ob hm=>?_⟩
   ·simp only at hm ⊢
    rw [hob'] at hm
    split at hm
    ·rename_i e
     subst e;simp only [v00] at hm;subst hm;have hor:=h2.ob _ _ hob;simp only [ObRel] at hor ⊢
     obtain ⟨bb',cc',T',hg',hh',hr'⟩:=hor;rw [hg] at hg';simp only [Value.pointer.injEq,v00,Addr.mk.injEq,v18] at hg';subst hg';rw [hh] at hh';simp only [v00,Obj.cells.injEq] at hh';obtain ⟨rfl,rfl,_⟩:=hh';exact ⟨bb,cc,T,hg,hh,VRels.mono (Keep.refl _ w) hO (VRels.cmp hc (VRels.putOne hv hr' hcx))⟩
    ·exact (h2.ob m ob hm).later (fun _ _=>rfl) (Keep.refl _ w) hO hc
   ·have key:∀ m ob,z03 ((b,some (.box (zho cs c [v]))) :: st2.o) m=some ob→z0h (γ2 m) ob b'→∃ ob0,z03 st2.o m=some ob0∧z0h (γ2 m) ob0 b':=by
     intro m ob hm hb;rw [hob'] at hm
     split at hm
     ·rename_i e
      subst e;simp only [v00] at hm;subst hm;exact ⟨_,hob,hb⟩
     ·exact ⟨ob,hm,hb⟩
    obtain ⟨o1,q1,q2⟩:=key m1 ob1 h3 hb1;obtain ⟨o2,q3,q4⟩:=key m2 ob2 h4 hb2;exact h2.dis m1 m2 o1 o2 b' hne q1 q3 q2 q4
   ·simp only at hm
    rw [hob'] at hm
    split at hm
    ·rename_i e
     exact h2.pn p hp _ (e ▸ hob)
    ·exact h2.pn p hp ob hm
  ·exact h2
theorem Rel.canon1 (h:Rel B nt w0 X γ st a w) (c:Can):∃ γ',Rel B nt w0 X γ' (canon1 c st) a w:=by
 unfold FM.canon1
 split
 ·exact ⟨γ,h⟩
 rename_i h9;have h9:=z42.1 h9
 split
 ·rename_i hv
  split
  ·rename_i hks
   have hks':0 < c.ks.length:=v03 hks;obtain ⟨x,hx,hat⟩:=h.at c.loc hv (by simp)
   simp only [VRel] at hx;have hadd:=h.add c.nm h9 (.row true c.e c.ag c.ks []) (.slice none 0 0) (fun b hb=>by simp [z0h,Value.ownBlock] at hb) (fun O' hO'=>by
    simp only [ObRel];exact ⟨hks',by simp [strMax],[],⟨by simp,.inl ⟨rfl,rfl⟩⟩,fun i y hy=>by simp at hy⟩)
   have hadd:=hadd.shrink (F:=X.far) (fun b hb=>⟨hb,fun hb'=>by simp [z0h,Value.ownBlock] at hb'⟩)
   refine ⟨_,hadd.putLoc c.loc (x:=x) ?_ ?_⟩
   ·simp only [VRel,z0a,v1l]
    subst hx;exact ⟨v08 _,none,0,0,none,rfl,rfl,v08 _,v08 _,v08 _,by simp [maxLen],.inl rfl,fun _=>rfl⟩
   ·revert hat
    cases c.loc with
    | tmp t=>exact fun hat=>hat
    | cell b k=>
     intro hat;obtain ⟨cs,bb,T,cc,q1,q2,q3,q4⟩:=hat;intro cs2 hcs2;rw [z0a] at hcs2
     split at hcs2
     ·cases hcs2
     ·rename_i hne
      exact ⟨bb,T,cc,by simp only [v0x hne]; exact q2,q3,q4⟩
  ·exact ⟨γ,h⟩
 ·rename_i n lo hi hv
  split
  ·rename_i e ag ks l hn hlo hob
   have hn':=z42.1 hn;obtain rfl:=z1j.1 hlo;obtain ⟨x,hx,hat⟩:=h.at c.loc hv (by simp)
   simp only [VRel,hob] at hx;have hk:=h.kill n;have hor:=h.ob n _ hob;have hkb:∀ b,z0h (γ n) (.row true e ag ks l) b→z0t γ st.o n b:=fun b hb=>⟨_,hob,hb⟩
   have hadd:=hk.add c.nm h9 (.row true e ag ks l) (γ n) (fun b hb=>⟨.inr (hkb b hb),(h.lt b ⟨n,_,hob,hb⟩).2⟩) (fun O' hO'=>by
    simp only [ObRel] at hor ⊢
    obtain ⟨k1,k2,xs,k3,k4⟩:=hor;refine ⟨k1,k2,xs,k3,fun i y hy=>Kd.RelAll.mono (Keep.refl _ w) (fun b _ hb=>?_) (fun _ _ hu=>hu) (k4 i y hy)⟩
    rcases hO' b hb with h1 | h1 | h1
    ·obtain ⟨m,ob1,q1,q2⟩:=h1
     simp only [St.up] at q1;rw [z01] at q1
     split at q1
     ·cases q1
     ·exact .inl ⟨m,ob1,q1,q2⟩
    ·exact .inr h1
    ·obtain ⟨ob1,q1,q2⟩:=h1
     exact .inl ⟨n,ob1,q1,q2⟩)
   have hadd:=hadd.shrink (F:=X.far) (fun b hb=>⟨.inl hb,fun hb'=>h.nr b ⟨n,_,hob,hb'⟩ hb⟩)
   refine ⟨_,hadd.putLoc c.loc (x:=x) ?_ ?_⟩
   ·simp only [VRel,z0a,v1l]
    exact hx
   ·revert hat
    cases c.loc with
    | tmp t=>exact fun hat=>hat
    | cell b k=>
     intro hat;obtain ⟨cs,bb,T,cc,q1,q2,q3,q4⟩:=hat;intro cs2 hcs2;rw [z0a] at hcs2
     split at hcs2
     ·cases hcs2
     ·rename_i hne
      exact ⟨bb,T,cc,by simp only [v0x hne]; exact q2,q3,q4⟩
  ·exact ⟨γ,h⟩
 ·exact ⟨γ,h⟩
theorem Rel.canons:∀ (l:List Can) {γ:Nat→Value} {st:St},Rel B nt w0 X γ st a w→∃ γ',Rel B nt w0 X γ' (canons l st) a w
 | [],γ,st,h=>⟨γ,h⟩
 | c :: r,γ,st,h=>by
  obtain ⟨γ1,h1⟩:=h.canon1 c;exact Rel.canons r h1
theorem Rel.restrict (h:Rel B nt w0 X γ st a w) (kp:KP):∃ γ',Rel B nt w0 X γ' (restrict kp st) a w:=by
 have h1:Rel B nt w0 X γ ⟨y3b st kp.t,st.o⟩ a w:=h.less (fun i=>zkv st kp.t i) (fun _ _ h=>h)
 obtain ⟨γ',h2⟩:=h1.canons kp.c;exact ⟨γ',h2.less (fun i=>zkv _ kp.t i) (fun n ob=>zzi _ kp.o n ob)⟩
variable (hT:TiOK P B E) (hE:∀ t,t∈E.eqs→EqSnd P t (E.tyd t).ks) (hSp:SpOK P B E w0 X) (hB:BldOK P B E) (hnt:E.nt=nt) (hn9:nt≤900000)
include hT hE hSp hB hnt hn9
theorem zsn {Q:Exit→Act→World→Prop} {r:V × List (List V)} {ops:Array Oper} {k:St→Res} :
  ∀ (l:List Oper) (i:Nat) {γ:Nat→Value} {st:St} {a:Act} {w:World},ops.toList.drop i=l→zp7 E ops.toList l st k=some r→Rel B nt w0 X γ st a w →
   (∀ γ' st' a' w',Rel B nt w0 X γ' st' a' w'→k st'=some r→Q .normal a' w')→wpOps P ops Q (List.range' i l.length) a w
 | [],i,γ,st,a,w,hl,he,h,hk=>by
  simp only [zp7] at he;exact hk _ _ _ _ h he
 | o :: l,i,γ,st,a,w,hl,he,h,hk=>by
  have hoi:ops[i]?=some o:=by
   rw [← v1s]
   have:=congrArg (·[0]?) hl
   simpa using this
  have hl':ops.toList.drop (i+1)=l:=by
   have:=congrArg (List.drop 1) hl
   simpa using this
  simp only [v05,List.range'_succ,wpOps,hoi];simp only [zp7] at he;have hd:zpu E o.dst=true:=by
   cases hd:zpu E o.dst with
   | true=>rfl
   | false=>rw [hd] at he; cases he
  rw [hd] at he;simp only at he;have go:∀ {st:St},Rel B nt w0 X γ st a w→Region.wanted o (yielded ops a.tmps)=true→((z4r E st.o (opd st) o.dst o.op).run fun v us=>zp7 E ops.toList l ((st.ups us).put o.dst v) k)=some r →
    (if Region.wanted o (yielded ops a.tmps)=true then o.wp P a w (wpOps P ops Q (List.range' (i+1) l.length)) Q∨(o.asks P a w∧LetsOut Q) else wpOps P ops Q (List.range' (i+1) l.length) (a.put o.dst undef) w):=by
   intro st h hw he;rw [v1c hw];obtain ⟨v,us,h1,h2⟩:=T.run_some he;refine .inl (yf8 hT hE hSp hB h o (fun d hdd e=>by subst e; rw [hdd] at hd; simp only [zpu] at hd; have h8:900000+1≤E.nt:=v03 hd; omega) h1 _ _ (fun γ' x w' h3 h4=>?_))
   exact zsn l (i+1) hl' h2 (h3.put hnt hd h4) hk
  have no:∀ {st:St},Rel B nt w0 X γ st a w→Region.wanted o (yielded ops a.tmps)=false→zp7 E ops.toList l (st.put o.dst (.tup [])) k=some r →
    (if Region.wanted o (yielded ops a.tmps)=true then o.wp P a w (wpOps P ops Q (List.range' (i+1) l.length)) Q∨(o.asks P a w∧LetsOut Q) else wpOps P ops Q (List.range' (i+1) l.length) (a.put o.dst undef) w):=by
   intro st h hw he;rw [v0x (by rw [hw]; simp)]
   exact zsn l (i+1) hl' he (h.put hnt hd (by simp only [VRel]; exact ⟨#[],rfl,by simp only [VRels]⟩)) hk
  split at he
  ·rename_i hg
   exact go h (by simp [Region.wanted,hg]) he
  ·rename_i j b hg
   split at he
   ·rename_i dj hdj
    split at he
    ·rename_i c hc
     have hy:yielded ops a.tmps j=some c:=by
      unfold yielded;rw [show ops[j]?=ops.toList[j]? by simp,zlf _ _ _ hdj]
      simp [y6d h hc]
     have hlit:=h.lit hc;cases c with
     | true=>
      simp only at he;cases b with
      | true=>exact go (st:=st.put (some dj) (.bool true)) hlit (by simp [Region.wanted,hg,hy]) he
      | false=>exact no (st:=st.put (some dj) (.bool true)) hlit (by simp [Region.wanted,hg,hy]) he
     | false=>
      simp only at he;cases b with
      | false=>exact go (st:=st.put (some dj) (.bool false)) hlit (by simp [Region.wanted,hg,hy]) he
      | true=>exact no (st:=st.put (some dj) (.bool false)) hlit (by simp [Region.wanted,hg,hy]) he
    ·rename_i hc
     have hy:yielded ops a.tmps j=none:=by
      unfold yielded;rw [show ops[j]?=ops.toList[j]? by simp,zlf _ _ _ hdj]
      rcases zzl h hc with h0 | h0 <;> simp [h0]
     exact no h (by simp [Region.wanted,hg,hy]) he
    ·cases he
   ·cases he
def yc6:Out→Exit
 | .normal=>.normal
 | .exit i=>.exit i
 | .ret=>.ret
omit hT hE hSp hB hnt hn9 in
theorem y10 (J:Nat→Prop) (h:∃ n,J n):∃ n,J n∧∀ m,J m→n≤m:=by
 obtain ⟨n,hn⟩:=h
 induction n using Nat.strongRecOn with
 | _ n ih=>
  by_cases hm:∃ m,m < n∧J m
  ·obtain ⟨m,h1,h2⟩:=hm
   exact ih m h1 h2
  ·exact ⟨n,hn,fun m hJ=>Nat.le_of_not_lt (fun hlt=>hm ⟨m,hlt,hJ⟩)⟩
theorem zjd (hm:P.follows .mixedOrders=true) {r:V × List (List V)}:∀ (c:Code) {k:Out→St→Res} {Q:Exit→Act→World→Prop} {γ:Nat→Value} {st:St} {a:Act} {w:World},zgf E c st k=some r→Rel B nt w0 X γ st a w →
  (∀ o γ' st' a' w',Rel B nt w0 X γ' st' a' w'→k o st'=some r→Q (yc6 o) a' w')→c.wp P Q a w
 | .skip,k,Q,γ,st,a,w,he,h,hk=>wp_skip (hk .normal γ st a w h he)
 | .exit id,k,Q,γ,st,a,w,he,h,hk=>wp_exit (hk (.exit id) γ st a w h he)
 | .ret,k,Q,γ,st,a,w,he,h,hk=>wp_ret (hk .ret γ st a w h he)
 | .label _,k,Q,γ,st,a,w,he,h,hk=>by simp [zgf,evG] at he
 | .goto _,k,Q,γ,st,a,w,he,h,hk=>by simp [zgf,evG] at he
 | .scope _,k,Q,γ,st,a,w,he,h,hk=>by simp [zgf,evG] at he
 | .rangeFunc _ _ _ _,k,Q,γ,st,a,w,he,h,hk=>by simp [zgf,evG] at he
 | .region id ops draw,k,Q,γ,st,a,w,he,h,hk=>by
  simp only [zgf,evG] at he;cases draw with
  | true=>
   simp only at he;exact y9j hT hE hSp hB hnt hn9 hm he h (fun γ' st' a' w' h' hk'=>hk .normal γ' _ a' w' (h'.prune _) hk')
  | false=>
   simp only at he;refine wp_region ?_;rw [show ops.size=ops.toList.length by simp,v3m]
   exact zsn hT hE hSp hB hnt hn9 ops.toList 0 rfl he h (fun γ' st' a' w' h' hk'=>hk .normal γ' _ a' w' (h'.prune _) hk')
 | .seq x y,k,Q,γ,st,a,w,he,h,hk=>by
  simp only [zgf,evG] at he;refine wp_seq (zjd hm x he h (fun o γ' st' a' w' h' hk'=>?_))
  cases o with
  | normal=>exact zjd hm y hk' h' hk
  | exit i=>exact hk (.exit i) γ' st' a' w' h' hk'
  | ret=>exact hk .ret γ' st' a' w' h' hk'
 | .cond c x y,k,Q,γ,st,a,w,he,h,hk=>by
  simp only [zgf,evG] at he
  split at he
  ·rename_i b hc
   have hcr:=z1o h c;rw [hc] at hcr;simp only [VRel] at hcr;have hlit:Rel B nt w0 X γ (yj8 st c b) a w:=by
    unfold yj8
    split
    ·exact h.lit hc
    ·exact h
   cases b with
   | true=>exact wp_cond_true hcr (zjd hm x he hlit hk)
   | false=>exact wp_cond_false hcr (zjd hm y he hlit hk)
  ·cases he
 | .block id c,k,Q,γ,st,a,w,he,h,hk=>by
  simp only [zgf,evG] at he;refine wp_block (zjd hm c he h (fun o γ' st' a' w' h' hk'=>?_))
  cases o with
  | normal=>exact hk .normal γ' st' a' w' h' hk'
  | ret=>exact hk .ret γ' st' a' w' h' hk'
  | exit i=>
   simp only [yc6,Exit.inBlock];simp only [z06] at hk';cases hb:Nat.beq i id with
   | true=>
    rw [hb] at hk';rw [v1c (z1j.1 hb)];exact hk .normal γ' st' a' w' h' hk'
   | false=>
    rw [hb] at hk';rw [v0x (z42.1 hb)];exact hk (.exit i) γ' st' a' w' h' hk'
 | .loop c,k,Q,γ,st,a,w,he,h,hk=>by
  simp only [zgf,evG] at he;generalize lkd ⟨[],[],[]⟩ E.lp (zhl c)=kp at he
  let J:Act→World→Nat→Prop:=fun a w n=>∃ γ st,Rel B nt w0 X γ st a w∧zui c (evG zui E c) kp n st k=some r
  obtain ⟨γr,hr⟩:=h.restrict kp;refine wp_loop (fun a w=>∃ n,J a w n) (fun a w=>(Classical.epsilon fun n=>J a w n∧∀ m,J a w m→n≤m)) ⟨_,γr,_,hr,he⟩ ?_
  intro a w hI;have hleast:=Classical.epsilon_spec (y10 (J a w) hI);generalize (Classical.epsilon fun n=>J a w n∧∀ m,J a w m→n≤m)=n at hleast
  obtain ⟨⟨γ1,st1,h1,he1⟩,_⟩:=hleast;cases n with
  | zero=>simp [zui] at he1
  | succ n=>
   simp only [zui] at he1;refine zjd hm c he1 h1 (fun o γ' st' a' w' h' hk'=>?_)
   obtain ⟨γr,hr⟩:=h'.restrict kp;cases o with
   | normal=>
    simp only [yc6,Exit.then];have hJ:J a' w' n:=⟨γr,_,hr,hk'⟩;refine ⟨⟨n,hJ⟩,?_⟩
    have:=Classical.epsilon_spec (y10 (J a' w') ⟨n,hJ⟩)
    exact Nat.lt_succ_of_le (this.2 n hJ)
   | exit i=>exact hk (.exit i) γr _ a' w' hr hk'
   | ret=>exact hk .ret γr _ a' w' hr hk'
end
open Go Go.RowKit
theorem zn8 (o:Store) (bs:List V) (tk:Option Kd) (v:V):z9e (zdr (z8i o bs tk v))=true:=by
 cases v <;> simp only [z8i] <;> repeat' split
 all_goals rfl
theorem zrb (o:Store) (bs:List V):∀ (l:List V) (ks:List Kd),(y3k (fun k v=>zdr (z8i o bs k v)) ks l).all z9e=true
 | [],ks=>by cases ks <;> rfl
 | v :: l,[]=>by simp [y3k,zn8,zrb o bs l []]
 | v :: l,k :: ks=>by simp [y3k,zn8,zrb o bs l ks]
theorem zqb (o:Store) (ks:List Kd) (v:V):(match y44 o ks v with | .agg l=>l.all z9e | v=>z9e v)=true∧∀ l,y44 o ks v≠.tup l:=by
 by_cases hc:∃ l,v = .agg l
 ·obtain ⟨l,rfl⟩:=hc
  simp only [y44];exact ⟨zrb o [] l ks,fun l' h=>by cases h⟩
 ·have h1:y44 o ks v=zdr (z8i o [] ks.head? v):=by cases v <;> first | rfl | exact absurd ⟨_,rfl⟩ hc
  have h2:=zn8 o [] ks.head? v;rw [h1];cases hx:zdr (z8i o [] ks.head? v) <;> rw [hx] at h2 <;> simp only [z9e] at h2 ⊢ <;> first | (cases h2; done) | (refine ⟨trivial,fun l h=>?_⟩; cases h)
theorem zsh (o:Store) (ks:List (List Kd)) (v:V):zi8 (zk0 o ks v)=true:=by
 by_cases hc:∃ l,v = .tup l
 ·obtain ⟨l,rfl⟩:=hc
  simp only [zk0,zi8];have key:∀ (l:List V) (ks:List (List Kd)),((zk0.go o ks l).all fun v=>match v with | .agg l=>l.all z9e | v=>z9e v)=true:=by
   intro l
   induction l with
   | nil=>intro ks; cases ks <;> rfl
   | cons v l ih=>
    intro ks;cases ks with
    | nil=>simp only [zk0.go,v2w,v02]; exact ⟨(zqb o [] v).1,ih []⟩
    | cons k ks=>simp only [zk0.go,v2w,v02]; exact ⟨(zqb o k v).1,ih ks⟩
  exact key l ks
 ·have h1:zk0 o ks v=y44 o (ks.headD []) v:=by cases v <;> first | rfl | exact absurd ⟨_,rfl⟩ hc
  rw [h1];obtain ⟨h2,h3⟩:=zqb o (ks.headD []) v;cases hx:y44 o (ks.headD []) v <;> rw [hx] at h2 <;> simp only [zi8] at h2 ⊢ <;> first | exact h2 | exact absurd hx (h3 _)
theorem zxp (o:Store) (all:List Nat) (cs:List V):(cs.map (z3q o all)).all okC=true:=by
 refine v30.2 (fun v hv=>?_)
 obtain ⟨u,_,rfl⟩:=List.mem_map.1 hv;rcases zcm o all u with ⟨_,_,_,_,_,_,_,_,_,h1⟩ | ⟨h1,_⟩
 ·rw [h1]; rfl
 ·cases hcc:z3q o all u <;> first | rfl | (rw [hcc] at h1; cases h1)
section
variable {B:BT} {nt:Nat} {w0:World} {X:Zone} {γ:Nat→Value} {st st':St} {a:Act} {w:World} {P:Program} {E:Env}
theorem y8i (h:Rel B nt w0 X γ st a w) {n:Nat} {cs:List V} (ho:z03 st.o n=some (.box cs)) {extra:List Nat} {m:Nat} (hm:m∈extra) {b:Nat} (hr:RowOf γ st.o m b) :
  ¬ (z0t γ st.o n b∨∃ m∈z3x st.o (z1c cs++extra) cs,z0t γ st.o m b):=by
 intro hLb;obtain ⟨e,ag,ks,l,h5,h6⟩:=hr;rcases hLb with ⟨ob,h7,h8⟩ | ⟨m2,h9,ob,h7,h8⟩
 ·have hne:n≠m:=by
   rintro rfl
   rw [ho] at h5;cases h5
  exact h.dis n m ob _ b hne h7 h5 h8 h6
 ·by_cases hne:m2=m
  ·subst hne
   obtain ⟨hi2,e2,ag2,ks2,l2,k1,k2,k3⟩:=z7m.1 h9;rw [z90] at k3;have q1:=zh3 (zae k1);have q2:=zh3 hm;omega
  ·exact h.dis m2 m ob _ b hne h7 h5 h8 h6
theorem yef {p:Value} (h:Rel ⟨B.T,B.e,some p,B.ng,B.F⟩ nt w0 X γ st a w) {v:V} {x:Value} (hv:VRel γ st.o w (z08 X γ st.o) v x) {ks:List (List Kd)} {vs:List V} {r:V} {out:List (List V)} (he:yed st.o ks (z6a vs) v=some (r,out)) {g0:Value} (hp:p=zks g0) :
  ∃ γ',Rel B.base 0 w0 X γ' ⟨[],z3h r out⟩ zwe w∧VRel γ' (z3h r out) w (z08 X γ' (z3h r out)) (y48 r) x∧zaa vs r out g0 (γ' 900000):=by
 have hfar:∀ b,X.far b→z08 X γ st.o b∧∀ b',b'=b→¬ z1l γ st.o b':=fun b hb=>⟨.inr hb,fun b' e hP=>h.nr b' hP (e ▸ hb)⟩
 have hbd:∀ {n:Nat} {cs:List V} (ho:z03 st.o n=some (.box cs)) (extra:List Nat),∃ γb,Rel B.base 0 w0 X γb ⟨[],z7r (cs.map (z3q st.o (z1c cs++extra)))⟩ zwe w∧γb 900000=γ n ∧
   ∀ b,z1l γb (z7r (cs.map (z3q st.o (z1c cs++extra)))) b→z0t γ st.o n b∨∃ m∈z3x st.o (z1c cs++extra) cs,z0t γ st.o m b:=by
  intro n cs ho extra;exact h.bound ho extra (w1:=w0) (own1:=X.own) (F:=X.far) h.keep (fun b hb=>⟨.inr hb,fun ⟨ob,h1,h2⟩=>h.nr b ⟨n,ob,h1,h2⟩ hb,fun m _ ⟨ob,h1,h2⟩=>h.nr b ⟨m,ob,h1,h2⟩ hb,fun m _ ⟨ob,h1,h2⟩=>h.nr b ⟨m,ob,h1,h2⟩ hb⟩)
   (fun b hb=>by
    rcases hb with ⟨ob,h1,h2⟩ | ⟨m,_,ob,h1,h2⟩
    ·exact (h.lt b ⟨n,ob,h1,h2⟩).2
    ·exact (h.lt b ⟨m,ob,h1,h2⟩).2)
 have hbP:∀ {n b:Nat} {hs:List Nat},(z0t γ st.o n b∨∃ m∈hs,z0t γ st.o m b)→z1l γ st.o b:=by
  rintro n b hs (⟨ob,h1,h2⟩ | ⟨m,_,ob,h1,h2⟩)
  ·exact ⟨n,ob,h1,h2⟩
  ·exact ⟨m,ob,h1,h2⟩
 unfold yed at he
 split at he
 ·rename_i s0 hb
  split at he
  ·rename_i s hob
   simp only [v00,v04] at he;obtain ⟨rfl,rfl⟩:=he;obtain ⟨hR,hP⟩:=h.boundB hob (w1:=w0) (own1:=X.own) (F:=X.far) h.keep (fun b hb=>⟨.inr hb,fun ⟨ob,h1,h2⟩=>h.nr b ⟨_,ob,h1,h2⟩ hb⟩) (fun b ⟨ob,h1,h2⟩=>(h.lt b ⟨_,ob,h1,h2⟩).2)
   have hmo:z3h (zk0 st.o ks v) [[.bld s]]=z7r [.bld s]:=by cases zk0 st.o ks v <;> rfl
   have hf:=zsh st.o ks v;refine ⟨_,by rw [hmo]; exact hR,?_,?_⟩
   ·rw [hmo,zba hf]
    refine zym h hv (fun b _ hb=>?_) (fun m hm b hr hb=>?_) ks
    ·exact hb.imp_left (fun hb=>by obtain ⟨ob,h1,h2⟩:=hP b hb; exact ⟨_,ob,h1,h2⟩)
    ·obtain ⟨e,ag,ks',l,q1,q2⟩:=hr
     rcases hb with hb | hb
     ·obtain ⟨ob,h1,h2⟩:=hP b hb
      refine h.dis 900000 m ob _ b ?_ h1 q1 h2 q2
      rintro rfl
      rw [hob] at q1;cases q1
     ·exact h.nr b ⟨m,_,q1,q2⟩ hb
   ·simp only [zaa,hb]
    exact ⟨hf,rfl,(h.pn p rfl _ hob).trans hp⟩
  ·cases he
 ·rename_i cs0 hnb hb
  split at he
  ·rename_i cs hob
   simp only [v00,v04] at he;obtain ⟨rfl,rfl⟩:=he;obtain ⟨γb,hR,hg,hP⟩:=hbd hob (zg0 v);have hmo:z3h (zk0 st.o ks v) [cs.map (z3q st.o (z1c cs++zg0 v))]=z7r (cs.map (z3q st.o (z1c cs++zg0 v))):=by cases zk0 st.o ks v <;> rfl
   have hf:=zsh st.o ks v;refine ⟨γb,by rw [hmo]; exact hR,?_,?_⟩
   ·rw [hmo,zba hf]
    refine zym h hv (fun b _ hb=>hb.imp_left (fun hb=>hbP (hP b hb))) (fun m hm b hr hb=>?_) ks
    rcases hb with hb | hb
    ·exact y8i h hob hm hr (hP b hb)
    ·obtain ⟨e,ag,ks',l,q1,q2⟩:=hr
     exact h.nr b ⟨m,_,q1,q2⟩ hb
   ·simp only [zaa,hb]
    refine ⟨hf,?_,?_⟩
    ·unfold zyv
     split
     ·exact absurd rfl (hnb _)
     ·exact absurd rfl (hnb _)
     ·exact zxp _ _ _
    ·rw [hg]
     exact (h.pn p rfl _ hob).trans hp
  ·cases he
 ·rename_i hb
  have fin9:∀ v,VRel γ st.o w (z08 X γ st.o) v x→∃ γ',Rel B.base 0 w0 X γ' ⟨[],z3h (zk0 st.o ks v) []⟩ zwe w∧VRel γ' (z3h (zk0 st.o ks v) []) w (z08 X γ' (z3h (zk0 st.o ks v) [])) (y48 (zk0 st.o ks v)) x∧zaa vs (zk0 st.o ks v) [] g0 (γ' 900000):=by
   intro v hv;have hf:=zsh st.o ks v;have hmo:z3h (zk0 st.o ks v) []=[]:=by
    cases hx:zk0 st.o ks v <;> first | rfl | (rw [hx] at hf; simp only [zi8,z9e] at hf; cases hf)
   refine ⟨γ,?_,?_,?_⟩
   ·rw [hmo]
    refine ⟨rfl,rfl,fun i=>by simp only [St.get,lkd,VRel],fun n ob hn=>?_,?_,?_,h.keep,?_,h.fl,fun p hp=>by cases hp⟩
    ·simp only [z03,lkd] at hn; cases hn
    ·rintro b ⟨n,ob,hn,_⟩; simp only [z03,lkd] at hn; cases hn
    ·intro n m ob ob' b _ hn; simp only [z03,lkd] at hn; cases hn
    ·rintro b ⟨n,ob,hn,_⟩; simp only [z03,lkd] at hn; cases hn
   ·rw [hmo,zba hf]
    refine zym h hv (fun b _ hb=>?_) (fun m hm b hr hb=>?_) ks
    ·rcases hb with ⟨n,ob,hn,_⟩ | hb
     ·simp only [z03,lkd] at hn; cases hn
     ·exact .inr hb
    ·rcases hb with ⟨n,ob,hn,_⟩ | hb
     ·simp only [z03,lkd] at hn; cases hn
     ·obtain ⟨e,ag,ks',l,q1,q2⟩:=hr
      exact h.nr b ⟨m,_,q1,q2⟩ hb
   ·simp only [zaa,hb]
    cases hx:zk0 st.o ks v <;> first | (rw [hx] at hf; exact hf) | (rw [hx] at hf; simp only [zi8,z9e] at hf; cases hf)
  split at he
  ·rename_i n i c
   split at he
   ·rename_i cs hob hc
    simp only [v00,v04] at he;obtain ⟨rfl,rfl⟩:=he;obtain rfl:=z1j.1 hc;obtain ⟨γb,hR,hg,hP⟩:=hbd hob [];refine ⟨γb,hR,?_,?_⟩
    ·simp only [VRel,hob] at hv
     simp only [z3h,y48,z8p,VRel];rw [zhq (zxp _ _ _),z01,v1c rfl,hg];exact ⟨trivial,hv.2⟩
    ·simp only [zaa,hb,okR]
     exact zxp _ _ _
   ·cases he
  ·rename_i n lo hi
   split at he
   ·rename_i e ag ks' l hob
    split at he
    ·rename_i hlo
     simp only [v00,v04] at he;obtain ⟨rfl,rfl⟩:=he;obtain rfl:=z1j.1 hlo;obtain ⟨hpr,hpb⟩:=zxc (γ':=fun m=>if m=900000 then x else γ m) (o':=[(900000,some (Ob.row true e ag ks' (l.take hi)))]) h hob hv
     have hmo:z3h (.vec e ag ks' (l.take hi)) []=[(900000,some (.row true e ag ks' (l.take hi)))]:=rfl;have obs:∀ m ob,z03 [(900000,some (Ob.row true e ag ks' (l.take hi)))] m=some ob→m=900000∧ob = .row true e ag ks' (l.take hi):=fun m ob hn=>by
      rw [z01] at hn
      split at hn
      ·rename_i h9
       simp only [v00] at hn;exact ⟨h9.symm,hn.symm⟩
      ·simp [z03,lkd] at hn
     have ownP:∀ b,z1l (fun m=>if m=900000 then x else γ m) [(900000,some (Ob.row true e ag ks' (l.take hi)))] b→z0t γ st.o n b:=by
      rintro b ⟨m,ob,hn,hb⟩
      obtain ⟨rfl,rfl⟩:=obs m ob hn;exact hpb b (by simpa only [v1l] using hb)
     have hlt:∀ b,z0t γ st.o n b→z1l γ st.o b:=fun b ⟨ob,h1,h2⟩=>⟨n,ob,h1,h2⟩
     have hO:∀ b,b < w.heap.size→z08 X (fun m=>if m=900000 then x else γ m) [(900000,some (Ob.row true e ag ks' (l.take hi)))] b→z08 X γ st.o b:=fun b _ hb=>hb.imp_left (fun hb=>hlt b (ownP b hb))
     rw [hmo];refine ⟨fun m=>if m=900000 then x else γ m,⟨rfl,rfl,fun i=>by simp only [St.get,lkd,VRel],fun m ob hn=>?_,fun b hb=>h.lt b (hlt b (ownP b hb)),fun m m' ob ob' b hnm h1 h2=>?_,h.keep,fun b hb=>h.nr b (hlt b (ownP b hb)),h.fl,fun p hp=>by cases hp⟩,?_,?_⟩
     ·obtain ⟨rfl,rfl⟩:=obs m ob hn
      simp only [ObRel,v1l] at hpr ⊢
      obtain ⟨k1,k2,xs,k3,k4⟩:=hpr;exact ⟨k1,k2,xs,k3,fun i y hy=>Kd.RelAll.mono (Keep.refl _ w) hO (fun _ _ hu=>hu) (k4 i y hy)⟩
     ·obtain ⟨rfl,rfl⟩:=obs m ob h1
      obtain ⟨rfl,rfl⟩:=obs m' ob' h2;exact absurd rfl hnm
     ·simp only [y48,VRel,z01,v1l]
      refine ⟨v08 _,?_⟩;simp only [VRel,hob] at hv;obtain ⟨hl,p,len,cap,p',hgm,hxx,_,h22,h33,hm4,_,h5⟩:=hv;have htl:(l.take hi).length=hi:=by rw [v0h,v1y hl]
      rw [htl];rw [v2n,v2n] at hxx;refine ⟨p',hi,cap,p',hxx,by rw [hxx]; simp,v0y _,v08 _,by omega,hm4,.inl ?_,fun _=>rfl⟩
      cases p' <;> simp [Addr.add]
     ·simp only [zaa,hb,okR]
    ·cases he
   ·simp only [v00,v04] at he
    obtain ⟨rfl,rfl⟩:=he;exact fin9 _ hv
  ·rename_i hnp
   simp only [v00,v04] at he;obtain ⟨rfl,rfl⟩:=he;exact fin9 _ hv
theorem zv2:∀ (vs:List V) (i j:Nat),lkd .any (y0o i vs) j=if i≤j∧j < i+vs.length then z8p (vs.getD (j - i) .any) else .any
 | [],i,j=>by
  rw [v0x (by simp only [v0o]; omega)]
  rfl
 | v :: r,i,j=>by
  simp only [y0o,zao,zv2 r (i+1) j,v05]
  by_cases e:i=j
  ·subst e
   simp
  ·rw [v0x e]
   by_cases h:i+1≤j∧j < i+1+r.length
   ·rw [v1c h,v1c (by omega),show j - i=(j - (i+1))+1 by omega]
    simp
   ·rw [v0x h,v0x (by omega)]
theorem zy8 (hT:TiOK P B E) {w:World}:∀ {rs:List ResultVar} {l:List V},yf3 E st rs=some l→Rel B nt w0 X γ st a w →
  ∃ xs:List Value,(rs.mapM fun r=>match r with | .tmp t=>pure (a.tmps.getD t undef) | .cell ad t=>do loadVar t (← asAddr (a.tmps.getD ad undef)):Sem (List Value)).run P w = .ok xs w∧VRels γ st.o w (z08 X γ st.o) l xs
 | [],l,h,hR=>by
  simp only [yf3,v00] at h;subst h;exact ⟨[],by simp,by simp only [VRels]⟩
 | .tmp t :: r,l,h,hR=>by
  simp only [yf3] at h
  split at h
  ·rename_i l' hl'
   simp only [v00] at h;subst h;obtain ⟨xs,h1,h2⟩:=zy8 hT hl' hR;refine ⟨a.tmps.getD t undef :: xs,?_,?_⟩
   ·simp only [List.mapM_cons,Sem.run_bind,Sem.run_pure,Result.andThen_ok,h1]
   ·simp only [VRels]
    exact ⟨hR.tm t,h2⟩
  ·cases h
 | .cell ad t :: r,l,h,hR=>by
  simp only [yf3] at h
  split at h
  ·rename_i n i c hop
   split at h
   ·rename_i cs hob
    split at h
    ·rename_i v l' hv hl'
     simp only [v00] at h;subst h;obtain ⟨xs,h1,h2⟩:=zy8 hT hl' hR;have hx:=hR.tm ad;rw [hop] at hx;simp only [VRel,hob] at hx;obtain ⟨_,b,hg,hx⟩:=hx;have hor:=hR.ob n _ hob;simp only [ObRel] at hor;obtain ⟨b',cs',T,hg',hh,hr⟩:=hor;rw [hg] at hg';simp only [Value.pointer.injEq,v00,Addr.mk.injEq,v18] at hg';subst hg';obtain ⟨y,hy,hr'⟩:=y03 (hT.known (zrr hv)) hv hh hr;refine ⟨y :: xs,?_,?_⟩
     ·have hy':(do loadVar t (← asAddr (a.tmps.getD ad undef)):Sem Value).run P w = .ok y w:=by
       rw [hx];exact hy
      simp only [Sem.run_bind] at hy';simp only [List.mapM_cons,Sem.run_bind,hy',Sem.run_pure,Result.andThen_ok,h1]
     ·simp only [VRels]
      exact ⟨hr',h2⟩
    ·cases h
   ·cases h
  ·cases h
theorem ya9 {f:FuncId} {fn:Func} {code:Code} (hf:P.funcs[f]?=some fn) (hn:(fn.name == "runtime.NumGoroutine")=false) (hb:fn.body=some code) (hnt:E.nt=fn.ntmps) (hn9:Nat.ble fn.ntmps 900000=true) {rs:List ResultVar} (hrs:fn.results.toList=rs)
  (rks:List (List Kd)) (hm:P.follows .mixedOrders=true) (hT:TiOK P B E) (hE:∀ t,t∈E.eqs→EqSnd P t (E.tyd t).ks) (hSp:∀ f sp,lk E.sp f=some sp→Snd P B f (fun vs=>(sp vs).get)) (hIp:∀ f p,lk E.ip f=some p→zwu P f p) (hB:BldOK P B E):Snd P B f (z0y E code rs rks):=by
 intro w X γ vs xs r out hsp hgl hxo hR hV;unfold z0y at hsp
 split at hsp
 case h_2=>cases hsp
 rename_i hle;have hle':=v03 hle;have hlen:xs.length=vs.length:=by rw [← hV.length,v15]
 refine Does.enter hf hn (by rw [hb]; rfl) (calls_of_wp hf hb ?_)
 let B':BT:=⟨B.T,B.e,some (zks (γ 900000)),B.ng,B.F⟩
 have hT':TiOK P B' E:=fun t x ht=>⟨(hT t x ht).info,(hT t x ht).ks,(hT t x ht).by1,(hT t x ht).one,(hT t x ht).und⟩
 have hSp':SpOK P B' E w X:=⟨⟨hgl,hxo⟩,fun f sp hfs=>hSp f sp hfs,hIp⟩
 have hB':BldOK P B' E:=hB;have hstart:Rel B' fn.ntmps w X γ ⟨y0o 0 vs,zbz vs⟩ { tmps:=xs.toArray++Array.replicate (fn.ntmps - xs.toArray.size) undef,defers:=[] } w:=by
  refine ⟨?_,rfl,fun i=>?_,fun n ob hnob=>?_,hR.lt,hR.dis,hR.keep,hR.nr,hR.fl,fun p hp ob _=>?_⟩
  ·simp
   omega
  ·simp only [St.get,zv2]
   split
   ·rename_i hi
    have hi':i < vs.length:=by omega
    have h1:(vs.map z8p)[i]?=some (z8p vs[i]):=by simp [hi']
    obtain ⟨x,hx,hvx⟩:=hV.get h1;have h2:vs.getD (i - 0) .any=vs[i]:=by simp [hi']
    rw [h2];have h3:(xs.toArray++Array.replicate (fn.ntmps - xs.toArray.size) undef).getD i undef=x:=by
     rw [v29,v2z (by simp; omega)]
     simp [hx]
    simp only [h3];exact hvx
   ·simp only [VRel]
  ·have:=hR.ob n ob hnob
   cases ob with
   | box l=>simpa only [ObRel] using this
   | row own e ag ks l=>cases own <;> simpa only [ObRel] using this
   | bld s=>simpa only [ObRel,BT.base] using this
  ·simp only [B',v00] at hp
   exact hp
 refine zjd hT' hE hSp' hB' hnt (v03 hn9) hm code hsp hstart (fun o γ' st' a' w' h' hk'=>?_)
 have fin:∀ l,yf3 E st' rs=some l→yed st'.o rks (z6a vs) (yhm l)=some (r,out)→bodyPost P fn (fun e w'=>∃ x,e = .returned x∧∃ γ',Rel B.base 0 w X γ' ⟨[],z3h r out⟩ zwe w'∧VRel γ' (z3h r out) w' (z08 X γ' (z3h r out)) (y48 r) x∧zaa vs r out (γ 900000) (γ' 900000)) .ret a' w':=by
  intro l hl he;obtain ⟨ys,hy1,hy2⟩:=zy8 (P:=P) hT' hl h';have hval:(results fn a'.tmps).run P w' = .ok (if h:ys.toArray.size=1 then ys.toArray[0] else .tuple ys.toArray) w':=by
   unfold results;rw [show fn.results=rs.toArray by rw [← hrs]]
   rw [Array.mapM_eq_mapM_toList];simp only [Sem.run_bind,Sem.run_map]
   erw [hy1]
   rfl
  have hrel:VRel γ' st'.o w' (z08 X γ' st'.o) (yhm l) (if h:ys.toArray.size=1 then ys.toArray[0] else .tuple ys.toArray):=by
   match l,ys,hy2 with
   | [],[],_=>simp only [yhm,VRel]; exact ⟨#[],by simp,by simp only [VRels]⟩
   | [v],[y],h2=>simp only [VRels] at h2; simpa [yhm] using h2.1
   | v :: v' :: l,y :: y' :: ys,h2=>simp only [yhm,VRel]; exact ⟨(y :: y' :: ys).toArray,by simp,by simpa using h2⟩
  obtain ⟨γ2,q1,q2,q3⟩:=yef (B:=B) h' hrel he rfl;exact ⟨h'.df,_,hval,_,rfl,γ2,q1,q2,q3⟩
 cases o with
 | exit i=>simp [z2v] at hk'
 | normal=>
  simp only [z2v] at hk'
  split at hk'
  ·rename_i l hl
   exact fin l hl hk'
  ·cases hk'
 | ret=>
  simp only [z2v] at hk'
  split at hk'
  ·rename_i l hl
   exact fin l hl hk'
  ·cases hk'
end
open Go Go.RowKit
def zB:V→Value→Bool
 | .int k n,.int k' n'=>k==k'&&(n==n'&&y8k k n)
 | .bool b,.bool c=>b==c
 | .str s,.string s'=>s.size==0&&s'.size==0
 | .zs,.slice none 0 0=>true
 | .nilp,.pointer none=>true
 | .err true,.nilIface=>true
 | .any,_=>true
 | _,_=>false
def zBs:List V→List Value→Bool
 | [],[]=>true
 | v :: vs,x :: xs=>zB v x&&zBs vs xs
 | _,_=>false
def dB (P:Program) (T t:Nat) (ks:List Kd):TD→TypeDesc→Bool
 | .slice e,.slice e'=>e==e'
 | .struct fs,.struct fields=>fs==fields.toList.map (fun f=>(f.offset,f.type))&&fields.toList.all (fun f=>(P.info? f.type).isSome)
 | .array n e,.array n' e'=>n==n'&&e==e'
 | .ptr e,.pointer e'=>e==e'
 | .bld,_=>t==T
 | .iface,.interface _=>true
 | .leaf,d=>match ks with
  | [.int k]=>(match d with | .int k'=>k==k' | _=>false)
  | [.str]=>(match d with | .string=>true | _=>false)
  | [.bool]=>(match d with | .bool=>true | _=>false)
  | _=>true
 | _,_=>false
def tiB (P:Program) (T t:Nat) (x:TI):Bool:=
 match P.info? t,P.underlying t with
 | some i,some d=>match i.zero with
  | some z=>i.size==x.size&&(i.bytes==x.bytes&&(z.cells.size==x.size&&(zBs x.zero z.cells.toList&&(x.ks.length==x.size&&(Nat.ble 1 x.bytes&&((x.agg||x.size==1)&&(d.isRow==x.agg&&dB P T t x.ks x.d d)))))))
  | none=>false
 | _,_=>false
def yhs (P:Program) (T:Nat):List (Nat × TI)→Bool
 | []=>true
 | (t,x) :: r=>tiB P T t x&&yhs P T r
theorem yik {γ:Nat→Value} {o:Store} {w:World} {O:Nat→Prop} {v:V} {x:Value} (h:zB v x=true):VRel γ o w O v x:=by
 unfold zB at h
 split at h
 ·simp only [v02,v1d,y8k,v06] at h
  obtain ⟨rfl,rfl,h1,h2⟩:=h;simp only [VRel];exact ⟨trivial,h1,h2⟩
 ·simp only [v1d] at h
  subst h;simp only [VRel]
 ·rename_i s s'
  simp only [v02,v1d] at h;have e:∀ s:ByteArray,s.size=0→s=ByteArray.empty:=fun s hs=>by
   obtain ⟨⟨l⟩⟩:=s;cases l with
   | nil=>rfl
   | cons a l=>simp [ByteArray.size] at hs
  simp only [VRel];rw [e s h.1,e s' h.2];exact ⟨rfl,by simp [ByteArray.size_empty]⟩
 ·simp only [VRel]
 ·simp only [VRel]
 ·simp only [VRel]
 ·simp only [VRel]
 ·cases h
theorem ycv {γ:Nat→Value} {o:Store} {w:World} {O:Nat→Prop}:∀ {l:List V} {xs:List Value},zBs l xs=true→VRels γ o w O l xs
 | [],[],_=>by simp only [VRels]
 | [],_ :: _,h=>by simp [zBs] at h
 | _ :: _,[],h=>by simp [zBs] at h
 | v :: vs,x :: xs,h=>by
  simp only [zBs,v02] at h;simp only [VRels];exact ⟨yik h.1,ycv h.2⟩
theorem yhd {P:Program} {B:BT} {t:Nat} {x:TI} (h:tiB P B.T t x=true):TISnd P B t x:=by
 unfold tiB at h
 split at h
 ·rename_i i d hi hd
  split at h
  ·rename_i z hz
   simp only [v02,v1d,v2y] at h;obtain ⟨h1,h2,h3,h4,h5,h6,h7,h8,h9⟩:=h;refine ⟨⟨i,z,hi,h1,h2,hz,h3,fun γ o w O=>ycv h4⟩,h5,v03 h6,fun ha=>by rw [ha] at h7; simpa using h7,⟨d,hd,h8,?_⟩⟩
   cases hx:x.d with
   | slice e=>rw [hx] at h9; cases d <;> simp only [dB] at h9 <;> first | (cases h9; done) | (simp only [v1d] at h9; subst h9; rfl)
   | struct fs=>
    rw [hx] at h9;cases d <;> simp only [dB] at h9 <;> first | (cases h9; done) | skip
    rename_i fields;simp only [v02,v1d,v30] at h9;exact ⟨fields,rfl,h9.1,h9.2⟩
   | array n e=>
    rw [hx] at h9;cases d <;> simp only [dB] at h9 <;> first | (cases h9; done) | skip
    simp only [v02,v1d] at h9;obtain ⟨rfl,rfl⟩:=h9
    rfl
   | ptr e=>rw [hx] at h9; cases d <;> simp only [dB] at h9 <;> first | (cases h9; done) | (simp only [v1d] at h9; subst h9; rfl)
   | bld=>rw [hx] at h9; simp only [dB,v1d] at h9; exact h9
   | iface=>rw [hx] at h9; cases d <;> simp only [dB] at h9 <;> first | (cases h9; done) | exact ⟨_,rfl⟩
   | leaf=>
    rw [hx] at h9;refine ⟨fun k hk=>?_,fun hk=>?_,fun hk=>?_⟩ <;> rw [hk] at h9 <;> cases d <;> simp only [dB] at h9 <;> first | (cases h9; done) | (simp only [v1d] at h9; subst h9; rfl) | rfl
  ·cases h
 ·cases h
theorem ybh {P:Program} {B:BT} {E:Env} {ti:List (Nat × TI)} (he:E.ti=ti) (h:yhs P B.T ti=true):TiOK P B E:=by
 subst he;have key:∀ (l:List (Nat × TI)),yhs P B.T l=true→∀ t x,lk l t=some x→tiB P B.T t x=true:=by
  intro l
  induction l with
  | nil=>intro _ t x hx; simp [lk] at hx
  | cons p r ih=>
   obtain ⟨j,y⟩:=p;intro hl t x hx;simp only [yhs,v02] at hl;simp only [lk] at hx
   split at hx
   ·rename_i hb
    simp only [v00] at hx;subst hx;rw [← z1j.1 hb];exact hl.1
   ·exact ih hl.2 t x hx
 exact fun t x ht=>yhd (key E.ti h t x ht)
def zv9 (P:Program) (t w:Nat):Bool:=match P.info? t with | some _=>P.cellsOf t==w | none=>false
def yfn (ks:List Kd):Nat→List Kd
 | 0=>[]
 | n+1=>ks++yfn ks n
def yiu (P:Program) (g:Nat→Option (List Kd)):List Field→Nat→Option (List Kd)
 | [],_=>some []
 | f :: r,o=>match g f.type with
  | some ks=>match f.name != "_"&&(f.offset==o&&zv9 P f.type ks.length) with
   | true=>match yiu P g r (o+ks.length) with
    | some ks'=>some (ks++ks')
    | none=>none
   | false=>none
  | none=>none
def eqW (P:Program):Nat→Nat→Option (List Kd)
 | 0,_=>none
 | d+1,t=>match P.underlying t with
  | some (.int k)=>some [.int k]
  | some .bool=>some [.bool]
  | some (.struct fs)=>match P.stoodInHeld t with
   | true=>none
   | false=>yiu P (eqW P d) fs.toList 0
  | some (.array n e)=>match eqW P d e with
   | some ks=>match zv9 P e ks.length with
    | true=>some (yfn ks n)
    | false=>none
   | none=>none
  | _=>none
def yiy (P:Program) (ti:List (Nat × TI)):List Nat→Bool
 | []=>true
 | t :: r=>(!(P.eqGuardType P.depth t))&&((match P.underlying t with | some d=>d.isRow | none=>false)&&(match eqW P 10 t with | some ks=>zsz.kdsEq (lkd TI.none ti t).ks ks | none=>false))&&yiy P ti r
theorem z9i:∀ {ks:List Kd} {l:List V},z8c ks l=true→l.length=ks.length
 | [],[],_=>rfl
 | [],_ :: _,h=>by simp [z8c] at h
 | k :: _,[],h=>by cases k <;> simp [z8c] at h
 | k :: ks,v :: l,h=>by
  cases k <;> cases v <;> simp only [z8c] at h <;> try (cases h; done)
  ·split at h
   ·simp [z9i h]
   ·cases h
  ·simp [z9i h]
theorem zdd:∀ {ks ks':List Kd} {l:List V},z8c (ks++ks') l=true→z8c ks (l.take ks.length)=true∧z8c ks' (l.drop ks.length)=true
 | [],_,_,h=>⟨rfl,h⟩
 | k :: ks,ks',[],h=>by cases k <;> simp [z8c] at h
 | k :: ks,ks',v :: l,h=>by
  cases k <;> cases v <;> simp only [v1x,z8c] at h <;> try (cases h; done)
  ·split at h
   ·rename_i hk
    obtain ⟨h1,h2⟩:=zdd h;simp only [v05,v3d,v3p,z8c,hk];exact ⟨h1,h2⟩
   ·cases h
  ·obtain ⟨h1,h2⟩:=zdd h
   simp only [v05,v3d,v3p,z8c];exact ⟨h1,h2⟩
theorem zhy:∀ {a a':List V} {b b':List V} {c:Bool},a.length=a'.length→zv8 (a++b) (a'++b')=some c→∃ c1 c2,zv8 a a'=some c1∧zv8 b b'=some c2∧c=(c1&&c2)
 | [],[],b,b',c,_,h=>⟨true,c,rfl,h,by simp⟩
 | [],_ :: _,_,_,_,hl,_=>by simp at hl
 | _ :: _,[],_,_,_,hl,_=>by simp at hl
 | x :: a,y :: a',b,b',c,hl,h=>by
  have hl':a.length=a'.length:=by simpa using hl
  cases x <;> cases y <;> simp only [v1x,zv8] at h ⊢ <;> try (cases h; done)
  ·split at h
   ·rename_i hk
    split at h
    ·rename_i c0 h0
     simp only [v00] at h;obtain ⟨c1,c2,h1,h2,h3⟩:=zhy hl' h0;rw [h1];exact ⟨_,c2,rfl,h2,by rw [← h,h3,Bool.and_assoc]⟩
    ·cases h
   ·cases h
  ·split at h
   ·rename_i c0 h0
    simp only [v00] at h;obtain ⟨c1,c2,h1,h2,h3⟩:=zhy hl' h0;rw [h1];exact ⟨_,c2,rfl,h2,by rw [← h,h3,Bool.and_assoc]⟩
   ·cases h
theorem zfb:∀ {a a':List V} {c:Bool},zv8 a a'=some c→a.length=a'.length
 | [],[],_,_=>rfl
 | [],_ :: _,_,h=>by simp [zv8] at h
 | x :: _,[],_,h=>by cases x <;> simp [zv8] at h
 | x :: a,y :: a',c,h=>by
  cases x <;> cases y <;> simp only [zv8] at h <;> try (cases h; done)
  ·split at h
   ·split at h
    ·rename_i h0
     simp [zfb h0]
    ·cases h
   ·cases h
  ·split at h
   ·rename_i h0
    simp [zfb h0]
   ·cases h
section
variable {P:Program} {γ:Nat→Value} {o:Store} {w:World} {O:Nat→Prop}
def zob (P:Program) (γ:Nat→Value) (o:Store) (w:World) (O:Nat→Prop) (t:Nat) (l:List V) (x:Value):Prop:=
 match P.underlying t with
 | some d=>match d.isRow with
  | true=>∃ xs,x = .agg xs∧VRels γ o w O l xs.toList
  | false=>∃ v,l=[v]∧VRel γ o w O v x
 | none=>False
theorem ybl {d t:Nat} {ks:List Kd} (h:eqW P d t=some ks):∃ k,P.underlying t=some k∧(k.isRow=false→ks.length=1):=by
 cases d with
 | zero=>simp [eqW] at h
 | succ d=>
  simp only [eqW] at h
  split at h
  ·rename_i hu; simp only [v00] at h; exact ⟨_,hu,fun _=>by rw [← h]; rfl⟩
  ·rename_i hu; simp only [v00] at h; exact ⟨_,hu,fun _=>by rw [← h]; rfl⟩
  ·rename_i hu; exact ⟨_,hu,fun h=>by simp [TypeDesc.isRow] at h⟩
  ·rename_i hu; exact ⟨_,hu,fun h=>by simp [TypeDesc.isRow] at h⟩
  ·cases h
theorem zes {t n off:Nat} {l:List V} {xs:Array Value} (hu:∃ k,P.underlying t=some k∧(k.isRow=false→n=1)) (hs:zv9 P t n=true) (hr:VRels γ o w O l xs.toList) (hl:off+n≤l.length) (W:World) :
  ∃ y,(part t xs off).run P W = .ok y W∧zob P γ o w O t ((l.drop off).take n) y:=by
 obtain ⟨k,hu,hn⟩:=hu;unfold zv9 at hs
 split at hs
 ·rename_i i hi
  simp only [v1d] at hs;cases hrow:k.isRow with
  | true=>
   refine ⟨.agg (xs.extract off (off+n)),?_,?_⟩
   ·cases k <;> simp [TypeDesc.isRow] at hrow <;> simp [part,isAgg,run_underlying hu,run_sizeOf W hi,hs]
   ·unfold zob
    rw [hu];simp only [hrow];refine ⟨_,rfl,?_⟩
    have:(xs.extract off (off+n)).toList=(xs.toList.drop off).take n:=by
     simp [v42]
    rw [this];exact (hr.drop off).take n
  | false=>
   obtain rfl:=hn hrow;obtain ⟨v,hv⟩:∃ v,l[off]?=some v:=⟨l[off]'(by omega),v0g _⟩
   obtain ⟨y,hy,hyr⟩:=hr.get hv;have hy':xs[off]?=some y:=by simpa using hy
   refine ⟨y,?_,?_⟩
   ·cases k <;> simp [TypeDesc.isRow] at hrow <;> simp [part,isAgg,run_underlying hu,hy']
   ·unfold zob
    rw [hu];simp only [hrow];refine ⟨v,?_,hyr⟩;rw [List.take_one,List.head?_drop,hv]
    rfl
 ·cases hs
def ygk (P:Program) (γ:Nat→Value) (o:Store) (w:World) (O:Nat→Prop) (dd t:Nat) (ks:List Kd):Prop:=∀ (W:World) (x y:Value) (l l':List V) (c:Bool),z8c ks l=true→zob P γ o w O t l x→zob P γ o w O t l' y→zv8 l l'=some c→(Op.equalIn dd t x y).run P W = .ok c W
theorem z9v (l:List V) (off n:Nat):l.drop off=(l.drop off).take n++l.drop (off+n):=by
 rw [← v3v]; exact (v3j n (l.drop off)).symm
theorem zoi {dd:Nat} {g:Nat→Option (List Kd)} (hg:∀ t ks,g t=some ks→ygk P γ o w O dd t ks∧∃ k,P.underlying t=some k∧(k.isRow=false→ks.length=1)) {xs ys:Array Value} {l l':List V} (hx:VRels γ o w O l xs.toList) (hy:VRels γ o w O l' ys.toList) (hll:l.length=l'.length) (W:World) :
  ∀ (fs:List Field) (off:Nat) {ks:List Kd} {c:Bool},off≤l.length→yiu P g fs off=some ks→z8c ks (l.drop off)=true→zv8 (l.drop off) (l'.drop off)=some c→(Op.eqFields dd xs ys fs).run P W = .ok c W
 | [],off,ks,c,hoff,hf,hk,he=>by
  simp only [yiu,v00] at hf;subst hf;have h0:=z9i hk;have h1:l.drop off=[]:=List.length_eq_zero_iff.1 h0;have h2:l'.drop off=[]:=by
   have:=zfb he
   rw [h1] at this;exact List.length_eq_zero_iff.1 this.symm
  rw [h1,h2] at he;simp only [zv8,v00] at he;subst he;simp [Op.eqFields]
 | f :: r,off,ks,c,hoff,hf,hk,he=>by
  simp only [yiu] at hf
  split at hf
  ·rename_i ks1 hw
   split at hf
   ·rename_i hb
    split at hf
    ·rename_i ks2 hf2
     simp only [v00] at hf;subst hf;simp only [v02,v1d,bne_iff_ne,ne_eq] at hb;obtain ⟨hn,ho,hs⟩:=hb;obtain ⟨hrun,hu⟩:=hg _ _ hw;obtain ⟨hk1,hk2⟩:=zdd hk;rw [v3v] at hk2;have hkl:=z9i hk;simp only [v1h,v0a] at hkl;have hle:off+ks1.length≤l.length:=by omega
     rw [z9v l off ks1.length,z9v l' off ks1.length] at he;obtain ⟨c1,c2,h1,h2,h3⟩:=zhy (by simp; omega) he
     obtain ⟨a,ha,hac⟩:=zes (off:=off) hu hs hx hle W;obtain ⟨b,hb,hbc⟩:=zes (off:=off) hu hs hy (by omega) W
     have he1:=hrun W a b _ _ c1 hk1 hac hbc h1;have ih:=zoi hg hx hy hll W r (off+ks1.length) hle hf2 hk2 h2;simp only [Op.eqFields,hn,ne_eq,not_false_eq_true,v1l,Sem.run_bind,ho,ha,hb,he1,Result.andThen_ok];subst h3;cases c1
     ·simp
     ·simpa using ih
    ·cases hf
   ·cases hf
  ·cases hf
theorem zrt {dd e:Nat} {ks:List Kd} (hrun:ygk P γ o w O dd e ks) (hu:∃ k,P.underlying e=some k∧(k.isRow=false→ks.length=1)) (hs:zv9 P e ks.length=true) {xs ys:Array Value} {l l':List V} (hx:VRels γ o w O l xs.toList) (hy:VRels γ o w O l' ys.toList) (hll:l.length=l'.length) (W:World) :
  ∀ (m i:Nat) {c:Bool},i*ks.length+m*ks.length=l.length→z8c (yfn ks m) (l.drop (i*ks.length))=true→zv8 (l.drop (i*ks.length)) (l'.drop (i*ks.length))=some c→(Op.eqItems dd e ks.length xs ys (List.range' i m)).run P W = .ok c W
 | 0,i,c,hl,hk,he=>by
  rw [v1b (by omega),v1b (by omega)] at he
  simp only [zv8,v00] at he;subst he;simp [Op.eqItems]
 | m+1,i,c,hl,hk,he=>by
  rw [v27,Nat.one_mul] at hl;obtain ⟨hk1,hk2⟩:=zdd (ks:=ks) (ks':=yfn ks m) hk;rw [v3v] at hk2;rw [z9v l (i*ks.length) ks.length,z9v l' (i*ks.length) ks.length] at he;obtain ⟨c1,c2,h1,h2,h3⟩:=zhy (by simp; omega) he
  obtain ⟨a,ha,hac⟩:=zes (off:=i*ks.length) hu hs hx (by omega) W
  obtain ⟨b,hb,hbc⟩:=zes (off:=i*ks.length) hu hs hy (by omega) W
  have he1:=hrun W a b _ _ c1 hk1 hac hbc h1;have ih:=zrt hrun hu hs hx hy hll W m (i+1) (by rw [v27,Nat.one_mul]; omega) (by rw [v27,Nat.one_mul]; exact hk2) (by rw [v27,Nat.one_mul]; exact h2)
  simp only [List.range'_succ,Op.eqItems,Sem.run_bind,ha,hb,he1,Result.andThen_ok];subst h3;cases c1
  ·simp
  ·simpa using ih
theorem zso (ks:List Kd):∀ n,(yfn ks n).length=n*ks.length
 | 0=>by simp [yfn]
 | n+1=>by simp only [yfn,v0a,zso ks n,v27,Nat.one_mul]; omega
theorem y4r (dd:Nat):∀ (d t:Nat) (ks:List Kd),eqW P d t=some ks→ygk P γ o w O (dd+d) t ks
 | 0,t,ks,h=>by simp [eqW] at h
 | d+1,t,ks,h=>by
  intro W x y l l' c hk hx hy he;have hll:=zfb he;simp only [eqW] at h;unfold zob at hx hy
  split at h
  ·rename_i k hu
   simp only [v00] at h;subst h;rw [hu] at hx hy;simp only at hx hy;obtain ⟨v,rfl,hx⟩:=hx;obtain ⟨v',rfl,hy⟩:=hy;cases v <;> simp only [z8c] at hk <;> try (cases hk; done)
   cases v' <;> simp only [zv8] at he <;> try (cases he; done)
   simp only [VRel] at hx hy;obtain ⟨rfl,_⟩:=hx;obtain ⟨rfl,_⟩:=hy
   split at he
   ·rename_i hkk
    simp only [v00,v1f] at he;have hkk:=eq_of_beq hkk;subst hkk;rw [show dd+(d+1)=(dd+d)+1 from rfl,run_equalIn_int W _ t _ k _ _ hu,he]
   ·cases he
  ·rename_i hu
   simp only [v00] at h;subst h;rw [hu] at hx hy;simp only at hx hy;obtain ⟨v,rfl,hx⟩:=hx;obtain ⟨v',rfl,hy⟩:=hy;cases v <;> simp only [z8c] at hk <;> try (cases hk; done)
   cases v' <;> simp only [zv8] at he <;> try (cases he; done)
   simp only [VRel] at hx hy;subst hx; subst hy;simp only [v00,v1f] at he;rw [show dd+(d+1)=(dd+d)+1 from rfl,run_equalIn_bool W _ t _ _ hu,he]
  ·rename_i fs hu
   rw [hu] at hx hy;simp only at hx hy;obtain ⟨xs,rfl,hx⟩:=hx;obtain ⟨ys,rfl,hy⟩:=hy
   split at h
   ·cases h
   ·rename_i hst
    have hfs:P.fieldsOf t=fs:=by simp [Program.fieldsOf,hu]
    rw [show dd+(d+1)=(dd+d)+1 from rfl,run_equalIn_struct W (dd+d) t xs ys (by rw [hfs]; exact hu) hst,hfs]
    exact zoi (fun t ks ht=>⟨y4r dd d t ks ht,ybl ht⟩) hx hy hll W fs.toList 0 (v0y _) h hk he
  ·rename_i m e hu
   rw [hu] at hx hy;simp only at hx hy;obtain ⟨xs,rfl,hx⟩:=hx;obtain ⟨ys,rfl,hy⟩:=hy
   split at h
   ·rename_i ks1 hw
    split at h
    ·rename_i hs
     simp only [v00] at h;subst h;have hs':=hs;unfold zv9 at hs'
     split at hs'
     ·rename_i i hi
      simp only [v1d] at hs';have hkl:=z9i hk;rw [zso] at hkl;rw [show dd+(d+1)=(dd+d)+1 from rfl,run_equalIn_array W (dd+d) xs ys hu hi,hs',v3m]
      exact zrt (y4r dd d e ks1 hw) (ybl hw) hs hx hy hll W m 0 (by omega) (by simpa using hk) (by simpa using he)
     ·cases hs'
    ·cases h
   ·cases h
  ·cases h
end
theorem yal {P:Program} {E:Env} {ti:List (Nat × TI)} (hti:E.ti=ti) {l:List Nat} (h:yiy P ti l=true):∀ t,t∈l→EqSnd P t (E.tyd t).ks:=by
 induction l with
 | nil=>intro t ht; cases ht
 | cons t r ih=>
  intro t' ht';simp only [yiy,v02,v12] at h;rcases v13.1 ht' with e | e
  ·subst e
   refine ⟨h.1.1,fun γ o w w' O l l' xs ys c hk hc hx hy=>?_⟩
   obtain ⟨⟨_,h2,h3⟩,_⟩:=h
   split at h3
   ·rename_i ks hn
    have hks:(E.tyd t').ks=ks:=by
     unfold Env.tyd;rw [hti];exact zww h3
    rw [hks] at hk
    split at h2
    ·rename_i k hk2
     have hcx:∀ {l:List V} {xs:Array Value},VRels γ o w O l xs.toList→zob P γ o w O t' l (.agg xs):=fun hx=>by
      unfold zob;rw [hk2];simp only [h2];exact ⟨_,rfl,hx⟩
     exact y4r (P:=P) (γ:=γ) (o:=o) (w:=w) (O:=O) 9990 10 t' ks hn w' (.agg xs) (.agg ys) l l' c hk (hcx hx) (hcx hy) hc
    ·cases h2
   ·cases h3
  ·exact ih h.2 t' e
open Go Go.RowKit
theorem Snd.mono {P:Program} {B:BT} {f:FuncId} {sp sp':yff} (h:Snd P B f sp) (hs:∀ vs r,sp' vs=some r→sp vs=some r):Snd P B f sp':=
 fun w X γ vs xs r out hsp=>h w X γ vs xs r out (hs vs _ hsp)
def z2u (P:Program) (B:BT) (f:FuncId) (sp:z0n):Prop:=Snd P B f (fun vs=>(sp vs).get)
mutual
def wfK:Kd→IV→Prop
 | .int k,x=>k.min≤x.toInt∧x.toInt≤k.max
 | .bool,_=>True
 | .str,x=>x.toStr.size≤strMax
 | .list ag ks,x=>x.toList.length≤strMax∧∀ y∈x.toList,yfx ks (z2q ag y) 0
def yfx:List Kd→(Nat→IV)→Nat→Prop
 | [],_,_=>True
 | k :: ks,f,j=>wfK k (f j)∧yfx ks f (j+1)
end
def wfL:V→Prop
 | .int k n=>k.min≤n∧n≤k.max
 | .str s=>s.size≤strMax
 | .list ag ks l=>l.length≤strMax∧∀ y∈l,yfx ks (z2q ag y) 0
 | .vec _ ag ks l=>l.length≤strMax∧∀ y∈l,yfx ks (z2q ag y) 0
 | .bld s=>s.size≤strMax
 | _=>True
def wfLs:List V→Prop
 | []=>True
 | v :: r=>wfL v∧wfLs r
def wfV:V→Prop
 | .agg l=>wfLs l
 | .bor l=>wfLs l
 | v=>wfL v
def yey:List V→Prop
 | []=>True
 | v :: r=>wfV v∧yey r
mutual
theorem Kd.Rel.wf {w:World} {O:Nat→Prop}:∀ {k:Kd} {x:IV} {v:Value},Kd.Rel w O k x v→wfK k x
 | .int k,x,v,h=>by simp only [Kd.Rel] at h; simp only [wfK]; exact h.2
 | .bool,x,v,h=>by simp only [wfK]
 | .str,x,v,h=>by simp only [Kd.Rel] at h; simp only [wfK]; exact h.2
 | .list ag ks,x,v,h=>by
  simp only [Kd.Rel] at h;obtain ⟨p,c,_,_,_,hl,hi⟩:=h;simp only [wfK];refine ⟨hl,fun y hy=>?_⟩
  obtain ⟨i,hi'⟩:=v2t hy;obtain ⟨b,o,_,_,_,hr⟩:=hi i y hi';exact Kd.RelAll.wf hr
theorem Kd.RelAll.wf {w:World} {O:Nat→Prop}:∀ {ks:List Kd} {f:Nat→IV} {j:Nat} {R:Nat→Value→Prop},Kd.RelAll w O ks f j R→yfx ks f j
 | [],_,_,_,_=>by simp only [yfx]
 | k :: ks,f,j,R,h=>by
  simp only [Kd.RelAll] at h;obtain ⟨⟨u,_,hr⟩,h2⟩:=h;simp only [yfx];exact ⟨Kd.Rel.wf hr,Kd.RelAll.wf h2⟩
end
theorem VRel.wfL {γ:Nat→Value} {o:Store} {w:World} {O:Nat→Prop} {v:V} {x:Value} (h:VRel γ o w O v x):wfL v:=by
 cases v <;> simp only [FM.wfL] <;> simp only [VRel] at h
 ·exact h.2
 ·exact h.2
 ·have:=Kd.Rel.wf h
  simp only [wfK,IV.toList] at this;exact this
theorem VRels.wfLs {γ:Nat→Value} {o:Store} {w:World} {O:Nat→Prop}:∀ {l:List V} {xs:List Value},VRels γ o w O l xs→wfLs l
 | [],[],_=>by simp only [FM.wfLs]
 | [],_ :: _,h=>by simp only [VRels] at h
 | _ :: _,[],h=>by simp only [VRels] at h
 | v :: vs,x :: xs,h=>by
  simp only [VRels] at h;simp only [FM.wfLs];exact ⟨h.1.wfL,VRels.wfLs h.2⟩
theorem yhy {B:BT} {γ:Nat→Value} {o:Store} {w:World} {O:Nat→Prop} {g:Value} {e:Nat} {ag:Bool} {ks:List Kd} {l:List IV} (h:ObRel B γ o w O g (.row true e ag ks l)):wfL (.vec e ag ks l):=by
 simp only [ObRel] at h;obtain ⟨_,hl,xs,_,hr⟩:=h;simp only [FM.wfL];refine ⟨hl,fun y hy=>?_⟩
 obtain ⟨i,hi⟩:=v2t hy;exact Kd.RelAll.wf (hr i y hi)
theorem yga {B:BT} {nt:Nat} {w0:World} {X:Zone} {γ:Nat→Value} {a:Act} {w:World} {cs:List V} (h:Rel B nt w0 X γ ⟨[],z7r cs⟩ a w):wfLs cs:=by
 by_cases hb:∃ s,cs=[.bld s]
 ·obtain ⟨s,rfl⟩:=hb
  have:=h.ob 900000 (.bld s) (by simp [z7r,z01])
  simp only [ObRel] at this;obtain ⟨b,v,p,_,_,_,_,_,hs⟩:=this;simp only [FM.wfLs,FM.wfL,v18];exact hs
 ·have he:z7r cs=(900000,some (.box (z6v 900001 cs))) :: zg3 900001 cs:=zyi (fun s e=>hb ⟨s,e⟩)
  have hbox:=h.ob 900000 (.box (z6v 900001 cs)) (by rw [he,z01,v1c rfl])
  simp only [ObRel] at hbox;obtain ⟨b,c,T,_,_,hr⟩:=hbox;have hall:∀ (j:Nat) (v:V),cs[j]?=some v→FM.wfL v:=by
   intro j v hj
   by_cases hv:∃ e ag ks l,v = .vec e ag ks l
   ·obtain ⟨e,ag,ks,l,rfl⟩:=hv
    have hat:=zlm (nr:=900001) hj
    have:=h.ob (900001+j) _ (show z03 (z7r cs) (900001+j)=_ by rw [he,z01,v0x (by omega)]; exact hat)
    exact yhy this
   ·have hbk:(z6v 900001 cs)[j]?=some v:=by
     rw [zgr,hj];cases v <;> first | rfl | exact absurd ⟨_,_,_,_,rfl⟩ hv
    obtain ⟨x,_,hx⟩:=hr.get hbk;exact hx.wfL
  clear hr he hb h
  induction cs with
  | nil=>simp only [FM.wfLs]
  | cons v r ih=>
   simp only [FM.wfLs];exact ⟨hall 0 v rfl,ih (fun j u hj=>hall (j+1) u (by simpa using hj))⟩
theorem ybv {B:BT} {nt:Nat} {w0:World} {X:Zone} {γ:Nat→Value} {a:Act} {w:World} {O:Nat→Prop} {o:Store} {cs:Option (List V)} (hcs:∀ l,cs=some l→wfLs l):∀ {vs:List V} {xs:List Value},(∀ l,.bor l∈vs→cs=some l)→VRels γ o w O (vs.map z8p) xs→yey vs
 | [],_,_,_=>by simp only [yey]
 | v :: r,[],_,h=>by simp only [v0e,VRels] at h
 | v :: r,x :: xs,hb,h=>by
  simp only [v0e,VRels] at h;simp only [yey];refine ⟨?_,ybv (B:=B) (nt:=nt) (w0:=w0) (X:=X) (a:=a) hcs (fun l hl=>hb l (v0b _ hl)) h.2⟩
  have h1:=h.1
  by_cases hbor:∃ l,v = .bor l
  ·obtain ⟨l,rfl⟩:=hbor
   simp only [wfV];exact hcs l (hb l (v09 ..))
  ·by_cases hagg:∃ l,v = .agg l
   ·obtain ⟨l,rfl⟩:=hagg
    simp only [z8p,VRel] at h1;obtain ⟨cs',_,hr⟩:=h1;simp only [wfV];exact hr.wfLs
   ·have:wfV v=FM.wfL v:=by cases v <;> first | rfl | exact absurd ⟨_,rfl⟩ hbor | exact absurd ⟨_,rfl⟩ hagg
    rw [this];cases v <;> first | exact h1.wfL | exact absurd ⟨_,rfl⟩ hbor | exact absurd ⟨_,rfl⟩ hagg | (simp only [FM.wfL])
def zbw:List V→Option (List V)→Prop
 | [],_=>True
 | .bor l :: r,c=>c=some l∧zbw r c
 | _ :: r,c=>zbw r c
theorem zmh:∀ {vs:List V} {c:Option (List V)},zbw vs c→∀ l,.bor l∈vs→c=some l
 | [],_,_,l,h=>by cases h
 | v :: r,c,ho,l,h=>by
  rcases v13.1 h with e | e
  ·subst e
   exact ho.1
  ·cases v <;> simp only [zbw] at ho <;> first | exact zmh ho l e | exact zmh ho.2 l e
theorem yb5 {P:Program} {B:BT} {f:FuncId} {fn:Func} (E:Nat→Env) (sp:z0n) (rks:List (List Kd)) (hf:P.funcs[f]?=some fn) {code:Code} {rs:List ResultVar} {nt:Nat}
  (hc:(fn.name == "runtime.NumGoroutine")=false∧fn.body=some code∧fn.ntmps=nt∧Nat.ble nt 900000=true∧fn.results.toList=rs) (hnt:∀ N,(E N).nt=nt) (hm:P.follows .mixedOrders=true)
  (hT:∀ N,TiOK P B (E N)) (hE:∀ N t,t∈(E N).eqs→EqSnd P t ((E N).tyd t).ks) (hSp:∀ N f sp,lk (E N).sp f=some sp→z2u P B f sp) (hIp:∀ N f p,lk (E N).ip f=some p→zwu P f p) (hB:∀ N,BldOK P B (E N))
  (h:∀ vs r,(zbw vs (z6a vs)→yey vs)→(sp vs).get=some r→∃ N,z0y (E N) code rs rks vs=some r):z2u P B f sp:=by
 intro w X γ vs xs r out hsp hg hx hR hV;have hwf:zbw vs (z6a vs)→yey vs:=fun ho=>by
  refine ybv (B:=B.base) (nt:=0) (w0:=w) (X:=X) (a:=zwe) (cs:=z6a vs) (fun l hl=>?_) (zmh ho) hV
  have hm:zbz vs=z7r l:=by simp only [zbz,hl]
  rw [hm] at hR;exact yga hR
 obtain ⟨N,hN⟩:=h vs _ hwf hsp;exact ya9 hf hc.1 hc.2.1 ((hnt N).trans hc.2.2.1.symm) (by rw [hc.2.2.1]; exact hc.2.2.2.1) hc.2.2.2.2 rks hm (hT N) (hE N) (hSp N) (hIp N) (hB N) w X γ vs xs r out hN hg hx hR hV
abbrev ic (n:Nat):Int:=n
abbrev lpE (E:Env) (c:Code) (kp:KP) (n:Nat) (s:St) (k:Out→St→Res):Res:=zui c (evG zui E c) kp n s k
abbrev kSq (E:Env) (c:Code) (k:Out→St→Res):Out→St→Res:=yk2 c (evG zui E c) k
abbrev rnd (E:Env) (c:Code) (s:St) (k:Out→St→Res):Res:=evG zui E c s k
theorem z05 (E:Env) (c:Code) (kp:KP) (n:Nat) (s:St) (k:Out→St→Res):lpE E c kp (n+1) s k=rnd E c s (z3v (fun s'=>lpE E c kp n s' k) kp k):=rfl
def z0d (fn:Func):Code:=match fn.body with | some c=>c | none=>.skip
def z0i:Code→List Nat→Code
 | c,[]=>c
 | .seq a _,0 :: r=>z0i a r
 | .seq _ b,_ :: r=>z0i b r
 | .cond _ a _,0 :: r=>z0i a r
 | .cond _ _ b,_ :: r=>z0i b r
 | .block _ c,_ :: r=>z0i c r
 | .loop c,_ :: r=>z0i c r
 | .scope c,_ :: r=>z0i c r
 | _,_=>.skip
open Go Go.RowKit
section
variable {P:Program} {B:BT} {f:FuncId}
theorem Does.of_calls {fn:Func} (hf:P.funcs[f]?=some fn) (hn:(fn.name == "runtime.NumGoroutine")=false) (hb:fn.body.isNone=false) {xs:List Value} {w:World} {R:Ending→World→Prop} (h:Calls P f xs.toArray w R):Does P f xs w R:=Does.enter hf hn hb h
theorem y8n {r:V} (h:∀ cs,r≠.bor cs) (hv:∀ e ag ks l,r≠.vec e ag ks l):z3h r []=[]:=by
 cases r <;> first | rfl | exact absurd rfl (h _) | exact absurd rfl (hv _ _ _ _)
theorem z87 {w:World} {X:Zone} {γ:Nat→Value} {vs:List V} {xs:List Value} {r:V} (hR:Rel B.base 0 w X γ ⟨[],zbz vs⟩ zwe w) (hb:z6a vs=none) (hr:zi8 r=true)
  (h:Does P f xs w fun e w'=>∃ x,e = .returned x∧Keep (fun _=>False) w w'∧∀ O:Nat→Prop,(∀ b,O b→b < w.heap.size)→VRel γ [] w' O r x) :
  Does P f xs w fun e w'=>∃ x,e = .returned x∧∃ γ',Rel B.base 0 w X γ' ⟨[],z3h r []⟩ zwe w'∧VRel γ' (z3h r []) w' (z08 X γ' (z3h r [])) (y48 r) x∧zaa vs r [] (γ 900000) (γ' 900000):=by
 have hm:zbz vs=[]:=by simp only [zbz,hb]
 rw [hm] at hR;have hnb:∀ cs,r≠.bor cs:=fun cs e=>by subst e; simp [zi8,z9e] at hr
 have hnv:∀ e ag ks l,r≠.vec e ag ks l:=fun e ag ks l h=>by subst h; simp [zi8,z9e] at hr
 rw [y8n hnb hnv,zba hr];refine h.mono ?_
 rintro e w' ⟨x,rfl,hk,hv⟩
 refine ⟨x,rfl,γ,hR.world hk,hv _ (fun b hb=>?_),?_⟩
 ·rcases hb with ⟨n,ob,hn,_⟩ | hb
  ·simp [z03,lkd] at hn
  ·exact hR.fl b hb
 ·simp only [zaa,hb]
  cases r <;> first | exact hr | exact absurd rfl (hnb _) | exact absurd rfl (hnv _ _ _ _)
structure BldIs (B:BT) (w:World) (b:Nat) (p v:Value) (s:ByteArray):Prop where
 self:p = .pointer none∨p = .pointer (some ⟨b,0,none⟩)
 heap:w.heap[b]?=some (.cells #[p,v] B.T (0,0))
 own:w.ownsRowF 0 B.e 1 v s.size (Lib.strCells s)
 ne:v.ownBlock≠some b
 size:s.size≤strMax
theorem y3u {w:World} {X:Zone} {γ:Nat→Value} {vs:List V} {xs:List Value} {r:V} {s s':ByteArray} (hR:Rel B.base 0 w X γ ⟨[],zbz vs⟩ zwe w) (hb:z6a vs=some [.bld s]) (hr:zi8 r=true) (hnl:∀ γ' o w' O x,VRel γ [] w O r x→VRel γ' o w' O r x)
  (h:∀ b v p,γ 900000 = .tuple #[.pointer (some ⟨b,0,none⟩),v]→BldIs B w b p v s→Does P f xs w fun e w'=>∃ x,e = .returned x∧(∃ p' v',BldIs B w' b p' v' s'∧Keep (fun k=>k=b∨v.ownBlock=some k) w w'∧∀ k,v'.ownBlock=some k→v.ownBlock=some k∨w.heap.size≤k)∧∀ O,VRel γ [] w O r x) :
  Does P f xs w fun e w'=>∃ x,e = .returned x∧∃ γ',Rel B.base 0 w X γ' ⟨[],z3h r [[.bld s']]⟩ zwe w'∧VRel γ' (z3h r [[.bld s']]) w' (z08 X γ' (z3h r [[.bld s']])) (y48 r) x∧zaa vs r [[.bld s']] (γ 900000) (γ' 900000):=by
 have hm:zbz vs=z7r [.bld s]:=by simp only [zbz,hb]
 have hmo:z3h r [[.bld s']]=z7r [.bld s']:=by cases r <;> rfl
 rw [hm] at hR;have hob:z03 (z7r [.bld s]) 900000=some (.bld s):=by simp [z7r,z01]
 have hor:=hR.ob 900000 _ hob;simp only [ObRel,BT.base] at hor;obtain ⟨b,v,p,hg,hp,hh,how,hne,hsz⟩:=hor;rw [hmo,zba hr];refine (h b v p hg ⟨hp,hh,how,hne,hsz⟩).mono ?_
 rintro e w' ⟨x,rfl,⟨p',v',hB,hk,hnew⟩,hx⟩
 have hPb:∀ k,(k=b∨v.ownBlock=some k)→z1l γ (z7r [.bld s]) k:=by
  rintro k hk
  refine ⟨900000,_,hob,⟨b,0,none⟩,v,hg,?_⟩;rcases hk with rfl | hk
  ·exact .inl rfl
  ·exact .inr hk
 have hXb:∀ k,(k=b∨v.ownBlock=some k)→k < w.heap.size∧X.own k∧¬ X.far k:=fun k hk=>by
  obtain ⟨h1,h2⟩:=hR.lt k (hPb k hk);exact ⟨h1,h2.resolve_left (by omega),hR.nr k (hPb k hk)⟩
 have hkX:Keep X.own w w':=hk.mono (fun k _ h=>(hXb k h).2.1)
 have hobs:∀ n ob,z03 (z7r [.bld s']) n=some ob→n=900000∧ob = .bld s':=by
  intro n ob hn;simp only [z7r,z01] at hn
  split at hn
  ·rename_i e
   simp only [v00] at hn;exact ⟨e.symm,hn.symm⟩
  ·simp [z03,lkd] at hn
 have hP':∀ k,z1l (fun _=>.tuple #[.pointer (some ⟨b,0,none⟩),v']) (z7r [.bld s']) k→k=b∨v'.ownBlock=some k:=by
  rintro k ⟨n,ob,hn,hbk⟩
  obtain ⟨rfl,rfl⟩:=hobs n ob hn;obtain ⟨a,v2,h1,h2⟩:=hbk;simp only [Value.tuple.injEq] at h1;have e1:a=⟨b,0,none⟩∧v2=v':=by
   have:=congrArg Array.toList h1
   simp at this;exact ⟨this.1.symm,this.2.symm⟩
  obtain ⟨rfl,rfl⟩:=e1;rcases h2 with h2 | h2
  ·exact .inl h2.symm
  ·exact .inr h2
 have hlt':∀ k,v'.ownBlock=some k→k < w'.heap.size:=by
  intro k hk;rcases hB.own.2 with ⟨rfl,_⟩ | ⟨g,cap,cur,fz,rfl,_,hgh,_⟩
  ·simp [Value.ownBlock] at hk
  ·simp only [Value.ownBlock,v00] at hk
   subst hk;exact (Array.getElem?_eq_some_iff.1 hgh).1
 refine ⟨x,rfl,fun _=>.tuple #[.pointer (some ⟨b,0,none⟩),v'],⟨rfl,rfl,fun i=>by simp only [St.get,lkd,VRel],fun n ob hn=>?_,fun k hk2=>?_,fun n m ob ob' k hnm h1 h2=>?_,hkX,fun k hk2 hf=>?_,fun k hf=>v17 (hR.fl k hf) hk.size,fun q hq=>by cases hq⟩,hnl _ _ _ _ _ (hx _),?_⟩
 ·obtain ⟨rfl,rfl⟩:=hobs n ob hn
  simp only [ObRel,BT.base];exact ⟨b,v',p',rfl,hB.self,hB.heap,hB.own,hB.ne,hB.size⟩
 ·rcases hP' k hk2 with rfl | h2
  ·obtain ⟨h3,h4,_⟩:=hXb k (.inl rfl)
   exact ⟨v17 h3 hk.size,.inr h4⟩
  ·refine ⟨hlt' k h2,?_⟩
   rcases hnew k h2 with h3 | h3
   ·exact .inr (hXb k (.inr h3)).2.1
   ·exact .inl h3
 ·obtain ⟨rfl,rfl⟩:=hobs n ob h1
  obtain ⟨rfl,rfl⟩:=hobs m ob' h2;exact absurd rfl hnm
 ·rcases hP' k hk2 with rfl | h2
  ·exact (hXb k (.inl rfl)).2.2 hf
  ·rcases hnew k h2 with h3 | h3
   ·exact (hXb k (.inr h3)).2.2 hf
   ·have:=hR.fl k hf
    omega
 ·simp only [zaa,hb]
  exact ⟨hr,rfl,by rw [hg]; rfl⟩
theorem y3m {w:World} {γ:Nat→Value} {s:ByteArray} {O:Nat→Prop} {x:Value} {b:Nat} {v:Value} (hg:γ 900000 = .tuple #[.pointer (some ⟨b,0,none⟩),v]) (h:VRel γ (z7r [.bld s]) w O (.ptr 900000 0 0) x):x = .pointer (some ⟨b,0,none⟩):=by
 simp only [VRel,z7r,z01,v1l] at h;obtain ⟨_,b',v',h1,rfl⟩:=h;rw [hg] at h1;simp only [Value.tuple.injEq] at h1
 have:=congrArg Array.toList h1
 simp at this;rw [this.1]
theorem y0u {w:World} {X:Zone} {γ:Nat→Value} {vs:List V} {xs:List Value} {e:Nat} {ag:Bool} {ks:List Kd} {l:List IV} (hR:Rel B.base 0 w X γ ⟨[],zbz vs⟩ zwe w) (hb:z6a vs=none) (he:e < 1000000) (hks:0 < ks.length) (hl:l.length≤strMax)
  (h:Does P f xs w fun e' w'=>∃ v ys,e' = .returned v∧Keep (fun _=>False) w w'∧w'.ownsRow w.heap.size e ks.length v l.length ys∧∀ (O:Nat→Prop) i y,l[i]?=some y→Kd.RelAll w' O ks (z2q ag y) 0 (fun j u=>ys[i*ks.length+j]?=some u)) :
  Does P f xs w fun e' w'=>∃ x,e' = .returned x∧∃ γ',Rel B.base 0 w X γ' ⟨[],z3h (.vec e ag ks l) []⟩ zwe w'∧VRel γ' (z3h (.vec e ag ks l) []) w' (z08 X γ' (z3h (.vec e ag ks l) [])) (y48 (.vec e ag ks l)) x∧zaa vs (.vec e ag ks l) [] (γ 900000) (γ' 900000):=by
 have hm:zbz vs=[]:=by simp only [zbz,hb]
 rw [hm] at hR;have hmo:z3h (.vec e ag ks l) []=[(900000,some (.row true e ag ks l))]:=rfl;rw [hmo];refine h.mono ?_
 rintro e' w' ⟨v,ys,rfl,hk,hown,hel⟩
 have hown0:w'.ownsRow 0 e ks.length v l.length ys:=by
  refine ⟨hown.1,?_⟩;rcases hown.2 with h1 | ⟨g,cap,cur,h1,_,h2,h3,h4,h5,h6⟩
  ·exact .inl h1
  ·exact .inr ⟨g,cap,cur,h1,v0y _,h2,h3,h4,h5,h6⟩
 have obs:∀ n ob,z03 [(900000,some (Ob.row true e ag ks l))] n=some ob→n=900000∧ob = .row true e ag ks l:=fun n ob hn=>by
  rw [z01] at hn
  split at hn
  ·rename_i h9
   simp only [v00] at hn;exact ⟨h9.symm,hn.symm⟩
  ·simp [z03,lkd] at hn
 have hfresh:∀ b,v.ownBlock=some b→w.heap.size≤b∧b < w'.heap.size:=fun b hb=>hown.lt b hb
 have ownP:∀ b,z1l (fun n=>if n=900000 then v else γ n) [(900000,some (Ob.row true e ag ks l))] b→v.ownBlock=some b:=by
  rintro b ⟨n,ob,hn,hb⟩
  obtain ⟨rfl,rfl⟩:=obs n ob hn
  simpa only [z0h,v1l] using hb
 refine ⟨v,rfl,fun n=>if n=900000 then v else γ n,⟨hR.sz,hR.df,fun i=>by simp only [St.get,lkd,VRel],fun n ob hn=>?_,fun b hb=>?_,fun n m ob ob' b hnm h1 h2=>?_,hk.mono (fun _ _ h=>h.elim),fun b hb hf=>?_,fun b hf=>v17 (hR.fl b hf) hk.size,fun p hp=>by cases hp⟩,?_,?_⟩
 ·obtain ⟨rfl,rfl⟩:=obs n ob hn
  simp only [ObRel,v1l];exact ⟨hks,hl,ys,OwnRow.of hown0 he,hel _⟩
 ·have:=hfresh b (ownP b hb)
  exact ⟨this.2,.inl this.1⟩
 ·obtain ⟨rfl,rfl⟩:=obs n ob h1
  obtain ⟨rfl,rfl⟩:=obs m ob' h2;exact absurd rfl hnm
 ·have:=hfresh b (ownP b hb)
  have:=hR.fl b hf
  omega
 ·simp only [y48,VRel,z01,v1l]
  refine ⟨v08 _,?_⟩;rcases hown.2 with ⟨rfl,h0⟩ | ⟨g,cap,cur,rfl,_,h2,h3,h4,h5,h6⟩
  ·exact ⟨none,0,0,none,rfl,by rw [h0],v0y _,by rw [h0]; exact v08 _,v08 _,v0y _,.inl rfl,fun _=>rfl⟩
  ·refine ⟨some ⟨g,0,none⟩,l.length,cap,some ⟨g,0,none⟩,rfl,by simp,v0y _,v08 _,h3,h4,.inl ?_,fun _=>rfl⟩
   simp [Addr.add]
 ·simp only [zaa,hb,okR]
end
theorem yew {w w':World} {O:Nat→Prop} (hO:∀ b,O b→b < w.heap.size) {g:Nat} {T:TypeId} {l:List ByteArray} {c:Nat} (hg:w.heap.size≤g) (hh:w'.heap[g]?=some (.cells (l.map Value.string).toArray T (0,0))) (hc:l.length≤c) (hcm:c≤maxLen) (hl:l.length≤strMax)
  (hs:∀ s∈l,s.size≤strMax):Kd.Rel w' O (.list false [.str]) (.list (l.map IV.str)) (.slice (some ⟨g,0,none⟩) l.length c):=by
 simp only [Kd.Rel,IV.toList,v15];refine ⟨_,c,rfl,hc,hcm,hl,fun i y hy=>⟨g,0,rfl,fun h=>by have:=hO g h; omega,(Array.getElem?_eq_some_iff.1 hh).1,?_⟩⟩
 simp only [v19,v26] at hy;obtain ⟨s,hs1,rfl⟩:=hy;simp only [Kd.RelAll,v05,v0o,v0n,v3u,v1j,v18];refine ⟨.string s,?_,?_⟩
 ·simp only [World.cell?,hh]
  simp [hs1]
 ·simp only [Kd.Rel,z2q,IV.toStr]
  exact ⟨trivial,hs s (v1o hs1)⟩
open Go Go.RowKit
theorem R.get_br (b:Bool) (x y:R):(R.br b x y).get=cond b x.get y.get:=by cases b <;> rfl
theorem R.get_ok (v:V) (o:List (List V)):(R.ok v o).get=some (v,o):=rfl
theorem R.get_no:R.no.get=none:=rfl
def z0l (n:Int):ByteArray:=⟨(Lib.itoa n).toArray⟩
def z6m (s:ByteArray):Int:=match Lib.atoiAll s.data.toList with | .ok v=>v | .range=>Lib.atoiSat s.data.toList | _=>0
def zsk (s:ByteArray):Bool:=match Lib.atoiAll s.data.toList with | .ok _=>true | _=>false
def cutL (s sep:ByteArray):ByteArray:=⟨(Lib.cut s.data.toList sep.data.toList).1.toArray⟩
def zjz (s sep:ByteArray):ByteArray:=⟨(Lib.cut s.data.toList sep.data.toList).2.1.toArray⟩
def yke (s sep:ByteArray):Bool:=(Lib.cut s.data.toList sep.data.toList).2.2
def z0p (s sep:ByteArray):List ByteArray:=Lib.splitB sep 0 (Lib.countB s sep) s
def zde (c:Int):UInt8:=UInt8.ofNat c.toNat
def z0v:z0n
 | [.bor [.bld s],.str t]=>.br (decide (s.size+t.size≤strMax)) (.ok (.tup [.int .i64 (ic t.size),.err true]) [[.bld (s++t)]]) .no
 | _=>.no
def z1p:z0n
 | [.bor [.bld s],.int .u8 c]=>.br (decide (s.size+1≤strMax)) (.ok (.err true) [[.bld (s.push (zde c))]]) .no
 | _=>.no
def z1b:z0n
 | [.bor [.bld s]]=>.ok (.str s) [[.bld s]]
 | _=>.no
def z2x:z0n
 | [.int .i64 n]=>.ok (.str (z0l n)) []
 | _=>.no
def z6s:z0n
 | [.str s]=>.ok (.tup [.int .i64 (z6m s),.err (zsk s)]) []
 | _=>.no
def z7n:z0n
 | [.str s,.str sep]=>.br (decide (s.size < 4294967281)) (.ok (.tup [.str (cutL s sep),.str (zjz s sep),.bool (yke s sep)]) []) .no
 | _=>.no
def z2k:z0n
 | [.str s,.str sep]=>.br (decide (s.size < 4294967281)&&decide (1≤sep.size)) (.ok (.list false [.str] ((z0p s sep).map IV.str)) []) .no
 | _=>.no
def za0 (n:Int):ByteArray:=⟨(Lib.decDigits n.toNat).toArray⟩
def puV (s:ByteArray):Int:=match Lib.parseMag s.data.toList with | .ok v=>(v:Int) | .range=>18446744073709551615 | _=>0
def puN (s:ByteArray):Bool:=match Lib.parseMag s.data.toList with | .ok _=>true | _=>false
def zff (s cs:ByteArray):ByteArray:=⟨(Lib.trimRightB s.data.toList (cs.data.toList.headD 0)).toArray⟩
def zlu (s:ByteArray) (n:Nat):ByteArray:=⟨(Lib.repeatL s.data.toList n).toArray⟩
def z1s (s p:ByteArray):ByteArray:=⟨(Lib.trimPrefix s.data.toList p.data.toList).toArray⟩
def znj (s p:ByteArray):Bool:=Lib.hasPrefix s.data.toList p.data.toList
def z5m:z0n
 | [.int .u64 n,.int .i64 b]=>.br (decide (b=10)) (.ok (.str (za0 n)) []) .no
 | _=>.no
def z6i:z0n
 | [.str s,.int .i64 b,.int .i64 c]=>.br (decide (b=10)&&decide (c=64)) (.ok (.tup [.int .u64 (puV s),.err (puN s)]) []) .no
 | _=>.no
def z6e:z0n
 | [.str s,.str cs]=>.br (decide (cs.size=1)&&decide ((cs.data.toList.headD 0).toNat < 128)) (.ok (.str (zff s cs)) []) .no
 | _=>.no
def z4t:z0n
 | [.str s,.int .i64 n]=>.br (decide (0≤n)&&decide (s.size*n.toNat≤strMax)) (.ok (.str (zlu s n.toNat)) []) .no
 | _=>.no
def z69:z0n
 | [.str s,.str p]=>.ok (.tup [.str (z1s s p),.bool (znj s p)]) []
 | _=>.no
def zah (l:List ByteArray) (sep:ByteArray):ByteArray:=⟨(Lib.join (l.map (·.data.toList)) sep.data.toList).toArray⟩
def z6p:z0n
 | [.list false [.str] l,.str sep]=>.br (decide (l.length≤strMax)&&decide ((zah (l.map IV.toStr) sep).size≤strMax)) (.ok (.str (zah (l.map IV.toStr) sep)) []) .no
 | _=>.no
def zfc:List IV→ByteArray→Int→Int
 | [],_,_ => -1
 | x :: l,s,i=>cond (s.toList==x.toStr.toList) i (zfc l s (i+1))
theorem zws {l:List UInt8} {v:Int} (h:Lib.atoiAll l = .ok v):IntKind.i64.min≤v∧v≤IntKind.i64.max:=by
 have e1:IntKind.i64.min = -9223372036854775808:=rfl;have e2:IntKind.i64.max=9223372036854775807:=rfl;rw [e1,e2];unfold Lib.atoiAll at h
 split at h
 ·cases h
 ·simp only at h
  split at h
  ·cases h
  ·cases h
  ·rename_i u hu
   split at h
   ·cases h
   ·split at h
    ·cases h
    ·simp only [Lib.NumEnd.ok.injEq] at h
     subst h
     split <;> omega
theorem y5s (s:ByteArray):IntKind.i64.min≤z6m s∧z6m s≤IntKind.i64.max:=by
 have e1:IntKind.i64.min = -9223372036854775808:=rfl;have e2:IntKind.i64.max=9223372036854775807:=rfl;unfold z6m
 split
 ·rename_i v hv
  exact zws hv
 ·unfold Lib.atoiSat
  rw [e1,e2]
  split <;> omega
 ·rw [e1,e2]; omega
theorem zm5 {n:Int} (h0:IntKind.i64.min≤n) (h1:n≤IntKind.i64.max):(z0l n).size≤21:=by
 have e1:IntKind.i64.min = -9223372036854775808:=rfl;have e2:IntKind.i64.max=9223372036854775807:=rfl;rw [e1] at h0;rw [e2] at h1
 have:=Lib.itoa_length_le n h0 h1
 simpa [z0l,ByteArray.size] using this
theorem zqf (s:ByteArray):IntKind.u64.min≤puV s∧puV s≤IntKind.u64.max:=by
 have e1:IntKind.u64.min=0:=rfl;have e2:IntKind.u64.max=18446744073709551615:=rfl;unfold puV
 split
 ·rename_i v hv
  have:=Lib.parseMag_lt hv
  rw [e1,e2]; omega
 ·rw [e1,e2]; omega
 ·rw [e1,e2]; omega
theorem zsp {n:Int} (h0:0≤n) (h1:n≤18446744073709551615):(za0 n).size≤20:=by
 rcases Int.lt_or_le 0 n with h | h
 ·have hd:=Lib.numDigits_eq n.toNat (by omega) (by omega)
  have hl:=Lib.decDigits_length n.toNat;have hs:(za0 n).size=(Lib.decDigits n.toNat).length:=by simp [za0,ByteArray.size]
  rw [hs,hl]
  split at hd <;> omega
 ·have:n=0:=by omega
  subst this;have hd:Lib.decDigits (0:Int).toNat=[UInt8.ofNat (48+0)]:=by rw [show (0:Int).toNat=0 from rfl,Lib.decDigits]; rfl
  unfold za0;rw [hd]
  decide
theorem zql (s cs:ByteArray):(zff s cs).size≤s.size:=by
 have:∀ (l:List UInt8) c,(Lib.trimRightB l c).length≤l.length:=fun l c=>by
  unfold Lib.trimRightB;rw [List.length_reverse]
  have:=(List.dropWhile_sublist (·==c) (l:=l.reverse)).length_le
  simpa using this
 have h:=this s.data.toList (cs.data.toList.headD 0);simp only [zff,ByteArray.size,v1k]
 simpa using h
theorem zl5 (s p:ByteArray):(z1s s p).size≤s.size:=by
 simp only [z1s,ByteArray.size,v1k,Lib.trimPrefix]
 split
 ·simp
 ·simp
theorem zq7 (s:ByteArray) (n:Nat):(zlu s n).size=s.size*n:=by
 have:∀ (l:List UInt8) n,(Lib.repeatL l n).length=l.length*n:=fun l n=>by rw [Lib.repeatL_length,Nat.mul_comm]
 show (Lib.repeatL s.data.toList n).toArray.size=s.size*n;rw [v1k,this,v16]
 rfl
theorem y1v (s sep:ByteArray):(cutL s sep).size≤s.size∧(zjz s sep).size≤s.size:=by
 unfold cutL zjz Lib.cut
 split
 ·simp only [ByteArray.size,v1k,v0h,v1h,v16]
  omega
 ·simp only [ByteArray.size,v1k,v16,v0o]
  omega
theorem z96 (sep:ByteArray):∀ (k:Nat) (s:ByteArray),(Lib.splitB sep 0 k s).length≤k+1∧∀ p∈Lib.splitB sep 0 k s,p.size≤s.size
 | 0,s=>by simp [Lib.splitB]
 | k+1,s=>by
  unfold Lib.splitB
  split
  ·simp
  ·obtain ⟨h1,h2⟩:=z96 sep k (s.extract ((Lib.indexB s sep).toNat+sep.size) s.size)
   refine ⟨by simp only [v05]; omega,fun p hp=>?_⟩
   rcases v13.1 hp with h | h
   ·subst h
    simp only [v3g];omega
   ·have:=h2 p h
    simp only [v3g] at this;omega
open Go Go.Proofs
def ycz:List (Nat × TI):=[
 (2,⟨1,8,false,[.int .i64],[.int .i64 0],.leaf⟩),
 (3,⟨1,8,false,[.int .i64],[.int .i64 0],.leaf⟩),
 (4,⟨1,1,false,[.bool],[.bool false],.leaf⟩),
 (5,⟨1,1,false,[.int .u8],[.int .u8 0],.leaf⟩),
 (6,⟨1,1,false,[.int .u8],[.int .u8 0],.leaf⟩),
 (7,⟨4,24,true,[.int .i64,.int .i64,.bool,.int .u8],[.int .i64 0,.int .i64 0,.bool false,.int .u8 0],.struct [(0,2),(1,3),(2,4),(3,6)]⟩),
 (8,⟨4,24,true,[.int .i64,.int .i64,.bool,.int .u8],[.int .i64 0,.int .i64 0,.bool false,.int .u8 0],.struct [(0,2),(1,3),(2,4),(3,6)]⟩),
 (9,⟨1,16,false,[.str],[.str ⟨#[]⟩],.leaf⟩),
 (22,⟨1,24,false,[.list false [.int .i64]],[.zs],.slice 3⟩),
 (23,⟨1,24,false,[.list true [.int .i64,.list false [.int .i64],.list false [.int .i64],.list false [.int .i64],.list false [.int .i64]]],[.zs],.slice 84⟩),
 (25,⟨4,64,true,[.int .i64,.int .i64,.list false [.int .i64],.list true [.int .i64,.list false [.int .i64],.list false [.int .i64],.list false [.int .i64],.list false [.int .i64]]],[.int .i64 0,.int .i64 0,.zs,.zs],.struct [(0,3),(1,3),(2,22),(3,23)]⟩),
 (26,⟨1,24,false,[.list true [.int .i64,.int .i64,.int .i64,.int .i64,.int .i64,.int .i64,.bool,.list false [.int .i64]]],[.zs],.slice 40⟩),
 (27,⟨3,24,true,[.int .i64,.int .i64,.int .i64],[.int .i64 0,.int .i64 0,.int .i64 0],.array 3 3⟩),
 (28,⟨1,24,false,[.list true [.int .i64,.list false [.int .u64]]],[.zs],.slice 88⟩),
 (30,⟨6,64,true,[.int .i64,.int .i64,.int .i64,.int .i64,.int .i64,.list true [.int .i64,.list false [.int .u64]]],[.int .i64 0,.int .i64 0,.int .i64 0,.int .i64 0,.int .i64 0,.zs],.struct [(0,3),(1,3),(2,27),(5,28)]⟩),
 (32,⟨1,24,false,[.list true [.int .i64,.int .i64,.int .i64,.int .i64,.int .i64,.int .i64,.int .i64,.int .i64,.int .i64,.int .i64,.int .i64,.int .i64,.int .i64,.int .i64,.int .i64,.bool,.int .i64]],[.zs],.slice 38⟩),
 (34,⟨2,16,true,[.int .i64,.int .i64],[.int .i64 0,.int .i64 0],.struct [(0,3),(1,3)]⟩),
 (36,⟨10,80,true,[.int .i64,.int .i64,.int .i64,.int .i64,.int .i64,.int .i64,.int .i64,.int .i64,.int .i64,.int .i64],[.int .i64 0,.int .i64 0,.int .i64 0,.int .i64 0,.int .i64 0,.int .i64 0,.int .i64 0,.int .i64 0,.int .i64 0,.int .i64 0],.array 5 34⟩),
 (38,⟨17,136,true,[.int .i64,.int .i64,.int .i64,.int .i64,.int .i64,.int .i64,.int .i64,.int .i64,.int .i64,.int .i64,.int .i64,.int .i64,.int .i64,.int .i64,.int .i64,.bool,.int .i64],[.int .i64 0,.int .i64 0,.int .i64 0,.int .i64 0,.int .i64 0,.int .i64 0,.int .i64 0,.int .i64 0,.int .i64 0,.int .i64 0,.int .i64 0,.int .i64 0,.int .i64 0,.int .i64 0,.int .i64 0,.bool false,.int .i64 0],.struct [(0,3),(1,3),(2,36),(12,3),(13,3),(14,3),(15,4),(16,3)]⟩),
 (40,⟨8,80,true,[.int .i64,.int .i64,.int .i64,.int .i64,.int .i64,.int .i64,.bool,.list false [.int .i64]],[.int .i64 0,.int .i64 0,.int .i64 0,.int .i64 0,.int .i64 0,.int .i64 0,.bool false,.zs],.struct [(0,3),(1,3),(2,3),(3,3),(4,3),(5,3),(6,4),(7,22)]⟩),
 (47,⟨1,24,false,[.list true [.int .i64,.list true [.bool,.int .i64,.int .i64],.int .i64,.int .i64,.int .i64,.int .i64,.int .i64,.int .i64]],[.zs],.slice 55⟩),
 (51,⟨1,24,false,[.list true [.bool,.int .i64,.int .i64]],[.zs],.slice 127⟩),
 (53,⟨4,32,true,[.int .i64,.int .i64,.int .i64,.int .i64],[.int .i64 0,.int .i64 0,.int .i64 0,.int .i64 0],.array 4 3⟩),
 (55,⟨8,80,true,[.int .i64,.list true [.bool,.int .i64,.int .i64],.int .i64,.int .i64,.int .i64,.int .i64,.int .i64,.int .i64],[.int .i64 0,.zs,.int .i64 0,.int .i64 0,.int .i64 0,.int .i64 0,.int .i64 0,.int .i64 0],.struct [(0,3),(1,51),(2,53),(6,3),(7,3)]⟩),
 (66,⟨1,24,false,[.list false [.str]],[.zs],.slice 9⟩),
 (69,⟨1,24,false,[.list false [.int .u8]],[.zs],.slice 5⟩),
 (84,⟨5,104,true,[.int .i64,.list false [.int .i64],.list false [.int .i64],.list false [.int .i64],.list false [.int .i64]],[.int .i64 0,.zs,.zs,.zs,.zs],.struct [(0,3),(1,22),(2,22),(3,22),(4,22)]⟩),
 (85,⟨1,24,false,[.list false [.int .u64]],[.zs],.slice 103⟩),
 (88,⟨2,32,true,[.int .i64,.list false [.int .u64]],[.int .i64 0,.zs],.struct [(0,3),(1,85)]⟩),
 (93,⟨1,24,false,[.list true [.int .i64,.int .i64]],[.zs],.slice 34⟩),
 (95,⟨1,8,false,[.list false []],[.nilp],.ptr 98⟩),
 (98,⟨1,24,true,[.list false [.str]],[.zs],.struct [(0,66)]⟩),
 (103,⟨1,8,false,[.int .u64],[.int .u64 0],.leaf⟩),
 (106,⟨1,8,false,[.list false []],[.nilp],.ptr 108⟩),
 (108,⟨2,32,true,[.list false [],.list false [.int .u8]],[.nilp,.zs],.bld⟩),
 (111,⟨6,48,true,[.bool,.int .i64,.int .i64,.int .i64,.int .i64,.int .i64],[.bool false,.int .i64 0,.int .i64 0,.int .i64 0,.int .i64 0,.int .i64 0],.struct [(0,4),(1,3),(2,3),(3,3),(4,3),(5,3)]⟩),
 (120,⟨1,16,false,[.list false []],[.err true],.iface⟩),
 (127,⟨3,24,true,[.bool,.int .i64,.int .i64],[.bool false,.int .i64 0,.int .i64 0],.struct [(0,4),(1,3),(2,3)]⟩),
 (131,⟨1,24,false,[.list true [.int .i64,.int .i64,.int .i64,.int .i64,.int .i64,.int .i64,.int .i64,.int .i64,.int .i64,.int .i64]],[.zs],.slice 36⟩),
 (141,⟨1,8,false,[.list false []],[.nilp],.ptr 183⟩),
 (150,⟨1,24,false,[.list true [.bool,.int .i64,.int .i64,.int .i64,.int .i64,.int .i64]],[.zs],.slice 111⟩),
 (152,⟨1,8,false,[.int .u64],[.int .u64 0],.leaf⟩),
 (183,⟨34,336,true,[.int .i64,.int .i64,.int .i64,.int .i64,.int .i64,.list true [.int .i64,.list false [.int .u64]],.int .i64,.int .i64,.int .i64,.int .i64,.int .i64,.int .i64,.int .i64,.int .i64,.int .i64,.int .i64,.int .i64,.int .i64,.int .i64,.int .i64,.int .i64,.bool,.int .i64,.list true [.int .i64,.int .i64,.int .i64,.int .i64,.int .i64,.int .i64,.int .i64,.int .i64,.int .i64,.int .i64],.list true [.bool,.int .i64,.int .i64],.int .i64,.list true [.bool,.int .i64,.int .i64],.int .i64,.int .i64,.int .i64,.int .i64,.int .i64,.int .i64,.int .i64],[.int .i64 0,.int .i64 0,.int .i64 0,.int .i64 0,.int .i64 0,.zs,.int .i64 0,.int .i64 0,.int .i64 0,.int .i64 0,.int .i64 0,.int .i64 0,.int .i64 0,.int .i64 0,.int .i64 0,.int .i64 0,.int .i64 0,.int .i64 0,.int .i64 0,.int .i64 0,.int .i64 0,.bool false,.int .i64 0,.zs,.zs,.int .i64 0,.zs,.int .i64 0,.int .i64 0,.int .i64 0,.int .i64 0,.int .i64 0,.int .i64 0,.int .i64 0],.struct [(0,30),(6,38),(23,131),(24,51),(25,55),(33,3)]⟩),
 (252,⟨11,88,true,[.int .i64,.int .i64,.int .i64,.int .i64,.int .i64,.int .i64,.int .i64,.int .i64,.int .i64,.int .i64,.int .i64],[.int .i64 0,.int .i64 0,.int .i64 0,.int .i64 0,.int .i64 0,.int .i64 0,.int .i64 0,.int .i64 0,.int .i64 0,.int .i64 0,.int .i64 0],.struct [(0,3),(1,36)]⟩),
 (253,⟨1,24,false,[.list true [.int .i64,.int .i64,.int .i64,.int .i64,.int .i64,.int .i64,.int .i64,.int .i64,.int .i64,.int .i64,.int .i64]],[.zs],.slice 252⟩),
 (272,⟨1,24,false,[.list true [.int .i64,.int .i64,.int .i64,.int .i64,.int .i64,.int .i64,.int .i64,.int .i64,.int .i64,.int .i64,.int .i64]],[.zs],.slice 275⟩),
 (275,⟨11,88,true,[.int .i64,.int .i64,.int .i64,.int .i64,.int .i64,.int .i64,.int .i64,.int .i64,.int .i64,.int .i64,.int .i64],[.int .i64 0,.int .i64 0,.int .i64 0,.int .i64 0,.int .i64 0,.int .i64 0,.int .i64 0,.int .i64 0,.int .i64 0,.int .i64 0,.int .i64 0],.struct [(0,36),(10,3)]⟩)]
def yfs:List Nat:=[34,38,53,111,127]
noncomputable abbrev PR:Program:=Tryz.prog
theorem yic:yhs PR 108 ycz=true:=by kernel_rfl
theorem yhu:yiy PR ycz yfs=true:=by kernel_rfl
theorem yi4:PR.follows .mixedOrders=true:=by kernel_rfl
theorem yil:∃ i,PR.info? 108=some i∧i.zero=some (.agg #[.pointer none,.slice none 0 0]):=by
 refine ⟨(PR.info? 108).getD default,by kernel_rfl,by kernel_rfl⟩
theorem ya5 (_h:(lkd TI.none ycz 108).d = .bld):∃ i,PR.info? 108=some i∧i.zero=some (.agg #[.pointer none,.slice none 0 0]):=yil
def mkE (sp:List (Nat × z0n)) (lp:List (Nat × KP)) (nt N:Nat):Env:=⟨ycz,sp,[],lp,nt,N,yfs,[]⟩
def mkI (sp:List (Nat × z0n)) (ip:List (Nat × Ip)) (lp:List (Nat × KP)) (nt N:Nat):Env:=⟨ycz,sp,[],lp,nt,N,yfs,ip⟩
abbrev V.i (n:Int):V:=.int .i64 n
abbrev HF (fn:Func) (c:Code) (nt:Nat) (rs:List ResultVar):Prop:=(fn.name == "runtime.NumGoroutine")=false∧fn.body=some c∧fn.ntmps=nt∧Nat.ble nt 900000=true∧fn.results.toList=rs
theorem z14 {fn:Func} {nt:Nat} {rs:List ResultVar} (h:(!(fn.name == "runtime.NumGoroutine")&&(fn.body.isSome&&(fn.ntmps==nt&&Nat.ble nt 900000)))=true) (h2:fn.results.toList=rs):HF fn (z0d fn) nt rs:=by
 simp only [v02,v12,v1d] at h;refine ⟨h.1,?_,h.2.2.1,h.2.2.2,h2⟩;unfold z0d;cases hb:fn.body with
 | none=>rw [hb] at h; exact absurd h.2.1 (by decide)
 | some c=>rfl
noncomputable def z9h:Code:=z0d Tryz.f6
theorem zeu:HF Tryz.f6 z9h 16 [.tmp 0]:=z14 (by kernel_rfl) (by kernel_rfl)
noncomputable def z2f:Code:=z0d Tryz.f18
theorem y5q:HF Tryz.f18 z2f 100 [.tmp 4]:=z14 (by kernel_rfl) (by kernel_rfl)
noncomputable def z18:Code:=z0d Tryz.f19
theorem y38:HF Tryz.f19 z18 88 [.cell 2 30,.tmp 3]:=z14 (by kernel_rfl) (by kernel_rfl)
noncomputable def z1m:Code:=z0d Tryz.f20
theorem y0w:HF Tryz.f20 z1m 94 [.tmp 2]:=z14 (by kernel_rfl) (by kernel_rfl)
noncomputable def z7c:Code:=z0d Tryz.f22
theorem y17:HF Tryz.f22 z7c 37 [.tmp 4]:=z14 (by kernel_rfl) (by kernel_rfl)
noncomputable def z71:Code:=z0d Tryz.f24
theorem y0n:HF Tryz.f24 z71 61 [.tmp 2]:=z14 (by kernel_rfl) (by kernel_rfl)
noncomputable def z1e:Code:=z0d Tryz.f26
theorem ztg:HF Tryz.f26 z1e 59 [.tmp 6]:=z14 (by kernel_rfl) (by kernel_rfl)
noncomputable def ze6:Code:=z0d Tryz.f28
theorem zng:HF Tryz.f28 ze6 14 [.cell 0 30]:=z14 (by kernel_rfl) (by kernel_rfl)
noncomputable def z1f:Code:=z0d Tryz.f30
theorem zeo:HF Tryz.f30 z1f 26 [.tmp 4]:=z14 (by kernel_rfl) (by kernel_rfl)
noncomputable def zil:Code:=z0d Tryz.f31
theorem ztz:HF Tryz.f31 zil 8 [.tmp 2]:=z14 (by kernel_rfl) (by kernel_rfl)
noncomputable def zgj:Code:=z0d Tryz.f32
theorem zrf:HF Tryz.f32 zgj 46 [.cell 4 55]:=z14 (by kernel_rfl) (by kernel_rfl)
noncomputable def z5z:Code:=z0d Tryz.f35
theorem y24:HF Tryz.f35 z5z 13 [.cell 4 55]:=z14 (by kernel_rfl) (by kernel_rfl)
noncomputable def zve:Code:=z0d Tryz.f41
theorem y8z:HF Tryz.f41 zve 39 [.cell 4 38]:=z14 (by kernel_rfl) (by kernel_rfl)
noncomputable def zsd:Code:=z0d Tryz.f42
theorem y5p:HF Tryz.f42 zsd 9 [.tmp 2]:=z14 (by kernel_rfl) (by kernel_rfl)
noncomputable def zrd:Code:=z0d Tryz.f44
theorem y4a:HF Tryz.f44 zrd 38 [.tmp 2]:=z14 (by kernel_rfl) (by kernel_rfl)
noncomputable def zbv:Code:=z0d Tryz.f47
theorem zi7:HF Tryz.f47 zbv 8 [.tmp 4]:=z14 (by kernel_rfl) (by kernel_rfl)
noncomputable def zdk:Code:=z0d Tryz.f48
theorem zkr:HF Tryz.f48 zdk 26 [.tmp 2]:=z14 (by kernel_rfl) (by kernel_rfl)
noncomputable def zo5:Code:=z0d Tryz.f49
theorem y02:HF Tryz.f49 zo5 24 [.tmp 4]:=z14 (by kernel_rfl) (by kernel_rfl)
noncomputable def zqp:Code:=z0d Tryz.f50
theorem y4w:HF Tryz.f50 zqp 13 [.tmp 4]:=z14 (by kernel_rfl) (by kernel_rfl)
noncomputable def zss:Code:=z0d Tryz.f51
theorem y4v:HF Tryz.f51 zss 11 [.tmp 2]:=z14 (by kernel_rfl) (by kernel_rfl)
noncomputable def zda:Code:=z0d Tryz.f52
theorem zln:HF Tryz.f52 zda 28 [.tmp 2]:=z14 (by kernel_rfl) (by kernel_rfl)
noncomputable def z3n:Code:=z0d Tryz.f53
theorem zy7:HF Tryz.f53 z3n 54 [.tmp 2]:=z14 (by kernel_rfl) (by kernel_rfl)
noncomputable def zsx:Code:=z0d Tryz.f54
theorem y55:HF Tryz.f54 zsx 10 []:=z14 (by kernel_rfl) (by kernel_rfl)
noncomputable def zlh:Code:=z0d Tryz.f55
theorem zx5:HF Tryz.f55 zlh 33 [.cell 2 111,.tmp 3]:=z14 (by kernel_rfl) (by kernel_rfl)
noncomputable def zot:Code:=z0d Tryz.f62
theorem y1r:HF Tryz.f62 zot 47 [.tmp 2]:=z14 (by kernel_rfl) (by kernel_rfl)
noncomputable def z8s:Code:=z0d Tryz.f63
theorem y5k:HF Tryz.f63 z8s 26 []:=z14 (by kernel_rfl) (by kernel_rfl)
noncomputable def zk3:Code:=z0d Tryz.f65
theorem zxt:HF Tryz.f65 zk3 41 [.tmp 4]:=z14 (by kernel_rfl) (by kernel_rfl)
noncomputable def zl4:Code:=z0d Tryz.f66
theorem zwj:HF Tryz.f66 zl4 16 [.cell 2 36]:=z14 (by kernel_rfl) (by kernel_rfl)
noncomputable def z93:Code:=z0d Tryz.f67
theorem y2g:HF Tryz.f67 z93 75 [.tmp 4,.tmp 5]:=z14 (by kernel_rfl) (by kernel_rfl)
noncomputable def z2d:Code:=z0d Tryz.f68
theorem zwh:HF Tryz.f68 z2d 94 [.tmp 6]:=z14 (by kernel_rfl) (by kernel_rfl)
noncomputable def y0q:Code:=z0d Tryz.f69
theorem ybx:HF Tryz.f69 y0q 25 [.tmp 6]:=z14 (by kernel_rfl) (by kernel_rfl)
noncomputable def z1v:Code:=z0d Tryz.f70
theorem zt7:HF Tryz.f70 z1v 75 [.tmp 8]:=z14 (by kernel_rfl) (by kernel_rfl)
noncomputable def zfv:Code:=z0d Tryz.f71
theorem zp5:HF Tryz.f71 zfv 32 [.tmp 2]:=z14 (by kernel_rfl) (by kernel_rfl)
noncomputable def z64:Code:=z0d Tryz.f73
theorem y61:HF Tryz.f73 z64 82 [.cell 2 38,.tmp 3,.tmp 4]:=z14 (by kernel_rfl) (by kernel_rfl)
noncomputable def znw:Code:=z0d Tryz.f74
theorem y30:HF Tryz.f74 znw 26 [.tmp 4]:=z14 (by kernel_rfl) (by kernel_rfl)
noncomputable def z3z:Code:=z0d Tryz.f75
theorem zi4:HF Tryz.f75 z3z 165 [.tmp 2]:=z14 (by kernel_rfl) (by kernel_rfl)
noncomputable def z2y:Code:=z0d Tryz.f76
theorem zee:HF Tryz.f76 z2y 22 [.cell 2 55]:=z14 (by kernel_rfl) (by kernel_rfl)
noncomputable def zzy:Code:=z0d Tryz.f81
theorem ya8:HF Tryz.f81 zzy 16 [.cell 2 53]:=z14 (by kernel_rfl) (by kernel_rfl)
noncomputable def zw6:Code:=z0d Tryz.f84
theorem y8f:HF Tryz.f84 zw6 8 [.tmp 0]:=z14 (by kernel_rfl) (by kernel_rfl)
noncomputable def z54:Code:=z0d Tryz.f89
theorem z9l:HF Tryz.f89 z54 16 [.tmp 4]:=z14 (by kernel_rfl) (by kernel_rfl)
noncomputable def zwc:Code:=z0d Tryz.f91
theorem y84:HF Tryz.f91 zwc 76 [.tmp 2,.tmp 3]:=z14 (by kernel_rfl) (by kernel_rfl)
noncomputable def zr4:Code:=z0d Tryz.f92
theorem y5e:HF Tryz.f92 zr4 32 [.tmp 2]:=z14 (by kernel_rfl) (by kernel_rfl)
noncomputable def zqa:Code:=z0d Tryz.f93
theorem y4l:HF Tryz.f93 zqa 25 [.tmp 4]:=z14 (by kernel_rfl) (by kernel_rfl)
noncomputable def z4h:Code:=z0d Tryz.f94
theorem z82:HF Tryz.f94 z4h 9 [.tmp 4]:=z14 (by kernel_rfl) (by kernel_rfl)
noncomputable def zhc:Code:=z0d Tryz.f95
theorem zq2:HF Tryz.f95 zhc 22 [.tmp 3]:=z14 (by kernel_rfl) (by kernel_rfl)
noncomputable def z1w:Code:=z0d Tryz.f96
theorem y3d:HF Tryz.f96 z1w 94 [.tmp 4]:=z14 (by kernel_rfl) (by kernel_rfl)
noncomputable def zkb:Code:=z0d Tryz.f98
theorem zxm:HF Tryz.f98 zkb 14 [.tmp 6]:=z14 (by kernel_rfl) (by kernel_rfl)
noncomputable def zvn:Code:=z0d Tryz.f99
theorem y8a:HF Tryz.f99 zvn 18 [.tmp 6]:=z14 (by kernel_rfl) (by kernel_rfl)
noncomputable def zh8:Code:=z0d Tryz.f100
theorem zrz:HF Tryz.f100 zh8 11 [.tmp 5]:=z14 (by kernel_rfl) (by kernel_rfl)
noncomputable def z5y:Code:=z0d Tryz.f106
theorem y2o:HF Tryz.f106 z5y 37 [.tmp 2]:=z14 (by kernel_rfl) (by kernel_rfl)
noncomputable def zio:Code:=z0d Tryz.f107
theorem zue:HF Tryz.f107 zio 35 [.tmp 4]:=z14 (by kernel_rfl) (by kernel_rfl)
noncomputable def zol:Code:=z0d Tryz.f108
theorem y13:HF Tryz.f108 zol 71 [.tmp 4]:=z14 (by kernel_rfl) (by kernel_rfl)
noncomputable def ziz:Code:=z0d Tryz.f109
theorem ztv:HF Tryz.f109 ziz 16 [.tmp 2]:=z14 (by kernel_rfl) (by kernel_rfl)
noncomputable def zlp:Code:=z0d Tryz.f110
theorem zxz:HF Tryz.f110 zlp 6 [.tmp 2]:=z14 (by kernel_rfl) (by kernel_rfl)
noncomputable def yae:Code:=z0d Tryz.f111
theorem yb1:HF Tryz.f111 yae 32 [.cell 6 36,.cell 7 36]:=z14 (by kernel_rfl) (by kernel_rfl)
noncomputable def zst:Code:=z0d Tryz.f112
theorem y3p:HF Tryz.f112 zst 12 [.tmp 2]:=z14 (by kernel_rfl) (by kernel_rfl)
noncomputable def z0x:Code:=z0d Tryz.f113
theorem y1f:HF Tryz.f113 z0x 66 [.tmp 6,.tmp 7]:=z14 (by kernel_rfl) (by kernel_rfl)
noncomputable def zv3:Code:=z0d Tryz.f114
theorem y95:HF Tryz.f114 zv3 15 [.tmp 4]:=z14 (by kernel_rfl) (by kernel_rfl)
noncomputable def zog:Code:=z0d Tryz.f115
theorem y25:HF Tryz.f115 zog 24 [.tmp 6]:=z14 (by kernel_rfl) (by kernel_rfl)
noncomputable def zih:Code:=z0d Tryz.f116
theorem ztk:HF Tryz.f116 zih 14 [.cell 6 53]:=z14 (by kernel_rfl) (by kernel_rfl)
noncomputable def zb1:Code:=z0d Tryz.f117
theorem zg6:HF Tryz.f117 zb1 66 [.tmp 2]:=z14 (by kernel_rfl) (by kernel_rfl)
noncomputable def z11:Code:=z0d Tryz.f118
theorem zcq:HF Tryz.f118 z11 19 [.tmp 4]:=z14 (by kernel_rfl) (by kernel_rfl)
noncomputable def zvu:Code:=z0d Tryz.f119
theorem y9o:HF Tryz.f119 zvu 46 [.cell 2 38]:=z14 (by kernel_rfl) (by kernel_rfl)
noncomputable def zw0:Code:=z0d Tryz.f120
theorem y91:HF Tryz.f120 zw0 11 [.tmp 2]:=z14 (by kernel_rfl) (by kernel_rfl)
noncomputable def zpv:Code:=z0d Tryz.f121
theorem y5f:HF Tryz.f121 zpv 11 [.tmp 2]:=z14 (by kernel_rfl) (by kernel_rfl)
noncomputable def zki:Code:=z0d Tryz.f122
theorem zz0:HF Tryz.f122 zki 86 [.tmp 6]:=z14 (by kernel_rfl) (by kernel_rfl)
noncomputable def zku:Code:=z0d Tryz.f123
theorem zyu:HF Tryz.f123 zku 9 [.cell 2 53,.tmp 3]:=z14 (by kernel_rfl) (by kernel_rfl)
noncomputable def z4y:Code:=z0d Tryz.f124
theorem y3i:HF Tryz.f124 z4y 31 [.tmp 6,.tmp 7,.tmp 8]:=z14 (by kernel_rfl) (by kernel_rfl)
noncomputable def zjk:Code:=z0d Tryz.f126
theorem y3o:HF Tryz.f126 zjk 24 [.tmp 8]:=z14 (by kernel_rfl) (by kernel_rfl)
noncomputable def z5h:Code:=z0d Tryz.f141
theorem za3:HF Tryz.f141 z5h 21 [.tmp 4]:=z14 (by kernel_rfl) (by kernel_rfl)
noncomputable def zo7:Code:=z0d Tryz.f144
theorem y00:HF Tryz.f144 zo7 19 [.tmp 2,.tmp 3]:=z14 (by kernel_rfl) (by kernel_rfl)
noncomputable def zoo:Code:=z0d Tryz.f145
theorem y2s:HF Tryz.f145 zoo 43 [.tmp 2]:=z14 (by kernel_rfl) (by kernel_rfl)
noncomputable def zwa:Code:=z0d Tryz.f146
theorem y8q:HF Tryz.f146 zwa 30 [.tmp 8]:=z14 (by kernel_rfl) (by kernel_rfl)
noncomputable def z0e:Code:=z0d Tryz.f147
theorem z9c:HF Tryz.f147 z0e 19 [.tmp 4]:=z14 (by kernel_rfl) (by kernel_rfl)
noncomputable def zs7:Code:=z0d Tryz.f148
theorem y52:HF Tryz.f148 zs7 21 [.tmp 4]:=z14 (by kernel_rfl) (by kernel_rfl)
noncomputable def zoh:Code:=z0d Tryz.f149
theorem y1m:HF Tryz.f149 zoh 21 [.tmp 4]:=z14 (by kernel_rfl) (by kernel_rfl)
noncomputable def zr1:Code:=z0d Tryz.f150
theorem y46:HF Tryz.f150 zr1 7 [.tmp 2]:=z14 (by kernel_rfl) (by kernel_rfl)
noncomputable def zo2:Code:=z0d Tryz.f155
theorem y0e:HF Tryz.f155 zo2 8 [.tmp 2]:=z14 (by kernel_rfl) (by kernel_rfl)
noncomputable def z5w:Code:=z0d Tryz.f156
theorem y3f:HF Tryz.f156 z5w 40 [.tmp 2]:=z14 (by kernel_rfl) (by kernel_rfl)
noncomputable def zvh:Code:=z0d Tryz.f157
theorem y8s:HF Tryz.f157 zvh 29 [.cell 4 34,.cell 5 34]:=z14 (by kernel_rfl) (by kernel_rfl)
noncomputable def z8y:Code:=z0d Tryz.f158
theorem y16:HF Tryz.f158 z8y 88 [.tmp 4,.tmp 5]:=z14 (by kernel_rfl) (by kernel_rfl)
noncomputable def z3d:Code:=z0d Tryz.f159
theorem y09:HF Tryz.f159 z3d 33 [.tmp 6]:=z14 (by kernel_rfl) (by kernel_rfl)
noncomputable def zfj:Code:=z0d Tryz.f160
theorem zoz:HF Tryz.f160 zfj 27 [.tmp 4]:=z14 (by kernel_rfl) (by kernel_rfl)
noncomputable def z16:Code:=z0d Tryz.f162
theorem y45:HF Tryz.f162 z16 69 [.tmp 6,.tmp 7,.tmp 8]:=z14 (by kernel_rfl) (by kernel_rfl)
noncomputable def z4a:Code:=z0d Tryz.f163
theorem ztm:HF Tryz.f163 z4a 62 [.tmp 6,.tmp 7]:=z14 (by kernel_rfl) (by kernel_rfl)
noncomputable def zfg:Code:=z0d Tryz.f164
theorem zpk:HF Tryz.f164 zfg 23 [.tmp 4]:=z14 (by kernel_rfl) (by kernel_rfl)
noncomputable def zgs:Code:=z0d Tryz.f165
theorem zqy:HF Tryz.f165 zgs 54 [.tmp 6,.tmp 7,.tmp 8]:=z14 (by kernel_rfl) (by kernel_rfl)
noncomputable def zii:Code:=z0d Tryz.f166
theorem ztr:HF Tryz.f166 zii 23 [.tmp 4]:=z14 (by kernel_rfl) (by kernel_rfl)
noncomputable def z19:Code:=z0d Tryz.f168
theorem zka:HF Tryz.f168 z19 54 [.tmp 4]:=z14 (by kernel_rfl) (by kernel_rfl)
noncomputable def zok:Code:=z0d Tryz.f190
theorem y1y:HF Tryz.f190 zok 9 [.tmp 2]:=z14 (by kernel_rfl) (by kernel_rfl)
noncomputable def zkx:Code:=z0d Tryz.f192
theorem zxn:HF Tryz.f192 zkx 16 [.tmp 2]:=z14 (by kernel_rfl) (by kernel_rfl)
noncomputable def y1c:Code:=z0d Tryz.f193
theorem ycj:HF Tryz.f193 y1c 12 [.cell 4 34]:=z14 (by kernel_rfl) (by kernel_rfl)
noncomputable def zrj:Code:=z0d Tryz.f194
theorem y3r:HF Tryz.f194 zrj 2 [.cell 0 34]:=z14 (by kernel_rfl) (by kernel_rfl)
noncomputable def zo8:Code:=z0d Tryz.f195
theorem y2z:HF Tryz.f195 zo8 15 [.tmp 4]:=z14 (by kernel_rfl) (by kernel_rfl)
noncomputable def z5x:Code:=z0d Tryz.f196
theorem y1e:HF Tryz.f196 z5x 43 [.tmp 4,.tmp 5,.tmp 6]:=z14 (by kernel_rfl) (by kernel_rfl)
noncomputable def zig:Code:=z0d Tryz.f197
theorem zts:HF Tryz.f197 zig 16 [.tmp 2]:=z14 (by kernel_rfl) (by kernel_rfl)
noncomputable def ziy:Code:=z0d Tryz.f198
theorem zt3:HF Tryz.f198 ziy 10 [.cell 4 36]:=z14 (by kernel_rfl) (by kernel_rfl)
noncomputable def zh1:Code:=z0d Tryz.f199
theorem zrq:HF Tryz.f199 zh1 15 [.cell 4 36]:=z14 (by kernel_rfl) (by kernel_rfl)
noncomputable def z4i:Code:=z0d Tryz.f217
theorem y99:HF Tryz.f217 z4i 46 [.tmp 4,.cell 5 111]:=z14 (by kernel_rfl) (by kernel_rfl)
noncomputable def z4x:Code:=z0d Tryz.f218
theorem zyx:HF Tryz.f218 z4x 79 [.tmp 4]:=z14 (by kernel_rfl) (by kernel_rfl)
open Go Go.Proofs Go.RowKit
theorem Keep.freeze {O:Nat→Prop} (w:World) (a:Addr) (n:Nat) (h:O a.block):Keep O w (w.freeze a n):=by
 unfold World.freeze
 split
 ·exact Keep.refl _ _
 ·exact ⟨rfl,rfl,rfl,by simp,fun b _ hn=>by simp only [v35]; rw [v0x (fun e:a.block=b=>hn (e ▸ h))]⟩
theorem Keep.setCell {O:Nat→Prop} (w:World) (a:Addr) (v:Value) (h:O a.block):Keep O w (w.setCell a v):=
 ⟨rfl,rfl,rfl,by simp [World.setCell],fun b _ hn=>Below.heap_setCell _ _ _ _ (fun e=>hn (e ▸ h))⟩
theorem zeb {w:World} {b:Nat} {o:Obj} (h:w.heap[b]?=some o):b < w.heap.size:=(Array.getElem?_eq_some_iff.1 h).1
theorem yev:liesAt PR PR.depth 108 (2 / PR.cellsOf 108) 0 108 1=true:=by kernel_rfl
theorem y7g:(PR.info? 108).map (·.size)=some 2:=by kernel_rfl
theorem ycd:(PR.info? 5).map (fun i=>(i.zero,i.size,i.bytes))=some (some (.int .u8 0),1,1):=by kernel_rfl
set_option maxHeartbeats 1000000 in
theorem zz2 (b:Nat) (w:World) (h0:w.cell? ⟨b,0,none⟩=some (.pointer (some ⟨b,0,none⟩))) :
  Calls Tryz.prog 103 #[.pointer (some ⟨b,0,none⟩)] w fun e w'=>e = .returned (.tuple #[])∧w'=w:=by
 obtain ⟨j,hj,_⟩:=v26.1 y7g
 go_enter Tryz.func103,Tryz.ntmps103
 go_wp2
 rw [Lib.run_neq_ptr_same w _ Tryz.underlying106 hj]
 go_wp2
 go_end0
 exact ⟨rfl,rfl⟩
set_option maxHeartbeats 1000000 in
theorem zu0 (b:Nat) (w:World) (h0:w.cell? ⟨b,0,none⟩=some (.pointer none)) (hsh:w.shape? b=some (108,2)) (hfz:w.frozen? ⟨b,0,none⟩=false) :
  Calls Tryz.prog 103 #[.pointer (some ⟨b,0,none⟩)] w fun e w'=>e = .returned (.tuple #[])∧w'=w.setCell ⟨b,0,none⟩ (.pointer (some ⟨b,0,none⟩)):=by
 obtain ⟨j,hj,hjs⟩:=v26.1 y7g
 go_enter Tryz.func103,Tryz.ntmps103
 go_wp2
 rw [Lib.run_to_unsafe w ⟨b,0,none⟩ Tryz.underlying106 Tryz.underlying211 hj (by rw [hjs]; decide) hsh (Nat.zero_lt_succ 1)]
 simp only [Result.andThen];rw [Oper.upon_value]
 go_wp2
 rw [run_callFunc_extern Tryz.func153 (by kernel_rfl) (by kernel_rfl) (by kernel_rfl) (e:=Extern.AbiNoEscape.same) (by kernel_rfl)]
 rw [Lib.run_noEscape];simp only [Result.andThen];rw [Oper.upon_value]
 go_wp2
 rw [Lib.run_from_unsafe w ⟨b,0,none⟩ Tryz.underlying211 Tryz.underlying106 hj hsh yev];simp only [Result.andThen];rw [Oper.upon_value]
 go_wp2
 go_end0
 exact ⟨rfl,rfl⟩
theorem y79 (b:Nat) (p v:Value) (w:World) (hp:p = .pointer none∨p = .pointer (some ⟨b,0,none⟩)) (hbk:w.heap[b]?=some (.cells #[p,v] 108 (0,0))) :
  Calls Tryz.prog 103 #[.pointer (some ⟨b,0,none⟩)] w fun e w'=>e = .returned (.tuple #[])∧w'.heap[b]?=some (.cells #[.pointer (some ⟨b,0,none⟩),v] 108 (0,0))∧Keep (fun k=>k=b) w w'∧w'.heap.size=w.heap.size:=by
 have hc0:w.cell? ⟨b,0,none⟩=some p:=by rw [Lib.cell_of_heap hbk]; rfl
 rcases hp with rfl | rfl
 ·refine (zu0 b w hc0 (by simp [World.shape?,hbk]) (Lib.frozen_of_heap hbk 0)).mono ?_
  rintro e w' ⟨rfl,rfl⟩
  exact ⟨rfl,by simp [World.setCell,v35,hbk],Keep.setCell w ⟨b,0,none⟩ _ rfl,by simp [World.setCell]⟩
 ·refine (zz2 b w hc0).mono ?_
  rintro e w' ⟨rfl,rfl⟩
  exact ⟨rfl,hbk,Keep.refl _ _,rfl⟩
def zpt (b:Nat) (v:Value) (bs:List Value) (w w':World):Prop:=
 ∃ v',w'.heap[b]?=some (.cells #[.pointer (some ⟨b,0,none⟩),v'] 108 (0,0))∧w'.ownsRowF 0 5 1 v' bs.length bs∧v'.ownBlock≠some b ∧
  Keep (fun k=>k=b∨v.ownBlock=some k) w w'∧∀ k,v'.ownBlock=some k→v.ownBlock=some k∨w.heap.size≤k
theorem y6p {b:Nat} {v v':Value} {bs:List Value} {w w1 w2:World} (hs1:w1.heap.size=w.heap.size) (hk1:Keep (fun k=>k=b) w w1)
  (hb2:w2.heap[b]?=some (.cells #[.pointer (some ⟨b,0,none⟩),v] 108 (0,0))) (hown:w2.ownsRowF 0 5 1 v' bs.length bs) (hk2:Keep (fun k=>v.ownBlock=some k) w1 w2) (hv:∀ k,v'.ownBlock=some k→v.ownBlock=some k∨w1.heap.size≤k) :
  zpt b v bs w (w2.setCell ⟨b,1,none⟩ v'):=by
 have hput:=Lib.BuilderAtF.put (T:=108) (e:=5) (v0y b) hb2 hown (by decide)
 obtain ⟨_,v2,q1,q2,q3⟩:=hput;have e2:v2=v':=by
  have:(w2.setCell ⟨b,1,none⟩ v').heap[b]?=some (.cells #[.pointer (some ⟨b,0,none⟩),v'] 108 (0,0)):=by simp [World.setCell,v35,hb2]
  rw [this] at q1;simp at q1;exact q1.symm
 subst e2;refine ⟨v2,q1,q2,q3,?_,fun k hk=>by rw [← hs1]; exact hv k hk⟩
 have h3:Keep (fun k=>k=b) w2 (w2.setCell ⟨b,1,none⟩ v2):=Keep.setCell w2 ⟨b,1,none⟩ v2 rfl
 refine (hk1.mono (fun _ _ h=>Or.inl h)).trans ((hk2.mono (O':=fun k=>k=b∨v.ownBlock=some k) (fun _ _ h=>Or.inr h)).trans h3 (fun _ _ h=>Or.inl h)) (fun _ _ h=>h)
theorem zzp {w w':World} {v:Value} (hg:w.grownBy w' v.ownBlock):Keep (fun k=>v.ownBlock=some k) w w':=
 ⟨hg.os,hg.tape,hg.output,hg.size,fun b hb hn=>hg.block b hb (fun h=>hn h.symm)⟩
theorem zca {g n c k:Nat} (h:(Value.slice (some ⟨g,0,none⟩) n c).ownBlock=some k):k=g:=by
 simp only [Value.ownBlock,v00] at h;exact h.symm
theorem y8r {P:Program} (w:World) (t u ty e:TypeId) (i:TypeInfo) (ht:P.underlying t=some (.slice e)) (hu:P.underlying u=some .string) (hi:P.info? e=some i) (hz:i.zero=some (.int .u8 0)) (hsize:i.size=1) (hby:i.bytes=1)
  (v:Value) (n:Nat) (xs:List Value) (hown:w.ownsRowF 0 e 1 v n xs) (s:ByteArray) (hbytes:n+s.size≤140737488355328) :
  ∃ v' w',(Builtin.append_ #[t,u] ty #[v,.string s]).run P w = .ok v' w'∧w'.ownsRowF 0 e 1 v' (n+s.size) (xs++Lib.strCells s)∧w.grownBy w' v.ownBlock∧∀ k,v'.ownBlock=some k→v.ownBlock=some k∨w.heap.size≤k:=by
 have h63:n+s.size≤maxLen:=by unfold maxLen; omega
 rcases hown.2 with ⟨rfl,rfl⟩ | ⟨g,cap,cur,fz,rfl,hbg,hg,hfz,hnc,hcm,hcs,htake⟩
 ·obtain ⟨v',w',h1,h2,h3,_⟩:=Lib.run_append_own_string (P:=P) w w.heap.size t u ty e i ht hu hi hz hsize hby (.slice none 0 0) 0 xs ⟨hown.1,.inl ⟨rfl,rfl⟩⟩ s h63 hbytes (v08 _)
  refine ⟨v',w',h1,⟨h2.1,?_⟩,h3,fun k hk=>.inr ?_⟩
  ·rcases h2.2 with q | ⟨g,cap,cur,q1,_,q2,q3,q4,q5,q6⟩
   ·exact .inl q
   ·exact .inr ⟨g,cap,cur,(0,0),q1,v0y _,q2,v0y _,q3,q4,q5,q6⟩
  ·rcases h2.2 with ⟨rfl,_⟩ | ⟨g,cap,cur,rfl,q1,_⟩
   ·simp [Value.ownBlock] at hk
   ·rw [zca hk]; exact q1
 ·obtain ⟨v',w',h1,h2,h3,_⟩:=Lib.run_append_own_stringF (P:=P) w 0 t u ty e i ht hu hi hz hsize hby _ n xs hown s h63 hbytes (v0y _)
  refine ⟨v',w',h1,h2,h3,fun k hk=>?_⟩
  have hsmall:n+s.size≤9223372036854775807:=by omega
  by_cases hroom:n+s.size≤cap
  ·have hr:=Lib.run_append_room_stringF (P:=P) w t u ty e i ht hu hi hsize g n cap cur fz hg (by simpa using hfz) s hroom (by simp at hcs; omega)
   rw [h1] at hr;simp only [Result.ok.injEq] at hr;obtain ⟨rfl,_⟩:=hr;exact .inl (by rw [zca hk]; rfl)
  ·have hxl:xs.length=n:=by simpa using hown.1
   have hr:=Lib.run_append_grow_string (P:=P) w t u ty e i (.int .u8 0) ht hu hi hz ⟨g,0,none⟩ n cap xs (by rw [hsize]; simpa using hxl) (hown.cells (g:=g) rfl) s (by omega) (by omega) (by rw [hby]; exact growslice_fits (by omega) (by omega))
   rw [h1] at hr;simp only [Result.ok.injEq] at hr;obtain ⟨rfl,_⟩:=hr;exact .inr (by rw [zca hk]; exact v08 _)
theorem zn3 {P:Program} {w:World} {ops:Array Oper} {rest:List Oper} {o:Oper} {a:Act} {Q:Exit→Act→World→Prop} (hgd:o.guard=none) (sl x:Operand) (t u:TypeId)
  (ho:o.op = .call { callee:=.builtin .append,args:=#[sl,x],argTypes:=#[t,u] })
  (e:TypeId) (i:TypeInfo) (ht:P.underlying t=some (.slice e)) (hu:P.underlying u=some .string) (hi:P.info? e=some i) (hz:i.zero=some (.int .u8 0)) (hsize:i.size=1) (hby:i.bytes=1)
  (v:Value) (n:Nat) (xs:List Value) (hs:a.eval sl=v) (hown:w.ownsRowF 0 e 1 v n xs) (s:ByteArray) (hx:a.eval x = .string s) (hbytes:n+s.size≤140737488355328)
  (h:∀ v' w',w'.ownsRowF 0 e 1 v' (n+s.size) (xs++Lib.strCells s)→w.grownBy w' v.ownBlock→(∀ k,v'.ownBlock=some k→v.ownBlock=some k∨w.heap.size≤k)→wpList P ops Q rest (a.put o.dst v') w'):wpList P ops Q (o :: rest) a w:=by
 refine wpList_plain hgd fun K hK=>?_
 obtain ⟨v',w',hr,h2,h3,h4⟩:=y8r (P:=P) w t u o.type e i ht hu hi hz hsize hby v n xs hown s hbytes;unfold Oper.wp execOp;simp only [ho,resolve,invoke,builtin,Sem.run_bind,Sem.run_pure,Result.andThen_ok,List.map_toArray,v0e,v10,hs,hx,hr];exact hK _ _ (h v' w' h2 h3 h4)
theorem y4z {P:Program} (w:World) (t ty e:TypeId) (i:TypeInfo) (ht:P.underlying t=some (.slice e)) (hi:P.info? e=some i) (hz:i.zero=some (.int .u8 0)) (hsize:i.size=1) (hby:i.bytes=1)
  (v:Value) (n:Nat) (xs:List Value) (hown:w.ownsRowF 0 e 1 v n xs) (ad:Addr) (c:Nat) (x:Int) (hx:w.cell? ad=some (.int .u8 x)) (hbytes:n+1≤140737488355328) :
  ∃ v' w',(Builtin.append_ #[t,t] ty #[v,.slice (some ad) 1 c]).run P w = .ok v' w'∧w'.ownsRowF 0 e 1 v' (n+1) (xs++[.int .u8 x])∧w.grownBy w' v.ownBlock∧∀ k,v'.ownBlock=some k→v.ownBlock=some k∨w.heap.size≤k:=by
 have h63:n+1≤maxLen:=by unfold maxLen; omega
 have hnews:∀ j u,[Value.int .u8 x][j]?=some u→w.cell? (ad.add j)=some u:=by
  intro j u hj
  match j,hj with
  | 0,hj=>simp at hj; subst hj; obtain ⟨b,o,p⟩:=ad; cases p <;> simpa [Addr.add] using hx
 have h1c:∀ u∈[Value.int .u8 x],u.oneCell'=true:=fun u hu=>by simp at hu; subst hu; rfl
 rcases hown.2 with ⟨rfl,rfl⟩ | ⟨g,cap,cur,fz,rfl,hbg,hg,hfz,hnc,hcm,hcs,htake⟩
 ·obtain ⟨v',w',h1,h2,h3,_⟩:=run_append_own (P:=P) w w.heap.size t ty e i (.int .u8 0) 1 1 ht hi hz hsize hby rfl (by decide) (.slice none 0 0) 0 xs ⟨hown.1,.inl ⟨rfl,rfl⟩⟩ ad 1 c [.int .u8 x] rfl hnews h1c h63 (by omega) (v08 _)
  refine ⟨v',w',h1,⟨h2.1,?_⟩,h3,fun k hk=>.inr ?_⟩
  ·rcases h2.2 with q | ⟨g,cap,cur,q1,_,q2,q3,q4,q5,q6⟩
   ·exact .inl q
   ·exact .inr ⟨g,cap,cur,(0,0),q1,v0y _,q2,v0y _,q3,q4,q5,q6⟩
  ·rcases h2.2 with ⟨rfl,_⟩ | ⟨g,cap,cur,rfl,q1,_⟩
   ·simp [Value.ownBlock] at hk
   ·rw [zca hk]; exact q1
 ·obtain ⟨v',w',h1,h2,h3,_⟩:=run_append_ownF (P:=P) w 0 t ty e i (.int .u8 0) 1 1 ht hi hz hsize hby rfl (by decide) _ n xs hown ad 1 c [.int .u8 x] rfl hnews h1c h63 (by omega) (v0y _)
  refine ⟨v',w',h1,h2,h3,fun k hk=>?_⟩
  by_cases hroom:n+1≤cap
  ·have hr:=run_append_roomF (P:=P) w t ty e i ht hi g n cap cur fz hg (by rw [hsize]; simpa using hfz) ad 1 c [.int .u8 x] (by rw [hsize]; rfl) hnews h1c hroom (by rw [hsize]; simp at hcs ⊢; omega)
   rw [h1] at hr;simp only [Result.ok.injEq] at hr;obtain ⟨rfl,_⟩:=hr;exact .inl (by rw [zca hk]; rfl)
  ·have hxl:xs.length=n:=by simpa using hown.1
   have hr:=run_append_grow (P:=P) w t ty e i (.int .u8 0) ht hi hz ⟨g,0,none⟩ n cap xs (by rw [hsize]; simpa using hxl) (hown.cells (g:=g) rfl) ad 1 c [.int .u8 x] (by rw [hsize]; rfl) hnews (by omega) (by omega) (by rw [hby]; exact growslice_fits (by omega) (by omega))
   rw [h1] at hr;simp only [Result.ok.injEq] at hr;obtain ⟨rfl,_⟩:=hr;exact .inr (by rw [zca hk]; exact v08 _)
theorem zk2 {P:Program} {w:World} {ops:Array Oper} {rest:List Oper} {o:Oper} {a:Act} {Q:Exit→Act→World→Prop} (hgd:o.guard=none) (sl x:Operand) (t:TypeId)
  (ho:o.op = .call { callee:=.builtin .append,args:=#[sl,x],argTypes:=#[t,t] })
  (e:TypeId) (i:TypeInfo) (ht:P.underlying t=some (.slice e)) (hi:P.info? e=some i) (hz:i.zero=some (.int .u8 0)) (hsize:i.size=1) (hby:i.bytes=1)
  (v:Value) (n:Nat) (xs:List Value) (hs:a.eval sl=v) (hown:w.ownsRowF 0 e 1 v n xs) (ad:Addr) (c:Nat) (y:Int) (hx:a.eval x = .slice (some ad) 1 c) (hc:w.cell? ad=some (.int .u8 y)) (hbytes:n+1≤140737488355328)
  (h:∀ v' w',w'.ownsRowF 0 e 1 v' (n+1) (xs++[.int .u8 y])→w.grownBy w' v.ownBlock→(∀ k,v'.ownBlock=some k→v.ownBlock=some k∨w.heap.size≤k)→wpList P ops Q rest (a.put o.dst v') w'):wpList P ops Q (o :: rest) a w:=by
 refine wpList_plain hgd fun K hK=>?_
 obtain ⟨v',w',hr,h2,h3,h4⟩:=y4z (P:=P) w t o.type e i ht hi hz hsize hby v n xs hown ad c y hc hbytes;unfold Oper.wp execOp;simp only [ho,resolve,invoke,builtin,Sem.run_bind,Sem.run_pure,Result.andThen_ok,List.map_toArray,v0e,v10,hs,hx,hr];exact hK _ _ (h v' w' h2 h3 h4)
theorem ya3 {w:World} {e:Nat} {v:Value} {bs:List Value} {n k:Nat} (hown:w.ownsRowF 0 e 1 v n bs) (hk:v.ownBlock=some k):k < w.heap.size:=by
 rcases hown.2 with ⟨rfl,_⟩ | ⟨g,cap,cur,fz,rfl,_,hg,_⟩
 ·simp [Value.ownBlock] at hk
 ·rw [zca hk]
  exact zeb hg
set_option maxHeartbeats 2000000 in
theorem zqz (b:Nat) (p v:Value) (bs:List Value) (s:ByteArray) (w:World) (hp:p = .pointer none∨p = .pointer (some ⟨b,0,none⟩)) (hbk:w.heap[b]?=some (.cells #[p,v] 108 (0,0)))
  (hown:w.ownsRowF 0 5 1 v bs.length bs) (hne:v.ownBlock≠some b) (hlen:bs.length+s.size≤140737488355328) :
  Calls Tryz.prog 60 #[.pointer (some ⟨b,0,none⟩),.string s] w fun e w'=>e = .returned (.tuple #[.int .i64 s.size,.nilIface])∧zpt b v (bs++Lib.strCells s) w w':=by
 obtain ⟨i0,hi,hz0,hz1,hz2⟩:=info_parts ycd
 go_enter Tryz.func60,Tryz.ntmps60
 go_wp2_with (go_at_call 103; refine (y79 b p v _ hp hbk).mono ?_)
 rintro e w1 ⟨rfl,hb1,hk1,hs1⟩
 have HS:Hid (w1.heap.size=w.heap.size):=hs1;clear hs1;have hown1:w1.ownsRowF 0 5 1 v bs.length bs:=z4j hown (fun k hk=>hk1.block k (ya3 hown hk) (fun e=>hne (e ▸ hk)))
 have c0:w1.cell? ⟨b,0,none⟩=some (.pointer (some ⟨b,0,none⟩)):=by rw [Lib.cell_of_heap hb1]; rfl
 have c1:w1.cell? ⟨b,1,none⟩=some v:=by rw [Lib.cell_of_heap hb1]; rfl
 go_wp2_with (at_builtin; refine zn3 rfl _ _ 69 9 rfl 5 i0 Tryz.underlying69 Tryz.underlying9 hi hz0 hz1 hz2 _ _ _ rfl hown1 s rfl hlen ?_)
 intro v' w2 hown' hgrow hblk;have hlt:b < w1.heap.size:=zeb hb1;have hb2:w2.heap[b]?=some (.cells #[.pointer (some ⟨b,0,none⟩),v] 108 (0,0)):=by
  rw [hgrow.block b hlt (fun e=>hne e.symm)]
  exact hb1
 have d0:w2.cell? ⟨b,0,none⟩=some (.pointer (some ⟨b,0,none⟩)):=by rw [Lib.cell_of_heap hb2]; rfl
 have d1:w2.cell? ⟨b,1,none⟩=some v:=by rw [Lib.cell_of_heap hb2]; rfl
 have f1:w2.frozen? ⟨b,1,none⟩=false:=Lib.frozen_of_heap hb2 1;have hX:Hid (zpt b v (bs++Lib.strCells s) w (w2.setCell ⟨b,1,none⟩ v')):=y6p HS hk1 hb2 (by simpa [Lib.strCells_length] using hown') (zzp hgrow) hblk
 clear hblk HS;obtain ⟨ao,n',cap,rfl⟩:∃ ao n' cap,v' = .slice ao n' cap:=by
  rcases hown'.2 with ⟨hv,_⟩ | ⟨g,cap,cur,fz,hv,_⟩
  ·exact ⟨_,_,_,hv⟩
  ·exact ⟨_,_,_,hv⟩
 go_wp2
 go_ret2
 exact ⟨rfl,hX⟩
set_option maxHeartbeats 2000000 in
theorem zy3 (b:Nat) (p v:Value) (bs:List Value) (c:Int) (w:World) (hp:p = .pointer none∨p = .pointer (some ⟨b,0,none⟩)) (hbk:w.heap[b]?=some (.cells #[p,v] 108 (0,0)))
  (hown:w.ownsRowF 0 5 1 v bs.length bs) (hne:v.ownBlock≠some b) (hlen:bs.length+1≤140737488355328) :
  Calls Tryz.prog 97 #[.pointer (some ⟨b,0,none⟩),.int .u8 c] w fun e w'=>e = .returned .nilIface∧zpt b v (bs++[.int .u8 c]) w w':=by
 obtain ⟨i0,hi,hz0,hz1,hz2⟩:=info_parts ycd
 go_enter Tryz.func97,Tryz.ntmps97
 go_wp2_with (go_at_call 103; refine (y79 b p v _ hp hbk).mono ?_)
 rintro e w1 ⟨rfl,hb1,hk1,hs1⟩
 have HS:Hid (w1.heap.size=w.heap.size):=hs1;clear hs1;have hown1:w1.ownsRowF 0 5 1 v bs.length bs:=z4j hown (fun k hk=>hk1.block k (ya3 hown hk) (fun e=>hne (e ▸ hk)))
 have c0:w1.cell? ⟨b,0,none⟩=some (.pointer (some ⟨b,0,none⟩)):=by rw [Lib.cell_of_heap hb1]; rfl
 have c1:w1.cell? ⟨b,1,none⟩=some v:=by rw [Lib.cell_of_heap hb1]; rfl
 have hlt:b < w1.heap.size:=zeb hb1
 go_wp2_with (at_builtin; refine zk2 rfl _ _ 69 rfl 5 i0 Tryz.underlying69 hi hz0 hz1 hz2 _ _ _ rfl (hown1.alloc _) ⟨w1.heap.size,0,none⟩ 1 c rfl (by rw [Lib.cell_of_heap (heap_alloc_new w1 _)]; rfl) hlen ?_)
 intro v' w2 hown' hgrow hblk;have hb2:w2.heap[b]?=some (.cells #[.pointer (some ⟨b,0,none⟩),v] 108 (0,0)):=by
  rw [hgrow.block b (by simp; omega) (fun e=>hne e.symm),Lib.alloc_old w1 _ b hlt]
  exact hb1
 have d0:w2.cell? ⟨b,0,none⟩=some (.pointer (some ⟨b,0,none⟩)):=by rw [Lib.cell_of_heap hb2]; rfl
 have d1:w2.cell? ⟨b,1,none⟩=some v:=by rw [Lib.cell_of_heap hb2]; rfl
 have f1:w2.frozen? ⟨b,1,none⟩=false:=Lib.frozen_of_heap hb2 1;have hX:Hid (zpt b v (bs++[.int .u8 c]) w (w2.setCell ⟨b,1,none⟩ v')):=y6p HS hk1 hb2 (by simpa using hown') (((Keep.alloc (fun k=>v.ownBlock=some k) w1 _)).trans (zzp hgrow) (fun _ _ h=>h)) (fun k hk=>(hblk k hk).imp_right (fun h=>by first | omega | (simp at h; omega)))
 clear hblk HS;obtain ⟨ao,n',cap,rfl⟩:∃ ao n' cap,v' = .slice ao n' cap:=by
  rcases hown'.2 with ⟨hv,_⟩ | ⟨g,cap,cur,fz,hv,_⟩
  ·exact ⟨_,_,_,hv⟩
  ·exact ⟨_,_,_,hv⟩
 go_wp2
 go_ret
 exact ⟨rfl,hX⟩
def zbp (b:Nat) (p v:Value) (n:Nat) (bs:List Value) (w w':World):Prop:=
 w'.heap[b]?=some (.cells #[p,v] 108 (0,0))∧w'.ownsRowF 0 5 1 v n bs∧Keep (fun k=>k=b∨v.ownBlock=some k) w w'
theorem zxd {b g cap:Nat} {p:Value} {bs:List Value} {w:World} (hbk:w.heap[b]?=some (.cells #[p,.slice (some ⟨g,0,none⟩) bs.length cap] 108 (0,0))) (hown:w.ownsRowF 0 5 1 (.slice (some ⟨g,0,none⟩) bs.length cap) bs.length bs) (hne:(Value.slice (some ⟨g,0,none⟩) bs.length cap).ownBlock≠some b) :
  zbp b p (.slice (some ⟨g,0,none⟩) bs.length cap) bs.length bs w (w.drew.freeze ⟨g,0,none⟩ bs.length):=by
 have hA:Lib.BuilderAtF 108 5 0 b p bs w.drew:=⟨v0y _,_,hbk,hown,hne⟩;have c1:w.drew.cell? ⟨b,1,none⟩=some (.slice (some ⟨g,0,none⟩) bs.length cap):=by
  have:w.drew.heap[b]?=some (.cells #[p,.slice (some ⟨g,0,none⟩) bs.length cap] 108 (0,0)):=hbk
  rw [Lib.cell_of_heap this]; rfl
 obtain ⟨_,v',q1,q2,q3⟩:=hA.froze c1;have hk:Keep (fun k=>k=g) w (w.drew.freeze ⟨g,0,none⟩ bs.length):=(Keep.drew _ w).trans (Keep.freeze (O:=fun k=>k=g) w.drew ⟨g,0,none⟩ _ rfl) (fun _ _ h=>h)
 have hgb:b≠g:=fun e=>hne (by simp [Value.ownBlock,e])
 have hb2:(w.drew.freeze ⟨g,0,none⟩ bs.length).heap[b]?=some (.cells #[p,.slice (some ⟨g,0,none⟩) bs.length cap] 108 (0,0)):=(hk.block b (zeb hbk) hgb).trans hbk;have e:v' = .slice (some ⟨g,0,none⟩) bs.length cap:=by
  rw [hb2] at q1;simp at q1;exact q1.symm
 subst e;exact ⟨hb2,q2,hk.mono (fun k _ h=>.inr (by rw [h]; rfl))⟩
set_option maxHeartbeats 1000000 in
theorem zrm (b g cap:Nat) (p:Value) (l:List UInt8) (w:World) (h0:l≠[]) (hbk:w.heap[b]?=some (.cells #[p,.slice (some ⟨g,0,none⟩) l.length cap] 108 (0,0)))
  (hown:w.ownsRowF 0 5 1 (.slice (some ⟨g,0,none⟩) l.length cap) l.length (Lib.byteCells l)) (hne:(Value.slice (some ⟨g,0,none⟩) l.length cap).ownBlock≠some b) :
  Calls Tryz.prog 56 #[.pointer (some ⟨b,0,none⟩)] w fun e w'=>e = .returned (.string ⟨l.toArray⟩)∧zbp b p (.slice (some ⟨g,0,none⟩) l.length cap) l.length (Lib.byteCells l) w w':=by
 have hl0:l.length≠0:=by simpa using h0
 obtain ⟨cur,fz,hg,hnc,hcm,hcs⟩:∃ cur fz,w.heap[g]?=some (.cells cur 5 fz)∧l.length≤cap∧cap≤maxLen∧cur.size=cap*1:=by
  rcases hown.2 with ⟨hv,_⟩ | ⟨g',cap',cur,fz,hv,_,q1,_,q2,q3,q4,_⟩
  ·cases hv
  ·injection hv with ha _ hc
   injection ha with ha
   injection ha with hgg
   subst hgg; subst hc;exact ⟨cur,fz,q1,q2,q3,q4⟩
 have c1:w.drew.cell? ⟨b,1,none⟩=some (.slice (some ⟨g,0,none⟩) l.length cap):=by
  have:w.drew.heap[b]?=some (.cells #[p,.slice (some ⟨g,0,none⟩) l.length cap] 108 (0,0)):=hbk
  rw [Lib.cell_of_heap this]; rfl
 have hSD:(Builtin.unsafeSliceData_ #[69] 165 #[.slice (some ⟨g,0,none⟩) l.length cap]).run Tryz.prog w.drew = .ok (.pointer (some ⟨g,0,none⟩)) w.drew:=
  Lib.run_unsafeSliceData_row _ _ _ _ _ _ (by omega)
 have hcells:PR.cellsOf 5=1:=by kernel_rfl
 have hUS:(Builtin.unsafeString_ #[165,3] 9 #[.pointer (some ⟨g,0,none⟩),.int .i64 l.length]).run Tryz.prog w.drew = .ok (.string ⟨l.toArray⟩) (w.drew.freeze ⟨g,0,none⟩ l.length):=by
  refine Lib.run_unsafeString_row w.drew 165 3 9 5 Tryz.underlying165 hcells g cur.size (by have hg':w.drew.heap[g]?=some (.cells cur 5 fz):=hg; simp [World.shape?,hg']) l h0 (by omega) (by unfold maxLen at hcm; omega) ?_
  intro j x hx
  have:=hown.cells (g:=g) rfl j (.int .u8 x.toNat) (by simp [Lib.byteCells,hx])
  exact this
 have hP:Hid (zbp b p (.slice (some ⟨g,0,none⟩) l.length cap) l.length (Lib.byteCells l) w (w.drew.freeze ⟨g,0,none⟩ l.length)):=by
  have:=zxd (bs:=Lib.byteCells l) (by rw [Lib.byteCells_length]; exact hbk) (by rw [Lib.byteCells_length]; exact hown) (by rw [Lib.byteCells_length]; exact hne)
  rw [Lib.byteCells_length] at this;exact this
 clear hcells hcs hg hnc hcm hl0
 go_enter Tryz.func56,Tryz.ntmps56
 go_wp2
 go_region
 all_goals (go_wp2; go_ret; exact ⟨rfl,hP⟩)
set_option maxHeartbeats 2000000 in
theorem zu9 (b:Nat) (p:Value) (w:World) (hbk:w.heap[b]?=some (.cells #[p,.slice none 0 0] 108 (0,0))) :
  Calls Tryz.prog 56 #[.pointer (some ⟨b,0,none⟩)] w fun e w'=>e = .returned (.string ⟨#[]⟩)∧zbp b p (.slice none 0 0) 0 [] w w':=by
 have hUS:∀ (W:World) (q:Option Addr),(Builtin.unsafeString_ #[165,3] 9 #[.pointer q,.int .i64 0]).run Tryz.prog W = .ok (.string .empty) W:=fun W q=>Lib.run_unsafeString_none W _ _ _ q
 have c1:w.drew.cell? ⟨b,1,none⟩=some (.slice none 0 0):=by
  have:w.drew.heap[b]?=some (.cells #[p,.slice none 0 0] 108 (0,0)):=hbk
  rw [Lib.cell_of_heap this]; rfl
 have hSD:(Builtin.unsafeSliceData_ #[69] 165 #[.slice none 0 0]).run Tryz.prog w.drew = .ok (.pointer none) w.drew:=rfl;have hP:Hid (zbp b p (.slice none 0 0) 0 [] w w.drew):=⟨hbk,⟨rfl,.inl ⟨rfl,rfl⟩⟩,Keep.drew _ w⟩
 go_enter Tryz.func56,Tryz.ntmps56
 go_wp2
 go_region
 all_goals (go_wp2; go_ret; exact ⟨rfl,hP⟩)
set_option maxHeartbeats 2000000 in
theorem zmd (b g:Nat) (p:Value) (cur:Array Value) (fz:Nat × Nat) (w:World) (hbk:w.heap[b]?=some (.cells #[p,.slice (some ⟨g,0,none⟩) 0 0] 108 (0,0))) (hg:w.heap[g]?=some (.cells cur 5 fz)) (hown:w.ownsRowF 0 5 1 (.slice (some ⟨g,0,none⟩) 0 0) 0 []) :
  Calls Tryz.prog 56 #[.pointer (some ⟨b,0,none⟩)] w fun e w'=>e = .returned (.string ⟨#[]⟩)∧zbp b p (.slice (some ⟨g,0,none⟩) 0 0) 0 [] w w':=by
 have hUS:∀ (W:World) (q:Option Addr),(Builtin.unsafeString_ #[165,3] 9 #[.pointer q,.int .i64 0]).run Tryz.prog W = .ok (.string .empty) W:=fun W q=>Lib.run_unsafeString_none W _ _ _ q
 have hlt:b < w.heap.size:=zeb hbk;have c1:w.drew.cell? ⟨b,1,none⟩=some (.slice (some ⟨g,0,none⟩) 0 0):=by
  have:w.drew.heap[b]?=some (.cells #[p,.slice (some ⟨g,0,none⟩) 0 0] 108 (0,0)):=hbk
  rw [Lib.cell_of_heap this]; rfl
 have hSD:(Builtin.unsafeSliceData_ #[69] 165 #[.slice (some ⟨g,0,none⟩) 0 0]).run Tryz.prog w.drew = .ok (.pointer (some ⟨w.drew.heap.size,0,none⟩)) (w.drew.alloc (.view ⟨g,0,none⟩ 5)):=
  Lib.run_unsafeSliceData_zero w.drew _ _ 5 Tryz.underlying165 ⟨g,0,none⟩ 0 (5,cur.size) (by have hg':w.drew.heap[g]?=some (.cells cur 5 fz):=hg; simp [World.shape?,hg'])
 have c2:(w.drew.alloc (.view ⟨g,0,none⟩ 5)).cell? ⟨b,1,none⟩=some (.slice (some ⟨g,0,none⟩) 0 0):=by
  have:(w.drew.alloc (.view ⟨g,0,none⟩ 5)).heap[b]?=_:=(Lib.alloc_old w.drew _ b hlt).trans hbk
  rw [Lib.cell_of_heap this]; rfl
 have c3:(w.alloc (.view ⟨g,0,none⟩ 5)).drew.cell? ⟨b,1,none⟩=some (.slice (some ⟨g,0,none⟩) 0 0):=c2;have c0:w.cell? ⟨b,1,none⟩=some (.slice (some ⟨g,0,none⟩) 0 0):=c1;have hP:∀ W:World,W.heap=(w.drew.alloc (.view ⟨g,0,none⟩ 5)).heap→W.os=w.os→W.tape=w.tape→W.output=w.output→zbp b p (.slice (some ⟨g,0,none⟩) 0 0) 0 [] w W:=by
  intro W h1 h2 h3 h4;have hk:Keep (fun k=>k=b∨(Value.slice (some ⟨g,0,none⟩) 0 0).ownBlock=some k) w W:=by
   have:=Keep.alloc (fun _=>False) w.drew (.view ⟨g,0,none⟩ 5)
   exact ⟨h2,h3,h4,by rw [h1]; exact this.size,fun k hk _=>by rw [h1]; exact this.block k hk (fun h=>h)⟩
  have hblk:∀ k,k < w.heap.size→W.heap[k]?=w.heap[k]?:=fun k hk=>by
   rw [h1]; exact (Keep.alloc (fun _=>False) w.drew (.view ⟨g,0,none⟩ 5)).block k hk (fun h=>h)
  exact ⟨(hblk b hlt).trans hbk,z4j hown (fun k hk=>hblk k (ya3 hown hk)),hk⟩
 have hP:Hid (∀ W:World,W.heap=(w.drew.alloc (.view ⟨g,0,none⟩ 5)).heap→W.os=w.os→W.tape=w.tape→W.output=w.output→zbp b p (.slice (some ⟨g,0,none⟩) 0 0) 0 [] w W):=hP
 go_enter Tryz.func56,Tryz.ntmps56
 go_wp2
 go_region
 all_goals (go_wp2; go_ret; exact ⟨rfl,hP _ rfl rfl rfl rfl⟩)
set_option maxHeartbeats 2000000 in
theorem zrl (b g cap:Nat) (p:Value) (w:World) (hc0:cap≠0) (hbk:w.heap[b]?=some (.cells #[p,.slice (some ⟨g,0,none⟩) 0 cap] 108 (0,0))) (hown:w.ownsRowF 0 5 1 (.slice (some ⟨g,0,none⟩) 0 cap) 0 []) :
  Calls Tryz.prog 56 #[.pointer (some ⟨b,0,none⟩)] w fun e w'=>e = .returned (.string ⟨#[]⟩)∧zbp b p (.slice (some ⟨g,0,none⟩) 0 cap) 0 [] w w':=by
 have hUS:∀ (W:World) (q:Option Addr),(Builtin.unsafeString_ #[165,3] 9 #[.pointer q,.int .i64 0]).run Tryz.prog W = .ok (.string .empty) W:=fun W q=>Lib.run_unsafeString_none W _ _ _ q
 have c1:w.drew.cell? ⟨b,1,none⟩=some (.slice (some ⟨g,0,none⟩) 0 cap):=by
  have:w.drew.heap[b]?=some (.cells #[p,.slice (some ⟨g,0,none⟩) 0 cap] 108 (0,0)):=hbk
  rw [Lib.cell_of_heap this]; rfl
 have hSD:(Builtin.unsafeSliceData_ #[69] 165 #[.slice (some ⟨g,0,none⟩) 0 cap]).run Tryz.prog w.drew = .ok (.pointer (some ⟨g,0,none⟩)) w.drew:=
  Lib.run_unsafeSliceData_row _ _ _ _ _ _ hc0
 clear hc0;have hP:Hid (zbp b p (.slice (some ⟨g,0,none⟩) 0 cap) 0 [] w w.drew):=⟨hbk,hown,Keep.drew _ w⟩
 go_enter Tryz.func56,Tryz.ntmps56
 go_wp2
 go_region
 all_goals (go_wp2; go_ret; exact ⟨rfl,hP⟩)
theorem zut (s:ByteArray):Lib.strCells s=Lib.byteCells s.data.toList:=by
 simp [Lib.strCells,Lib.byteCells]
theorem y97 (b:Nat) (p v:Value) (s:ByteArray) (w:World) (hbk:w.heap[b]?=some (.cells #[p,v] 108 (0,0))) (hown:w.ownsRowF 0 5 1 v s.size (Lib.strCells s)) (hne:v.ownBlock≠some b) :
  Calls Tryz.prog 56 #[.pointer (some ⟨b,0,none⟩)] w fun e w'=>e = .returned (.string s)∧zbp b p v s.size (Lib.strCells s) w w':=by
 obtain ⟨⟨l⟩⟩:=s;rw [zut] at hown ⊢
 change w.ownsRowF 0 5 1 v l.length (Lib.byteCells l) at hown
 change Calls Tryz.prog 56 #[.pointer (some ⟨b,0,none⟩)] w fun e w'=>e = .returned (.string ⟨l.toArray⟩)∧zbp b p v l.length (Lib.byteCells l) w w'
 by_cases h0:l=[]
 ·subst h0
  rcases hown.2 with ⟨rfl,_⟩ | ⟨g,cap,cur,fz,rfl,_,hg,_⟩
  ·exact zu9 b p w hbk
  ·by_cases hc:cap=0
   ·subst hc
    exact zmd b g p cur fz w hbk hg hown
   ·exact zrl b g cap p w hc hbk hown
 ·rcases hown.2 with ⟨rfl,hz⟩ | ⟨g,cap,cur,fz,rfl,_⟩
  ·exact absurd (v1p hz) h0
  ·exact zrm b g cap p l w h0 hbk hown hne
end Go.FM
