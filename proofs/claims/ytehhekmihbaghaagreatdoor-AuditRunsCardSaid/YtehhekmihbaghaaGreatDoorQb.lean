/-
  A small machine that reads a function of the program and reckons what a call of it comes to; what Go's library on the road comes to; the functions of the program, one by one. No conditions beyond each specification's own. (THE SMALL MACHINE (21): the memory that a call is about., THE SMALL MACHINE (22): what comes back from a call., THE SMALL MACHINE (23): what a function is said to do; a cal, and so on.)
-/
import Derived.Test.YtehhekmihbaghaaGreatDoorQa
import Derived.Lib.ConvBytes
import Derived.Orders
import Derived.DeepKeys
import Derived.KernelRfl
import Derived.Lib.AtoiAll
import Derived.Lib.ItoaLen
import Derived.Lib.Split
import Derived.Lib.IndexMore
import Derived.Lib.LaidTab
import Derived.Lib.SplitLaws
import Derived.Lib.TrimByte
import Derived.Lib.Repeat
import Derived.Lib.ItoaNum
import Derived.Lib.Join
import Derived.Test.YtehhekmihbaghaaGreatDoorProg

namespace Go.FM
open Go Go.RowKit
section
variable {B:BT} {nt:Nat} {w0:World} {X:Zone} {γ:Nat→Value} {st st':St} {a:Act} {w:World} {P:Program} {E:Env}
theorem y4w (h:Rel B nt w0 X γ st a w) {v:V} {x:Value} (hv:VRel γ st.o w (z07 X γ st.o) v x) {γb:Nat→Value} {bo:Store} {O':Nat→Prop} (hO:∀ b,b < w.heap.size→O' b→z07 X γ st.o b)
  (hrow:∀ m∈zg6 v,∀ b,RowOf γ st.o m b→¬ O' b) (ks:List Kd):VRel γb bo w O' (y43 st.o ks v) x:=by
 by_cases hc:∃ l,v = .agg l
 ·obtain ⟨l,rfl⟩:=hc
  simp only [y43,VRel] at hv ⊢
  obtain ⟨cs,hx,hr⟩:=hv;exact ⟨cs,hx,zwe h hO [] hr hrow⟩
 ·have h1:y43 st.o ks v=zdw (z7s st.o [] ks.head? v):=by
   cases v <;> first | rfl | exact absurd ⟨_,rfl⟩ hc
  rw [h1];refine y62 h hv hO (fun m hm=>hrow m ?_) [] _
  cases v <;> simp_all [z15,zg6]
theorem zxk (h:Rel B nt w0 X γ st a w) {v:V} {x:Value} (hv:VRel γ st.o w (z07 X γ st.o) v x) {γb:Nat→Value} {bo:Store} {O':Nat→Prop} (hO:∀ b,b < w.heap.size→O' b→z07 X γ st.o b)
  (hrow:∀ m∈zg6 v,∀ b,RowOf γ st.o m b→¬ O' b) (ks:List (List Kd)):VRel γb bo w O' (zk1 st.o ks v) x:=by
 by_cases hc:∃ l,v = .tup l
 ·obtain ⟨l,rfl⟩:=hc
  simp only [zk1,VRel] at hv ⊢
  obtain ⟨cs,hx,hr⟩:=hv;refine ⟨cs,hx,?_⟩;have key:∀ (l:List V) (ks:List (List Kd)) (xs:List Value),VRels γ st.o w (z07 X γ st.o) l xs→(∀ m∈zg6.go l,∀ b,RowOf γ st.o m b→¬ O' b)→VRels γb bo w O' (zk1.go st.o ks l) xs:=by
   intro l
   induction l with
   | nil=>
    intro ks xs h1 _;cases xs with
    | nil=>cases ks <;> simp only [zk1.go,VRels]
    | cons _ _=>simp only [VRels] at h1
   | cons v l ih=>
    intro ks xs h1 h2;cases xs with
    | nil=>simp only [VRels] at h1
    | cons x xs=>
     simp only [VRels] at h1;have h3:∀ ks,VRel γb bo w O' (y43 st.o ks v) x:=by
      intro ks
      by_cases hq:(∃ f l',v = .clo f l')∨(∃ l',v = .tup l')
      ·rcases hq with ⟨f,l',rfl⟩ | ⟨l',rfl⟩ <;> simp only [y43,z7s,zdw,VRel]
      ·refine y4w h h1.1 hO (fun m hm=>h2 m ?_) ks
       cases v <;> simp_all [zg6,zg6.go]
     have h4:∀ ks,VRels γb bo w O' (zk1.go st.o ks l) xs:=fun ks=>ih ks xs h1.2 (fun m hm=>h2 m (by
      cases v <;> simp_all [zg6.go]))
     cases ks with
     | nil=>simp only [zk1.go,VRels]; exact ⟨h3 _,h4 _⟩
     | cons k ks=>simp only [zk1.go,VRels]; exact ⟨h3 _,h4 _⟩
  exact key l ks _ hr hrow
 ·have h1:zk1 st.o ks v=y43 st.o (ks.headD []) v:=by
   cases v <;> first | rfl | exact absurd ⟨_,rfl⟩ hc
  rw [h1];exact y4w h hv hO hrow _
theorem zbv (o:Store) (all:List Nat) (v:V):(∃ m hi e ag ks l,v = .row m 0 hi∧z03 o m=some (.row true e ag ks l)∧occ m all=1∧z3a o all v = .vec e ag ks (l.take hi)) ∨
  (z92 (z3a o all v)=true∧∀ m lo hi,v = .row m lo hi→∀ own e ag ks l,z03 o m=some (.row own e ag ks l)→z3a o all v = .list ag ks ((l.take hi).drop lo)∧(own&&(Nat.beq lo 0&&Nat.beq (occ m all) 1))=false):=by
 cases v
 case row m lo hi=>
  simp only [z3a]
  split
  ·rename_i own e ag ks l hob
   cases hb:(own&&(Nat.beq lo 0&&Nat.beq (occ m all) 1)) with
   | true=>
    simp only [Bool.and_eq_true] at hb;obtain ⟨rfl,h1,h2⟩:=hb;obtain rfl:=z1j.1 h1;exact .inl ⟨m,hi,e,ag,ks,l,rfl,hob,z1j.1 h2,by simp only⟩
   | false=>
    refine .inr ⟨rfl,fun m' lo' hi' he own' e' ag' ks' l' hob'=>?_⟩
    simp only [V.row.injEq] at he;obtain ⟨rfl,rfl,rfl⟩:=he;rw [hob] at hob';simp only [Option.some.injEq,Ob.row.injEq] at hob';obtain ⟨rfl,rfl,rfl,rfl,rfl⟩:=hob';exact ⟨rfl,hb⟩
  ·rename_i hno
   refine .inr ⟨rfl,fun m' lo' hi' he own' e' ag' ks' l' hob'=>?_⟩
   simp only [V.row.injEq] at he;obtain ⟨rfl,rfl,rfl⟩:=he;exact absurd hob' (hno _ _ _ _ _)
 all_goals exact .inr ⟨rfl,fun _ _ _ he=>by cases he⟩
theorem z6q {o:Store} {all:List Nat} {n:Nat}:∀ {cs:List V},n∈z3i o all cs↔∃ hi e ag ks l,.row n 0 hi∈cs∧z03 o n=some (.row true e ag ks l)∧occ n all=1
 | []=>by simp [z3i]
 | v :: r=>by
  have ih:=z6q (o:=o) (all:=all) (n:=n) (cs:=r);have skip:(∀ hi e ag ks l,v = .row n 0 hi→z03 o n=some (.row true e ag ks l)→occ n all=1→False)→(n∈z3i o all r↔∃ hi e ag ks l,V.row n 0 hi∈v :: r∧z03 o n=some (.row true e ag ks l)∧occ n all=1):=by
   intro hs;rw [ih];constructor
   ·rintro ⟨hi,e,ag,ks,l,h1,h2,h3⟩
    exact ⟨hi,e,ag,ks,l,List.mem_cons_of_mem _ h1,h2,h3⟩
   ·rintro ⟨hi,e,ag,ks,l,h1,h2,h3⟩
    rcases List.mem_cons.1 h1 with h4 | h4
    ·exact (hs hi e ag ks l h4.symm h2 h3).elim
    ·exact ⟨hi,e,ag,ks,l,h4,h2,h3⟩
  cases v
  case row m lo hi=>
   simp only [z3i]
   split
   ·rename_i own e ag ks l hob
    split
    ·rename_i hb
     simp only [Bool.and_eq_true] at hb;obtain ⟨rfl,h1,h2⟩:=hb;obtain rfl:=z1j.1 h1
     by_cases hm:n=m
     ·subst hm
      exact ⟨fun _=>⟨hi,e,ag,ks,l,List.mem_cons_self ..,hob,z1j.1 h2⟩,fun _=>List.mem_cons_self ..⟩
     ·have h3:=skip (fun hi' e' ag' ks' l' he _ _=>by simp only [V.row.injEq] at he; exact hm he.1.symm)
      rw [← h3];simp [hm]
    ·rename_i hb
     refine skip (fun hi' e' ag' ks' l' he ho hc=>?_)
     simp only [V.row.injEq] at he;obtain ⟨rfl,rfl,rfl⟩:=he;rw [hob] at ho;simp only [Option.some.injEq,Ob.row.injEq] at ho;rw [hc,ho.1] at hb;simp at hb
   ·rename_i hno
    refine skip (fun hi' e' ag' ks' l' he ho hc=>?_)
    simp only [V.row.injEq] at he;obtain ⟨rfl,rfl,rfl⟩:=he;exact hno _ _ _ _ _ ho
  all_goals exact skip (fun _ _ _ _ _ he _ _=>by cases he)
theorem zup {o:Store} {all:List Nat} {n lo hi:Nat} {own:Bool} {e:Nat} {ag:Bool} {ks:List Kd} {l:List IV} (ho:z03 o n=some (.row own e ag ks l)) (hb:(own&&(Nat.beq lo 0&&Nat.beq (occ n all) 1))=false) :
  ∀ {cs:List V},.row n lo hi∈cs→n∈z4s o all cs
 | v :: r,hm=>by
  rcases List.mem_cons.1 hm with h1 | h1
  ·subst h1
   simp only [z4s,ho,hb];exact List.mem_cons_self ..
  ·have ih:=zup ho hb h1
   cases v <;> simp only [z4s] <;> try exact ih
   split
   ·split
    ·exact ih
    ·exact List.mem_cons_of_mem _ ih
   ·exact ih
theorem Rel.bound (h:Rel B nt w0 X γ st a w) {n:Nat} {cs:List V} (ho:z03 st.o n=some (.box cs)) (extra:List Nat) {w1:World} {own1 F:Nat→Prop} (hk:Keep own1 w1 w)
  (hF:∀ b,F b→z07 X γ st.o b∧¬ z0r γ st.o n b∧(∀ m∈z3i st.o (z15 cs++extra) cs,¬ z0r γ st.o m b)∧(∀ m∈z4s st.o (z15 cs++extra) cs,¬ z0r γ st.o m b))
  (hown:∀ b,z0r γ st.o n b∨(∃ m∈z3i st.o (z15 cs++extra) cs,z0r γ st.o m b)→w1.heap.size≤b∨own1 b) :
  ∃ γb,Rel B.base 0 w1 ⟨own1,F⟩ γb ⟨[],z6y (cs.map (z3a st.o (z15 cs++extra)))⟩ zu9 w∧γb 900000=γ n ∧
   ∀ b,z1f γb (z6y (cs.map (z3a st.o (z15 cs++extra)))) b→z0r γ st.o n b∨∃ m∈z3i st.o (z15 cs++extra) cs,z0r γ st.o m b:=by
 generalize hall:z15 cs++extra=all at *;have hor:=h.ob n _ ho;simp only [ObRel] at hor;obtain ⟨b0,c,T,hg,hh,hr⟩:=hor;have hbs:∀ s,cs.map (z3a st.o all)≠[.bld s]:=by
  intro s he;cases cs with
  | nil=>simp at he
  | cons v r=>
   simp only [List.map_cons,List.cons.injEq] at he;rcases zbv st.o all v with ⟨_,_,_,_,_,_,_,_,_,h1⟩ | ⟨h1,_⟩
   ·rw [h1] at he; cases he.1
   ·rw [he.1] at h1; cases h1
 rw [zwb hbs]
 let γb:Nat→Value:=fun m=>if 900000=m then γ n else c.toList.getD (m - 900001) undef
 have hγ0:γb 900000=γ n:=by simp [γb]
 have hγ1:∀ j u,c.toList[j]?=some u→γb (900001+j)=u:=by
  intro j u hu;simp only [γb];rw [if_neg (by omega),show 900001+j - 900001=j by omega,List.getD_eq_getElem?_getD,hu]
  rfl
 have hob0:z03 ((900000,some (.box (z63 900001 (cs.map (z3a st.o all))))) :: zg4 900001 (cs.map (z3a st.o all))) 900000=some (.box (z63 900001 (cs.map (z3a st.o all)))):=by
  rw [z01,if_pos rfl]
 have hrow:∀ m ob,900000≠m→z03 ((900000,some (.box (z63 900001 (cs.map (z3a st.o all))))) :: zg4 900001 (cs.map (z3a st.o all))) m=some ob →
   ∃ j m' hi e ag ks l u,m=900001+j∧cs[j]?=some (.row m' 0 hi)∧z03 st.o m'=some (.row true e ag ks l)∧occ m' all=1∧ob = .row true e ag ks (l.take hi)∧c.toList[j]?=some u∧γb m=u ∧
    VRel γ st.o w (z07 X γ st.o) (.row m' 0 hi) u∧m'∈z3i st.o all cs:=by
  intro m ob hne hm;rw [z01,if_neg hne] at hm;obtain ⟨j,e,ag,ks,l,rfl,hj,rfl⟩:=y04 hm;rw [List.getElem?_map] at hj;cases hv:cs[j]? with
  | none=>rw [hv] at hj; cases hj
  | some v=>
   rw [hv] at hj;simp only [Option.map_some,Option.some.injEq] at hj;rcases zbv st.o all v with ⟨m',hi,e',ag',ks',l',rfl,h1,h2,h3⟩ | ⟨h1,_⟩
   ·rw [h3] at hj
    simp only [V.vec.injEq] at hj;obtain ⟨rfl,rfl,rfl,rfl⟩:=hj;obtain ⟨u,hu,hvr⟩:=hr.get hv;exact ⟨j,m',hi,e',ag',ks',l',u,rfl,hv,h1,h2,rfl,hu,hγ1 j u hu,hvr,z6q.2 ⟨hi,e',ag',ks',l',List.mem_of_getElem? hv,h1,h2⟩⟩
   ·rw [hj] at h1; cases h1
 have hblk:∀ m ob,900000≠m→z03 ((900000,some (.box (z63 900001 (cs.map (z3a st.o all))))) :: zg4 900001 (cs.map (z3a st.o all))) m=some ob→∀ b,z0g (γb m) ob b →
   ∃ j m' hi,m=900001+j∧cs[j]?=some (.row m' 0 hi)∧occ m' all=1∧m'∈z3i st.o all cs∧z0r γ st.o m' b:=by
  intro m ob hne hm b hb;obtain ⟨j,m',hi,e,ag,ks,l,u,h1,h2,h3,h4,h5,h6,h7,h8,h9⟩:=hrow m ob hne hm;refine ⟨j,m',hi,h1,h2,h4,h9,?_⟩;rw [h7,h5] at hb;exact (zy7 (γ':=γb) (o':=[]) h h3 h8).2 b hb
 have hP:∀ b,z1f γb ((900000,some (.box (z63 900001 (cs.map (z3a st.o all))))) :: zg4 900001 (cs.map (z3a st.o all))) b→z0r γ st.o n b∨∃ m∈z3i st.o all cs,z0r γ st.o m b:=by
  rintro b ⟨m,ob,hm,hb⟩
  by_cases e:900000=m
  ·subst e
   rw [hob0,Option.some.injEq] at hm;subst hm;rw [hγ0] at hb;exact .inl ⟨_,ho,hb⟩
  ·obtain ⟨j,m',hi,_,_,_,h9,h10⟩:=hblk m ob e hm b hb
   exact .inr ⟨m',h9,h10⟩
 have hPO:∀ b,z0r γ st.o n b∨(∃ m∈z3i st.o all cs,z0r γ st.o m b)→z1f γ st.o b:=by
  rintro b (⟨ob,h1,h2⟩ | ⟨m,_,ob,h1,h2⟩)
  ·exact ⟨n,ob,h1,h2⟩
  ·exact ⟨m,ob,h1,h2⟩
 have hO:∀ b,b < w.heap.size→z07 ⟨own1,F⟩ γb ((900000,some (.box (z63 900001 (cs.map (z3a st.o all))))) :: zg4 900001 (cs.map (z3a st.o all))) b→z07 X γ st.o b:=by
  rintro b _ (hb | hb)
  ·exact .inl (hPO b (hP b hb))
  ·exact (hF b hb).1
 refine ⟨γb,⟨rfl,rfl,fun i=>by simp only [St.get,lkd,VRel],fun m ob hm=>?_,fun b hb=>⟨(h.lt b (hPO b (hP b hb))).1,hown b (hP b hb)⟩,?_,hk,?_,?_,fun p hp=>by cases hp⟩,hγ0,hP⟩
 ·by_cases e:900000=m
  ·subst e
   rw [hob0,Option.some.injEq] at hm;subst hm;simp only [ObRel];refine ⟨b0,c,T,by rw [hγ0,hg],hh,?_⟩
   refine VRels.of_get (by rw [z8a,List.length_map,hr.length]) (fun j v x hv hx=>?_)
   rw [zgu,List.getElem?_map] at hv;cases hcj:cs[j]? with
   | none=>rw [hcj] at hv; cases hv
   | some u=>
    rw [hcj] at hv;simp only [Option.map_some,Option.some.injEq] at hv;have hux:=hr.get' hcj hx;rcases zbv st.o all u with ⟨m',hi,e',ag',ks',l',rfl,h1,h2,h3⟩ | ⟨h1,h2⟩
    ·rw [h3] at hv
     simp only at hv;subst hv;have hv2:cs.map (z3a st.o all)=cs.map (z3a st.o all):=rfl;have hat:=zk3 (cs:=cs.map (z3a st.o all)) (nr:=900001) (j:=j) (e:=e') (ag:=ag') (ks:=ks') (l:=l'.take hi) (by rw [List.getElem?_map,hcj]; simp [h3])
     simp only [VRel];rw [z01,if_neg (by omega),hat]
     simp only;refine ⟨Nat.le_refl _,?_⟩;rw [hγ1 j x hx];have hux0:=hux;simp only [VRel,h1] at hux;obtain ⟨hl,p,len,cap,p',hgm,hxx,_,h22,h33,hm4,_,h5⟩:=hux;have htl:(l'.take hi).length=hi:=by rw [List.length_take,Nat.min_eq_left hl]
     rw [htl];rw [Nat.sub_zero,Nat.sub_zero] at hxx;refine ⟨p',hi,cap,p',hxx,by rw [hxx]; simp,Nat.zero_le _,Nat.le_refl _,by omega,hm4,.inl ?_,fun _=>rfl⟩
     cases p' <;> simp [Addr.add]
    ·have hv':v=z3a st.o all u:=by
      rw [← hv];cases hcc:z3a st.o all u <;> first | rfl | (rw [hcc] at h1; cases h1)
     subst hv'
     by_cases hrw:∃ m' lo hi,u = .row m' lo hi
     ·obtain ⟨m',lo,hi,rfl⟩:=hrw
      cases hob':z03 st.o m' with
      | none=>simp only [z3a,hob',VRel]
      | some ob'=>
       by_cases hrr:∃ own e ag ks l,ob' = .row own e ag ks l
       ·obtain ⟨own,e,ag,ks,l,rfl⟩:=hrr
        obtain ⟨h3,h4⟩:=h2 m' lo hi rfl own e ag ks l hob';rw [h3];simp only [VRel];refine zzg h hob' hux hO (fun b hb hb'=>?_)
        replace hb:=hb.block;have hsh:=zup (cs:=cs) (all:=all) (hi:=hi) hob' h4 (List.mem_of_getElem? hcj);rcases hb' with hb' | hb'
        ·rcases hP b hb' with ⟨ob1,h5,h6⟩ | ⟨m2,h5,ob1,h6,h7⟩
         ·obtain ⟨ob2,h8,h9⟩:=hb
          have hne:n≠m':=by
           rintro rfl
           rw [ho] at hob';cases hob'
          exact h.dis n m' ob1 ob2 b hne h5 h8 h6 h9
         ·obtain ⟨ob2,h8,h9⟩:=hb
          by_cases hne:m2=m'
          ·subst hne
           obtain ⟨hi2,e2,ag2,ks2,l2,k1,k2,k3⟩:=z6q.1 h5;obtain ⟨j2,hj2⟩:=List.mem_iff_getElem?.1 k1;have hocc:2≤occ m2 all:=by
            rw [← hall,z89];rcases Nat.lt_trichotomy j j2 with hlt | hlt | hlt
            ·have:=zja hlt hcj hj2
             omega
            ·subst hlt
             rw [hcj] at hj2;simp only [Option.some.injEq,V.row.injEq,true_and] at hj2;obtain ⟨rfl,rfl⟩:=hj2;rw [k2] at hob';simp only [Option.some.injEq,Ob.row.injEq] at hob';rw [← hob'.1,k3] at h4;simp at h4
            ·have:=zja hlt hj2 hcj
             omega
           omega
          ·exact h.dis m2 m' ob1 ob2 b hne h6 h8 h7 h9
        ·exact (hF b hb').2.2.2 m' hsh hb
       ·have:z3a st.o all (.row m' lo hi) = .any:=by
         simp only [z3a,hob']
         split
         ·rename_i own e ag ks l heq
          simp only [Option.some.injEq] at heq;exact absurd ⟨_,_,_,_,_,heq⟩ hrr
         ·rfl
        rw [this];simp only [VRel]
     ·have hfree:z3a st.o all u=u∨z3a st.o all u = .any:=by
       cases u <;> first | exact .inl rfl | exact .inr rfl | exact absurd ⟨_,_,_,rfl⟩ hrw
      rcases hfree with h3 | h3
      ·rw [h3] at h1 ⊢
       exact zai h1 (VRel.mono (Keep.refl _ w) hO hux)
      ·rw [h3]
       simp only [VRel]
  ·obtain ⟨j,m',hi,e',ag,ks,l,u,h1,h2,h3,h4,h5,h6,h7,h8,h9⟩:=hrow m ob e hm
   rw [h5,h7]
   have:=(zy7 (γ':=γb) (o':=[]) h h3 h8).1
   simp only [ObRel] at this ⊢
   obtain ⟨k1,k2,xs,k3,k4⟩:=this;exact ⟨k1,k2,xs,k3,fun i y hy=>Kd.RelAll.mono (Keep.refl _ w) hO (fun _ _ hu=>hu) (k4 i y hy)⟩
 ·intro m1 m2 ob1 ob2 b hne h1 h2 hb1 hb2
  by_cases e1:900000=m1
  ·subst e1
   rw [hob0,Option.some.injEq] at h1;subst h1;rw [hγ0] at hb1;obtain ⟨j,m',hi,k1,k2,k3,k4,ob3,k5,k6⟩:=hblk m2 ob2 hne h2 b hb2;have hne':n≠m':=by
    rintro rfl
    obtain ⟨_,_,_,_,_,_,q,_⟩:=z6q.1 k4;rw [ho] at q;cases q
   exact h.dis n m' _ ob3 b hne' ho k5 hb1 k6
  ·obtain ⟨j1,m1',hi1,k1,k2,k3,k4,ob3,k5,k6⟩:=hblk m1 ob1 e1 h1 b hb1
   by_cases e2:900000=m2
   ·subst e2
    rw [hob0,Option.some.injEq] at h2;subst h2;rw [hγ0] at hb2;have hne':n≠m1':=by
     rintro rfl
     obtain ⟨_,_,_,_,_,_,q,_⟩:=z6q.1 k4;rw [ho] at q;cases q
    exact h.dis n m1' _ ob3 b hne' ho k5 hb2 k6
   ·obtain ⟨j2,m2',hi2,p1,p2,p3,p4,ob4,p5,p6⟩:=hblk m2 ob2 e2 h2 b hb2
    by_cases hmm:m1'=m2'
    ·subst hmm
     have hocc:2≤occ m1' all:=by
      rw [← hall,z89];rcases Nat.lt_trichotomy j1 j2 with hlt | hlt | hlt
      ·have:=zja hlt k2 p2
       omega
      ·omega
      ·have:=zja hlt p2 k2
       omega
     omega
    ·exact h.dis m1' m2' ob3 ob4 b hmm k5 p5 k6 p6
 ·rintro b hb hf
  obtain ⟨_,f1,f2,_⟩:=hF b hf;rcases hP b hb with h1 | ⟨m,h1,h2⟩
  ·exact f1 h1
  ·exact f2 m h1 h2
 ·intro b hb
  rcases (hF b hb).1 with h1 | h1
  ·exact (h.lt b h1).1
  ·exact h.fl b h1
end
open Go Go.RowKit
theorem zmc:∀ l:List V,y6h l=l.map fun _=>.any
 | []=>rfl
 | _ :: r=>by simp [y6h,zmc r]
section
variable {B:BT} {nt:Nat} {w0:World} {X:Zone} {γ:Nat→Value} {st st':St} {a:Act} {w:World} {P:Program} {E:Env}
theorem zhk {B':BT} {own:Nat→Prop} {O1:Nat→Prop} {g:Nat→Value} (nm:Nat):∀ (r:List V) (j0:Nat) {γ:Nat→Value} {st:St} {F:Nat→Prop},nm+j0+r.length≤900000→Rel B nt w0 ⟨own,F⟩ γ st a w →
  (∀ b,z07 ⟨own,F⟩ γ st.o b→O1 b) →
  (∀ j e ag ks l,r[j]?=some (.vec e ag ks l)→ObRel B' γ [] w O1 (g (j0+j)) (.row true e ag ks l)∧∀ b,(g (j0+j)).ownBlock=some b→F b∧(w0.heap.size≤b∨own b)) →
  (∀ i j e ag ks l e' ag' ks' l' b,i≠j→r[i]?=some (.vec e ag ks l)→r[j]?=some (.vec e' ag' ks' l')→(g (j0+i)).ownBlock=some b→(g (j0+j)).ownBlock=some b→False) →
  ∃ γd F',Rel B nt w0 ⟨own,F'⟩ γd (st.ups (zf7 (nm+j0) r)) a w∧(∀ b,F' b→F b)∧(∀ b,F b→(∀ j e ag ks l,r[j]?=some (.vec e ag ks l)→(g (j0+j)).ownBlock≠some b)→F' b) ∧
   (∀ b,z07 ⟨own,F'⟩ γd (st.ups (zf7 (nm+j0) r)).o b→z07 ⟨own,F⟩ γ st.o b) ∧
   (∀ j e ag ks l,r[j]?=some (.vec e ag ks l)→γd (nm+j0+j)=g (j0+j)∧z03 (st.ups (zf7 (nm+j0) r)).o (nm+j0+j)=some (.row true e ag ks l)) ∧
   (∀ m,(m < nm+j0∨nm+j0+r.length≤m)→γd m=γ m∧(∀ cs:List V,z03 st.o m=some (.box (y6h cs))→z03 (st.ups (zf7 (nm+j0) r)).o m=some (.box (y6h cs))) ∧
    (∀ e ag ks l,z03 st.o m=some (.row true e ag ks l)→z03 (st.ups (zf7 (nm+j0) r)).o m=some (.row true e ag ks l)))
 | [],j0,γ,st,F,_,h,hO,hr,hd=>⟨γ,F,h,fun _ h=>h,fun _ h _=>h,fun _ h=>h,fun j e ag ks l hj=>by simp at hj,fun m _=>⟨rfl,fun _ h=>h,fun _ _ _ _ h=>h⟩⟩
 | v :: r,j0,γ,st,F,h9,h,hO,hr,hd=>by
  rw [List.length_cons] at h9
  by_cases hv:∃ e ag ks l,v = .vec e ag ks l
  ·obtain ⟨e,ag,ks,l,rfl⟩:=hv
   obtain ⟨hr0,hb0⟩:=hr 0 e ag ks l (by simp)
   rw [Nat.add_zero] at hr0 hb0;have h1:=h.add (nm+j0) (by omega) (.row true e ag ks l) (g j0) (fun b hb=>hb0 b hb) (fun O' hO'=>by
    simp only [ObRel] at hr0 ⊢
    obtain ⟨k1,k2,xs,k3,k4⟩:=hr0;exact ⟨k1,k2,xs,k3,fun i y hy=>Kd.RelAll.mono (Keep.refl _ w) (fun b _ hb=>hO b (hO' b hb)) (fun _ _ hu=>hu) (k4 i y hy)⟩)
   have hO2:∀ b,z07 ⟨own,fun b=>F b∧¬ z0g (g j0) (.row true e ag ks l) b⟩ (fun m=>if nm+j0=m then g j0 else γ m) (st.up (.new (nm+j0) (.row true e ag ks l))).o b→z07 ⟨own,F⟩ γ st.o b:=by
    rintro b (⟨m,ob1,hm,hb1⟩ | hb)
    ·rw [z0a] at hm
     split at hm
     ·rename_i e1
      subst e1;simp only [Option.some.injEq] at hm;subst hm;simp only [if_true] at hb1;exact .inr (hb0 b hb1).1
     ·rename_i e1
      obtain ⟨ob0,h0,hs⟩:=z3h hm;simp only [if_neg e1] at hb1;exact .inl ⟨m,ob0,h0,((z6m hs).2 _ _).1 hb1⟩
    ·exact .inr hb.1
   obtain ⟨γd,F',r1,r2,r3,r4,r5,r6⟩:=zhk (B':=B') nm r (j0+1) (by omega) h1 (fun b hb=>hO b (hO2 b hb)) (fun j e' ag' ks' l' hj=>by
     obtain ⟨q1,q2⟩:=hr (j+1) e' ag' ks' l' (by simpa using hj)
     rw [show j0+(j+1)=j0+1+j by omega] at q1 q2
     refine ⟨yex q1,fun b hb=>⟨⟨(q2 b hb).1,fun hb'=>?_⟩,(q2 b hb).2⟩⟩
     exact hd 0 (j+1) e ag ks l e' ag' ks' l' b (by omega) (by simp) (by simpa using hj) hb' (by rw [show j0+(j+1)=j0+1+j by omega]; exact hb))
    (fun i j e1 ag1 ks1 l1 e2 ag2 ks2 l2 b hij h1 h2 hb1 hb2=>hd (i+1) (j+1) e1 ag1 ks1 l1 e2 ag2 ks2 l2 b (by omega) (by simpa using h1) (by simpa using h2) (by rw [show j0+(i+1)=j0+1+i by omega]; exact hb1) (by rw [show j0+(j+1)=j0+1+j by omega]; exact hb2))
   refine ⟨γd,F',r1,fun b hb=>(r2 b hb).1,fun b hb hn=>r3 b ⟨hb,fun hb'=>hn 0 e ag ks l (by simp) hb'⟩ (fun j e' ag' ks' l' hj=>by
     have:=hn (j+1) e' ag' ks' l' (by simpa using hj)
     rwa [show j0+(j+1)=j0+1+j by omega] at this),fun b hb=>hO2 b (r4 b hb),?_,?_⟩
   ·intro j e' ag' ks' l' hj
    cases j with
    | zero=>
     simp only [List.getElem?_cons_zero,Option.some.injEq,V.vec.injEq] at hj;obtain ⟨rfl,rfl,rfl,rfl⟩:=hj;obtain ⟨p1,_,p3⟩:=r6 (nm+j0) (.inl (by omega))
     refine ⟨by rw [Nat.add_zero,Nat.add_zero,p1]; simp,?_⟩
     rw [Nat.add_zero];exact p3 e ag ks l (by rw [z0a,if_pos rfl])
    | succ j=>
     obtain ⟨p1,p2⟩:=r5 j e' ag' ks' l' (by simpa using hj)
     rw [show nm+(j0+1)+j=nm+j0+(j+1) by omega] at p1 p2
     exact ⟨by rw [p1]; congr 1; omega,p2⟩
   ·intro m hm
    have hne:nm+j0≠m:=by
     simp only [List.length_cons] at hm;omega
    obtain ⟨p1,p2,p3⟩:=r6 m (by simp only [List.length_cons] at hm; omega)
    refine ⟨by rw [p1,if_neg hne],fun cs hc=>p2 cs ?_,fun e' ag' ks' l' hc=>p3 e' ag' ks' l' ?_⟩
    ·rw [z0a,if_neg hne,hc]
     simp only [z4h,zmc,List.map_map,Option.some.injEq,Ob.box.injEq]
     rfl
    ·rw [z0a,if_neg hne,hc]
     rfl
  ·have hu:zf7 (nm+j0) (v :: r)=zf7 (nm+(j0+1)) r:=by
    cases v <;> first | rfl | exact absurd ⟨_,_,_,_,rfl⟩ hv
   rw [hu];obtain ⟨γd,F',r1,r2,r3,r4,r5,r6⟩:=zhk (B':=B') nm r (j0+1) (by omega) h hO (fun j e' ag' ks' l' hj=>by
     obtain ⟨q1,q2⟩:=hr (j+1) e' ag' ks' l' (by simpa using hj)
     rw [show j0+(j+1)=j0+1+j by omega] at q1 q2
     exact ⟨q1,q2⟩)
    (fun i j e1 ag1 ks1 l1 e2 ag2 ks2 l2 b hij h1 h2 hb1 hb2=>hd (i+1) (j+1) e1 ag1 ks1 l1 e2 ag2 ks2 l2 b (by omega) (by simpa using h1) (by simpa using h2) (by rw [show j0+(i+1)=j0+1+i by omega]; exact hb1) (by rw [show j0+(j+1)=j0+1+j by omega]; exact hb2))
   refine ⟨γd,F',r1,r2,fun b hb hn=>r3 b hb (fun j e' ag' ks' l' hj=>by
     have:=hn (j+1) e' ag' ks' l' (by simpa using hj)
     rwa [show j0+(j+1)=j0+1+j by omega] at this),r4,?_,?_⟩
   ·intro j e' ag' ks' l' hj
    cases j with
    | zero=>
     simp only [List.getElem?_cons_zero,Option.some.injEq] at hj;exact absurd ⟨_,_,_,_,hj⟩ hv
    | succ j=>
     obtain ⟨p1,p2⟩:=r5 j e' ag' ks' l' (by simpa using hj)
     rw [show nm+(j0+1)+j=nm+j0+(j+1) by omega] at p1 p2
     exact ⟨by rw [p1]; congr 1; omega,p2⟩
   ·intro m hm
    exact r6 m (by simp only [List.length_cons] at hm; omega)
end
open Go Go.RowKit
def zih:V→Bool
 | .agg l=>l.all z92
 | .tup l=>l.all fun v=>match v with | .agg l=>l.all z92 | v=>z92 v
 | v=>z92 v
def okR:V→Bool
 | .bor cs=>cs.all okC
 | .vec _ _ _ _=>true
 | v=>zih v
def zy4:List V→List V→Bool
 | [.bld _],[.bld _]=>true
 | [.bld _],_=>false
 | _,cs=>cs.all okC
def z9i (vs:List V) (r:V) (out:List (List V)) (g g':Value):Prop:=
 match z5r vs,out with
 | none,[]=>okR r=true
 | some cs,[cs']=>zih r=true∧zy4 cs cs'=true∧zli g'=zli g
 | _,_=>False
def Does (P:Program) (f:FuncId) (xs:List Value) (w:World) (R:Ending→World→Prop):Prop:=
 match (callFunc f xs.toArray).run P w with
 | .ok (.enter g args) w'=>Calls P g args w' R
 | .ok (.value x) w'=>R (.returned x) w'
 | .ok (.row row args) w'=>Rows P row args w' fun x w''=>R (.returned x) w''
 | _=>False
theorem Does.mono {P:Program} {f:FuncId} {xs:List Value} {w:World} {R R':Ending→World→Prop} (h:Does P f xs w R) (hr:∀ e w',R e w'→R' e w'):Does P f xs w R':=by
 unfold Does at h ⊢
 split at h
 ·exact Calls.mono h hr
 ·exact hr _ _ h
 ·exact Rows.mono h (fun v w'=>hr _ _)
 ·exact h.elim
theorem Does.enter {P:Program} {f:FuncId} {fn:Func} (hf:P.funcs[f]?=some fn) (hn:(fn.name == "runtime.NumGoroutine")=false) (hb:fn.body.isNone=false) {xs:List Value} {w:World} {R:Ending→World→Prop} (h:Calls P f xs.toArray w R):Does P f xs w R:=by
 have:(callFunc f xs.toArray).run P w = .ok (.enter f xs.toArray) w:=by
  unfold callFunc;have hn':¬ fn.name = "runtime.NumGoroutine":=by simpa using hn
  have hb':¬ fn.body=none:=fun h=>by rw [h] at hb; cases hb
  simp [hf,hn',hb']
 unfold Does;rw [this];exact h
def Snd (P:Program) (B:BT) (f:FuncId) (sp:ydi):Prop:=
 ∀ (w:World) (X:Zone) (γ:Nat→Value) (vs:List V) (xs:List Value) (r:V) (out:List (List V)),sp vs=some (r,out)→Glob B w→(∀ b,X.own b→B.ng≤b) →
  Rel B.base 0 w X γ ⟨[],zbh vs⟩ zu9 w→VRels γ (zbh vs) w (z07 X γ (zbh vs)) (vs.map z7t) xs →
  Does P f xs w fun e w'=>∃ x,e = .returned x∧∃ γ',Rel B.base 0 w X γ' ⟨[],z2u r out⟩ zu9 w'∧VRel γ' (z2u r out) w' (z07 X γ' (z2u r out)) (y42 r) x∧z9i vs r out (γ 900000) (γ' 900000)
theorem zkn {γ γ':Nat→Value} {o o':Store} {w:World} {O O':Nat→Prop} {v:V} (hf:z92 v=true) (hO:isL v=true→∀ b,b < w.heap.size→O' b→O b) {x:Value} (h:VRel γ o w O v x):VRel γ' o' w O' v x:=by
 cases v <;> simp only [z92] at hf <;> first | (cases hf; done) | (exact zai rfl (VRel.mono (Keep.refl _ w) (hO rfl) h)) | (simp only [VRel] at h ⊢; try exact h)
theorem zpk:∀ {l:List V} {v:V},v∈l→isL v=true→znu l=true
 | u :: r,v,hm,hv=>by
  simp only [znu];cases hu:isL u with
  | true=>rfl
  | false=>
   rcases List.mem_cons.1 hm with h1 | h1
   ·subst h1
    rw [hv] at hu;cases hu
   ·exact zpk h1 hv
theorem znp {γ γ':Nat→Value} {o o':Store} {w:World} {O O':Nat→Prop}:∀ {l:List V} {xs:List Value},l.all z92=true→(znu l=true→∀ b,b < w.heap.size→O' b→O b)→VRels γ o w O l xs→VRels γ' o' w O' l xs
 | [],[],_,_,_=>by simp only [VRels]
 | [],_ :: _,_,_,h=>by simp only [VRels] at h
 | _ :: _,[],_,_,h=>by simp only [VRels] at h
 | v :: l,x :: xs,hf,hO,h=>by
  simp only [VRels] at h ⊢
  simp only [List.all_cons,Bool.and_eq_true] at hf;exact ⟨zkn hf.1 (fun hv=>hO (zpk (List.mem_cons_self ..) hv)) h.1,znp hf.2 (fun hl=>hO (by simp only [znu]; split <;> first | rfl | exact hl)) h.2⟩
theorem zs4 {γ γ':Nat→Value} {o o':Store} {w:World} {O O':Nat→Prop} {v:V} (hf:zih v=true) (hO:z3b v=true→∀ b,b < w.heap.size→O' b→O b) {x:Value} (h:VRel γ o w O v x):VRel γ' o' w O' v x:=by
 by_cases ha:∃ l,v = .agg l
 ·obtain ⟨l,rfl⟩:=ha
  simp only [VRel] at h ⊢
  obtain ⟨cs,hx,hr⟩:=h;exact ⟨cs,hx,znp hf hO hr⟩
 by_cases ht:∃ l,v = .tup l
 ·obtain ⟨l,rfl⟩:=ht
  simp only [VRel] at h ⊢
  obtain ⟨cs,hx,hr⟩:=h;refine ⟨cs,hx,?_⟩;simp only [zih] at hf;have key:∀ (l:List V) (xs:List Value),(l.all fun v=>match v with | .agg l=>l.all z92 | v=>z92 v)=true→(z3b.go l=true→∀ b,b < w.heap.size→O' b→O b)→VRels γ o w O l xs→VRels γ' o' w O' l xs:=by
   intro l
   induction l with
   | nil=>
    intro xs _ _ h;cases xs with
    | nil=>simp only [VRels]
    | cons _ _=>simp only [VRels] at h
   | cons v l ih=>
    intro xs hf hO h;cases xs with
    | nil=>simp only [VRels] at h
    | cons x xs=>
     simp only [VRels] at h ⊢
     simp only [List.all_cons,Bool.and_eq_true] at hf;have h2:z3b.go l=true→z3b.go (v :: l)=true:=fun hl=>by cases v <;> simp only [z3b.go] <;> first | exact hl | (split <;> first | rfl | exact hl)
     refine ⟨?_,ih xs hf.2 (fun hl=>hO (h2 hl)) h.2⟩
     by_cases hv:∃ l',v = .agg l'
     ·obtain ⟨l',rfl⟩:=hv
      have h1:=h.1;simp only [VRel] at h1 ⊢
      obtain ⟨cs,hx,hr⟩:=h1;exact ⟨cs,hx,znp hf.1 (fun hl=>hO (by simp only [z3b.go,hl])) hr⟩
     ·have hf1:z92 v=true:=by
       have:=hf.1
       split at this
       ·exact absurd ⟨_,rfl⟩ hv
       ·exact this
      exact zkn hf1 (fun hl=>hO (by cases v <;> simp_all [z3b.go])) h.1
  exact key l _ hf hO hr
 have h1:z92 v=true:=by cases v <;> first | exact hf | exact absurd ⟨_,rfl⟩ ha | exact absurd ⟨_,rfl⟩ ht
 exact zkn h1 (fun hl=>hO (by cases v <;> first | exact hl | (simp only [isL] at hl; cases hl))) h
theorem za8 {v:V} (h:zih v=true):y42 v=v:=by
 cases v <;> first | rfl | (simp only [zih,z92] at h; cases h)
theorem y68 {o:Store} {bs:List V} {tk:Option Kd} {v:V} (h:zck.lentC [v]=[]):∀ cs,z7s o bs tk v≠.bor cs:=by
 intro cs hc;cases v
 case ptr n i c=>simp [zck.lentC] at h
 all_goals simp only [z7s] at hc
 all_goals (repeat' split at hc)
 all_goals (cases hc)
theorem y18 {o:Store} {bs:List V} {tk:Option Kd} {v:V} {cs:List V} (h:z7s o bs tk v = .bor cs):cs=bs:=by
 cases v <;> simp only [z7s] at h <;> try (cases h; done)
 all_goals (repeat' split at h)
 all_goals first | (cases h; done) | (cases h; rfl)
theorem zyu {o:Store} {bs:List V}:∀ {l:List V},(z5r.borC (l.map (z7s o bs none))=none∨z5r.borC (l.map (z7s o bs none))=some bs)∧(zck.lentC l=[]→z5r.borC (l.map (z7s o bs none))=none)
 | []=>by simp [z5r.borC]
 | v :: r=>by
  have ih:=zyu (o:=o) (bs:=bs) (l:=r);have hl:zck.lentC (v :: r)=[]→zck.lentC [v]=[]∧zck.lentC r=[]:=by cases v <;> simp [zck.lentC]
  simp only [List.map_cons];cases hv:z7s o bs none v
  case bor cs=>
   simp only [z5r.borC];refine ⟨.inr (by rw [y18 hv]),fun h=>absurd hv (y68 (hl h).1 cs)⟩
  all_goals (simp only [z5r.borC]; exact ⟨ih.1,fun h=>ih.2 (hl h).2⟩)
theorem zeh {o:Store} {bs:List V}:∀ {l:List V} {tks:List (List Kd)},(z5r (z56 o bs tks l)=none∨z5r (z56 o bs tks l)=some bs)∧(zck l=[]→z5r (z56 o bs tks l)=none)
 | [],tks=>by cases tks <;> simp [z56,z5r]
 | v :: r,tks=>by
  obtain ⟨ks,tks',he⟩:∃ ks tks',z56 o bs tks (v :: r)=y28 o bs ks v :: z56 o bs tks' r:=by
   cases tks with
   | nil=>exact ⟨[],[],rfl⟩
   | cons k ks=>exact ⟨k,ks,rfl⟩
  have ih:=zeh (o:=o) (bs:=bs) (l:=r) (tks:=tks');rw [he];have hl:zck (v :: r)=[]→zck [v]=[]∧zck r=[]:=by cases v <;> simp [zck]
  by_cases hc:∃ f l,v = .clo f l
  ·obtain ⟨f,l,rfl⟩:=hc
   have hb:=zyu (o:=o) (bs:=bs) (l:=l);simp only [y28,z5r];cases hx:z5r.borC (l.map (z7s o bs none)) with
   | none=>exact ⟨ih.1,fun h=>ih.2 (hl h).2⟩
   | some cs=>
    simp only;refine ⟨.inr ?_,fun h=>?_⟩
    ·rcases hb.1 with h1 | h1 <;> rw [hx] at h1
     ·cases h1
     ·exact h1
    ·have:=hb.2 (by have:=(hl h).1; simpa [zck] using this)
     rw [hx] at this;cases this
  ·by_cases ha:∃ l,v = .agg l
   ·obtain ⟨l,rfl⟩:=ha
    simp only [y28,z5r];exact ⟨ih.1,fun h=>ih.2 (hl h).2⟩
   ·have h1:y28 o bs ks v=z7s o bs ks.head? v:=by
     cases v <;> first | rfl | exact absurd ⟨_,rfl⟩ ha | exact absurd ⟨_,_,rfl⟩ hc
    rw [h1];cases hv:z7s o bs ks.head? v
    case bor cs=>
     simp only [z5r];refine ⟨.inr (by rw [y18 hv]),fun h=>absurd hv (y68 (v:=v) ?_ cs)⟩
     have:=(hl h).1
     cases v <;> simp_all [zck,zck.lentC]
    case clo f l=>
     exfalso;cases v <;> simp only [z7s] at hv <;> try (cases hv; done)
     all_goals (repeat' split at hv)
     all_goals (cases hv)
    all_goals (simp only [z5r]; exact ⟨ih.1,fun h=>ih.2 (hl h).2⟩)
open Go Go.RowKit
section
variable {B:BT} {nt:Nat} {w0:World} {X:Zone} {γ:Nat→Value} {st st':St} {a:Act} {w:World} {P:Program} {E:Env}
theorem zau (h:Rel B nt w0 X γ st a w) (ns:List Nat) {b:Nat} (hb:z07 X γ (st.ups (z0f st.o ns)).o b):z07 X γ st.o b∧∀ m∈ns,¬ RowOf γ st.o m b:=by
 obtain ⟨h1,h2,h3,h4,h5⟩:=z3e st.o ns (FrzLe.refl _) h;refine ⟨h2.owned hb,?_⟩
 rintro m hm ⟨e,ag,ks,l,ho,hob⟩
 rcases hb with ⟨m',ob',hm',hb'⟩ | hb
 ·by_cases e1:m=m'
  ·subst e1
   rcases h2 m with h6 | ⟨e',ag',ks',l',h6,h7⟩
   ·rw [h6,ho] at hm'
    have:=h4 m hm true e ag ks l (by rw [h6,ho])
    cases this
   ·rw [h7,Option.some.injEq] at hm'
    subst hm';exact hb'.elim
  ·rcases h2 m' with h6 | ⟨e',ag',ks',l',h6,h7⟩
   ·rw [h6] at hm'
    exact h.dis m m' _ ob' b e1 ho hm' hob hb'
   ·rw [h7,Option.some.injEq] at hm'
    subst hm';exact hb'.elim
 ·exact h.near ⟨m,_,ho,hob⟩ hb
theorem zn5 (h:Rel B nt w0 X γ st a w) (hg:GX B w0 X) {f:FuncId} {sp:ydi} (hS:Snd P B f sp) {vs:List V} {xs:List Value} (hv:VRels γ st.o w (z07 X γ st.o) vs xs) (hl:zck vs=[]) {tks:List (List Kd)} {v:V} {out:List (List V)}
  (hsp:sp (z56 st.o [] tks vs)=some (v,out)) :
  Does P f xs w fun e w'=>∃ x,e = .returned x∧∃ γ',Rel B.base 0 w ⟨fun _=>False,fun b=>z07 X γ st.o b∧∀ m∈z13 vs,¬ RowOf γ st.o m b⟩ γ' ⟨[],z2u v out⟩ zu9 w' ∧
   VRel γ' (z2u v out) w' (z07 ⟨fun _=>False,fun b=>z07 X γ st.o b∧∀ m∈z13 vs,¬ RowOf γ st.o m b⟩ γ' (z2u v out)) (y42 v) x∧okR v=true∧out=[]:=by
 have hb:z5r (z56 st.o [] tks vs)=none:=zeh.2 hl;have hm:zbh (z56 st.o [] tks vs)=[]:=by simp only [zbh,hb]
 have hR:Rel B.base 0 w ⟨fun _=>False,fun b=>z07 X γ st.o b∧∀ m∈z13 vs,¬ RowOf γ st.o m b⟩ γ ⟨[],[]⟩ zu9 w:=by
  refine ⟨rfl,rfl,fun i=>by simp only [St.get,lkd,VRel],fun n ob hn=>?_,?_,?_,Keep.refl _ w,?_,?_,fun p hp=>by cases hp⟩
  ·simp only [z03,lkd] at hn; cases hn
  ·rintro b ⟨n,ob,hn,_⟩; simp only [z03,lkd] at hn; cases hn
  ·intro n m ob ob' b _ hn; simp only [z03,lkd] at hn; cases hn
  ·rintro b ⟨n,ob,hn,_⟩; simp only [z03,lkd] at hn; cases hn
  ·rintro b ⟨hb | hb,_⟩
   ·exact (h.lt b hb).1
   ·exact h.fl b hb
 have:=hS w ⟨fun _=>False,fun b=>z07 X γ st.o b∧∀ m∈z13 vs,¬ RowOf γ st.o m b⟩ γ (z56 st.o [] tks vs) xs v out hsp (h.glob hg) (fun _ hf=>hf.elim) (by rw [hm]; exact hR) (by
  rw [hm];refine zl3 h (fun b _ hb=>?_) [] hv (fun m hm b hr hb=>?_) (fun m hm=>by rw [hl] at hm; cases hm)
  ·rcases hb with ⟨n,ob,hn,_⟩ | hb
   ·simp only [z03,lkd] at hn; cases hn
   ·exact hb.1
  ·rcases hb with ⟨n,ob,hn,_⟩ | hb
   ·simp only [z03,lkd] at hn; cases hn
   ·exact hb.2 m hm hr)
 refine this.mono ?_
 rintro e w' ⟨x,he,γ',h1,h2,h3⟩
 refine ⟨x,he,γ',h1,h2,?_⟩;simp only [z9i,hb] at h3;cases out with
 | nil=>exact ⟨h3,rfl⟩
 | cons _ _=>exact h3.elim
theorem zji (h:Rel B nt w0 X γ st a w) {w':World} {X':Zone} (hX:∀ b,¬ X'.own b) {γ':Nat→Value} {st':St} {a':Act} (hc:Rel B.base 0 w X' γ' st' a' w') (F:Nat→Prop) (hF:∀ b,F b→X.far b∨(w.heap.size≤b∧b < w'.heap.size)):Rel B nt w0 ⟨X.own,F⟩ γ st a w':=
 (h.fresh (hc.keep) (fun b _ hb=>(hX b hb).elim)).shrink hF
theorem zhl {cs:List V} (h:cs.all okC=true):z6y cs=(900000,some (.box (z63 900001 cs))) :: zg4 900001 cs:=by
 refine zwb (fun s he=>?_)
 subst he;simp [okC,z92] at h
theorem zud {w':World} {X':Zone} {γ':Nat→Value} {cs:List V} (hok:cs.all okC=true) (_:Rel B.base 0 w X' γ' ⟨[],z6y cs⟩ zu9 w') {c:Array Value}
  (hr:VRels γ' (z6y cs) w' (z07 X' γ' (z6y cs)) (z63 900001 cs) c.toList) {γf:Nat→Value} {of:Store} {nm:Nat}
  (hrow:∀ j e ag ks l,cs[j]?=some (.vec e ag ks l)→γf (nm+j)=γ' (900001+j)∧z03 of (nm+j)=some (.row true e ag ks l)) {O':Nat→Prop} (hO:znu cs=true→∀ b,b < w'.heap.size→O' b→z07 X' γ' (z6y cs) b) :
  VRels γf of w' O' (z63 nm cs) c.toList:=by
 have hl:=hr.length;rw [z8a] at hl;refine VRels.of_get (by rw [z8a,hl]) (fun j v x hv hx=>?_)
 rw [zgu] at hv;cases hcj:cs[j]? with
 | none=>rw [hcj] at hv; cases hv
 | some u=>
  rw [hcj] at hv;simp only [Option.map_some,Option.some.injEq] at hv;have hb:(z63 900001 cs)[j]?=some (match (generalizing:=false) u with | .vec _ _ _ l=>.row (900001+j) 0 l.length | v=>v):=by rw [zgu,hcj]; rfl
  have hux:=hr.get' hb hx;have huok:okC u=true:=List.all_eq_true.1 hok u (List.mem_of_getElem? hcj)
  by_cases hvec:∃ e ag ks l,u = .vec e ag ks l
  ·obtain ⟨e,ag,ks,l,rfl⟩:=hvec
   simp only at hv hux;subst hv;obtain ⟨h1,h2⟩:=hrow j e ag ks l hcj;have hat:=zk3 (nr:=900001) hcj;have hat':z03 (z6y cs) (900001+j)=some (.row true e ag ks l):=by
    rw [zhl hok,z01,if_neg (by omega)]
    exact hat
   simp only [VRel,hat'] at hux;simp only [VRel,h2,h1];exact hux
  ·have hf:z92 u=true:=by cases u <;> first | exact huok | exact absurd ⟨_,_,_,_,rfl⟩ hvec
   have hvu:v=u:=by cases u <;> first | exact hv.symm | exact absurd ⟨_,_,_,_,rfl⟩ hvec
   have hux':VRel γ' (z6y cs) w' (z07 X' γ' (z6y cs)) u x:=by cases u <;> first | exact hux | exact absurd ⟨_,_,_,_,rfl⟩ hvec
   subst hvu;exact zkn hf (fun hv=>hO (zpk (List.mem_of_getElem? hcj) hv)) hux'
theorem zyf {w':World} {X':Zone} {γ':Nat→Value} {cs:List V} (hok:cs.all okC=true) (hc:Rel B.base 0 w X' γ' ⟨[],z6y cs⟩ zu9 w') :
  (∀ (γ:Nat→Value) j e ag ks l,cs[j]?=some (.vec e ag ks l)→ObRel B.base γ [] w' (fun b=>znu cs=true→z07 X' γ' (z6y cs) b) (γ' (900001+j)) (.row true e ag ks l)∧∀ b,(γ' (900001+j)).ownBlock=some b→z1f γ' (z6y cs) b) ∧
  (∀ i j e ag ks l e' ag' ks' l' b,i≠j→cs[i]?=some (.vec e ag ks l)→cs[j]?=some (.vec e' ag' ks' l')→(γ' (900001+i)).ownBlock=some b→(γ' (900001+j)).ownBlock=some b→False) ∧
  (∀ j e ag ks l b,cs[j]?=some (.vec e ag ks l)→(γ' (900001+j)).ownBlock=some b→z0r γ' (z6y cs) 900000 b→False):=by
 have hat:∀ {j e ag ks l},cs[j]?=some (V.vec e ag ks l)→z03 (z6y cs) (900001+j)=some (.row true e ag ks l):=by
  intro j e ag ks l hj;rw [zhl hok,z01,if_neg (by omega)]
  exact zk3 hj
 refine ⟨fun γ j e ag ks l hj=>⟨?_,fun b hb=>⟨_,_,hat hj,hb⟩⟩,?_,?_⟩
 ·have hr:=hc.ob _ _ (hat hj)
  simp only [ObRel] at hr ⊢
  obtain ⟨k1,k2,xs,k3,k4⟩:=hr;refine ⟨k1,k2,xs,k3,fun i y hy=>Kd.RelAll.mono (Keep.refl _ w') (fun b _ hb=>?_) (fun _ _ hu=>hu) (k4 i y hy)⟩
  exact hb (zpk (List.mem_of_getElem? hj) rfl)
 ·intro i j e ag ks l e' ag' ks' l' b hij h1 h2 hb1 hb2
  exact hc.dis _ _ _ _ b (by omega) (hat h1) (hat h2) hb1 hb2
 ·rintro j e ag ks l b hj hb ⟨ob,h1,h2⟩
  exact hc.dis _ _ _ _ b (by omega) (hat hj) h1 hb h2
theorem y7s (h:Rel B nt w0 X γ st a w) (hg:GX B w0 X) {f:FuncId} {sp:ydi} (hS:Snd P B f sp) {vs:List V} {xs:List Value} (hv:VRels γ st.o w (z07 X γ st.o) vs xs) (hl:zck vs=[]) {tks:List (List Kd)} {v:V} {out:List (List V)}
  (hsp:sp (z56 st.o [] tks vs)=some (v,out)) (hnb:∀ cs,v≠.bor cs) (hnv:∀ e ag ks l,v≠.vec e ag ks l) :
  Does P f xs w fun e w'=>∃ x,e = .returned x∧∃ γ',Rel B nt w0 X γ' (st.ups (z0f st.o (match z3b v with | true=>z13 vs | false=>[]))) a w' ∧
   VRel γ' (st.ups (z0f st.o (match z3b v with | true=>z13 vs | false=>[]))).o w' (z07 X γ' (st.ups (z0f st.o (match z3b v with | true=>z13 vs | false=>[]))).o) v x:=by
 refine (zn5 h hg hS hv hl hsp).mono ?_
 rintro e w' ⟨x,he,γ',h1,h2,h3,rfl⟩
 have hf:zih v=true:=by cases v <;> first | exact h3 | exact absurd rfl (hnb _) | exact absurd rfl (hnv _ _ _ _)
 have hmo:z2u v []=[]:=by cases v <;> first | rfl | exact absurd rfl (hnb _) | exact absurd rfl (hnv _ _ _ _)
 rw [hmo] at h1 h2;rw [za8 hf] at h2;have hz:=(z3e st.o (match z3b v with | true=>z13 vs | false=>[]) (FrzLe.refl _) h).1
 have hp:=zji hz (fun b hb=>hb) h1 X.far (fun b hb=>.inl hb)
 refine ⟨x,he,γ,hp,zs4 hf (fun hhl b _ hb=>?_) h2⟩
 have:=zau h _ hb
 rw [hhl] at this;exact .inr this
theorem y95 (h:Rel B nt w0 X γ st a w) (hg:GX B w0 X) {f:FuncId} {sp:ydi} (hS:Snd P B f sp) {vs:List V} {xs:List Value} (hv:VRels γ st.o w (z07 X γ st.o) vs xs) (hl:zck vs=[]) {tks:List (List Kd)} {cs:List V} {out:List (List V)}
  (hsp:sp (z56 st.o [] tks vs)=some (.bor cs,out)) (d:Nat) (hd9:d≠900000) (hn9:1000*(d+1)+cs.length≤900000) :
  Does P f xs w fun e w'=>∃ x,e = .returned x∧∃ γ',Rel B nt w0 X γ' (st.ups (z0f st.o (match znu cs with | true=>z13 vs | false=>[])++(zf7 (1000*(d+1)) cs++[.new d (.box (z63 (1000*(d+1)) cs))]))) a w' ∧
   VRel γ' (st.ups (z0f st.o (match znu cs with | true=>z13 vs | false=>[])++(zf7 (1000*(d+1)) cs++[.new d (.box (z63 (1000*(d+1)) cs))]))).o w'
    (z07 X γ' (st.ups (z0f st.o (match znu cs with | true=>z13 vs | false=>[])++(zf7 (1000*(d+1)) cs++[.new d (.box (z63 (1000*(d+1)) cs))]))).o) (.ptr d 0 0) x:=by
 refine (zn5 h hg hS hv hl hsp).mono ?_
 rintro e w' ⟨x,he,γ',h1,h2,h3,rfl⟩
 simp only [okR] at h3;have hmo:z2u (.bor cs) []=z6y cs:=rfl;rw [hmo] at h1 h2;generalize hX':(⟨fun _=>False,fun b=>z07 X γ st.o b∧∀ m∈z13 vs,¬ RowOf γ st.o m b⟩:Zone)=X' at h1 h2
 have hXo:∀ b,¬ X'.own b:=fun b hb=>by rw [← hX'] at hb; exact hb
 have hz:=(z3e st.o (match znu cs with | true=>z13 vs | false=>[]) (FrzLe.refl _) h).1
 have hPf:∀ b,z1f γ' (z6y cs) b→w.heap.size≤b∧b < w'.heap.size:=fun b hb=>by
  obtain ⟨q1,q2⟩:=h1.lt b hb;exact ⟨q2.resolve_right (hXo b),q1⟩
 have hp:=zji hz hXo h1 (fun b=>X.far b∨z1f γ' (z6y cs) b) (fun b hb=>hb.imp_right (hPf b))
 obtain ⟨br1,br2,br3⟩:=zyf h3 h1;have hO1:∀ b,z07 ⟨X.own,fun b=>X.far b∨z1f γ' (z6y cs) b⟩ γ (st.ups (z0f st.o (match znu cs with | true=>z13 vs | false=>[]))).o b→(znu cs=true→z07 X' γ' (z6y cs) b):=by
  intro b hb hal;rw [hal] at hb;have key:z07 X γ (st.ups (z0f st.o (z13 vs))).o b∨z1f γ' (z6y cs) b:=by
   rcases hb with hb | hb | hb
   ·exact .inl (.inl hb)
   ·exact .inl (.inr hb)
   ·exact .inr hb
  rcases key with hb | hb
  ·have:=zau h _ hb
   exact .inr (by rw [← hX']; exact this)
  ·exact .inl hb
 obtain ⟨γd,F',r1,r2,r3,r4,r5,r6⟩:=zhk (B':=B.base) (g:=fun j=>γ' (900001+j)) (1000*(d+1)) cs 0 (by omega) hp hO1 (fun j e ag ks l hj=>by
   rw [Nat.zero_add];obtain ⟨q1,q2⟩:=br1 γ j e ag ks l hj;exact ⟨q1,fun b hb=>⟨.inr (q2 b hb),.inl (Nat.le_trans h.keep.size (hPf b (q2 b hb)).1)⟩⟩)
  (fun i j e ag ks l e' ag' ks' l' b hij q1 q2 q3 q4=>by
   rw [Nat.zero_add] at q3 q4;exact br2 i j e ag ks l e' ag' ks' l' b hij q1 q2 q3 q4)
 simp only [Nat.add_zero,Nat.zero_add] at r1 r3 r4 r5 r6;have hob0:z03 (z6y cs) 900000=some (.box (z63 900001 cs)):=by rw [zhl h3,z01,if_pos rfl]
 have hor:=h1.ob _ _ hob0;simp only [ObRel] at hor;obtain ⟨b0,c,T,hg,hh,hr⟩:=hor;have hb0P:z1f γ' (z6y cs) b0:=⟨900000,_,hob0,⟨_,hg,rfl⟩⟩;have hadd:=r1.add d hd9 (.box (z63 (1000*(d+1)) cs)) (γ' 900000) (fun b hb=>by
   obtain ⟨ad,q1,q2⟩:=hb;rw [hg] at q1;simp only [Value.pointer.injEq,Option.some.injEq] at q1;subst q1;simp only at q2;subst q2;exact ⟨r3 b0 (.inr hb0P) (fun j e ag ks l hj hb=>br3 j e ag ks l b0 hj hb ⟨_,hob0,_,hg,rfl⟩),.inl (Nat.le_trans h.keep.size (hPf b0 hb0P).1)⟩)
  (fun O' hO'=>by
   simp only [ObRel];refine ⟨b0,c,T,hg,hh,zud h3 h1 hr (fun j e ag ks l hj=>?_) (fun hal b _ hb=>hO1 b (r4 b (hO' b hb)) hal)⟩
   obtain ⟨q1,q2⟩:=r5 j e ag ks l hj;refine ⟨by rw [if_neg (by omega)]; exact q1,?_⟩
   rw [z0a,if_neg (by omega),q2]
   rfl)
 have hfin:=hadd.shrink (F:=X.far) (fun b hb=>by
   have hlt:=h.fl b hb;refine ⟨r3 b (.inl hb) (fun j e ag ks l hj hbj=>?_),fun hbb=>?_⟩
   ·have:=hPf b ((br1 γ j e ag ks l hj).2 b hbj)
    omega
   ·obtain ⟨ad,q1,q2⟩:=hbb
    rw [hg] at q1;simp only [Value.pointer.injEq,Option.some.injEq] at q1;subst q1;simp only at q2;subst q2
    have:=hPf b0 hb0P
    omega)
 refine ⟨x,he,_,by rw [z2g,z2g]; exact hfin,?_⟩
 rw [z2g,z2g];simp only [St.ups,VRel,z0a,if_true];simp only [y42,z7t,VRel,hob0] at h2;exact h2
theorem ybq (h:Rel B nt w0 X γ st a w) (hg:GX B w0 X) {f:FuncId} {sp:ydi} (hS:Snd P B f sp) {vs:List V} {xs:List Value} (hv:VRels γ st.o w (z07 X γ st.o) vs xs) (hl:zck vs=[]) {tks:List (List Kd)} {e:Nat} {ag:Bool} {ks:List Kd} {l:List IV} {out:List (List V)}
  (hsp:sp (z56 st.o [] tks vs)=some (.vec e ag ks l,out)) (d:Nat) (hd9:d≠900000) :
  Does P f xs w fun e' w'=>∃ x,e' = .returned x∧∃ γ',Rel B nt w0 X γ' (st.ups (z0f st.o (z13 vs)++[.new d (.row true e ag ks l)])) a w' ∧
   VRel γ' (st.ups (z0f st.o (z13 vs)++[.new d (.row true e ag ks l)])).o w' (z07 X γ' (st.ups (z0f st.o (z13 vs)++[.new d (.row true e ag ks l)])).o) (.row d 0 l.length) x:=by
 refine (zn5 h hg hS hv hl hsp).mono ?_
 rintro e' w' ⟨x,he,γ',h1,h2,h3,rfl⟩
 have hmo:z2u (.vec e ag ks l) []=[(900000,some (.row true e ag ks l))]:=rfl;rw [hmo] at h1 h2;generalize hX':(⟨fun _=>False,fun b=>z07 X γ st.o b∧∀ m∈z13 vs,¬ RowOf γ st.o m b⟩:Zone)=X' at h1 h2
 have hXo:∀ b,¬ X'.own b:=fun b hb=>by rw [← hX'] at hb; exact hb
 have hz:=(z3e st.o (z13 vs) (FrzLe.refl _) h).1;have hPf:∀ b,z1f γ' [(900000,some (.row true e ag ks l))] b→w.heap.size≤b∧b < w'.heap.size:=fun b hb=>by
  obtain ⟨q1,q2⟩:=h1.lt b hb;exact ⟨q2.resolve_right (hXo b),q1⟩
 have hp:=zji hz hXo h1 (fun b=>X.far b∨z1f γ' [(900000,some (.row true e ag ks l))] b) (fun b hb=>hb.imp_right (hPf b))
 have hO1:∀ b,z07 ⟨X.own,fun b=>X.far b∨z1f γ' [(900000,some (.row true e ag ks l))] b⟩ γ (st.ups (z0f st.o (z13 vs))).o b→z07 X' γ' [(900000,some (.row true e ag ks l))] b:=by
  intro b hb;have key:z07 X γ (st.ups (z0f st.o (z13 vs))).o b∨z1f γ' [(900000,some (.row true e ag ks l))] b:=by
   rcases hb with hb | hb | hb
   ·exact .inl (.inl hb)
   ·exact .inl (.inr hb)
   ·exact .inr hb
  rcases key with hb | hb
  ·have:=zau h _ hb
   exact .inr (by rw [← hX']; exact this)
  ·exact .inl hb
 have hob0:z03 [(900000,some (.row true e ag ks l))] 900000=some (.row true e ag ks l):=by rw [z01,if_pos rfl]
 have hor:=h1.ob _ _ hob0;simp only [ObRel] at hor;obtain ⟨k1,k2,ys,k3,k4⟩:=hor;have hg0:∀ b,z0g (γ' 900000) (.row true e ag ks l) b→z1f γ' [(900000,some (.row true e ag ks l))] b:=fun b hb=>⟨900000,_,hob0,hb⟩
 have hadd:=hp.add d hd9 (.row true e ag ks l) (γ' 900000) (fun b hb=>⟨.inr (hg0 b hb),.inl (Nat.le_trans h.keep.size (hPf b (hg0 b hb)).1)⟩)
  (fun O' hO'=>by
   simp only [ObRel];exact ⟨k1,k2,ys,k3,fun i y hy=>Kd.RelAll.mono (Keep.refl _ w') (fun b _ hb=>hO1 b (hO' b hb)) (fun _ _ hu=>hu) (k4 i y hy)⟩)
 have hfin:=hadd.shrink (F:=X.far) (fun b hb=>by
   have hlt:=h.fl b hb;refine ⟨.inl hb,fun hbb=>?_⟩
   have:=hPf b (hg0 b hbb)
   omega)
 refine ⟨x,he,_,by rw [z2g]; exact hfin,?_⟩
 rw [z2g];simp only [St.ups,VRel,z0a,if_true];simp only [y42,VRel,hob0] at h2;exact h2
end
open Go Go.RowKit
mutual
theorem VRel.leaves {γ γ':Nat→Value} {o o':Store} {w:World} {O:Nat→Prop} (h1:∀ n lo hi x,VRel γ o w O (.row n lo hi) x→VRel γ' o' w O (.row n lo hi) x) (h2:∀ n i c x,VRel γ o w O (.ptr n i c) x→VRel γ' o' w O (.ptr n i c) x)
  (h3:∀ n c cap sz len x,VRel γ o w O (.bview n c cap sz len) x→VRel γ' o' w O (.bview n c cap sz len) x):∀ {v:V} {x:Value},VRel γ o w O v x→VRel γ' o' w O v x
 | .any,_,_=>by simp only [VRel]
 | .int _ _,_,h=>by simpa only [VRel] using h
 | .bool _,_,h=>by simpa only [VRel] using h
 | .str _,_,h=>by simpa only [VRel] using h
 | .list _ _ _,_,h=>by simpa only [VRel] using h
 | .zs,_,h=>by simpa only [VRel] using h
 | .row _ _ _,_,h=>h1 _ _ _ _ h
 | .ptr _ _ _,_,h=>h2 _ _ _ _ h
 | .iptr _ _ _,_,h=>by simpa only [VRel] using h
 | .bview _ _ _ _ _,_,h=>h3 _ _ _ _ _ _ h
 | .agg l,x,h=>by
  simp only [VRel] at h ⊢
  obtain ⟨cs,hx,hr⟩:=h;exact ⟨cs,hx,VRels.leaves h1 h2 h3 hr⟩
 | .tup l,x,h=>by
  simp only [VRel] at h ⊢
  obtain ⟨cs,hx,hr⟩:=h;exact ⟨cs,hx,VRels.leaves h1 h2 h3 hr⟩
 | .err _,_,h=>by simpa only [VRel] using h
 | .nilp,_,h=>by simpa only [VRel] using h
 | .clo _ l,x,h=>by
  simp only [VRel] at h ⊢
  obtain ⟨cs,hx,hr⟩:=h;exact ⟨cs,hx,VRels.leaves h1 h2 h3 hr⟩
 | .bor _,_,h=>by simp only [VRel] at h
 | .vec _ _ _ _,_,h=>by simp only [VRel] at h
 | .bld _,_,h=>by simp only [VRel] at h
theorem VRels.leaves {γ γ':Nat→Value} {o o':Store} {w:World} {O:Nat→Prop} (h1:∀ n lo hi x,VRel γ o w O (.row n lo hi) x→VRel γ' o' w O (.row n lo hi) x) (h2:∀ n i c x,VRel γ o w O (.ptr n i c) x→VRel γ' o' w O (.ptr n i c) x)
  (h3:∀ n c cap sz len x,VRel γ o w O (.bview n c cap sz len) x→VRel γ' o' w O (.bview n c cap sz len) x):∀ {l:List V} {xs:List Value},VRels γ o w O l xs→VRels γ' o' w O l xs
 | [],[],_=>by simp only [VRels]
 | [],_ :: _,h=>by simp only [VRels] at h
 | _ :: _,[],h=>by simp only [VRels] at h
 | v :: vs,x :: xs,h=>by
  simp only [VRels] at h ⊢
  exact ⟨VRel.leaves h1 h2 h3 h.1,VRels.leaves h1 h2 h3 h.2⟩
end
section
variable {B:BT} {nt:Nat} {w0:World} {X:Zone} {γ:Nat→Value} {st st':St} {a:Act} {w:World} {P:Program} {E:Env}
theorem y0i:∀ (hs:List Nat) {st:St} {X:Zone},Rel B nt w0 X γ st a w →
  Rel B nt w0 ⟨X.own,fun b=>X.far b∨∃ m∈hs,z0r γ st.o m b⟩ γ (st.ups (zba hs)) a w∧(st.ups (zba hs)).t=st.t∧∀ m,z03 (st.ups (zba hs)).o m=if m∈hs then none else z03 st.o m
 | [],st,X,h=>⟨h.shrink (fun b hb=>by simpa using hb),rfl,fun m=>by simp [zba,St.ups]⟩
 | n :: r,st,X,h=>by
  obtain ⟨h1,h2,h3⟩:=y0i r (h.kill n);have hob:∀ m,z03 (st.up (.kill n)).o m=if n=m then none else z03 st.o m:=fun m=>by simp only [St.up,z01]
  refine ⟨?_,h2,fun m=>?_⟩
  ·simp only [zba,St.ups]
   refine h1.shrink (fun b hb=>?_)
   rcases hb with hb | ⟨m,hm,hb⟩
   ·exact .inl (.inl hb)
   ·by_cases e:n=m
    ·subst e
     exact .inl (.inr hb)
    ·rcases List.mem_cons.1 hm with h4 | h4
     ·exact absurd h4.symm e
     ·obtain ⟨ob,p1,p2⟩:=hb
      exact .inr ⟨m,h4,ob,by rw [hob,if_neg e]; exact p1,p2⟩
  ·simp only [zba,St.ups]
   rw [h3,hob]
   by_cases h4:m∈r
   ·simp [h4]
   ·by_cases h5:n=m
    ·subst h5
     simp
    ·have:¬ m=n:=fun e=>h5 e.symm
     simp [h4,h5,this]
theorem zux (h:Rel B nt w0 X γ st a w) (ns:List Nat) {n:Nat} {ob:Ob} (ho:z03 st.o n=some ob) (hb:∀ e ag ks l,ob≠.row true e ag ks l):z03 (st.ups (z0f st.o ns)).o n=some ob:=by
 obtain ⟨_,h2,_⟩:=z3e st.o ns (FrzLe.refl _) h;rcases h2 n with h3 | ⟨e,ag,ks,l,h3,_⟩
 ·rw [h3,ho]
 ·rw [ho,Option.some.injEq] at h3
  exact absurd h3 (hb _ _ _ _)
theorem Rel.boundB (h:Rel B nt w0 X γ st a w) {n:Nat} {s:ByteArray} (ho:z03 st.o n=some (.bld s)) {w1:World} {own1 F:Nat→Prop} (hk:Keep own1 w1 w)
  (hF:∀ b,F b→z07 X γ st.o b∧¬ z0r γ st.o n b) (hown:∀ b,z0r γ st.o n b→w1.heap.size≤b∨own1 b) :
  Rel B.base 0 w1 ⟨own1,F⟩ (fun _=>γ n) ⟨[],z6y [.bld s]⟩ zu9 w∧∀ b,z1f (fun _=>γ n) (z6y [.bld s]) b→z0r γ st.o n b:=by
 have hP:∀ b,z1f (fun _=>γ n) (z6y [.bld s]) b→z0r γ st.o n b:=by
  rintro b ⟨m,ob,hm,hb⟩
  simp only [z6y] at hm;rw [z01] at hm
  split at hm
  ·simp only [Option.some.injEq] at hm
   subst hm;exact ⟨_,ho,hb⟩
  ·simp only [z03,lkd] at hm; cases hm
 refine ⟨⟨rfl,rfl,fun i=>by simp only [St.get,lkd,VRel],fun m ob hm=>?_,fun b hb=>?_,?_,hk,?_,?_,fun p hp=>by cases hp⟩,hP⟩
 ·simp only [z6y] at hm
  rw [z01] at hm
  split at hm
  ·simp only [Option.some.injEq] at hm
   subst hm
   have:=h.ob n _ ho
   simpa only [ObRel,BT.base] using this
  ·simp only [z03,lkd] at hm; cases hm
 ·obtain ⟨ob,h1,h2⟩:=hP b hb
  exact ⟨(h.lt b ⟨n,ob,h1,h2⟩).1,hown b (hP b hb)⟩
 ·intro m1 m2 ob1 ob2 b hne h1 h2 _ _
  simp only [z6y] at h1 h2;rw [z01] at h1 h2
  split at h1
  ·split at h2
   ·omega
   ·simp only [z03,lkd] at h2; cases h2
  ·simp only [z03,lkd] at h1; cases h1
 ·intro b hb hf
  exact (hF b hf).2 (hP b hb)
 ·intro b hb
  rcases (hF b hb).1 with h1 | h1
  ·exact (h.lt b h1).1
  ·exact h.fl b h1
theorem yc5 (h:Rel B nt w0 X γ st a w) (hg:GX B w0 X) {f:FuncId} {sp:ydi} (hS:Snd P B f sp) {vs:List V} {xs:List Value} (hv:VRels γ st.o w (z07 X γ st.o) vs xs) {n:Nat} (hl:zck vs=[n]) {s s':ByteArray} (ho:z03 st.o n=some (.bld s))
  {tks:List (List Kd)} {v:V} (hsp:sp (z56 st.o [.bld s] tks vs)=some (v,[[.bld s']])) (hib:yci (z5r (z56 st.o [.bld s] tks vs))=true) :
  Does P f xs w fun e w'=>∃ x,e = .returned x∧∃ γ',Rel B nt w0 X γ' (st.ups (z0f st.o (match z3b v with | true=>z13 vs | false=>[])++[.set n (.bld s')])) a w' ∧
   VRel γ' (st.ups (z0f st.o (match z3b v with | true=>z13 vs | false=>[])++[.set n (.bld s')])).o w' (z07 X γ' (st.ups (z0f st.o (match z3b v with | true=>z13 vs | false=>[])++[.set n (.bld s')])).o) v x:=by
 have hL:∀ b,z0r γ st.o n b→w.heap.size≤b∨z0r γ st.o n b:=fun b hb=>.inr hb
 obtain ⟨hR,hP⟩:=h.boundB ho (w1:=w) (own1:=z0r γ st.o n) (F:=fun b=>z07 X γ st.o b∧¬ z0r γ st.o n b∧∀ m∈z13 vs,¬ RowOf γ st.o m b) (Keep.refl _ w) (fun b hb=>⟨hb.1,hb.2.1⟩) hL
 generalize hX':(⟨z0r γ st.o n,fun b=>z07 X γ st.o b∧¬ z0r γ st.o n b∧∀ m∈z13 vs,¬ RowOf γ st.o m b⟩:Zone)=X' at hR
 have hXf:∀ b,X'.far b↔(z07 X γ st.o b∧¬ z0r γ st.o n b∧∀ m∈z13 vs,¬ RowOf γ st.o m b):=fun b=>by rw [← hX']
 have hXo:∀ b,X'.own b↔z0r γ st.o n b:=fun b=>by rw [← hX']
 have hnP:∀ b,z0r γ st.o n b→z1f γ st.o b:=fun b ⟨ob,h1,h2⟩=>⟨n,ob,h1,h2⟩
 rcases (zeh (o:=st.o) (bs:=[.bld s]) (l:=vs) (tks:=tks)).1 with hb | hb
 ·rw [hb] at hib
  cases hib
 ·have hm:zbh (z56 st.o [.bld s] tks vs)=z6y [.bld s]:=by simp only [zbh,hb]
  have hcall:=hS w X' (fun _=>γ n) (z56 st.o [.bld s] tks vs) xs v [[.bld s']] hsp (h.glob hg) (fun b hb=>h.high hg (hnP b ((hXo b).1 hb))) (by rw [hm]; exact hR) (by
   rw [hm];refine zl3 h (fun b _ hb=>?_) [.bld s] hv (fun m hm b hr hb=>?_) (fun m hm=>?_)
   ·rcases hb with hb | hb
    ·exact .inl (hnP b (hP b hb))
    ·exact ((hXf b).1 hb).1
   ·rcases hb with hb | hb
    ·obtain ⟨e,ag,ks,l,h5,h6⟩:=hr
     obtain ⟨ob,h7,h8⟩:=hP b hb;have hne:n≠m:=by
      rintro rfl
      rw [ho] at h5;cases h5
     exact h.dis n m ob _ b hne h7 h5 h8 h6
    ·exact ((hXf b).1 hb).2.2 m hm hr
   ·rw [hl] at hm
    simp only [List.mem_singleton] at hm;subst hm;exact ⟨rfl,.inr ⟨s,s,ho,by simp [z6y,z01]⟩⟩)
  refine hcall.mono ?_
  rintro e w' ⟨x,he,γ',h1,h2,h3⟩
  simp only [z9i,hb] at h3;obtain ⟨hf,_,had⟩:=h3;have hmo:z2u v [[.bld s']]=z6y [.bld s']:=by cases v <;> rfl
  rw [hmo] at h1 h2;rw [za8 hf] at h2;refine ⟨x,he,?_⟩;generalize hF0:(match z3b v with | true=>z13 vs | false=>[])=F0
  have hz:=(z3e st.o F0 (FrzLe.refl _) h).1;have hon:=zux h F0 ho (fun _ _ _ _=>by simp)
  have hob0:z03 (z6y [.bld s']) 900000=some (.bld s'):=by simp [z6y,z01]
  have hor:=h1.ob _ _ hob0;have hor0:=h.ob _ _ ho;simp only [ObRel] at hor hor0;obtain ⟨b1,v1,p1,hg1,_⟩:=hor;obtain ⟨b0,v0,p0,hg0,_⟩:=hor0;have hbb:b1=b0:=by
   rw [hg1,hg0] at had
   simpa [zli] using had
  subst hbb;have hbl:∀ b,z0r γ (st.ups (z0f st.o F0)).o n b↔z0r γ st.o n b:=fun b=>by simp only [z0r,hon,ho]
  have hOP:∀ b,z0g (γ' 900000) (.bld s') b→z1f γ' (z6y [.bld s']) b:=fun b hb=>⟨_,_,hob0,hb⟩
  have hsz:=h1.keep.size;have hlend:=hz.lend (n:=n) (ob':=.bld s') (g':=γ' 900000) hon had h1.keep (K:=X'.own) (fun b _ hb=>.inl ((hbl b).2 ((hXo b).1 hb)))
   (fun b hb=>by
    obtain ⟨q1,q2⟩:=h1.lt b (hOP b hb);exact ⟨q1,q2.elim .inr (fun hb=>.inl ((hbl b).2 ((hXo b).1 hb)))⟩)
   (fun O v x hvx=>VRel.leaves (fun m lo hi x hx=>by
     simp only [VRel] at hx ⊢
     rw [z01]
     by_cases e:n=m
     ·subst e; simp only [if_true]
     ·simp only [if_neg e]; exact hx) (fun m i c x hx=>by
     simp only [VRel] at hx ⊢
     rw [z01]
     by_cases e:n=m
     ·subst e
      simp only [if_true];rw [hon] at hx;obtain ⟨rfl,b,v',hg,hxx⟩:=hx;rw [hg0] at hg;simp only [Value.tuple.injEq,Array.mk.injEq,List.cons.injEq,Value.pointer.injEq,Option.some.injEq,Addr.mk.injEq,and_true] at hg;refine ⟨rfl,b1,v1,hg1,?_⟩;rw [hxx,hg.1]
     ·simp only [if_neg e]; exact hx) (fun m c cap sz len x hx=>by
     simp only [VRel] at hx ⊢
     rw [z01]
     by_cases e:n=m
     ·subst e; simp only [if_true]
     ·simp only [if_neg e]; exact hx) hvx)
   (by
    have hor:=h1.ob _ _ hob0
    simpa only [ObRel,BT.base] using hor)
  have hfin:=hlend.shrink (F:=X.far) (fun b hb=>⟨.inl hb,fun hbb=>by
   obtain ⟨q1,q2⟩:=h1.lt b (hOP b hbb)
   have:=h.fl b hb
   rcases q2 with q2 | q2
   ·omega
   ·exact h.nr b (hnP b ((hXo b).1 q2)) hb⟩)
  refine ⟨_,by rw [z2g]; exact hfin,?_⟩
  rw [z2g];refine zs4 hf (fun hhl b hlt hb=>?_) h2
  rw [hhl] at hF0;simp only at hF0;rcases hb with ⟨m,ob,hm,hbm⟩ | hb
  ·simp only [St.ups,St.up] at hm
   rw [z01] at hm
   by_cases e:n=m
   ·subst e
    simp only [if_true,Option.some.injEq] at hm hbm;subst hm;exact .inl (hOP b hbm)
   ·simp only [if_neg e] at hm hbm
    obtain ⟨q1,q2⟩:=zau h F0 (b:=b) (.inl ⟨m,ob,hm,hbm⟩);refine .inr ((hXf b).2 ⟨q1,fun hbn=>?_,by rw [hF0]; exact q2⟩)
    obtain ⟨ob2,q3,q4⟩:=(hbl b).2 hbn;exact hz.dis n m ob2 ob b e q3 hm q4 hbm
  ·refine .inr ((hXf b).2 ⟨.inr hb,fun hbn=>h.nr b (hnP b hbn) hb,fun m _ ⟨e,ag,ks,l,q1,q2⟩=>h.nr b ⟨m,_,q1,q2⟩ hb⟩)
theorem zhq {o:Store} {all:List Nat} {n:Nat}:∀ {cs:List V},n∈z4s o all cs→∃ lo hi own e ag ks l,.row n lo hi∈cs∧z03 o n=some (.row own e ag ks l)∧(own&&(Nat.beq lo 0&&Nat.beq (occ n all) 1))=false
 | [],h=>by simp [z4s] at h
 | v :: r,h=>by
  have up:n∈z4s o all r→∃ lo hi own e ag ks l,.row n lo hi∈v :: r∧z03 o n=some (.row own e ag ks l)∧(own&&(Nat.beq lo 0&&Nat.beq (occ n all) 1))=false:=fun h'=>by
   obtain ⟨lo,hi,own,e,ag,ks,l,h1,h2,h3⟩:=zhq h';exact ⟨lo,hi,own,e,ag,ks,l,List.mem_cons_of_mem _ h1,h2,h3⟩
  cases v
  case row m lo hi=>
   simp only [z4s] at h
   split at h
   ·rename_i own e ag ks l hob
    split at h
    ·exact up h
    ·rename_i hb
     rcases List.mem_cons.1 h with h1 | h1
     ·subst h1
      exact ⟨lo,hi,own,e,ag,ks,l,List.mem_cons_self ..,hob,hb⟩
     ·exact up h1
   ·exact up h
  all_goals exact up h
theorem ybv (h:Rel B nt w0 X γ st a w) (hg:GX B w0 X) {f:FuncId} {sp:ydi} (hS:Snd P B f sp) {vs:List V} {xs:List Value} (hv:VRels γ st.o w (z07 X γ st.o) vs xs) {n:Nat} (hl:zck vs=[n]) {cs:List V} (ho:z03 st.o n=some (.box cs)) {all:List Nat} (hall:z15 cs++z13 vs=all)
  {tks:List (List Kd)} {v:V} {out:List V} (hsp:sp (z56 st.o (cs.map (z3a st.o all)) tks vs)=some (v,[out])) (hib:yci (z5r (z56 st.o (cs.map (z3a st.o all)) tks vs))=true) {nm:Nat} (hlen:out.length=cs.length) (hnm:n < nm∨nm+out.length≤n) (hn9:nm+out.length≤900000) :
  Does P f xs w fun e w'=>∃ x,e = .returned x∧∃ γ',Rel B nt w0 X γ' (st.ups (z0f st.o (z4s st.o all cs++(match z3b v||znu out with | true=>z13 vs | false=>[])) ++
     (zba (z3i st.o all cs)++(.set n (.box (y6h cs)) :: (zf7 nm out++[.set n (.box (z63 nm out))]))))) a w' ∧
   VRel γ' (st.ups (z0f st.o (z4s st.o all cs++(match z3b v||znu out with | true=>z13 vs | false=>[])) ++
     (zba (z3i st.o all cs)++(.set n (.box (y6h cs)) :: (zf7 nm out++[.set n (.box (z63 nm out))]))))).o w' (z07 X γ' (st.ups (z0f st.o (z4s st.o all cs++(match z3b v||znu out with | true=>z13 vs | false=>[])) ++
     (zba (z3i st.o all cs)++(.set n (.box (y6h cs)) :: (zf7 nm out++[.set n (.box (z63 nm out))]))))).o) v x:=by
 let L:Nat→Prop:=fun b=>z0r γ st.o n b∨∃ m∈z3i st.o all cs,z0r γ st.o m b
 have hLP:∀ b,L b→z1f γ st.o b:=by
  rintro b (⟨ob,h1,h2⟩ | ⟨m,_,ob,h1,h2⟩)
  ·exact ⟨n,ob,h1,h2⟩
  ·exact ⟨m,ob,h1,h2⟩
 have hbound:=h.bound ho (z13 vs) (w1:=w) (own1:=L) (F:=fun b=>z07 X γ st.o b∧¬ L b∧(∀ m∈z4s st.o all cs,¬ z0r γ st.o m b)∧∀ m∈z13 vs,¬ RowOf γ st.o m b) (Keep.refl _ w)
  (fun b hb=>⟨hb.1,fun h1=>hb.2.1 (.inl h1),fun m hm h1=>hb.2.1 (.inr ⟨m,by rw [← hall]; exact hm,h1⟩),by rw [hall]; exact hb.2.2.1⟩) (fun b hb=>.inr (by rw [hall] at hb; exact hb))
 rw [hall] at hbound;obtain ⟨γb,hR,hg0,hP⟩:=hbound;generalize hX':(⟨L,fun b=>z07 X γ st.o b∧¬ L b∧(∀ m∈z4s st.o all cs,¬ z0r γ st.o m b)∧∀ m∈z13 vs,¬ RowOf γ st.o m b⟩:Zone)=X' at hR
 have hXf:∀ b,X'.far b↔(z07 X γ st.o b∧¬ L b∧(∀ m∈z4s st.o all cs,¬ z0r γ st.o m b)∧∀ m∈z13 vs,¬ RowOf γ st.o m b):=fun b=>by rw [← hX']
 have hXo:∀ b,X'.own b↔L b:=fun b=>by rw [← hX']
 have hb:z5r (z56 st.o (cs.map (z3a st.o all)) tks vs)=some (cs.map (z3a st.o all)):=by
  rcases (zeh (o:=st.o) (bs:=cs.map (z3a st.o all)) (l:=vs) (tks:=tks)).1 with hb | hb
  ·rw [hb] at hib; cases hib
  ·exact hb
 have hm:zbh (z56 st.o (cs.map (z3a st.o all)) tks vs)=z6y (cs.map (z3a st.o all)):=by simp only [zbh,hb]
 have hargs:∀ m∈z13 vs,∀ b,RowOf γ st.o m b→¬ L b:=by
  intro m hm b hr hLb;obtain ⟨e,ag,ks,l,h5,h6⟩:=hr;rcases hLb with ⟨ob,h7,h8⟩ | ⟨m2,h9,ob,h7,h8⟩
  ·have hne:n≠m:=by
    rintro rfl
    rw [ho] at h5;cases h5
   exact h.dis n m ob _ b hne h7 h5 h8 h6
  ·by_cases hne:m2=m
   ·subst hne
    obtain ⟨hi2,e2,ag2,ks2,l2,k1,k2,k3⟩:=z6q.1 h9;rw [← hall,z89] at k3;have q1:=zh8 (z9l k1);have q2:=zh8 hm;omega
   ·exact h.dis m2 m ob _ b hne h7 h5 h8 h6
 have hok0:∀ v,okC (z3a st.o all v)=true:=by
  intro v;rcases zbv st.o all v with ⟨_,_,_,_,_,_,_,_,_,h1⟩ | ⟨h1,_⟩
  ·rw [h1]; rfl
  ·cases hcc:z3a st.o all v <;> first | rfl | (rw [hcc] at h1; cases h1)
 have hcall:=hS w X' γb (z56 st.o (cs.map (z3a st.o all)) tks vs) xs v [out] hsp (h.glob hg) (fun b hb=>h.high hg (hLP b ((hXo b).1 hb))) (by rw [hm]; exact hR) (by
  rw [hm];refine zl3 h (fun b _ hb=>?_) _ hv (fun m hm b hr hb=>?_) (fun m hm=>?_)
  ·rcases hb with hb | hb
   ·exact .inl (hLP b (hP b hb))
   ·exact ((hXf b).1 hb).1
  ·rcases hb with hb | hb
   ·exact hargs m hm b hr (hP b hb)
   ·exact ((hXf b).1 hb).2.2.2 m hm hr
  ·rw [hl] at hm
   simp only [List.mem_singleton] at hm;subst hm;exact ⟨hg0,.inl ⟨cs,_,ho,by rw [zhl (List.all_eq_true.2 (fun v hv=>by obtain ⟨u,_,rfl⟩:=List.mem_map.1 hv; exact hok0 u)),z01,if_pos rfl]⟩⟩)
 refine hcall.mono ?_
 rintro e w' ⟨x,he,γ',h1,h2,h3⟩
 simp only [z9i,hb] at h3;obtain ⟨hf,hsk,had⟩:=h3;have hok:out.all okC=true:=by
  unfold zy4 at hsk
  split at hsk
  ·rename_i s s' hcs
   cases cs with
   | nil=>simp at hcs
   | cons u r=>
    simp only [List.map_cons,List.cons.injEq] at hcs
    have:=hok0 u
    rw [hcs.1] at this;cases this
  ·cases hsk
  ·exact hsk
 have hmo:z2u v [out]=z6y out:=by cases v <;> rfl
 rw [hmo] at h1 h2;rw [za8 hf] at h2;refine ⟨x,he,?_⟩;generalize hF0:z4s st.o all cs++(match z3b v||znu out with | true=>z13 vs | false=>[])=F0
 have hz:=(z3e st.o F0 (FrzLe.refl _) h).1;have hzf:=(z3e st.o F0 (FrzLe.refl _) h).2.1;have hon:=zux h F0 ho (fun _ _ _ _=>by simp)
 obtain ⟨hk,hkt,hko⟩:=y0i (z3i st.o all cs) hz;have hnh:n ∉ z3i st.o all cs:=by
  intro hn;obtain ⟨_,_,_,_,_,_,q,_⟩:=z6q.1 hn;rw [ho] at q;cases q
 have hon2:z03 ((st.ups (z0f st.o F0)).ups (zba (z3i st.o all cs))).o n=some (.box cs):=by rw [hko,if_neg hnh]; exact hon
 have hor0:=h.ob _ _ ho;simp only [ObRel] at hor0;obtain ⟨b0,c0,T0,hgn,hh0,hr0⟩:=hor0;have hob0:z03 (z6y out) 900000=some (.box (z63 900001 out)):=by rw [zhl hok,z01,if_pos rfl]
 have hor:=h1.ob _ _ hob0;simp only [ObRel] at hor;obtain ⟨b1,c,T,hg,hh,hr⟩:=hor;have hbb:b1=b0:=by
  rw [hg,hg0,hgn] at had
  simpa [zli] using had
 subst hbb;have hg':γ' 900000=γ n:=by rw [hg,hgn]
 have hsz:=h1.keep.size;have hbn:∀ b,z0r γ st.o n b↔b=b1:=by
  intro b;constructor
  ·rintro ⟨ob,h5,h6⟩
   rw [ho] at h5;cases h5;obtain ⟨ad,h7,h8⟩:=h6;rw [hgn] at h7;cases h7;exact h8.symm
  ·rintro rfl
   exact ⟨_,ho,_,hgn,rfl⟩
 have hbn2:∀ b,z0r γ ((st.ups (z0f st.o F0)).ups (zba (z3i st.o all cs))).o n b↔b=b1:=by
  intro b;rw [← hbn b];simp only [z0r,hon2,ho]
 have hbx:∀ l b,z0g (γ n) (.box l) b↔b=b1:=by
  intro l b;rw [← hbn b];simp only [z0r,ho,Option.some.injEq,exists_eq_left',z0g]
 have hhb:∀ m∈z3i st.o all cs,∀ b,z0r γ st.o m b→z0r γ (st.ups (z0f st.o F0)).o m b:=by
  rintro m hm b ⟨ob,h5,h6⟩
  obtain ⟨hi2,e2,ag2,ks2,l2,k1,k2,k3⟩:=z6q.1 hm;refine ⟨ob,?_,h6⟩;rw [(z3e st.o F0 (FrzLe.refl _) h).2.2.2.2 m ?_]
  ·exact h5
  ·intro hmF
   rw [← hF0] at hmF;rcases List.mem_append.1 hmF with h7 | h7
   ·obtain ⟨lo3,hi3,own3,e3,ag3,ks3,l3,q1,q2,q3⟩:=zhq h7
    obtain ⟨i1,hi1⟩:=List.mem_iff_getElem?.1 k1;obtain ⟨i2,hi2⟩:=List.mem_iff_getElem?.1 q1;rw [← hall,z89] at k3;rcases Nat.lt_trichotomy i1 i2 with hlt | hlt | hlt
    ·have:=zja hlt hi1 hi2
     omega
    ·subst hlt
     rw [hi1] at hi2;simp only [Option.some.injEq,V.row.injEq,true_and] at hi2;obtain ⟨rfl,rfl⟩:=hi2;rw [k2] at q2;simp only [Option.some.injEq,Ob.row.injEq] at q2;obtain ⟨rfl,_⟩:=q2;rw [← hall,z89,k3] at q3;simp at q3
    ·have:=zja hlt hi2 hi1
     omega
   ·have q1:m∈z13 vs:=by
     split at h7
     ·exact h7
     ·cases h7
    rw [← hall,z89] at k3
    have:=zh8 (z9l k1)
    have:=zh8 q1
    omega
 have hlend:=hk.lend (n:=n) (ob':=.box (y6h cs)) (g':=γ n) hon2 rfl h1.keep (K:=X'.own)
  (fun b hlt hb=>by
   have hLb:=(hXo b).1 hb;rcases hLb with h5 | ⟨m,h6,h7⟩
   ·exact .inl ((hbn2 b).2 ((hbn b).1 h5))
   ·refine .inr ⟨.inr ⟨m,h6,hhb m h6 b h7⟩,?_⟩
    exact (h.lt b (hLP b (.inr ⟨m,h6,h7⟩))).2)
  (fun b hb=>by
   have:=(hbx _ b).1 hb
   subst this;exact ⟨Nat.lt_of_lt_of_le (h.lt _ ⟨n,_,ho,(hbx _ _).2 rfl⟩).1 hsz,.inl ((hbn2 _).2 rfl)⟩)
  (fun O v x hvx=>by
   refine VRel.cmp ?_ hvx;intro m ob1 hm;refine ⟨by by_cases e:n=m <;> simp [e],?_⟩
   rw [z01] at hm
   by_cases e:n=m
   ·subst e
    simp only [if_true,Option.some.injEq] at hm;subst hm;exact ⟨_,hon2,by simp [Ob.fits,zmc]⟩
   ·rw [if_neg e] at hm
    exact ⟨ob1,hm,ob1.fits_refl⟩)
  (by
   simp only [ObRel];refine ⟨b1,c,T,hgn,hh,?_⟩;have hcl:=hr.length;rw [z8a,hlen] at hcl;refine VRels.of_get (by rw [zmc,List.length_map,hcl]) (fun j v x hv hx=>?_)
   rw [zmc,List.getElem?_map] at hv;cases hcj:cs[j]? with
   | none=>rw [hcj] at hv; cases hv
   | some u=>
    rw [hcj] at hv;simp only [Option.map_some,Option.some.injEq] at hv;subst hv;simp only [VRel])
 obtain ⟨br1,br2,br3⟩:=zyf hok h1;have hPf:∀ b,z1f γ' (z6y out) b→(w.heap.size≤b∧b < w'.heap.size)∨L b:=fun b hb=>by
  obtain ⟨q1,q2⟩:=h1.lt b hb;rcases q2 with q2 | q2
  ·exact .inl ⟨q2,q1⟩
  ·exact .inr ((hXo b).1 q2)
 have hb1P:z1f γ' (z6y out) b1:=⟨900000,_,hob0,⟨_,hg,rfl⟩⟩;have hLb1:L b1:=.inl ((hbn b1).2 rfl);have hsh:=hlend.shrink (F:=fun b=>(X.far b∨z1f γ' (z6y out) b)∧b≠b1) (fun b hb=>by
  refine ⟨?_,fun hbb=>hb.2 ((hbx _ b).1 hbb)⟩
  rcases hb.1 with h5 | h5
  ·exact .inl (.inl h5)
  ·rcases hPf b h5 with h6 | h6 | ⟨m,h6,h7⟩
   ·exact .inr h6
   ·exact absurd ((hbn b).1 h6) hb.2
   ·exact .inl (.inr ⟨m,h6,hhb m h6 b h7⟩))
 have hfarX:∀ b,X.far b→X'.far b:=fun b hb=>(hXf b).2 ⟨.inr hb,fun hL=>h.nr b (hLP b hL) hb,fun m _ ⟨ob,q1,q2⟩=>h.nr b ⟨m,ob,q1,q2⟩ hb,fun m _ ⟨e,ag,ks,l,q1,q2⟩=>h.nr b ⟨m,_,q1,q2⟩ hb⟩
 have hO1:∀ b,z07 ⟨X.own,fun b=>(X.far b∨z1f γ' (z6y out) b)∧b≠b1⟩ (fun m=>if n=m then γ n else γ m) (((st.ups (z0f st.o F0)).ups (zba (z3i st.o all cs))).up (.set n (.box (y6h cs)))).o b →
   ((z3b v||znu out)=true→z07 X' γ' (z6y out) b):=by
  intro b hb hflag;rcases hb with ⟨m,ob,hm,hbm⟩ | ⟨hb | hb,_⟩
  ·simp only [St.up] at hm
   rw [z01] at hm
   by_cases e:n=m
   ·subst e
    simp only [if_true,Option.some.injEq] at hm hbm;subst hm
    have:=(hbx _ b).1 hbm
    subst this;exact .inl hb1P
   ·simp only [if_neg e] at hm hbm
    rw [hko] at hm
    split at hm
    ·cases hm
    rename_i hmh;obtain ⟨q1,q2⟩:=zau h F0 (b:=b) (.inl ⟨m,ob,hm,hbm⟩);refine .inr ((hXf b).2 ⟨q1,fun hL=>?_,fun m' hm' hbl=>?_,fun m' hm'=>?_⟩)
    ·rcases hL with h5 | ⟨m2,h5,h6⟩
     ·obtain ⟨ob2,q3,q4⟩:z0r γ (st.ups (z0f st.o F0)).o n b:=⟨_,hon,(hbx _ b).2 ((hbn b).1 h5)⟩
      exact hz.dis n m ob2 ob b e q3 hm q4 hbm
     ·obtain ⟨ob2,q3,q4⟩:=hhb m2 h5 b h6
      exact hz.dis m2 m ob2 ob b (fun e=>hmh (e ▸ h5)) q3 hm q4 hbm
    ·obtain ⟨lo3,hi3,own3,e3,ag3,ks3,l3,p1,p2,p3⟩:=zhq hm'
     obtain ⟨ob2,q3,q4⟩:=hbl;rw [p2,Option.some.injEq] at q3;subst q3;cases own3 with
     | false=>exact q4.elim
     | true=>exact q2 m' (by rw [← hF0]; exact List.mem_append_left _ hm') ⟨e3,ag3,ks3,l3,p2,q4⟩
    ·refine q2 m' ?_
     rw [← hF0,hflag];exact List.mem_append_right _ hm'
  ·exact .inr (hfarX b hb)
  ·exact .inl hb
 have hrows:=zhk (B':=B.base) (O1:=fun b=>znu out=true→z07 X' γ' (z6y out) b) (g:=fun j=>γ' (900001+j)) nm out 0 (by omega) hsh (fun b hb hal=>hO1 b hb (by simp [hal])) (fun j e ag ks l hj=>by
   rw [Nat.zero_add];obtain ⟨q1,q2⟩:=br1 (fun m=>if n=m then γ n else γ m) j e ag ks l hj
   refine ⟨q1,fun b hb=>⟨⟨.inr (q2 b hb),?_⟩,?_⟩⟩
   ·rintro rfl
    exact br3 j e ag ks l _ hj hb ⟨_,hob0,_,hg,rfl⟩
   ·rcases hPf b (q2 b hb) with h5 | h5
    ·exact .inl (Nat.le_trans h.keep.size h5.1)
    ·exact (h.lt b (hLP b h5)).2)
  (fun i j e ag ks l e' ag' ks' l' b hij q1 q2 q3 q4=>by
   rw [Nat.zero_add] at q3 q4;exact br2 i j e ag ks l e' ag' ks' l' b hij q1 q2 q3 q4)
 obtain ⟨γ4,F4,r1,r2,r3,r4,r5,r6⟩:=hrows;simp only [Nat.add_zero,Nat.zero_add] at r1 r3 r4 r5 r6;obtain ⟨hγn,hobn,_⟩:=r6 n hnm;have hon4:=hobn cs (by simp only [St.up,z01,if_true])
 simp only [if_true] at hγn;have hset:=r1.set (n:=n) (ob':=.box (z63 nm out)) hon4 (by simp only [Ob.fits,zmc,List.length_map,z8a,hlen]) (Keep.refl _ w') (fun b hb=>hb) (fun hown hcmp=>by
  simp only [ObRel];refine ⟨b1,c,T,by rw [hγn,hgn],hh,zud hok h1 hr (fun j e ag ks l hj=>?_) (fun hal b _ hb=>hO1 b (r4 b (hown b hb)) (by simp [hal]))⟩
  obtain ⟨q1,q2⟩:=r5 j e ag ks l hj;refine ⟨q1,?_⟩;have hjl:j < out.length:=by
   rcases Nat.lt_or_ge j out.length with h' | h'
   ·exact h'
   ·rw [List.getElem?_eq_none h'] at hj; cases hj
  rw [z01,if_neg (by omega)]
  exact q2)
 have hfin:=hset.shrink (F:=X.far) (fun b hb=>by
  refine r3 b ⟨.inl hb,fun e=>h.nr b (hLP b (e ▸ hLb1)) hb⟩ (fun j e ag ks l hj hbj=>?_)
  rcases hPf b ((br1 γ j e ag ks l hj).2 b hbj) with h5 | h5
  ·have:=h.fl b hb
   omega
  ·exact h.nr b (hLP b h5) hb)
 have hst:(st.ups (z0f st.o F0++(zba (z3i st.o all cs)++(.set n (.box (y6h cs)) :: (zf7 nm out++[.set n (.box (z63 nm out))]))))) =
   (((((st.ups (z0f st.o F0)).ups (zba (z3i st.o all cs))).up (.set n (.box (y6h cs)))).ups (zf7 nm out)).up (.set n (.box (z63 nm out)))):=by
  rw [z2g,z2g];simp only [St.ups];rw [z2g]
  rfl
 rw [hst];refine ⟨_,hfin,zs4 hf (fun hhl b _ hb=>?_) h2⟩
 rcases hb with ⟨m,ob,hm,hbm⟩ | hb
 ·simp only [St.up] at hm
  rw [z01] at hm;refine hO1 b (r4 b (.inl ?_)) (by simp [hhl])
  by_cases e:n=m
  ·subst e
   simp only [if_true,Option.some.injEq] at hm;subst hm;exact ⟨n,_,hon4,hbm⟩
  ·rw [if_neg e] at hm
   exact ⟨m,ob,hm,hbm⟩
 ·exact .inr (hfarX b hb)
end
open Go Go.RowKit
section
variable {B:BT} {nt:Nat} {w0:World} {X:Zone} {γ:Nat→Value} {st st':St} {a:Act} {w:World} {P:Program} {E:Env}
theorem y00 (h:Rel B nt w0 X γ st a w) (hg:GX B w0 X) {f:FuncId} {sp:z0u} (hS:Snd P B f (fun vs=>(sp vs).get)) {vs:List V} {xs:List Value} (hv:VRels γ st.o w (z07 X γ st.o) vs xs) {d:Nat} (hd9:d≠900000) {tks:List (List Kd)} {v:V} {us:List Upd} (he:(y0y st.o d tks sp vs).get=some (v,us)) :
  Does P f xs w fun e w'=>∃ x,e = .returned x∧∃ γ',Rel B nt w0 X γ' (st.ups us) a w'∧VRel γ' (st.ups us).o w' (z07 X γ' (st.ups us).o) v x:=by
 unfold y0y at he
 split at he
 ·rename_i hl
  obtain ⟨r,out,hsp,he⟩:=R.toT_get he;unfold zkz at he
  split at he
  ·split at he
   ·rename_i cs
    split at he
    ·rename_i hc
     simp only [T.get,Option.some.injEq,Prod.mk.injEq] at he;obtain ⟨rfl,rfl⟩:=he;exact y95 h hg hS hv hl hsp d hd9 (Nat.le_of_ble_eq_true hc)
    ·simp [T.get] at he
   ·simp only [T.get,Option.some.injEq,Prod.mk.injEq] at he
    obtain ⟨rfl,rfl⟩:=he;exact ybq h hg hS hv hl hsp d hd9
   ·rename_i hnb hnv
    simp only [T.get,Option.some.injEq,Prod.mk.injEq] at he;obtain ⟨rfl,rfl⟩:=he;exact y7s h hg hS hv hl hsp hnb hnv
  ·simp [T.get] at he
 ·rename_i n hl
  split at he
  ·rename_i cs ho
   split at he
   ·rename_i hib
    obtain ⟨r,outs,hsp,he⟩:=R.toT_get he;unfold y1n at he
    split at he
    ·split at he
     ·rename_i hc
      simp only [T.get,Option.some.injEq,Prod.mk.injEq] at he;obtain ⟨rfl,rfl⟩:=he;simp only [Bool.and_eq_true,Bool.or_eq_true] at hc;refine ybv h hg hS hv hl ho rfl hsp hib (z1j.1 hc.1) (hc.2.1.imp (fun h=>Nat.le_of_ble_eq_true h) (fun h=>Nat.le_of_ble_eq_true h)) (Nat.le_of_ble_eq_true hc.2.2)
     ·simp [T.get] at he
    ·simp [T.get] at he
   ·simp [T.get] at he
  ·rename_i s ho
   split at he
   ·rename_i hib
    obtain ⟨r,outs,hsp,he⟩:=R.toT_get he;unfold y1t at he
    split at he
    ·simp only [T.get,Option.some.injEq,Prod.mk.injEq] at he
     obtain ⟨rfl,rfl⟩:=he;exact yc5 h hg hS hv hl ho hsp hib
    ·simp [T.get] at he
   ·simp [T.get] at he
  ·simp [T.get] at he
 ·simp [T.get] at he
def zio (l:List IV):List Value:=l.map fun x=>Value.int .i64 x.toInt
def yfz:V→Value
 | .int k n=>.int k n
 | _=>undef
def ydc (w:World) (v:Value):List V→List Value→Prop
 | [],[]=>True
 | [.clo f [.bor cs]],[y]=>∃ b c T,y = .func (.func f) #[] #[.pointer (some ⟨b,0,none⟩)]∧w.heap[b]?=some (.cells c T (0,0))∧c.toList=cs.map yfz∧v.ownBlock≠some b
 | _,_=>False
def y7e (P:Program) (f:FuncId) (p:Ip):Prop:=
 ∀ (w:World) (v:Value) (l l':List IV) (rs:List V) (ys:List Value),w.ownsRow 0 p.e 1 v l.length (zio l)→(∀ x∈l,IntKind.i64.min≤x.toInt∧x.toInt≤IntKind.i64.max)→l.length≤strMax →
  ydc w v rs ys→p.g rs l=some l' →
  Does P f (v :: ys) w fun e w'=>∃ x,e = .returned x∧w.grownBy w' v.ownBlock∧(∀ x∈l',IntKind.i64.min≤x.toInt∧x.toInt≤IntKind.i64.max) ∧
   (p.ret=true→w'.ownsRow 0 p.e 1 x l'.length (zio l')∧∀ b,x.ownBlock=some b→v.ownBlock=some b∨w.heap.size≤b) ∧
   (p.ret=false→w'.ownsRow 0 p.e 1 v l'.length (zio l'))
theorem y7m {w:World} {O:Nat→Prop} {l:List IV} {xs:List Value} (hl:xs.length=l.length*1)
  (h:∀ i y,l[i]?=some y→Kd.RelAll w O [.int .i64] (z2y false y) 0 (fun j u=>xs[i*1+j]?=some u)):xs=zio l∧∀ x∈l,IntKind.i64.min≤x.toInt∧x.toInt≤IntKind.i64.max:=by
 have one:∀ (i:Nat) (y:IV),l[i]?=some y→xs[i]?=some (.int .i64 y.toInt)∧IntKind.i64.min≤y.toInt∧y.toInt≤IntKind.i64.max:=fun i y hy=>by
  have:=h i y hy
  simp only [Kd.RelAll,z2y,and_true,Nat.mul_one,Nat.add_zero] at this;obtain ⟨u,hu,hk⟩:=this;simp only [Kd.Rel] at hk;rw [hu,hk.1];exact ⟨rfl,hk.2⟩
 constructor
 ·apply List.ext_getElem?
  intro i;unfold zio;rw [List.getElem?_map];cases hy:l[i]? with
  | none=>
   rw [List.getElem?_eq_none_iff] at hy;rw [List.getElem?_eq_none (by omega)]
   rfl
  | some y=>rw [(one i y hy).1]; rfl
 ·intro x hx
  obtain ⟨i,hi⟩:=List.getElem?_of_mem hx;exact (one i x hi).2
theorem zmz {w:World} {O:Nat→Prop} {l:List IV} (h:∀ x∈l,IntKind.i64.min≤x.toInt∧x.toInt≤IntKind.i64.max) (i:Nat) (y:IV) (hy:l[i]?=some y) :
  Kd.RelAll w O [.int .i64] (z2y false y) 0 (fun j u=>(zio l)[i*1+j]?=some u):=by
 simp only [Kd.RelAll,z2y,and_true,Nat.mul_one,Nat.add_zero];refine ⟨.int .i64 y.toInt,?_,?_⟩
 ·unfold zio
  rw [List.getElem?_map,hy]
  rfl
 ·simp only [Kd.Rel]
  exact ⟨trivial,h y (List.mem_of_getElem? hy)⟩
theorem zrw {γ:Nat→Value} {o:Store} {w:World} {O:Nat→Prop}:∀ {cs:List V} {xs:List Value},ybn cs=true→VRels γ o w O cs xs→xs=cs.map yfz
 | [],[],_,_=>rfl
 | [],_ :: _,_,h=>by simp only [VRels] at h
 | v :: cs,[],h,h'=>by simp only [VRels] at h'
 | v :: cs,x :: xs,h,h'=>by
  simp only [VRels] at h';unfold ybn at h
  split at h
  ·rename_i h0; cases h0
  ·rename_i n r h0
   injection h0 with h1 h2
   subst h1 h2;have h3:=h'.1;simp only [VRel] at h3;rw [List.map_cons,← zrw h h'.2,h3.1]
   rfl
  ·cases h
theorem y4t (h:Rel B nt w0 X γ st a w) {v:Value} (hv:∀ m cs b,z03 st.o m=some (.box cs)→z0g (γ m) (.box cs) b→v.ownBlock≠some b) {rest rs:List V} {ys:List Value} (hr:VRels γ st.o w (z07 X γ st.o) rest ys) (he:zr1 st.o rest=some rs):ydc w v rs ys:=by
 unfold zr1 at he
 split at he
 ·simp only [Option.some.injEq] at he
  subst he;cases ys with
  | nil=>trivial
  | cons y ys=>simp only [VRels] at hr
 ·rename_i f m i c
  split at he
  ·rename_i cs hic ho
   split at he
   ·rename_i hi
    simp only [Option.some.injEq] at he;subst he;simp only [Bool.and_eq_true] at hic;obtain rfl:=z1j.1 hic.1;obtain rfl:=z1j.1 hic.2
    match ys,hr with
    | [y],hr=>
     simp only [VRels,and_true] at hr;simp only [VRel] at hr;obtain ⟨cs',rfl,hc⟩:=hr;obtain ⟨b,c,T,hg,hh,hcs⟩:=h.ob m _ ho;have hc1:∃ x0,cs' = #[x0]∧x0 = .pointer (some ⟨b,0,none⟩):=by
      obtain ⟨l⟩:=cs'
      match l,hc with
      | [x0],hc=>
       simp only [VRels,and_true,VRel,ho] at hc;obtain ⟨_,b',hb',rfl⟩:=hc;rw [hg] at hb';simp only [Value.pointer.injEq,Option.some.injEq,Addr.mk.injEq,and_true] at hb';subst hb';exact ⟨_,rfl,rfl⟩
      | [],hc=>simp only [VRels] at hc
      | _ :: _ :: _,hc=>simp only [VRels,and_false] at hc
     obtain ⟨x0,rfl,rfl⟩:=hc1;exact ⟨b,c,T,rfl,hh,zrw hi hcs,hv m cs b ho ⟨_,hg,rfl⟩⟩
    | [],hr=>simp only [VRels] at hr
    | _ :: _ :: _,hr=>simp only [VRels,and_false] at hr
   ·cases he
  ·cases he
 ·cases he
theorem ygd (h:Rel B nt w0 X γ st a w) {f:FuncId} {p:Ip} (hI:y7e P f p) {vs:List V} {xs:List Value} (hv:VRels γ st.o w (z07 X γ st.o) vs xs) {d:Option Nat} (hd9:∀ d',d=some d'→d'≠900000) {v:V} {us:List Upd} (he:(ipT st.o d p vs).get=some (v,us)) :
  Does P f xs w fun e w'=>∃ x,e = .returned x∧∃ γ',Rel B nt w0 X γ' (st.ups us) a w'∧VRel γ' (st.ups us).o w' (z07 X γ' (st.ups us).o) v x:=by
 unfold ipT at he
 split at he
 ·rename_i n lo hi rest
  cases xs with
  | nil=>simp only [VRels] at hv
  | cons sv ys=>
  simp only [VRels] at hv;obtain ⟨hs,hrest⟩:=hv
  split at he
  ·rename_i e l rs hob hra
   split at he
   ·rename_i hc
    simp only [Bool.and_eq_true] at hc;obtain ⟨hc1,hc3,hc4⟩:=hc;have he2:=T.get_when he;clear he;obtain ⟨hc2,he⟩:=he2;obtain rfl:=z1j.1 hc1;obtain rfl:=z1j.1 hc2;obtain rfl:=z1j.1 hc3;have he6:p.e < 1000000:=Nat.le_of_ble_eq_true hc4;simp only [VRel,hob] at hs;obtain ⟨hlen,q,len,cap,q',hg,hvv,_,h2,h3,hm,_,h5⟩:=hs;rw [h5 rfl,Nat.sub_zero,Nat.sub_zero] at hvv;have hor:=h.ob n _ hob;simp only [ObRel] at hor;obtain ⟨hkp,hstr,xs,hx,hrx⟩:=hor;have hx':=hx.plain he6;have hlen':len=l.length:=by
     rcases hx'.2 with ⟨h6,h7⟩ | ⟨g,cap',cur,h6,_⟩
     ·rw [hg] at h6; simp only [Value.slice.injEq] at h6; omega
     ·rw [hg] at h6; simp only [Value.slice.injEq] at h6; exact h6.2.1
    subst hlen';have hsv:sv=γ n:=by rw [hvv,hg]
    subst hsv;obtain ⟨rfl,hrng⟩:=y7m hx.1 hrx
    split at he
    ·rename_i l' hgl
     have hrok:=y4t h (v:=γ n) (fun m cs b hm hb hne=>by
      have hnm:n≠m:=fun e=>by subst e; rw [hob] at hm; cases hm
      exact h.dis n m _ _ b hnm hob hm (by simp only [z0g]; exact hne) hb) hrest hra
     have hdoes:=hI w (γ n) l l' rs ys hx' hrng hstr hrok hgl
     split at he
     ·rename_i d' hret
      obtain ⟨hk,he⟩:=T.get_when he;simp only [T.get,Option.some.injEq,Prod.mk.injEq] at he;obtain ⟨rfl,rfl⟩:=he;have hk:=Nat.le_of_ble_eq_true hk;refine hdoes.mono ?_
      rintro e w' ⟨x,rfl,hgrow,hrng',hr1,_⟩
      obtain ⟨hown,hblk⟩:=hr1 hret;refine ⟨x,rfl,fun m=>if d'=m then x else γ m,?_,?_⟩
      ·refine Rel.new h [n] d' (hd9 d' rfl) (.row true p.e false [.int .i64] l') x (Keep.grown hgrow (fun g hg'=>⟨n,by simp,_,hob,hg'⟩)) (fun b hb=>⟨(hown.lt b hb).2,?_⟩) (fun O' hO hcmp=>?_)
       ·rcases hblk b hb with h1 | h1
        ·exact .inr ⟨n,by simp,_,hob,h1⟩
        ·exact .inl h1
       ·simp only [ObRel]
        exact ⟨by simp,by omega,zio l',OwnRow.of hown he6,fun i y hy=>zmz hrng' i y hy⟩
      ·simp only [St.ups,St.up,VRel,z01,if_true]
       refine ⟨Nat.le_refl _,?_⟩;rcases hown.2 with ⟨h6,h7⟩ | ⟨g,cap',cur,h6,_,_,h8,h9,_⟩
       ·refine ⟨none,0,0,none,h6,?_,Nat.zero_le _,by omega,Nat.le_refl _,by simp [maxLen],.inr rfl,fun _=>rfl⟩
        rw [h6,h7]
       ·refine ⟨some ⟨g,0,none⟩,l'.length,cap',some ⟨g,0,none⟩,h6,by rw [h6]; simp,Nat.zero_le _,Nat.le_refl _,h8,h9,.inl ?_,fun _=>rfl⟩
        simp [Addr.add]
     ·rename_i hret
      obtain ⟨hk,he⟩:=T.get_when he;simp only [T.get,Option.some.injEq,Prod.mk.injEq] at he;obtain ⟨rfl,rfl⟩:=he;have hk:=z1j.1 hk;refine hdoes.mono ?_
      rintro e w' ⟨x,rfl,hgrow,hrng',_,hr2⟩
      have hown:=hr2 hret;refine ⟨x,rfl,γ,?_,by simp only [VRel]⟩
      refine Rel.set h (ob':=.row true p.e false [.int .i64] l') hob ⟨rfl,hk.symm⟩ (Keep.grown hgrow (fun g hg'=>hg')) (fun b hb=>hb) (fun hO hcmp=>?_)
      simp only [ObRel];exact ⟨by simp,by omega,zio l',OwnRow.of hown he6,fun i y hy=>zmz hrng' i y hy⟩
     ·simp [T.get] at he
    ·simp [T.get] at he
   ·simp [T.get] at he
  ·simp [T.get] at he
 ·rename_i rest
  cases xs with
  | nil=>simp only [VRels] at hv
  | cons sv ys=>
  simp only [VRels] at hv;obtain ⟨hs,hrest⟩:=hv;simp only [VRel] at hs;subst hs
  split at he
  ·rename_i rs hra
   split at he
   ·rename_i hgl
    have hrok:=y4t h (v:=.slice none 0 0) (fun m cs b _ _ hne=>by simp [Value.ownBlock] at hne) hrest hra
    have hdoes:=hI w (.slice none 0 0) [] [] rs ys (World.ownsRow_nil w 0 p.e _) (fun x hx=>by cases hx) (by simp) hrok hgl
    split at he
    ·rename_i d' hret
     obtain ⟨hk,he⟩:=T.get_when he;simp only [T.get,Option.some.injEq,Prod.mk.injEq] at he;obtain ⟨rfl,rfl⟩:=he;have he6:p.e < 1000000:=Nat.le_of_ble_eq_true hk;refine hdoes.mono ?_
     rintro e w' ⟨x,rfl,hgrow,hrng',hr1,_⟩
     obtain ⟨hown,hblk⟩:=hr1 hret;refine ⟨x,rfl,fun m=>if d'=m then x else γ m,?_,?_⟩
     ·refine Rel.new h [] d' (hd9 d' rfl) (.row true p.e false [.int .i64] []) x (Keep.grown hgrow (fun g hg'=>by simp [Value.ownBlock] at hg')) (fun b hb=>⟨(hown.lt b hb).2,?_⟩) (fun O' hO hcmp=>?_)
      ·rcases hblk b hb with h1 | h1
       ·simp [Value.ownBlock] at h1
       ·exact .inl h1
      ·simp only [ObRel]
       exact ⟨by simp,by simp,zio [],OwnRow.of hown he6,fun i y hy=>zmz hrng' i y hy⟩
     ·simp only [St.ups,St.up,VRel,z01,if_true]
      refine ⟨Nat.le_refl _,?_⟩;rcases hown.2 with ⟨h6,h7⟩ | ⟨g,cap',cur,h6,_,_,h8,h9,_⟩
      ·refine ⟨none,0,0,none,h6,?_,Nat.zero_le _,by omega,Nat.le_refl _,by simp [maxLen],.inr rfl,fun _=>rfl⟩
       rw [h6]
      ·refine ⟨some ⟨g,0,none⟩,0,cap',some ⟨g,0,none⟩,h6,by rw [h6]; simp,Nat.zero_le _,Nat.le_refl _,Nat.zero_le _,h9,.inl ?_,fun _=>rfl⟩
       simp [Addr.add]
    ·rename_i hret
     simp only [T.get,Option.some.injEq,Prod.mk.injEq] at he;obtain ⟨rfl,rfl⟩:=he;refine hdoes.mono ?_
     rintro e w' ⟨x,rfl,hgrow,_,_,_⟩
     refine ⟨x,rfl,γ,Rel.world h (Keep.grown hgrow (fun g hg'=>by simp [Value.ownBlock] at hg')),by simp only [VRel]⟩
    ·simp [T.get] at he
   ·simp [T.get] at he
  ·simp [T.get] at he
 ·simp [T.get] at he
def SpOK (P:Program) (B:BT) (E:Env) (w0:World) (X:Zone):Prop:=GX B w0 X∧(∀ f sp,lk E.sp f=some sp→Snd P B f (fun vs=>(sp vs).get))∧∀ f p,lk E.ip f=some p→y7e P f p
theorem SpOK.get (h:SpOK P B E w0 X) (f:FuncId):Snd P B f (fun vs=>(lkd (fun _=>R.no) E.sp f vs).get):=by
 rw [zvd];cases hf:lk E.sp f with
 | none=>
  intro w X γ vs xs r out hsp;simp [R.get] at hsp
 | some sp=>exact h.2.1 f sp hf
theorem zpl (h:Rel B nt w0 X γ st a w):∀ l:List Operand,VRels γ st.o w (z07 X γ st.o) (zuj (opd st) l) (l.map a.eval)
 | []=>by simp only [zuj,List.map_nil,VRels]
 | x :: r=>by
  simp only [zuj,List.map_cons,VRels];exact ⟨z1k h x,zpl h r⟩
theorem y4h (o:Oper) {f:FuncId} {xs:List Value} {v:V} {us:List Upd} (hr:(execOp a.eval o).run P w=(callFunc f xs.toArray).run P w)
  (hd:Does P f xs w fun e w'=>∃ x,e = .returned x∧∃ γ',Rel B nt w0 X γ' (st.ups us) a w'∧VRel γ' (st.ups us).o w' (z07 X γ' (st.ups us).o) v x):OpWp P B nt w0 X a w o st v us:=by
 intro K Q hK;unfold Oper.wp;rw [hr];unfold Does at hd
 split at hd
 ·rename_i g args w' hc
  rw [hc,Oper.upon_enter];refine hd.mono ?_
  rintro e w'' ⟨x,rfl,γ',h1,h2⟩
  exact hK γ' x w'' h1 h2
 ·rename_i x w' hc
  rw [hc,Oper.upon_value];obtain ⟨x',he,γ',h1,h2⟩:=hd;cases he;exact hK γ' x w' h1 h2
 ·rename_i row args w' hc
  rw [hc,Oper.upon_row];refine Rows.mono hd ?_
  rintro x w'' ⟨x',he,γ',h1,h2⟩
  cases he;exact hK γ' x w'' h1 h2
 ·exact hd.elim
theorem yf2 (hT:TiOK P B E) (hSp:SpOK P B E w0 X) (h:Rel B nt w0 X γ st a w) (o:Oper) (hd9:∀ d,o.dst=some d→d≠900000) {c:Call} (ho:o.op = .call c) {v:V} {us:List Upd}
  (he:(z49 E st.o (opd st) o.dst o.op).get=some (v,us)):OpWp P B nt w0 X a w o st v us:=by
 obtain ⟨callee,args,ats⟩:=c;cases callee with
 | builtin b=>exact y6e hT h o hd9 ho he
 | invoke recv name=>
  rw [ho] at he;simp only [z49,zlb] at he;simp [T.get] at he
 | value x=>
  rw [ho] at he;obtain ⟨args⟩:=args;have clo:∀ (x:Operand),o.op = .call ⟨.value x,⟨args⟩,ats⟩→∀ d,o.dst=some d→(match opd st x with
    | .clo f caps=>match zr5 caps with
     | true=>y0y st.o d (y5c E ats.toList) (lkd (fun _=>R.no) E.sp f) (zuj (opd st) args++caps)
     | false=>.no
    | _=>.no).get=some (v,us)→OpWp P B nt w0 X a w o st v us:=by
   intro x ho d hd he
   split at he
   ·rename_i f caps hclo
    split at he
    case h_2=>simp [T.get] at he
    have hx:=z1k h x;rw [hclo] at hx;simp only [VRel] at hx;obtain ⟨cs,hx1,hx2⟩:=hx;have hrel:=y00 h hSp.1 (hSp.get f) ((zpl h args).append hx2) (hd9 d hd) he;refine y4h o (xs:=args.map a.eval++cs.toList) ?_ hrel;obtain ⟨dst,op,type,pos,after,guard⟩:=o;simp only at ho;subst ho
    have:execOp a.eval { dst,op:=.call { callee:=.value x,args:=⟨args⟩,argTypes:=ats },type,pos,after,guard }=(do let d ← Deferred.ofValue (a.eval x) ((⟨args⟩:Array Operand).map a.eval); invoke d.target d.args):=rfl
    rw [this,hx1];have hla:(args.map a.eval).toArray++cs=(args.map a.eval++cs.toList).toArray:=by
     apply Array.ext';simp
    simp [Deferred.ofValue,invoke,hla]
   ·simp [T.get] at he
  cases x with
  | func f=>
   simp only [z49,zlb,yed] at he;have hrun:∀ {f:Nat},o.op = .call ⟨.value (.func f),⟨args⟩,ats⟩→(execOp a.eval o).run P w=(callFunc f (args.map a.eval).toArray).run P w:=fun {f} ho=>by
    obtain ⟨dst,op,type,pos,after,guard⟩:=o;simp only at ho;subst ho
    have:execOp a.eval { dst,op:=.call { callee:=.value (.func f),args:=⟨args⟩,argTypes:=ats },type,pos,after,guard }=callFunc f (#[]++(⟨args⟩:Array Operand).map a.eval++#[]):=rfl
    rw [this];simp
   split at he
   ·rename_i p hp
    exact y4h o (xs:=args.map a.eval) (hrun ho) (ygd h (hSp.2.2 f p hp) (zpl h args) hd9 he)
   ·split at he
    ·rename_i d hd
     exact y4h o (xs:=args.map a.eval) (hrun ho) (y00 h hSp.1 (hSp.get f) (zpl h args) (hd9 d hd) he)
    ·simp [T.get] at he
  | tmp t=>
   simp only [z49,zlb] at he;cases hd:o.dst with
   | none=>rw [hd] at he; simp [T.get] at he
   | some d=>rw [hd] at he; exact clo _ ho d hd he
  | const t=>
   simp only [z49,zlb] at he;cases hd:o.dst with
   | none=>rw [hd] at he; simp [T.get] at he
   | some d=>rw [hd] at he; exact clo _ ho d hd he
  | global t=>
   simp only [z49,zlb] at he;cases hd:o.dst with
   | none=>rw [hd] at he; simp [T.get] at he
   | some d=>rw [hd] at he; exact clo _ ho d hd he
theorem y3h (hT:TiOK P B E) (h:Rel B nt w0 X γ st a w) (o:Oper) (hd9:∀ d,o.dst=some d→d≠900000) {s t:Nat} {x:Operand} (ho:o.op = .convert s t x) {v:V} {u:Upd} {us:List Upd}
  (he:(z49 E st.o (opd st) o.dst o.op).get=some (v,u :: us)):OpWp P B nt w0 X a w o st v (u :: us):=by
 have hx:=z1k h x;rw [ho] at he;simp only [z49] at he
 split at he
 ·split at he
  ·simp [T.get] at he
  ·simp [T.get] at he
 ·rename_i b hop
  rw [hop] at hx;simp only [VRel] at hx
  split at he
  ·simp [T.get] at he
  ·rename_i e k1 kss hd hks hkss
   split at he
   ·rename_i d hdst hde hkse
    simp only [T.get,Option.some.injEq,Prod.mk.injEq,List.cons.injEq] at he;obtain ⟨rfl,rfl,rfl⟩:=he;have hu1:=zao hT hd;obtain ⟨d',hd1',_,_⟩:=(hT.kinds (t:=s) (by rw [hkss]; simp)).und
    obtain ⟨d'',hd1'',_,hd2''⟩:=(hT.kinds (t:=e) (by rw [hkse]; simp)).und
    rw [hde] at hd2'';obtain rfl:=hd2''.1 _ hkse;have hrun:(execOp a.eval o).run P w = .ok (.value (.slice (some ⟨w.heap.size,0,none⟩) b.size (grownCap w b.size 0 e))) (Lib.bytesWorld w e b):=by
     unfold execOp;simp only [ho,hx.1,Sem.run_bind,Lib.run_convert_string_bytes w s t e b hd1' hu1 hd1'',Result.andThen_ok,Sem.run_pure]
    have hsm:=zlk;have hcg:=grownCap_ge w b.size 0 e;have hcm:grownCap w b.size 0 e≤maxLen:=grownCap_le_maxLen w b.size 0 e (Nat.le_trans hx.2 hsm);have hcs:(Lib.bytesCells w e b).size=grownCap w b.size 0 e:=by
     have:b.data.size=b.size:=rfl
     simp only [Lib.bytesCells,Array.size_append,Array.size_map,Array.size_replicate,this];omega
    have hkp:Keep (fun _=>False) w (Lib.bytesWorld w e b):=by
     refine ⟨?_,?_,?_,by rw [Lib.bytesWorld_size]; omega,fun j hj _=>Lib.bytesWorld_at_old w e b j hj⟩
     ·simp [Lib.bytesWorld,World.freeze]; rfl
     ·simp [Lib.bytesWorld,World.freeze]
     ·simp [Lib.bytesWorld,World.freeze]; rfl
    have hn:=Rel.new h [] d (hd9 d hdst) (.row true (e+1000000) false [.int .u8] (b.data.toList.map fun b=>.int (b.toNat:Int))) (.slice (some ⟨w.heap.size,0,none⟩) b.size (grownCap w b.size 0 e)) (w':=Lib.bytesWorld w e b) (hkp.mono (fun _ _ h=>h.elim))
     (by
      intro b1 hb;simp only [z0g,Value.ownBlock,Option.some.injEq] at hb;subst hb;rw [Lib.bytesWorld_size];exact ⟨by omega,.inl (Nat.le_refl _)⟩)
     (by
      intro O' hO hcmp;simp only [ObRel];have hln:(b.data.toList.map fun b=>IV.int (b.toNat:Int)).length=b.size:=by simp
      refine ⟨by simp,by rw [hln]; exact hx.2,b.data.toList.map fun b=>.int .u8 b.toNat,?_,fun i y hy=>?_⟩
      ·rw [hln]
       refine ⟨by simp,.inr ⟨w.heap.size,grownCap w b.size 0 e,_,_,_,rfl,Lib.bytesWorld_at_new w e b,hcg,hcm,by rw [hcs]; simp,?_,.inr ⟨by omega,Nat.le_refl _⟩⟩⟩
       simp only [Lib.bytesCells,Array.toList_append,List.length_cons,List.length_nil];rw [List.take_append_of_le_length (by simp)]
       rw [List.take_of_length_le (by simp)]
       simp
      ·rw [List.getElem?_map] at hy
       cases hbi:b.data.toList[i]? with
       | none=>rw [hbi] at hy; cases hy
       | some c=>
        rw [hbi] at hy;simp only [Option.map_some,Option.some.injEq] at hy;subst hy;simp only [Kd.RelAll,z2y,Kd.Rel,IV.toInt,List.length_cons,List.length_nil];refine ⟨⟨.int .u8 c.toNat,by simp [hbi],rfl,?_,?_⟩,trivial⟩
        ·simp [IntKind.min,IntKind.signed]
        ·have:=c.toNat_lt
         simp [IntKind.max,IntKind.signed,IntKind.bits];omega)
    refine OpWp.value hrun hn ?_;simp only [St.ups,VRel,z0a,if_true];refine ⟨by simp,some ⟨w.heap.size,0,none⟩,b.size,grownCap w b.size 0 e,some ⟨w.heap.size,0,none⟩,rfl,by simp,Nat.zero_le _,Nat.le_refl _,hcg,hcm,.inl ?_,fun _=>rfl⟩
    simp [Addr.add]
   ·simp [T.get] at he
  ·simp [T.get] at he
 ·split at he
  ·split at he
   ·simp [T.get] at he
   ·simp [T.get] at he
  ·simp [T.get] at he
def BldOK (P:Program) (B:BT) (E:Env):Prop:=(E.tyd B.T).d = .bld→∃ i,P.info? B.T=some i∧i.zero=some (.agg #[.pointer none,.slice none 0 0])
theorem yd9 (hT:TiOK P B E) (hE:∀ t,t∈E.eqs→EqSnd P t (E.tyd t).ks) (hSp:SpOK P B E w0 X) (hB:BldOK P B E) (h:Rel B nt w0 X γ st a w) (o:Oper) (hd9:∀ d,o.dst=some d→d≠900000) {v:V} {us:List Upd}
  (he:(z49 E st.o (opd st) o.dst o.op).get=some (v,us)):OpWp P B nt w0 X a w o st v us:=by
 cases ho:o.op with
 | move x=>exact y9l h o (.inl ho) he
 | assign x=>exact y9l h o (.inr ho) he
 | pick c x y=>exact yfe h o ho he
 | alloc t=>exact ycn hT h o hd9 ho hB he
 | box t x=>exact yfy h o hd9 ho he
 | build t parts=>exact ybp hT h o ho he
 | buildSlice t len parts=>exact zxl hT h o hd9 ho he
 | load t x=>exact yel hT h o ho he
 | store t p x=>exact ycx hT h o ho he
 | nilCheck x=>exact y3f h o ho he
 | binOp op t x y t'=>exact ygs hT hE h o ho he
 | unOp op t x=>exact yhe h o ho he
 | convert s t x=>
  cases us with
  | nil=>exact y7h hT h o ho he
  | cons u us=>exact y3h hT h o hd9 ho he
 | makeFunc f first caps=>exact y2k h o ho he
 | makeSlice t n m=>exact zzw hT h o hd9 ho he
 | slice t x lo hi mx=>exact ycd hT h o ho he
 | fieldAddr s x f=>exact y0u hT h o ho he
 | field t x f=>exact ycr hT h o ho he
 | indexAddr t x ix=>exact zzd hT h o ho he
 | index t x ix=>exact ybd hT h o ho he
 | extract x i=>exact y70 h o ho he
 | call c=>exact yf2 hT hSp h o hd9 ho he
 | _=>rw [ho] at he; simp [z49,T.get] at he
end
open Go Go.RowKit
theorem zlt:∀ {l:List V} {n:Nat},n∈z35 l→n∈z9f.go l
 | v :: r,n,h=>by
  simp only [z35,List.mem_append] at h;rcases h with h | h
  ·cases v <;> simp only [z7r] at h <;> first | (cases h; done) | (simp only [z9f.go,List.mem_append]; exact .inl h)
  ·cases v <;> simp only [z9f.go,List.mem_append] <;> exact .inr (zlt h)
def Agree (o o':Store) (l:List Nat):Prop:=∀ n∈l,z03 o' n=z03 o n
theorem Agree.left {o o':Store} {l l':List Nat} (h:Agree o o' (l++l')):Agree o o' l:=fun n hn=>h n (List.mem_append_left _ hn)
theorem Agree.right {o o':Store} {l l':List Nat} (h:Agree o o' (l++l')):Agree o o' l':=fun n hn=>h n (List.mem_append_right _ hn)
theorem zo0 {o o':Store} {v:V} (h:Agree o o' (z7r v)):zaj o' v=zaj o v:=by
 cases v <;> simp only [zaj]
 all_goals rw [h _ (by simp [z7r])]
theorem zpn {o o':Store} {v:V} (h:Agree o o' (z7r v)):okV o' v=okV o v:=by
 cases v <;> simp only [okV] <;> exact zo0 h
theorem zjb {o o':Store}:∀ {l:List V},Agree o o' (z35 l)→zx5 o' l=zx5 o l
 | [],_=>rfl
 | v :: r,h=>by simp only [zx5,zo0 h.left,zjb (l:=r) h.right]
theorem zkk {o o':Store} {v:V} (h:Agree o o' (z7r v)):zfd o' v=zfd o v:=by
 cases v <;> simp only [zfd]
 rw [h _ (by simp [z7r])]
theorem zla {o o':Store} {v:V} (h:Agree o o' (z7r v)):zc6 o' v=zc6 o v:=by
 cases v <;> simp only [zc6]
 rw [h _ (by simp [z7r])]
theorem zzx {o o':Store} {k:Kd} {v:V} (h:Agree o o' (z7r v)):zin o' k v=zin o k v:=by
 cases k <;> cases v <;> simp only [zin]
 rw [h _ (by simp [z7r])]
theorem z7i {o o':Store}:∀ {ks:List Kd} {l:List V},Agree o o' (z35 l)→z3m o' ks l=z3m o ks l
 | [],[],_=>rfl
 | [],_ :: _,_=>rfl
 | _ :: _,[],_=>rfl
 | k :: ks,v :: r,h=>by simp only [z3m,zzx h.left,z7i (l:=r) h.right]
theorem z77 {v:V} {n:Nat} (h:n∈z7r v):n∈z9f v:=by
 cases v <;> simp only [z7r] at h <;> first | exact h | cases h
theorem y1d {o o':Store} {ag:Bool} {ks:List Kd} {v:V} (h:Agree o o' (z9f v)):zgf o' ag ks v=zgf o ag ks v:=by
 cases ag with
 | false=>
  simp only [zgf];rw [z7i (o:=o) (o':=o') (fun n hn=>h n (z77 (by simpa [z35] using hn)))]
 | true=>
  cases v <;> simp only [zgf]
  rw [z7i h]
theorem znr:∀ (a b:List V),z35 (a++b)=z35 a++z35 b
 | [],b=>rfl
 | v :: r,b=>by simp [z35,znr r b]
theorem y1k {l:List V} {v:V} {n:Nat} (hv:v∈l) (hn:n∈z7r v):n∈z35 l:=by
 induction l with
 | nil=>cases hv
 | cons u r ih=>
  simp only [z35,List.mem_append];rcases List.mem_cons.1 hv with h | h
  ·subst h; exact .inl hn
  ·exact .inr (ih h)
theorem zs7 {l l':List V} (h:∀ v∈l,v∈l') {n:Nat} (hn:n∈z35 l):n∈z35 l':=by
 induction l with
 | nil=>simp [z35] at hn
 | cons u r ih=>
  simp only [z35,List.mem_append] at hn;rcases hn with hn | hn
  ·exact y1k (h u (List.mem_cons_self ..)) hn
  ·exact ih (fun v hv=>h v (List.mem_cons_of_mem _ hv)) hn
theorem zee {o o':Store} {ag:Bool} {ks:List Kd} {sz:Nat}:∀ {n:Nat} {cs:List V},Agree o o' (z35 cs)→zka ag ks o' cs sz n=zka ag ks o cs sz n
 | 0,cs,_=>rfl
 | n+1,cs,h=>by
  simp only [zka];rw [zee (n:=n) (cs:=zjt cs sz) (fun m hm=>h m (by rw [z9u] at hm; exact zs7 (fun v hv=>List.mem_of_mem_drop hv) hm))]
  cases ag with
  | true=>
   rw [y1d];intro m hm;simp only [z9f,zfg] at hm;exact h m (zs7 (fun v hv=>List.mem_of_mem_take hv) hm)
  | false=>
   simp only [zgf];rw [z7i (o:=o) (o':=o')];intro m hm;rw [zqz] at hm;cases hc:cs[0]? with
   | none=>rw [hc] at hm; simp [z35,z7r] at hm
   | some u=>
    rw [hc] at hm;simp only [Option.getD_some,z35,List.append_nil] at hm;exact h m (y1k (List.mem_of_getElem? hc) hm)
theorem z84 {l:List V} {n:Nat} (h:n∈z15 l):n∈z35 l:=by
 induction l with
 | nil=>simp [z15] at h
 | cons v r ih=>
  simp only [z35,List.mem_append];cases v <;> simp only [z15,List.mem_cons] at h <;> first | exact .inr (ih h) | skip
  rcases h with h | h
  ·exact .inl (by simp [z7r,h])
  ·exact .inr (ih h)
theorem z8s {o o':Store}:∀ {l:List Nat},Agree o o' l→z0f o' l=z0f o l
 | [],_=>rfl
 | n :: r,h=>by
  simp only [z0f];rw [h n (List.mem_cons_self ..),z8s (l:=r) (fun m hm=>h m (List.mem_cons_of_mem _ hm))]
theorem zjg {o o':Store} {place:Nat→Option (Nat × Nat)}:∀ {cs:List V} {l:List (Nat × V)},(∀ i v,(i,v)∈l→Agree o o' (z9f v))→zig o' place cs l=zig o place cs l
 | cs,[],_=>rfl
 | cs,(i,v) :: r,h=>by
  simp only [zig];have h1:okV o' v=okV o v:=zpn (fun n hn=>h i v (List.mem_cons_self ..) n (z77 hn))
  rw [h1]
  split
  ·split
   ·exact zjg (fun i v hv=>h i v (List.mem_cons_of_mem _ hv))
   ·rfl
  ·rfl
theorem zbk {o o':Store} {d e:Nat} {ag:Bool} {ks:List Kd} {bytes:Nat} {s:V} {l:List IV} (h:Agree o o' (z7r s)):zb1 o' d e ag ks bytes s l=zb1 o d e ag ks bytes s l:=by
 cases s <;> simp only [zb1]
 rw [h _ (by simp [z7r])]
theorem zf3 {o:Store} {n m:Nat} {cs:List V}:∀ {l:List Nat},n∈l→z03 o n=some (.box cs)→m∈z35 cs→m∈zyd o l
 | x :: r,hn,ho,hm=>by
  simp only [zyd];rcases List.mem_cons.1 hn with h | h
  ·subst h
   rw [ho];exact List.mem_append_left _ hm
  ·have:=zf3 h ho hm
   split
   ·exact List.mem_append_right _ this
   ·exact this
theorem zvs {o o':Store} {d et:Nat} {e:TI} {tk:List Kd} {s x:V} (h:Agree o o' (z7r s)):zmv o' d et e tk s x=zmv o d et e tk s x:=by
 unfold zmv;simp only [zbk h]
theorem zxi {o o':Store} {d et:Nat} {e:TI} {s x:V} (h:Agree o o' (z7r s)) (h':Agree o o' (z7r x++zyd o (z7r x))):zjf o' d et e s x=zjf o d et e s x:=by
 have gen:(match zfd o' x,zc6 o' x with
   | some l,some (ag,ks)=>match zsl (.list e.agg e.ks) (.list ag ks) with
    | true=>zb1 o' d et e.agg e.ks e.bytes s l
    | false=>.no
   | _,_=>.no)=(match zfd o x,zc6 o x with
   | some l,some (ag,ks)=>match zsl (.list e.agg e.ks) (.list ag ks) with
    | true=>zb1 o d et e.agg e.ks e.bytes s l
    | false=>.no
   | _,_=>.no):=by
  simp only [zkk h'.left,zla h'.left,zbk h]
 cases x
 case bview n c cap sz len=>
  simp only [zjf];rw [h' n (by simp [z7r])]
  split
  ·rename_i cs ho
   simp only [zbk h]
   split
   ·congr 1
    funext m
    rw [zee (o:=o) (o':=o')];intro k hk;rw [z9u] at hk;exact h' k (List.mem_append_right _ (zf3 (by simp [z7r]) ho (zs7 (fun v hv=>List.mem_of_mem_drop hv) hk)))
   ·rfl
  ·rfl
 case zs=>simp only [zjf,zbk h]
 all_goals exact gen
theorem zhx {o o':Store} {bs:List V} {tk:Option Kd} {v:V} (h:Agree o o' (z7r v)):z7s o' bs tk v=z7s o bs tk v:=by
 cases v <;> simp only [z7s]
 all_goals rw [h _ (by simp [z7r])]
theorem zmy {o o':Store} {bs:List V}:∀ {l:List V} {ks:List Kd},Agree o o' (z35 l)→y27 (fun k v=>zdw (z7s o' bs k v)) ks l=y27 (fun k v=>zdw (z7s o bs k v)) ks l
 | [],ks,_=>by cases ks <;> rfl
 | v :: l,[],h=>by simp only [y27,zhx h.left,zmy (l:=l) h.right]
 | v :: l,k :: ks,h=>by simp only [y27,zhx h.left,zmy (l:=l) h.right]
theorem zj3 {o o':Store} {bs:List V} {tk:Option Kd}:∀ {l:List V},Agree o o' (z35 l)→l.map (z7s o' bs tk)=l.map (z7s o bs tk)
 | [],_=>rfl
 | v :: l,h=>by simp only [List.map_cons,zhx h.left,zj3 (l:=l) h.right]
theorem zuu {o o':Store} {bs:List V} {ks:List Kd} {v:V} (h:Agree o o' (z9f v)):y28 o' bs ks v=y28 o bs ks v:=by
 by_cases ha:∃ l,v = .agg l
 ·obtain ⟨l,rfl⟩:=ha
  simp only [y28,zmy (o:=o) (o':=o') h]
 by_cases hc:∃ f l,v = .clo f l
 ·obtain ⟨f,l,rfl⟩:=hc
  simp only [y28,zj3 (o:=o) (o':=o') (l:=l) (fun n hn=>h n (zlt hn))]
 have h1:∀ o,y28 o bs ks v=z7s o bs ks.head? v:=by
  intro o;cases v <;> first | rfl | exact absurd ⟨_,rfl⟩ ha | exact absurd ⟨_,_,rfl⟩ hc
 rw [h1,h1];exact zhx (fun n hn=>h n (z77 hn))
theorem zj5 {o o':Store} {bs:List V}:∀ {l:List V} {tks:List (List Kd)},Agree o o' (z3r l)→z56 o' bs tks l=z56 o bs tks l
 | [],tks,_=>by cases tks <;> rfl
 | v :: l,[],h=>by simp only [z56,zuu h.left,zj5 (l:=l) h.right]
 | v :: l,t :: ts,h=>by simp only [z56,zuu h.left,zj5 (l:=l) h.right]
theorem y2g {o o':Store} {all:List Nat} {v:V} (h:Agree o o' (z7r v)):z3a o' all v=z3a o all v:=by
 cases v <;> simp only [z3a]
 rw [h _ (by simp [z7r])]
theorem zgl {o o':Store} {all:List Nat}:∀ {l:List V},Agree o o' (z35 l)→l.map (z3a o' all)=l.map (z3a o all)
 | [],_=>rfl
 | v :: l,h=>by simp only [List.map_cons,y2g h.left,zgl (l:=l) h.right]
theorem zog {o o':Store} {all:List Nat}:∀ {l:List V},Agree o o' (z35 l)→z3i o' all l=z3i o all l
 | [],_=>rfl
 | v :: l,h=>by
  have ih:=zog (all:=all) (l:=l) h.right;cases v <;> simp only [z3i,ih]
  rw [h.left _ (by simp [z7r])]
theorem zok {o o':Store} {all:List Nat}:∀ {l:List V},Agree o o' (z35 l)→z4s o' all l=z4s o all l
 | [],_=>rfl
 | v :: l,h=>by
  have ih:=zok (all:=all) (l:=l) h.right;cases v <;> simp only [z4s,ih]
  rw [h.left _ (by simp [z7r])]
theorem y6i {v:V} {n:Nat} (h:n∈zg6 v):n∈z9f v:=by
 cases v <;> simp only [zg6] at h <;> try (cases h; done)
 case row=>simpa [z9f,z7r] using h
 case agg=>exact z84 h
 case clo=>exact zlt (z84 h)
 case tup l=>
  simp only [z9f]
  induction l with
  | nil=>simp [zg6.go] at h
  | cons v r ih=>
   cases v <;> simp only [zg6.go,z9f.go,List.mem_cons,List.mem_append] at h ⊢ <;> first | exact .inr (ih h) | skip
   ·rcases h with h | h
    ·exact .inl (by simp [z7r,h])
    ·exact .inr (ih h)
   ·rcases h with h | h
    ·exact .inl (z84 h)
    ·exact .inr (ih h)
theorem zjx:∀ {l:List V} {n:Nat},n∈z13 l→n∈z3r l
 | v :: l,n,h=>by
  simp only [z13,z3r,List.mem_append] at h ⊢
  exact h.imp y6i zjx
theorem zgw:∀ {l:List V} {n:Nat},n∈zck l→n∈z3r l
 | v :: l,n,h=>by
  simp only [z3r,List.mem_append];cases v <;> simp only [zck,List.mem_cons,List.mem_append] at h <;> first | exact .inr (zgw h) | skip
  ·rcases h with h | h
   ·exact .inl (by simp [z9f,z7r,h])
   ·exact .inr (zgw h)
  ·rename_i f caps
   rcases h with h | h
   ·refine .inl ?_
    simp only [z9f];refine zlt ?_;clear zgw
    induction caps with
    | nil=>simp [zck.lentC] at h
    | cons v r ih=>
     simp only [z35,List.mem_append];cases v <;> simp only [zck.lentC,List.mem_cons] at h <;> first | exact .inr (ih h) | skip
     rcases h with h | h
     ·exact .inl (by simp [z7r,h])
     ·exact .inr (ih h)
   ·exact .inr (zgw h)
theorem zs3 {o o':Store} {d:Nat} {tks:List (List Kd)} {sp:z0u} {vs:List V} (h:Agree o o' (z3r vs++zyd o (z3r vs))):y0y o' d tks sp vs=y0y o d tks sp vs:=by
 have hA:∀ bs,z56 o' bs tks vs=z56 o bs tks vs:=fun bs=>zj5 h.left
 have hF:∀ l,(∀ n∈l,n∈z3r vs++zyd o (z3r vs))→z0f o' l=z0f o l:=fun l hl=>z8s (fun n hn=>h n (hl n hn))
 have hFv:z0f o' (z13 vs)=z0f o (z13 vs):=hF _ (fun n hn=>List.mem_append_left _ (zjx hn))
 have hF0:z0f o' []=z0f o []:=rfl;have hPl:zkz o' d vs=zkz o d vs:=by
  funext v out
  unfold zkz
  split
  ·split
   ·rename_i cs
    cases znu cs <;> simp only [hFv,hF0]
   ·simp only [hFv]
   ·cases z3b v <;> simp only [hFv,hF0]
  ·rfl
 unfold y0y;simp only [hA,hPl]
 split
 ·rfl
 ·rename_i n hl
  have hn:n∈z3r vs:=zgw (by rw [hl]; exact List.mem_cons_self ..)
  rw [h n (List.mem_append_left _ hn)]
  split
  ·rename_i cs ho
   have hcs:Agree o o' (z35 cs):=fun m hm=>h m (List.mem_append_right _ (zf3 hn ho hm))
   have hsh:∀ m∈z4s o (z15 cs++z13 vs) cs,m∈z3r vs++zyd o (z3r vs):=by
    intro m hm;obtain ⟨lo,hi,_,_,_,_,_,h1,_⟩:=zhq hm;exact List.mem_append_right _ (zf3 hn ho (z84 (z9l h1)))
   have hBx:y1n o' d n cs vs=y1n o d n cs vs:=by
    funext v outs
    unfold y1n;rw [zog hcs,zok hcs]
    split
    ·rename_i out
     have h1:z0f o' (z4s o (z15 cs++z13 vs) cs++z13 vs)=z0f o (z4s o (z15 cs++z13 vs) cs++z13 vs):=hF _ (fun m hm=>(List.mem_append.1 hm).elim (hsh m) (fun hm=>List.mem_append_left _ (zjx hm)))
     have h2:z0f o' (z4s o (z15 cs++z13 vs) cs++[])=z0f o (z4s o (z15 cs++z13 vs) cs++[]):=hF _ (fun m hm=>hsh m (by simpa using hm))
     cases (z3b v||znu out) <;> simp only [h1,h2]
    ·rfl
   rw [zgl hcs,hBx]
  ·have hBd:y1t o' n vs=y1t o n vs:=by
    funext v outs
    unfold y1t
    split
    ·cases z3b v <;> simp only [hFv,hF0]
    ·rfl
   rw [hBd]
  ·rfl
 ·rfl
theorem zo5 {o o':Store} {l:List V} (h:Agree o o' (z3r l)):zr1 o' l=zr1 o l:=by
 unfold zr1
 split
 ·rfl
 ·rename_i f m i c
  rw [h m (by simp [z3r,z9f,z9f.go,z7r])]
 ·rfl
theorem y8n {o o':Store} {d:Option Nat} {p:Ip} {vs:List V} (h:Agree o o' (z3r vs)):ipT o' d p vs=ipT o d p vs:=by
 unfold ipT
 split
 ·rename_i n lo hi rest
  rw [h n (by simp [z3r,z9f,z7r]),zo5 (fun k hk=>h k (by simp only [z3r,List.mem_append]; exact .inr hk))]
 ·rename_i rest
  rw [zo5 (fun k hk=>h k (by simp only [z3r,List.mem_append]; exact .inr hk))]
 ·rfl
theorem zrn:∀ (cs:List V) (n:Nat) (vs:List V) {m:Nat},m∈z35 (zi4 cs n vs)→m∈z35 cs∨m∈z35 vs
 | cs,n,[],m,h=>by cases cs <;> cases n <;> exact .inl h
 | [],n,v :: vs,m,h=>by cases n <;> simp [zi4,z35] at h
 | c :: r,0,v :: vs,m,h=>by
  simp only [zi4,z35,List.mem_append] at h ⊢
  rcases h with h | h
  ·exact .inr (.inl h)
  ·rcases zrn r 0 vs h with h | h
   ·exact .inl (.inr h)
   ·exact .inr (.inr h)
 | c :: r,n+1,v :: vs,m,h=>by
  simp only [zi4,z35,List.mem_append] at h ⊢
  rcases h with h | h
  ·exact .inl (.inl h)
  ·rcases zrn r n (v :: vs) h with h | h
   ·exact .inl (.inr h)
   ·exact .inr (by simpa [z35] using h)
theorem zva {v:V} {m:Nat} (h:m∈z35 (cells v)):m∈z9f v:=by
 by_cases ha:∃ l,v = .agg l
 ·obtain ⟨l,rfl⟩:=ha
  exact h
 ·have:cells v=[v]:=by cases v <;> first | rfl | exact absurd ⟨_,rfl⟩ ha
  rw [this] at h;exact z77 (by simpa [z35] using h)
theorem zbq {l:List V} {v:V} {n:Nat} (hv:v∈l) (hn:n∈z9f v):n∈z3r l:=by
 induction l with
 | nil=>cases hv
 | cons u r ih=>
  simp only [z3r,List.mem_append];rcases List.mem_cons.1 hv with h | h
  ·subst h; exact .inl hn
  ·exact .inr (ih h)
theorem zun {o:Store} {place:Nat→Option (Nat × Nat)}:∀ {l:List (Nat × V)} {cs cs':List V},zig o place cs l=some cs'→∀ m∈z35 cs',m∈z35 cs∨∃ i v,(i,v)∈l∧m∈z9f v
 | [],cs,cs',h,m,hm=>by
  simp only [zig,Option.some.injEq] at h;subst h;exact .inl hm
 | (i,v) :: r,cs,cs',h,m,hm=>by
  simp only [zig] at h
  split at h
  ·split at h
   ·rcases zun h m hm with h1 | ⟨j,u,h1,h2⟩
    ·rcases zrn _ _ _ h1 with h2 | h2
     ·exact .inl h2
     ·exact .inr ⟨i,v,List.mem_cons_self ..,zva h2⟩
    ·exact .inr ⟨j,u,List.mem_cons_of_mem _ h1,h2⟩
   ·cases h
  ·cases h
theorem zo8 {z:List V}:∀ {n m:Nat},m∈z35 (zby z n)→m∈z35 z
 | 0,m,h=>by simp [zby,z35] at h
 | n+1,m,h=>by
  simp only [zby,znr,List.mem_append] at h;exact h.elim id (zo8 (n:=n))
theorem zn8 (ρ:Operand→V):∀ {l:List (Nat × Operand)} {i:Nat} {v:V},(i,v)∈za9 ρ l→v∈(l.map (·.2)).map ρ
 | (j,x) :: r,i,v,h=>by
  simp only [za9,List.mem_cons,Prod.mk.injEq] at h;simp only [List.map_cons,List.mem_cons];rcases h with ⟨_,rfl⟩ | h
  ·exact .inl rfl
  ·exact .inr (zn8 ρ h)
theorem zuc:∀ {l:List V} {n:Nat},n∈z3r l→∃ v∈l,n∈z9f v
 | v :: r,n,h=>by
  simp only [z3r,List.mem_append] at h;rcases h with h | h
  ·exact ⟨v,List.mem_cons_self ..,h⟩
  ·obtain ⟨u,h1,h2⟩:=zuc h
   exact ⟨u,List.mem_cons_of_mem _ h1,h2⟩
theorem zx0 {o:Store} {m:Nat}:∀ {l:List Nat},m∈zyd o l→∃ n∈l,∃ cs,z03 o n=some (.box cs)∧m∈z35 cs
 | n :: r,h=>by
  simp only [zyd] at h
  split at h
  ·rename_i cs ho
   rcases List.mem_append.1 h with h | h
   ·exact ⟨n,List.mem_cons_self ..,cs,ho,h⟩
   ·obtain ⟨k,h1,h2⟩:=zx0 h
    exact ⟨k,List.mem_cons_of_mem _ h1,h2⟩
  ·obtain ⟨k,h1,h2⟩:=zx0 h
   exact ⟨k,List.mem_cons_of_mem _ h1,h2⟩
theorem y5n {o:Store} {l l':List Nat} (hs:∀ k∈l,k∈l') {n:Nat} (h:n∈zyd o l):n∈zyd o l':=by
 obtain ⟨k,h1,cs,h2,h3⟩:=zx0 h;exact zf3 (hs k h1) h2 h3
theorem y9h {v:V} {n:Nat}:∀ {l:List V},zr5 l=true→v∈l→n∈z9f v→n∈z9f.go l
 | u :: r,hok,hv,hn=>by
  rcases List.mem_cons.1 hv with h | h
  ·subst h
   cases v <;> simp only [zr5] at hok <;> first | (cases hok; done) | (simp only [z9f,z7r] at hn; simp only [z9f.go,z7r,List.mem_append]; first | exact .inl hn | (cases hn; done))
  ·have hr:zr5 r=true:=by cases u <;> simp only [zr5] at hok <;> first | exact hok | (cases hok; done)
   have:=y9h hr h hn
   cases u <;> simp only [z9f.go,List.mem_append] <;> exact .inr this
theorem zve {E:Env} {o o':Store} {ρ:Operand→V} {d:Option Nat} {op:Op} (h:Agree o o' (reads E o ρ op)):z49 E o' ρ d op=z49 E o ρ d op:=by
 cases hq:ygi op with
 | true=>cases op <;> first | rfl | cases hq
 | false=>
 unfold reads at h;rw [hq] at h;replace h:Agree o o' (y5y E o ρ op):=h;unfold y5y at h;have hz:=h.left.right;have hd:=h.right;have hv:=h.left.left;clear h;have one:∀ {x:Operand} {n:Nat},x∈op.operands.toList→n∈z9f (ρ x)→z03 o' n=z03 o n:=fun hx hn=>hv _ (zbq (List.mem_map_of_mem hx) hn)
 have two:∀ {x:Operand} {n:Nat} {cs:List V},x∈op.operands.toList→n∈z9f (ρ x)→z03 o n=some (.box cs)→Agree o o' (z35 cs):=fun hx hn ho m hm=>hd _ (zf3 (zbq (List.mem_map_of_mem hx) hn) ho hm)
 cases op
 case box t x=>
  simp only [z49];rw [zpn (fun n hn=>one (x:=x) (by simp [Op.operands]) (z77 hn))]
 case build t parts=>
  have hp:∀ i v,(i,v)∈za9 ρ parts.toList→Agree o o' (z9f v):=fun i v hm n hn=>hv _ (zbq (by have:=zn8 ρ hm; simpa [Op.operands] using this) hn)
  simp only [z49,zjg hp]
 case buildSlice t len parts=>
  have hp:∀ i v,(i,v)∈za9 ρ parts.toList→Agree o o' (z9f v):=fun i v hm n hn=>hv _ (zbq (by have:=zn8 ρ hm; simpa [Op.operands] using this) hn)
  simp only [z49]
  split
  ·rename_i d e hd1
   simp only [zy2,hd1] at hz;rw [zjg hp]
   split
   ·rename_i cs hf
    have hcs:Agree o o' (z35 cs):=by
     intro m hm;rcases zun hf m hm with h1 | ⟨i,v,h1,h2⟩
     ·exact hz m (zo8 h1)
     ·exact hp i v h1 m h2
    rw [zee hcs,z8s (fun m hm=>hcs m (z84 hm))]
   ·rfl
  ·rfl
 case load t x=>
  simp only [z49]
  split
  ·rename_i n i c hx
   rw [one (x:=x) (by simp [Op.operands]) (by rw [hx]; simp [z9f,z7r])]
  ·rfl
  ·rfl
 case nilCheck x=>
  simp only [z49]
  split
  ·rename_i n i c hx
   rw [one (x:=x) (by simp [Op.operands]) (by rw [hx]; simp [z9f,z7r])]
  ·rfl
 case fieldAddr s x f=>
  simp only [z49]
  split
  ·split
   ·split
    ·rename_i n i c hx
     rw [one (x:=x) (by simp [Op.operands]) (by rw [hx]; simp [z9f,z7r])]
    ·rfl
    ·rfl
   ·rfl
  ·rfl
 case binOp op t x y t'=>
  simp only [z49];unfold yh3
  split <;> try rfl
  rename_i n i c hx hy;rw [one (x:=x) (by simp [Op.operands]) (by rw [hx]; simp [z9f,z7r])]
 case convert s t x=>
  simp only [z49]
  split <;> try rfl
  rw [zkk (fun n hn=>one (x:=x) (by simp [Op.operands]) (z77 hn)),zla (fun n hn=>one (x:=x) (by simp [Op.operands]) (z77 hn))]
 case slice t x lo hi mx=>
  simp only [z49]
  split <;> try rfl
  ·rename_i n a b hx
   rw [one (x:=x) (by simp [Op.operands]) (by rw [hx]; simp [z9f,z7r])]
  ·rename_i n a c hx
   rw [one (x:=x) (by simp [Op.operands]) (by rw [hx]; simp [z9f,z7r])]
 case indexAddr t x ix=>
  simp only [z49]
  split
  ·split
   ·rfl
   ·rename_i n lo hi hx
    rw [one (x:=x) (by simp [Op.operands]) (by rw [hx]; simp [z9f,z7r])]
   ·rename_i n c cap sz len hx
    rw [one (x:=x) (by simp [Op.operands]) (by rw [hx]; simp [z9f,z7r])]
   ·rfl
  ·split
   ·rename_i n i0 c hx
    rw [one (x:=x) (by simp [Op.operands]) (by rw [hx]; simp [z9f,z7r])]
   ·rfl
   ·rfl
  ·rfl
 case store t p x=>
  simp only [z49];have hx:Agree o o' (z9f (ρ x)):=fun n hn=>one (x:=x) (by simp [Op.operands]) hn
  have hc:Agree o o' (z35 (cells (ρ x))):=fun n hn=>hx n (zva hn)
  unfold zgh
  split
  ·rename_i n i c hp
   rw [one (x:=p) (by simp [Op.operands]) (by rw [hp]; simp [z9f,z7r]),zpn (fun n hn=>hx n (z77 hn)),zjb hc,z8s (fun m hm=>hc m (z84 hm))]
   simp only [z7i hc]
  ·rfl
 case makeSlice t n m=>
  simp only [z49]
  split
  ·rename_i d e k1 n1 k2 m1 hd1 _ _
   simp only [zy2,hd1] at hz;rw [zee hz]
   split
   ·rw [z8s (fun m hm=>hz m (z84 hm))]
   ·rfl
  ·rfl
 case call c=>
  obtain ⟨callee,args,ats⟩:=c;simp only [z49,zlb];have hmem:∀ {x:Operand},x∈args.toList→x∈(Op.call ⟨callee,args,ats⟩).operands.toList:=fun {x} hx=>by
   simp only [Op.operands,Call.operands,Array.toList_append,List.mem_append];exact .inr hx
  have harg:∀ {x:Operand},x∈args.toList→Agree o o' (z9f (ρ x)):=fun {x} hx n hn=>one (x:=x) (hmem hx) hn
  have hdp:∀ {x:Operand},x∈args.toList→Agree o o' (z7r (ρ x)++zyd o (z7r (ρ x))):=fun {x} hx n hn=>by
   rcases List.mem_append.1 hn with hn | hn
   ·exact harg hx n (z77 hn)
   ·refine hd n (y5n (fun k hk=>zbq (List.mem_map_of_mem (hmem hx)) (z77 hk)) hn)
  have hsub:∀ (l:List V),(∀ v∈l,∃ y∈(Op.call ⟨callee,args,ats⟩).operands.toList,∀ n∈z9f v,n∈z9f (ρ y))→Agree o o' (z3r l++zyd o (z3r l)):=by
   intro l hl n hn;have h1:∀ k∈z3r l,k∈z3r ((Op.call ⟨callee,args,ats⟩).operands.toList.map ρ):=by
    intro k hk;obtain ⟨v,hv1,hv2⟩:=zuc hk;obtain ⟨y,hy1,hy2⟩:=hl v hv1;exact zbq (List.mem_map_of_mem hy1) (hy2 k hv2)
   rcases List.mem_append.1 hn with hn | hn
   ·exact hv n (h1 n hn)
   ·exact hd n (y5n h1 hn)
  split
  ·split
   ·rename_i x t hx _
    have hxm:x∈args.toList:=by rw [hx]; simp
    have:=hdp hxm
    unfold yh9
    split <;> try rfl
    ·rename_i n lo hi hr
     rw [this.left n (by rw [hr]; simp [z7r])]
    ·rename_i n c cap sz len hr
     rw [this.left n (by rw [hr]; simp [z7r])]
   ·rfl
  ·split
   ·rename_i s x t t' hx _
    have hsm:s∈args.toList:=by rw [hx]; simp
    have hxm:x∈args.toList:=by rw [hx]; simp
    simp only [zxi (hdp hsm).left (hdp hxm),zvs (hdp hsm).left]
   ·rfl
  ·split
   ·rename_i x y t t' hx _
    have hxm:x∈args.toList:=by rw [hx]; simp
    have hym:y∈args.toList:=by rw [hx]; simp
    unfold ybe
    split
    ·rename_i n c cap sz len n' c' cap' sz' len' h1 h2
     rw [(hdp hxm).left n (by rw [h1]; simp [z7r]),(hdp hym).left n' (by rw [h2]; simp [z7r])]
     split
     ·rename_i cs cs' e ho ho' hde
      rw [zjb (o:=o) (o':=o') (l:=cs') (fun m hm=>(hdp hym).right m (zf3 (by rw [h2]; simp [z7r]) ho' hm))]
     ·rfl
    ·rfl
   ·rfl
  ·rfl
  ·rfl
  ·rename_i f d hcal
   have hs:=hsub (args.toList.map ρ) (fun v hv=>by
    obtain ⟨y,hy,rfl⟩:=List.mem_map.1 hv;exact ⟨y,hmem hy,fun n hn=>hn⟩)
   unfold yed;rw [zrp]
   split
   ·rw [y8n hs.left]
   ·split
    ·rw [zs3 hs]
    ·rfl
  ·split
   ·rename_i f caps hx
    split
    ·rename_i hok
     rw [zrp,zs3 (hsub _ (fun v hv=>by
      rcases List.mem_append.1 hv with hv | hv
      ·obtain ⟨y,hy,rfl⟩:=List.mem_map.1 hv
       exact ⟨y,hmem hy,fun n hn=>hn⟩
      ·refine ⟨_,by simp only [Op.operands,Call.operands,Array.toList_append,List.mem_append]; exact .inl (List.mem_cons_self ..),fun n hn=>?_⟩
       rw [hx];simp only [z9f];exact y9h hok hv hn))]
    ·rfl
   ·rfl
  ·rfl
 case makeFunc f a b=>cases f <;> rfl
 all_goals rfl
open Go Go.RowKit
theorem zh7 {ρ ρ':Operand→V}:∀ {l:List (Nat × Operand)},(∀ x∈l.map (·.2),ρ x=ρ' x)→za9 ρ l=za9 ρ' l
 | [],_=>rfl
 | (i,x) :: r,h=>by
  simp only [za9,h x (by simp),zh7 (l:=r) (fun y hy=>h y (List.mem_cons_of_mem _ hy))]
theorem znc {ρ ρ':Operand→V}:∀ {l:List Operand},(∀ x∈l,ρ x=ρ' x)→zuj ρ l=zuj ρ' l
 | [],_=>rfl
 | x :: r,h=>by simp only [zuj,h x (List.mem_cons_self ..),znc (l:=r) (fun y hy=>h y (List.mem_cons_of_mem _ hy))]
theorem zob {ρ ρ':Operand→V} {x:Option Operand} (h:∀ y∈x.toArray.toList,ρ y=ρ' y):x.map ρ=x.map ρ':=by
 cases x with
 | none=>rfl
 | some x=>simp only [Option.map_some,h x (by simp)]
theorem y7b {E:Env} {o:Store} {ρ ρ':Operand→V} {d:Option Nat} {op:Op} (h:∀ x∈op.operands.toList,ρ x=ρ' x):z49 E o ρ d op=z49 E o ρ' d op:=by
 cases op
 case build t ps=>simp only [z49,zh7 (l:=ps.toList) (fun x hx=>h x (by simpa [Op.operands] using hx))]
 case buildSlice t n ps=>simp only [z49,zh7 (l:=ps.toList) (fun x hx=>h x (by simpa [Op.operands] using hx))]
 case makeFunc f first caps=>
  cases f <;> simp only [z49]
  rw [znc (l:=caps.toList) (fun x hx=>h x (by simp only [Op.operands,Array.toList_append,List.mem_append]; exact .inr hx))]
 case slice t x lo hi mx=>
  have h1:ρ x=ρ' x:=h x (by simp [Op.operands])
  have h2:lo.map ρ=lo.map ρ':=zob (fun y hy=>h y (by simp only [Op.operands,Array.toList_append,List.mem_append]; exact .inl (.inl (.inr hy))))
  have h3:hi.map ρ=hi.map ρ':=zob (fun y hy=>h y (by simp only [Op.operands,Array.toList_append,List.mem_append]; exact .inl (.inr hy)))
  simp only [z49,h1,h2,h3]
 case call c=>
  obtain ⟨callee,args,ats⟩:=c;have ha:∀ x∈args.toList,ρ x=ρ' x:=fun x hx=>h x (by simp only [Op.operands,Call.operands,Array.toList_append,List.mem_append]; exact .inr hx)
  have hm:zuj ρ args.toList=zuj ρ' args.toList:=znc ha;simp only [z49,zlb]
  split
  ·split
   ·rename_i x t hx _
    rw [ha x (by rw [hx]; simp)]
   ·rfl
  ·split
   ·rename_i s x t t' hx _
    rw [ha s (by rw [hx]; simp),ha x (by rw [hx]; simp)]
   ·rfl
  ·split
   ·rename_i x y t t' hx _
    rw [ha x (by rw [hx]; simp),ha y (by rw [hx]; simp)]
   ·rfl
  ·simp only [hm]
  ·simp only [hm]
  ·simp only [hm]
  ·rename_i x _ _
   have hxx:ρ x=ρ' x:=h x (by simp [Op.operands,Call.operands])
   simp only [hm,hxx]
  ·rfl
 all_goals first
  | rfl
  | (simp only [Op.operands] at h; simp only [z49]; simp (config:={decide:=false}) only [List.mem_cons,List.not_mem_nil,or_false,forall_eq_or_imp,forall_eq] at h; simp only [h])
structure SEq (s s':St):Prop where
 t:∀ i,s.get i=s'.get i
 o:∀ n,z03 s.o n=z03 s'.o n
theorem SEq.refl (s:St):SEq s s:=⟨fun _=>rfl,fun _=>rfl⟩
theorem SEq.symm {s s':St} (h:SEq s s'):SEq s' s:=⟨fun i=>(h.t i).symm,fun n=>(h.o n).symm⟩
theorem SEq.trans {a b c:St} (h:SEq a b) (k:SEq b c):SEq a c:=⟨fun i=>(h.t i).trans (k.t i),fun n=>(h.o n).trans (k.o n)⟩
theorem SEq.opd {s s':St} (h:SEq s s'):opd s=opd s':=by
 funext x
 cases x <;> simp only [FM.opd,h.t]
theorem SEq.put {s s':St} (h:SEq s s') (d:Option Nat) (v:V):SEq (s.put d v) (s'.put d v):=by
 cases d with
 | none=>exact h
 | some d=>exact ⟨fun i=>by simp only [St.put,St.get,za2]; split <;> first | rfl | exact h.t i,h.o⟩
theorem ye2 (s:St) (d:Nat) (v:V) (i:Nat):(s.put (some d) v).get i=if d=i then v else s.get i:=by simp only [St.put,St.get,za2]
theorem SEq.up {s s':St} (h:SEq s s') (u:Upd):SEq (s.up u) (s'.up u):=by
 cases u with
 | new n ob=>exact ⟨fun i=>by rw [zds,zds,h.t],fun m=>by rw [z0a,z0a,h.o]⟩
 | set n ob=>exact ⟨h.t,fun m=>by simp only [St.up,z01,h.o]⟩
 | kill n=>exact ⟨h.t,fun m=>by simp only [St.up,z01,h.o]⟩
theorem SEq.ups:∀ {us:List Upd} {s s':St},SEq s s'→SEq (s.ups us) (s'.ups us)
 | [],_,_,h=>h
 | u :: r,_,_,h=>SEq.ups (us:=r) (h.up u)
theorem SEq.lit {s:St} {j:Nat} {b:Bool} (h:s.get j = .bool b):SEq s (y5m s j b):=
 ⟨fun i=>by
  simp only [y5m,St.get,za2]
  split
  ·rename_i e; subst e; exact h
  ·rfl,fun _=>rfl⟩
theorem zhw:∀ {us:List Upd} {o o':Store},(∀ n,z03 o n=z03 o' n)→∀ n,z03 (ztf us o) n=z03 (ztf us o') n
 | [],_,_,h=>h
 | .set m ob :: r,o,o',h=>zhw (us:=r) (fun n=>by rw [z01,z01,h])
 | .new m ob :: r,o,o',h=>zhw (us:=r) (fun n=>by rw [z01,z01,h])
 | .kill m :: r,o,o',h=>zhw (us:=r) (fun n=>by rw [z01,z01,h])
theorem zdg:∀ {us:List Upd} {o:Store} {n:Nat},n ∉ z69 us→z03 (ztf us o) n=z03 o n
 | [],_,_,_=>rfl
 | .set m ob :: r,o,n,h=>by
  simp only [z69,List.mem_cons,not_or] at h;rw [ztf,zdg h.2,z01,if_neg (fun e=>h.1 e.symm)]
 | .new m ob :: r,o,n,h=>by
  simp only [z69,List.mem_cons,not_or] at h;rw [ztf,zdg h.2,z01,if_neg (fun e=>h.1 e.symm)]
 | .kill m :: r,o,n,h=>by
  simp only [z69,List.mem_cons,not_or] at h;rw [ztf,zdg h.2,z01,if_neg (fun e=>h.1 e.symm)]
theorem y3u:∀ {us:List Upd} {o o':Store} {n:Nat},n∈z69 us→z03 (ztf us o) n=z03 (ztf us o') n
 | [],_,_,_,h=>by simp [z69] at h
 | u :: r,o,o',n,h=>by
  by_cases hr:n∈z69 r
  ·cases u <;> simp only [ztf] <;> exact y3u hr
  ·cases u <;> simp only [z69,List.mem_cons,hr,or_false] at h <;> subst h <;> simp only [ztf] <;> rw [zdg hr,zdg hr,z01,z01,if_pos rfl,if_pos rfl]
theorem SEq.apD {s s':St} (h:SEq s s') (x:Dn):SEq (apD s x) (apD s' x):=⟨(h.put x.dst x.v).t,zhw h.o⟩
theorem SEq.apDs:∀ {l:List Dn} {s s':St},SEq s s'→SEq (apDs s l) (apDs s' l)
 | [],_,_,h=>h
 | x :: r,_,_,h=>SEq.apDs (l:=r) (h.apD x)
theorem zje:∀ (l l':List Dn) (s:St),apDs s (l++l')=apDs (apDs s l) l'
 | [],_,_=>rfl
 | x :: r,l',s=>zje r l' (apD s x)
theorem yas {n:Nat} {v:V} (hc:zv7 v=true) (hn:n ∉ z7r v):z2d.leaf n v=v:=by
 cases v <;> simp only [zv7] at hc <;> first | (cases hc; done) | rfl | skip
 ·simp only [z7r,List.mem_singleton] at hn
  simp only [z2d.leaf,z3l.2 (fun e=>hn e.symm)]
 ·simp only [z7r,List.mem_singleton] at hn
  simp only [z2d.leaf,z3l.2 (fun e=>hn e.symm)]
theorem zlj {n:Nat}:∀ {l:List V},zn7 l=true→n ∉ z35 l→l.map (z2d.leaf n)=l
 | [],_,_=>rfl
 | v :: r,hc,hn=>by
  simp only [zn7] at hc
  split at hc
  ·rename_i h1
   simp only [z35,List.mem_append,not_or] at hn;simp only [List.map_cons,yas h1 hn.1,zlj hc hn.2]
  ·cases hc
theorem znh {n:Nat}:∀ {l:List V},zhd.go l=true→n ∉ z9f.go l→l.map (z2d.leaf2 n)=l
 | [],_,_=>rfl
 | v :: r,hc,hn=>by
  by_cases ha:∃ l,v = .agg l
  ·obtain ⟨l,rfl⟩:=ha
   simp only [zhd.go] at hc
   split at hc
   ·rename_i h1
    simp only [z9f.go,List.mem_append,not_or] at hn;simp only [List.map_cons,z2d.leaf2,zlj h1 hn.1,znh hc hn.2]
   ·cases hc
  ·have h0:z2d.leaf2 n v=z2d.leaf n v:=by cases v <;> first | rfl | exact absurd ⟨_,rfl⟩ ha
   have h1:zv7 v=true∧zhd.go r=true:=by
    cases v <;> simp only [zhd.go,zv7] at hc ⊢ <;> first | (simp at hc; done) | (simpa using hc) | (cases hc; done) | exact absurd ⟨_,rfl⟩ ha
   have h2:n ∉ z7r v∧n ∉ z9f.go r:=by
    cases v <;> simp only [z9f.go,List.mem_append,not_or] at hn <;> first | exact hn | exact absurd ⟨_,rfl⟩ ha
   simp only [List.map_cons,h0,yas h1.1 h2.1,znh h1.2 h2.2]
theorem y4v {n:Nat} {v:V} (hc:zhd v=true) (hn:n ∉ z9f v):z2d n v=v:=by
 cases v <;> simp only [zhd] at hc <;> first | rfl | skip
 case row a b c=>simp only [z9f,z7r,List.mem_singleton] at hn; simp only [z2d,z3l.2 (fun e=>hn e.symm)]
 case ptr a b c=>simp only [z9f,z7r,List.mem_singleton] at hn; simp only [z2d,z3l.2 (fun e=>hn e.symm)]
 case bview a b c d e=>simp only [z9f,z7r,List.mem_singleton] at hn; simp only [z2d,z3l.2 (fun e=>hn e.symm)]
 case agg l=>simp only [z2d,zlj hc hn]
 case tup l=>simp only [z2d,znh hc hn]
 case clo f l=>
  have:n ∉ z35 l:=fun h=>hn (zlt h)
  simp only [z2d,zlj hc this]
theorem zyo {n:Nat}:∀ {l:List V},zxh l=true→n ∉ z3r l→l.map (z2d n)=l
 | [],_,_=>rfl
 | v :: r,hc,hn=>by
  simp only [zxh] at hc
  split at hc
  ·rename_i h1
   simp only [z3r,List.mem_append,not_or] at hn;simp only [List.map_cons,y4v h1 hn.1,zyo hc hn.2]
  ·cases hc
theorem zlg {n:Nat} {ob:Ob} (hc:y3r ob=true) (hn:n ∉ y0h ob):z4h n (some ob)=some ob:=by
 cases ob with
 | box cs=>simp only [z4h,zyo hc hn]
 | row _ _ _ _ _=>rfl
 | bld _=>rfl
theorem y5a {p:Nat→Bool} {n:Nat} (hp:p n=true) (v:V):z2d.leaf n (z2x.leaf p v)=z2x.leaf p v:=by
 cases v <;> simp only [z2x.leaf] <;> first | rfl | skip
 all_goals
  rename_i m _ _;cases hm:p m with
  | true=>rfl
  | false=>
   simp only [z2d.leaf];rw [z3l.2 (fun e=>by subst e; rw [hp] at hm; cases hm)]
theorem zht {p:Nat→Bool} {n:Nat} (hp:p n=true):∀ (l:List V),(z2x.go p l).map (z2d.leaf n)=z2x.go p l
 | []=>rfl
 | v :: r=>by simp only [z2x.go,List.map_cons,y5a hp,zht hp r]
theorem y99 {p:Nat→Bool} {n:Nat} (hp:p n=true) (v:V):z2d.leaf2 n (z2x.leaf2 p v)=z2x.leaf2 p v:=by
 by_cases ha:∃ l,v = .agg l
 ·obtain ⟨l,rfl⟩:=ha
  simp only [z2x.leaf2,z2d.leaf2,zht hp]
 ·have h0:z2x.leaf2 p v=z2x.leaf p v:=by cases v <;> first | rfl | exact absurd ⟨_,rfl⟩ ha
  rw [h0]
  have:=y5a hp v
  cases hx:z2x.leaf p v <;> rw [hx] at this <;> first | exact this | skip
  exfalso;cases v <;> simp only [z2x.leaf] at hx <;> try (cases hx; done)
  all_goals (split at hx <;> cases hx)
theorem zqo {p:Nat→Bool} {n:Nat} (hp:p n=true):∀ (l:List V),(z2x.go2 p l).map (z2d.leaf2 n)=z2x.go2 p l
 | []=>rfl
 | v :: r=>by simp only [z2x.go2,List.map_cons,y99 hp,zqo hp r]
theorem zyl {p:Nat→Bool} {n:Nat} (hp:p n=true) (v:V):z2d n (z2x p v)=z2x p v:=by
 have key:∀ m,p m=false→Nat.beq m n=false:=fun m hm=>z3l.2 (fun e=>by subst e; rw [hp] at hm; cases hm)
 cases v <;> simp only [z2x] <;> try rfl
 case row m _ _=>cases hm:p m <;> simp only [z2d,key m,hm]
 case ptr m _ _=>cases hm:p m <;> simp only [z2d,key m,hm]
 case bview m _ _ _ _=>cases hm:p m <;> simp only [z2d,key m,hm]
 case agg l=>simp only [z2d,zht hp]
 case tup l=>simp only [z2d,zqo hp]
 case clo f l=>simp only [z2d,zht hp]
theorem zxz (f:V→V):∀ l,z72.mapV f l=l.map f
 | []=>rfl
 | v :: r=>by simp only [z72.mapV,List.map_cons,zxz f r]
theorem y76 {p:Nat→Bool} {n:Nat} (hp:p n=true) (x:Option Ob):z4h n (z72 p x)=z72 p x:=by
 match x with
 | none=>rfl
 | some (.row _ _ _ _ _)=>rfl
 | some (.bld _)=>rfl
 | some (.box cs)=>
  simp only [z72,z4h,zxz,List.map_map]
  congr 2
  exact List.map_congr_left (fun v _=>zyl hp v)
structure Fr (n:Nat) (s:St):Prop where
 t:∀ i,z2d n (s.get i)=s.get i
 o:∀ m,z4h n (z03 s.o m)=z03 s.o m
theorem Fr.congr {n:Nat} {s s':St} (h:Fr n s) (e:SEq s s'):Fr n s':=⟨fun i=>by rw [← e.t]; exact h.t i,fun m=>by rw [← e.o]; exact h.o m⟩
theorem zlv {n:Nat} {l:List Nat}:zxj n l=false↔n ∉ l:=by
 rw [← zl1]; simp
theorem zhy:∀ {l l':List Nat},ybr l l'=true↔∀ n∈l,n ∉ l'
 | [],l'=>by simp [ybr]
 | m :: r,l'=>by
  simp only [ybr];cases hb:zxj m l' with
  | true=>simp [zl1.1 hb]
  | false=>simp [zlv.1 hb,zhy (l:=r)]
theorem zwv:∀ {us:List Upd} {s:St},(∀ n∈zp7 us,Fr n s)→y84 us=true→SEq (s.ups us) ⟨s.t,ztf us s.o⟩
 | [],s,_,_=>SEq.refl s
 | .kill m :: r,s,hf,ho=>by
  simp only [St.ups,ztf];exact zwv (us:=r) (s:=s.up (.kill m)) (fun n hn=>⟨(hf n hn).t,fun k=>by
   simp only [St.up,z01]
   split
   ·rfl
   ·exact (hf n hn).o k⟩) ho
 | .set m ob :: r,s,hf,ho=>by
  simp only [y84,Bool.and_eq_true] at ho;simp only [St.ups,ztf];exact zwv (us:=r) (s:=s.up (.set m ob)) (fun n hn=>⟨(hf n hn).t,fun k=>by
   simp only [St.up,z01]
   split
   ·exact zlg ho.1 (zhy.1 ho.2.1 n hn)
   ·exact (hf n hn).o k⟩) ho.2.2
 | .new m ob :: r,s,hf,ho=>by
  simp only [y84,Bool.and_eq_true] at ho;simp only [St.ups,ztf];have hm:Fr m s:=hf m (by simp [zp7])
  have e:SEq (s.up (.new m ob)) (s.up (.set m ob)):=⟨fun i=>by rw [zds,hm.t]; rfl,fun k=>by rw [z0a,hm.o]; simp only [St.up,z01]⟩
  refine (e.ups (us:=r)).trans ?_;exact zwv (us:=r) (s:=s.up (.set m ob)) (fun n hn=>⟨(hf n (by simp [zp7,hn])).t,fun k=>by
   simp only [St.up,z01]
   split
   ·exact zlg ho.1 (zhy.1 ho.2.1 n hn)
   ·exact (hf n (by simp [zp7,hn])).o k⟩) ho.2.2
open Go Go.RowKit
def CmpP (p:Nat→Bool) (γ:Nat→Value) (o:Store) (γ':Nat→Value) (o':Store):Prop:=
 ∀ n ob',p n=false→z03 o' n=some ob'→γ' n=γ n∧∃ ob,z03 o n=some ob∧ob.fits ob'
section
variable {γ γ':Nat→Value} {o o':Store} {w:World} {O:Nat→Prop} {p:Nat→Bool}
theorem CmpP.but (hc:CmpP p γ o γ' o') {n:Nat} (hn:p n=false) {v:V} (hv:v = .any∨(∃ lo hi,v = .row n lo hi)∨(∃ i c,v = .ptr n i c)∨∃ c cap sz len,v = .bview n c cap sz len) {x:Value} (h:VRel γ o w O v x):VRel γ' o' w O v x:=by
 let f:Nat→Value:=fun m=>if m=n then γ' n else γ m
 rcases hv with rfl | ⟨lo,hi,rfl⟩ | ⟨i,c,rfl⟩ | ⟨c,cap,sz,len,rfl⟩
 ·simp only [VRel]
 ·simp only [VRel] at h ⊢
  cases h':z03 o' n with
  | none=>trivial
  | some ob'=>
   obtain ⟨hg,ob,ho,hf⟩:=hc n ob' hn h';rw [ho] at h;rw [hg];cases ob <;> cases ob' <;> simp only [Ob.fits] at hf <;> try trivial
   obtain ⟨rfl,hl⟩:=hf;exact ⟨by rw [← hl]; exact h.1,h.2⟩
 ·simp only [VRel] at h ⊢
  cases h':z03 o' n with
  | none=>trivial
  | some ob'=>
   obtain ⟨hg,ob,ho,hf⟩:=hc n ob' hn h';rw [ho] at h;rw [hg];cases ob <;> cases ob' <;> simp only [Ob.fits] at hf
   ·exact h
   ·obtain ⟨rfl,hl⟩:=hf
    exact ⟨by rw [← hl]; exact h.1,h.2⟩
   ·exact h
 ·simp only [VRel] at h ⊢
  cases h':z03 o' n with
  | none=>trivial
  | some ob'=>
   obtain ⟨hg,ob,ho,hf⟩:=hc n ob' hn h';rw [ho] at h;rw [hg];cases ob <;> cases ob' <;> simp only [Ob.fits] at hf <;> try trivial
   exact ⟨h.1,h.2.1,by rw [← hf]; exact h.2.2.1,h.2.2.2⟩
theorem y1o (hc:CmpP p γ o γ' o') {v:V} {x:Value} (h:VRel γ o w O v x):VRel γ' o' w O (z2x.leaf p v) x:=by
 cases v <;> simp only [z2x.leaf]
 case row n lo hi=>
  cases hb:p n with
  | true=>simp only [VRel]
  | false=>exact hc.but hb (.inr (.inl ⟨_,_,rfl⟩)) h
 case ptr n i c=>
  cases hb:p n with
  | true=>simp only [VRel]
  | false=>exact hc.but hb (.inr (.inr (.inl ⟨_,_,rfl⟩))) h
 all_goals first
  | (simp only [VRel] at h ⊢; exact h)
  | simp only [VRel]
theorem zew (hc:CmpP p γ o γ' o'):∀ {l:List V} {xs:List Value},VRels γ o w O l xs→VRels γ' o' w O (z2x.go p l) xs
 | [],[],_=>by simp only [z2x.go,VRels]
 | [],_ :: _,h=>by simp only [VRels] at h
 | _ :: _,[],h=>by simp only [VRels] at h
 | v :: vs,x :: xs,h=>by
  simp only [VRels,z2x.go] at h ⊢
  exact ⟨y1o hc h.1,zew hc h.2⟩
theorem y6b (hc:CmpP p γ o γ' o') {v:V} {x:Value} (h:VRel γ o w O v x):VRel γ' o' w O (z2x.leaf2 p v) x:=by
 cases v <;> simp only [z2x.leaf2] <;> try exact y1o hc h
 simp only [VRel] at h ⊢
 obtain ⟨cs,hx,hr⟩:=h;exact ⟨cs,hx,zew hc hr⟩
theorem zo6 (hc:CmpP p γ o γ' o'):∀ {l:List V} {xs:List Value},VRels γ o w O l xs→VRels γ' o' w O (z2x.go2 p l) xs
 | [],[],_=>by simp only [z2x.go2,VRels]
 | [],_ :: _,h=>by simp only [VRels] at h
 | _ :: _,[],h=>by simp only [VRels] at h
 | v :: vs,x :: xs,h=>by
  simp only [VRels,z2x.go2] at h ⊢
  exact ⟨y6b hc h.1,zo6 hc h.2⟩
theorem zui (hc:CmpP p γ o γ' o') {v:V} {x:Value} (h:VRel γ o w O v x):VRel γ' o' w O (z2x p v) x:=by
 cases v <;> simp only [z2x]
 case row n lo hi=>
  cases hb:p n with
  | true=>simp only [VRel]
  | false=>exact hc.but hb (.inr (.inl ⟨_,_,rfl⟩)) h
 case ptr n i c=>
  cases hb:p n with
  | true=>simp only [VRel]
  | false=>exact hc.but hb (.inr (.inr (.inl ⟨_,_,rfl⟩))) h
 case bview n c cap sz len=>
  cases hb:p n with
  | true=>simp only [VRel]
  | false=>exact hc.but hb (.inr (.inr (.inr ⟨_,_,_,_,rfl⟩))) h
 case agg l=>
  simp only [VRel] at h ⊢
  obtain ⟨cs,hx,hr⟩:=h;exact ⟨cs,hx,zew hc hr⟩
 case tup l=>
  simp only [VRel] at h ⊢
  obtain ⟨cs,hx,hr⟩:=h;exact ⟨cs,hx,zo6 hc hr⟩
 case clo f l=>
  simp only [VRel] at h ⊢
  obtain ⟨cs,hx,hr⟩:=h;exact ⟨cs,hx,zew hc hr⟩
 all_goals (simp only [VRel] at h ⊢; try exact h)
theorem zpo (hc:CmpP p γ o γ' o'):∀ {l:List V} {xs:List Value},VRels γ o w O l xs→VRels γ' o' w O (l.map (z2x p)) xs
 | [],[],_=>by simp only [List.map_nil,VRels]
 | [],_ :: _,h=>by simp only [VRels] at h
 | _ :: _,[],h=>by simp only [VRels] at h
 | v :: vs,x :: xs,h=>by
  simp only [VRels,List.map_cons] at h ⊢
  exact ⟨zui hc h.1,zpo hc h.2⟩
end
theorem zm8 (p:Nat→Bool):∀ (o:Store) (n:Nat),z03 (zuk p o) n=match p n with | true=>none | false=>z72 p (z03 o n)
 | [],n=>by simp only [zuk,z03,lkd]; cases p n <;> rfl
 | (m,x) :: r,n=>by
  simp only [zuk]
  by_cases e:m=n
  ·subst e
   cases hp:p m <;> simp only [z01,if_true]
  ·cases hp:p m <;> simp only [z01,if_neg e,zm8 p r n]
theorem y1q {p:Nat→Bool} {x:Option Ob} {ob:Ob} (h:z72 p x=some ob):∃ ob0,x=some ob0∧z72 p (some ob0)=some ob:=by
 cases x with
 | none=>simp [z72] at h
 | some ob0=>exact ⟨ob0,rfl,h⟩
theorem zar {p:Nat→Bool} {ob0 ob:Ob} (h:z72 p (some ob0)=some ob):ob0.fits ob∧∀ g b,z0g g ob b↔z0g g ob0 b:=by
 cases ob0 <;> simp only [z72,Option.some.injEq] at h <;> subst h
 ·exact ⟨by simp [Ob.fits,zxz],fun _ _=>Iff.rfl⟩
 ·exact ⟨⟨rfl,rfl⟩,fun _ _=>Iff.rfl⟩
 ·exact ⟨trivial,fun _ _=>Iff.rfl⟩
section
variable {B:BT} {nt:Nat} {w0:World} {X:Zone} {γ:Nat→Value} {st st':St} {a:Act} {w:World} {P:Program} {E:Env}
theorem Rel.less (h:Rel B nt w0 X γ st a w) {st':St} (ht:∀ i,st'.get i=st.get i∨st'.get i = .any) (ho:∀ n ob,z03 st'.o n=some ob→z03 st.o n=some ob):Rel B nt w0 X γ st' a w:=by
 have hP:∀ b,z1f γ st'.o b→z1f γ st.o b:=fun b ⟨n,ob,h1,h2⟩=>⟨n,ob,ho n ob h1,h2⟩
 have hO:∀ b,b < w.heap.size→z07 X γ st'.o b→z07 X γ st.o b:=fun b _ hb=>hb.imp_left (hP b)
 have hc:Cmp γ st.o γ st'.o:=fun n ob hn=>⟨rfl,ob,ho n ob hn,ob.fits_refl⟩
 refine ⟨h.sz,h.df,fun i=>?_,fun n ob hn=>(h.ob n ob (ho n ob hn)).later (fun _ _=>rfl) (Keep.refl _ w) hO hc,fun b hb=>h.lt b (hP b hb),fun n m ob ob' b hne h1 h2=>h.dis n m ob ob' b hne (ho n ob h1) (ho m ob' h2),h.keep,fun b hb=>h.nr b (hP b hb),h.fl,fun p hp ob h1=>h.pn p hp ob (ho _ ob h1)⟩
 rcases ht i with h1 | h1
 ·rw [h1]
  exact VRel.mono (Keep.refl _ w) hO (VRel.cmp hc (h.tm i))
 ·rw [h1]
  simp only [VRel]
theorem Rel.lit (h:Rel B nt w0 X γ st a w) {i:Nat} {v:V} (hv:st.get i=v):Rel B nt w0 X γ ⟨(i,v) :: st.t,st.o⟩ a w:=by
 refine h.less (fun j=>?_) (fun _ _ h=>h)
 simp only [St.get,za2]
 by_cases e:i=j
 ·subst e
  simp only [if_true];exact .inl hv.symm
 ·simp only [if_neg e]
  exact .inl trivial
theorem zkg:∀ (ops:List Oper) (j d:Nat),zoo ops j=some d→(ops[j]?).bind (·.dst)=some d
 | [],j,d,h=>by simp [zoo] at h
 | o :: r,0,d,h=>by simpa [zoo] using h
 | o :: r,j+1,d,h=>by simpa [zoo] using zkg r j d (by simpa [zoo] using h)
theorem y56 (h:Rel B nt w0 X γ st a w) {i:Nat} {c:Bool} (hv:st.get i = .bool c):a.tmps[i]?=some (.bool c):=by
 have:=h.tm i
 rw [hv] at this;simp only [VRel,Array.getD_eq_getD_getElem?] at this;cases ht:a.tmps[i]? with
 | none=>rw [ht] at this; simp [undef] at this
 | some u=>rw [ht] at this; simp only [Option.getD_some] at this; rw [this]
theorem y1x (h:Rel B nt w0 X γ st a w) {i:Nat} (hv:st.get i = .tup []):a.tmps[i]?=none∨a.tmps[i]?=some (.tuple #[]):=by
 have:=h.tm i
 rw [hv] at this;simp only [VRel,Array.getD_eq_getD_getElem?] at this;obtain ⟨cs,h1,h2⟩:=this;cases hl:cs.toList with
 | nil=>
  have e:cs = #[]:=by simpa using hl
  rw [e] at h1;cases ht:a.tmps[i]? with
  | none=>exact .inl rfl
  | some u=>rw [ht] at h1; simp only [Option.getD_some] at h1; rw [h1]; exact .inr rfl
 | cons x l=>rw [hl] at h2; simp only [VRels] at h2
theorem Rel.clear (h:Rel B nt w0 X γ st a w) (ds:List Nat):Rel B nt w0 X γ (zco ds st) a w:=by
 have hget:∀ n ob,z03 (zco ds st).o n=some ob→zop ds n=false∧∃ ob0,z03 st.o n=some ob0∧z72 (zop ds) (some ob0)=some ob:=by
  intro n ob hn;simp only [zco,zm8] at hn
  split at hn
  ·cases hn
  ·rename_i hp
   exact ⟨hp,y1q hn⟩
 have hP:∀ b,z1f γ (zco ds st).o b→z1f γ st.o b:=by
  rintro b ⟨n,ob,h1,h2⟩
  obtain ⟨_,ob0,h3,h4⟩:=hget n ob h1;exact ⟨n,ob0,h3,((zar h4).2 _ _).1 h2⟩
 have hO:∀ b,b < w.heap.size→z07 X γ (zco ds st).o b→z07 X γ st.o b:=fun b _ hb=>hb.imp_left (hP b)
 have hc:CmpP (zop ds) γ st.o γ (zco ds st).o:=by
  intro n ob' _ hn;obtain ⟨_,ob0,h3,h4⟩:=hget n ob' hn;exact ⟨rfl,ob0,h3,(zar h4).1⟩
 refine ⟨h.sz,h.df,fun i=>?_,fun n ob hn=>?_,fun b hb=>h.lt b (hP b hb),fun n m ob ob' b hne h1 h2 hb1 hb2=>?_,h.keep,fun b hb=>h.nr b (hP b hb),h.fl,fun p hp ob h1=>?_⟩
 ·have:(zco ds st).get i=z2x (zop ds) (st.get i):=by
   simp only [zco,St.get];exact zdq _ _ rfl _ _
  rw [this];exact VRel.mono (Keep.refl _ w) hO (zui hc (h.tm i))
 ·obtain ⟨_,ob0,h3,h4⟩:=hget n ob hn
  have hor:=h.ob n ob0 h3;cases ob0 with
  | box l=>
   simp only [z72,Option.some.injEq] at h4;subst h4;simp only [ObRel] at hor ⊢
   obtain ⟨b,c,T,hg,hh,hr⟩:=hor;rw [zxz];exact ⟨b,c,T,hg,hh,VRels.mono (Keep.refl _ w) hO (zpo hc hr)⟩
  | row own e ag ks l=>
   simp only [z72,Option.some.injEq] at h4;subst h4;exact hor.later (fun _ _=>rfl) (Keep.refl _ w) hO (fun m ob1 hm=>by
    obtain ⟨_,ob0,h5,h6⟩:=hget m ob1 hm;exact ⟨rfl,ob0,h5,(zar h6).1⟩)
  | bld s=>
   simp only [z72,Option.some.injEq] at h4;subst h4
   simpa only [ObRel] using hor
 ·obtain ⟨_,ob0,h3,h4⟩:=hget n ob h1
  obtain ⟨_,ob1,h5,h6⟩:=hget m ob' h2;exact h.dis n m ob0 ob1 b hne h3 h5 (((zar h4).2 _ _).1 hb1) (((zar h6).2 _ _).1 hb2)
 ·obtain ⟨_,ob0,h3,_⟩:=hget _ ob h1
  exact h.pn p hp ob0 h3
theorem Rel.seq (h:Rel B nt w0 X γ st a w) (e:SEq st st'):Rel B nt w0 X γ st' a w:=
 h.less (fun i=>.inl (e.t i).symm) (fun n ob hn=>by rw [e.o]; exact hn)
end
theorem ybk {ds:List Nat} {n:Nat} (hn:zop ds n=true) (s:St):Fr n (zco ds s):=by
 refine ⟨fun i=>?_,fun m=>?_⟩
 ·have:(zco ds s).get i=z2x (zop ds) (s.get i):=by
   simp only [zco,St.get];exact zdq _ _ rfl _ _
  rw [this];exact zyl hn _
 ·simp only [zco,zm8]
  split
  ·rfl
  ·exact y76 hn _
def StepOK (E:Env) (all:List Oper) (o:Oper) (s:St) (D:Dn):Prop:=
 zrz E o.dst=true∧D.dst=o.dst∧D.tm=zid all o ∧
 match o.guard with
 | none=>(z49 E s.o (opd s) o.dst o.op).get=some (D.v,D.us)∧D.rd=reads E s.o (opd s) o.op
 | some (j,b)=>(∃ dj c,zoo all j=some dj∧s.get dj = .bool c ∧
  ((c=b∧(z49 E s.o (opd s) o.dst o.op).get=some (D.v,D.us)∧D.rd=reads E s.o (opd s) o.op)∨(c≠b∧D.v = .tup []∧D.us=[]))) ∨
  (∃ dj,zoo all j=some dj∧s.get dj = .tup []∧D.v = .tup []∧D.us=[])
def Steps (E:Env) (all:List Oper):List Oper→St→List Dn→Prop
 | [],_,[]=>True
 | o :: r,s,D :: Ds=>StepOK E all o s D∧Steps E all r (apD s D) Ds
 | _,_,_=>False
theorem StepOK.congr {E:Env} {all:List Oper} {o:Oper} {s s':St} {D:Dn} (h:StepOK E all o s D) (e:SEq s s'):StepOK E all o s' D:=by
 have hag:∀ (ρ:Operand→V) d op,z49 E s'.o ρ d op=z49 E s.o ρ d op:=fun ρ d op=>zve (fun n _=>(e.o n).symm)
 have hdp:∀ l,zyd s'.o l=zyd s.o l:=by
  intro l
  induction l with
  | nil=>rfl
  | cons n r ih=>simp only [zyd,ih,e.o]
 have hrd:∀ (ρ:Operand→V) op,reads E s'.o ρ op=reads E s.o ρ op:=fun ρ op=>by unfold reads y5y; rw [hdp]
 unfold StepOK at h ⊢
 refine ⟨h.1,h.2.1,h.2.2.1,?_⟩;have h3:=h.2.2.2;rw [← e.opd];simp only [hag,hrd]
 split at h3
 ·exact h3
 ·rcases h3 with ⟨dj,c,h4,h5,h6⟩ | ⟨dj,h4,h5,h6⟩
  ·exact .inl ⟨dj,c,h4,by rw [← e.t]; exact h5,h6⟩
  ·exact .inr ⟨dj,h4,by rw [← e.t]; exact h5,h6⟩
theorem Steps.congr {E:Env} {all:List Oper}:∀ {l:List Oper} {s s':St} {Ds:List Dn},Steps E all l s Ds→SEq s s'→Steps E all l s' Ds
 | [],_,_,[],_,_=>trivial
 | [],_,_,_ :: _,h,_=>by simp [Steps] at h
 | _ :: _,_,_,[],h,_=>by simp [Steps] at h
 | o :: r,s,s',D :: Ds,h,e=>by
  simp only [Steps] at h ⊢
  exact ⟨h.1.congr e,Steps.congr h.2 (e.apD D)⟩
theorem y1i {E:Env} {all:List Oper} {res:V × List (List V)}:∀ (l:List Oper) {s:St} {acc:List Dn} {k:List Dn→St→Res},evD E all l s acc k=some res →
  ∃ Ds s',Steps E all l s Ds∧SEq s' (apDs s Ds)∧k (Ds.reverse++acc) s'=some res
 | [],s,acc,k,h=>⟨[],s,trivial,SEq.refl s,by simpa [evD] using h⟩
 | o :: r,s,acc,k,h=>by
  simp only [evD] at h;have hd:zrz E o.dst=true:=by
   cases hd:zrz E o.dst with
   | true=>rfl
   | false=>rw [hd] at h; cases h
  rw [hd] at h;simp only at h;have fin:∀ (s1:St) (D:Dn),SEq s s1→StepOK E all o s1 D→evD E all r (apD s1 D) (D :: acc) k=some res →
    ∃ Ds s',Steps E all (o :: r) s Ds∧SEq s' (apDs s Ds)∧k (Ds.reverse++acc) s'=some res:=by
   intro s1 D e hs he;obtain ⟨Ds,s',h1,h2,h3⟩:=y1i r he;refine ⟨D :: Ds,s',⟨hs.congr e.symm,h1.congr (e.symm.apD D)⟩,h2.trans ((e.symm.apD D).apDs),?_⟩
   simpa using h3
  split at h
  ·rename_i hg
   obtain ⟨v,us,h1,h2⟩:=T.run_some h;exact fin s _ (SEq.refl s) ⟨hd,rfl,rfl,by rw [hg]; exact ⟨h1,rfl⟩⟩ h2
  ·rename_i j b hg
   split at h
   ·rename_i dj hdj
    split at h
    ·rename_i c hc
     have hl:∀ c',(y5m s dj c').get dj = .bool c':=fun c'=>by simp [y5m,St.get,za2]
     cases c with
     | true=>
      have e:=SEq.lit hc;cases b with
      | true=>
       simp only at h;obtain ⟨v,us,h1,h2⟩:=T.run_some h;exact fin _ _ e ⟨hd,rfl,rfl,by rw [hg]; exact .inl ⟨dj,true,hdj,hl _,.inl ⟨rfl,h1,rfl⟩⟩⟩ h2
      | false=>exact fin _ _ e ⟨hd,rfl,rfl,by rw [hg]; exact .inl ⟨dj,true,hdj,hl _,.inr ⟨by simp,rfl,rfl⟩⟩⟩ h
     | false=>
      have e:=SEq.lit hc;cases b with
      | false=>
       simp only at h;obtain ⟨v,us,h1,h2⟩:=T.run_some h;exact fin _ _ e ⟨hd,rfl,rfl,by rw [hg]; exact .inl ⟨dj,false,hdj,hl _,.inl ⟨rfl,h1,rfl⟩⟩⟩ h2
      | true=>exact fin _ _ e ⟨hd,rfl,rfl,by rw [hg]; exact .inl ⟨dj,false,hdj,hl _,.inr ⟨by simp,rfl,rfl⟩⟩⟩ h
    ·rename_i hc
     exact fin _ _ (SEq.refl s) ⟨hd,rfl,rfl,by rw [hg]; exact .inr ⟨dj,hdj,hc,rfl,rfl⟩⟩ h
    ·cases h
   ·cases h
theorem Steps.length {E:Env} {all:List Oper}:∀ {l:List Oper} {s:St} {Ds:List Dn},Steps E all l s Ds→Ds.length=l.length
 | [],_,[],_=>rfl
 | [],_,_ :: _,h=>by simp [Steps] at h
 | _ :: _,_,[],h=>by simp [Steps] at h
 | _ :: _,_,_ :: _,h=>by simp only [List.length_cons,Steps.length h.2]
theorem Steps.get {E:Env} {all:List Oper}:∀ {l:List Oper} {s:St} {Ds:List Dn} {i:Nat} {o:Oper} {D:Dn},Steps E all l s Ds→l[i]?=some o→Ds[i]?=some D→StepOK E all o (apDs s (Ds.take i)) D
 | [],_,_,_,_,_,_,h,_=>by simp at h
 | _ :: _,_,[],_,_,_,_,_,h=>by simp at h
 | o :: r,s,D :: Ds,0,_,_,h,h1,h2=>by
  simp only [List.getElem?_cons_zero,Option.some.injEq] at h1 h2;subst h1; subst h2;exact h.1
 | o :: r,s,D :: Ds,i+1,_,_,h,h1,h2=>by
  simp only [List.getElem?_cons_succ] at h1 h2;simp only [List.take_succ_cons,apDs];exact Steps.get h.2 h1 h2
def sel (L:Nat→Bool):Nat→List Dn→List Dn
 | _,[]=>[]
 | i,D :: r=>match L i with | true=>D :: sel L (i+1) r | false=>sel L (i+1) r
theorem zdv {L L':Nat→Bool}:∀ (l:List Dn) (i:Nat),(∀ j,i≤j→j < i+l.length→L j=L' j)→sel L i l=sel L' i l
 | [],_,_=>rfl
 | D :: r,i,h=>by
  simp only [sel];rw [h i (Nat.le_refl i) (by simp),zdv r (i+1) (fun j h1 h2=>h j (by omega) (by simp only [List.length_cons]; omega))]
theorem zlp:∀ (l:List Dn) (i:Nat),sel (fun _=>false) i l=[]
 | [],_=>rfl
 | D :: r,i=>by simp only [sel,zlp r]
theorem yaz:∀ (l:List Dn) (i:Nat),sel (fun _=>true) i l=l
 | [],_=>rfl
 | D :: r,i=>by simp only [sel,yaz r]
theorem yd4 (k:Nat):∀ (l:List Dn) (i:Nat),sel (fun j=>decide (j < i+k)) i l=l.take k
 | [],i=>by simp [sel]
 | D :: r,i=>by
  cases k with
  | zero=>
   rw [zdv (L':=fun _=>false) _ _ (fun j h1 h2=>by simp; omega),zlp]
   rfl
  | succ k=>
   simp only [sel];rw [show decide (i < i+(k+1))=true by simp]
   simp only [List.take_succ_cons,List.cons.injEq,true_and]
   have:=yd4 k r (i+1)
   rw [show i+(k+1)=i+1+k by omega]
   exact this
theorem zel {L L':Nat→Bool} {n:Nat}:∀ (l:List Dn) (i:Nat) {s s':St},z03 s.o n=z03 s'.o n→(∀ j D,l[j]?=some D→n∈z69 D.us→L (i+j)=L' (i+j))→z03 (apDs s (sel L i l)).o n=z03 (apDs s' (sel L' i l)).o n
 | [],_,_,_,h,_=>h
 | D :: r,i,s,s',h,hl=>by
  have hr:∀ j E,r[j]?=some E→n∈z69 E.us→L (i+1+j)=L' (i+1+j):=fun j E hj hn=>by
   have:=hl (j+1) E (by simpa using hj) hn
   rwa [show i+(j+1)=i+1+j by omega] at this
  have one:∀ {s:St},n ∉ z69 D.us→z03 (apD s D).o n=z03 s.o n:=fun h=>zdg h
  by_cases hn:n∈z69 D.us
  ·have h0:=hl 0 D rfl hn
   simp only [Nat.add_zero] at h0;simp only [sel,h0];cases L' i with
   | true=>exact zel r (i+1) (y3u hn) hr
   | false=>exact zel r (i+1) h hr
  ·simp only [sel]
   cases L i <;> cases L' i <;> simp only [apDs]
   ·exact zel r (i+1) h hr
   ·exact zel r (i+1) (h.trans (one hn).symm) hr
   ·exact zel r (i+1) ((one hn).trans h) hr
   ·exact zel r (i+1) ((one hn).trans (h.trans (one hn).symm)) hr
theorem zbr (s:St) (D:Dn) (t:Nat):(apD s D).get t=if D.dst=some t then D.v else s.get t:=by
 unfold apD;cases hd:D.dst with
 | none=>simp [St.put,St.get]
 | some d=>
  have:=ye2 s d D.v t
  simp only [Option.some.injEq];exact this
theorem zeu {L L':Nat→Bool} {t:Nat}:∀ (l:List Dn) (i:Nat) {s s':St},s.get t=s'.get t→(∀ j D,l[j]?=some D→D.dst=some t→L (i+j)=L' (i+j))→(apDs s (sel L i l)).get t=(apDs s' (sel L' i l)).get t
 | [],_,_,_,h,_=>h
 | D :: r,i,s,s',h,hl=>by
  have hr:∀ j E,r[j]?=some E→E.dst=some t→L (i+1+j)=L' (i+1+j):=fun j E hj hn=>by
   have:=hl (j+1) E (by simpa using hj) hn
   rwa [show i+(j+1)=i+1+j by omega] at this
  by_cases hn:D.dst=some t
  ·have h0:=hl 0 D rfl hn
   simp only [Nat.add_zero] at h0;simp only [sel,h0];cases L' i with
   | true=>exact zeu r (i+1) (by rw [zbr,zbr,if_pos hn,if_pos hn]) hr
   | false=>exact zeu r (i+1) h hr
  ·simp only [sel]
   cases L i <;> cases L' i <;> simp only [apDs]
   ·exact zeu r (i+1) h hr
   ·exact zeu r (i+1) (by rw [zbr,if_neg hn]; exact h) hr
   ·exact zeu r (i+1) (by rw [zbr,if_neg hn]; exact h) hr
   ·exact zeu r (i+1) (by rw [zbr,zbr,if_neg hn,if_neg hn]; exact h) hr
theorem y8z {L:Nat→Bool} {n:Nat}:∀ (l:List Dn) (i:Nat) {s:St},Fr n s→(∀ j D,l[j]?=some D→L (i+j)=true→zhd D.v=true∧n ∉ z9f D.v∧∀ u∈D.us,∀ m ob,(u = .new m ob∨u = .set m ob)→z4h n (some ob)=some ob)→Fr n (apDs s (sel L i l))
 | [],_,_,h,_=>h
 | D :: r,i,s,h,hl=>by
  have hr:∀ j E,r[j]?=some E→L (i+1+j)=true→zhd E.v=true∧n ∉ z9f E.v∧∀ u∈E.us,∀ m ob,(u = .new m ob∨u = .set m ob)→z4h n (some ob)=some ob:=fun j E hj hn=>by
   refine hl (j+1) E (by simpa using hj) ?_
   rwa [show i+(j+1)=i+1+j by omega]
  simp only [sel];cases hL:L i with
  | false=>exact y8z r (i+1) h hr
  | true=>
   refine y8z r (i+1) ?_ hr;obtain ⟨h1,h2,h3⟩:=hl 0 D rfl hL;refine ⟨fun t=>?_,?_⟩
   ·rw [zbr]
    split
    ·exact y4v h1 h2
    ·exact h.t t
   ·have key:∀ (us:List Upd) (o:Store),(∀ u∈us,∀ m ob,(u = .new m ob∨u = .set m ob)→z4h n (some ob)=some ob)→(∀ m,z4h n (z03 o m)=z03 o m)→∀ m,z4h n (z03 (ztf us o) m)=z03 (ztf us o) m:=by
     intro us
     induction us with
     | nil=>intro o _ h; exact h
     | cons u us ih=>
      intro o hu ho;have hu':=fun u' hu'=>hu u' (List.mem_cons_of_mem _ hu')
      cases u with
      | kill k=>exact ih _ hu' (fun m=>by rw [z01]; split <;> first | rfl | exact ho m)
      | set k ob=>exact ih _ hu' (fun m=>by rw [z01]; split <;> first | exact hu _ (List.mem_cons_self ..) k ob (.inr rfl) | exact ho m)
      | new k ob=>exact ih _ hu' (fun m=>by rw [z01]; split <;> first | exact hu _ (List.mem_cons_self ..) k ob (.inl rfl) | exact ho m)
    exact key D.us s.o h3 h.o
theorem zq1 {L:Nat→Bool}:∀ (l l':List Dn) (i:Nat),sel L i (l++l')=sel L i l++sel L (i+l.length) l'
 | [],l',i=>by simp [sel]
 | D :: r,l',i=>by
  simp only [List.cons_append,sel,List.length_cons];rw [show i+(r.length+1)=i+1+r.length by omega]
  cases L i <;> simp [zq1 r l' (i+1)]
open Go Go.RowKit
theorem zmh:∀ (l:List (List Nat)) (i:Nat),zlx l i=(l[i]?).getD []
 | [],i=>by simp [zlx]
 | x :: r,0=>rfl
 | x :: r,i+1=>by simp only [zlx,zmh r i,List.getElem?_cons_succ]
theorem zi9 {acc:List (List Nat)} {j:Nat}:∀ {es:List Edge},j∈zo2 acc es→∃ e∈es,Region.binds .any e=true∧(j=e.on∨j∈zlx acc e.on)
 | [],h=>by simp [zo2] at h
 | e :: r,h=>by
  simp only [zo2] at h
  split at h
  ·rename_i hb
   simp only [List.mem_cons,List.mem_append] at h;rcases h with h | h | h
   ·exact ⟨e,List.mem_cons_self ..,hb,.inl h⟩
   ·exact ⟨e,List.mem_cons_self ..,hb,.inr h⟩
   ·obtain ⟨e',h1,h2⟩:=zi9 h
    exact ⟨e',List.mem_cons_of_mem _ h1,h2⟩
  ·obtain ⟨e',h1,h2⟩:=zi9 h
   exact ⟨e',List.mem_cons_of_mem _ h1,h2⟩
def ybi (acc:List Nat):List Nat→List Nat
 | []=>acc
 | n :: r=>match zxj n acc with
  | true=>ybi acc r
  | false=>ybi (n :: acc) r
theorem zjn (k:List Nat→List (List Nat)):∀ (l acc:List Nat),yg7 acc l k=k (ybi acc l)
 | [],_=>rfl
 | n :: r,acc=>by
  simp only [yg7,ybi];cases zxj n acc with
  | true=>exact zjn k r acc
  | false=>exact zjn k r (n :: acc)
theorem zxr {j:Nat}:∀ {l acc:List Nat},j∈ybi acc l→j∈acc∨j∈l
 | [],_,h=>.inl h
 | n :: r,acc,h=>by
  simp only [ybi] at h;cases hb:zxj n acc with
  | true=>
   rw [hb] at h;exact (zxr h).imp_right (List.mem_cons_of_mem _)
  | false=>
   rw [hb] at h;rcases zxr h with h1 | h1
   ·rcases List.mem_cons.1 h1 with rfl | h1
    ·exact .inr (List.mem_cons_self ..)
    ·exact .inl h1
   ·exact .inr (List.mem_cons_of_mem _ h1)
theorem y96 {j:Nat} {l:List Nat} (h:j∈ybi [] l):j∈l:=(zxr h).resolve_left (by simp)
theorem zjo:∀ (l:List Oper) (acc:List (List Nat)) (i:Nat),i < acc.length→zlx (z40 acc l) i=zlx acc i
 | [],_,_,_=>rfl
 | o :: r,acc,i,h=>by
  simp only [z40,zjn];rw [zjo r _ i (by simp; omega),zmh,zmh,List.getElem?_append_left h]
theorem zjc:∀ (l:List Oper) (acc:List (List Nat)) (i:Nat) (o:Oper),l[i]?=some o →
  ∃ acc',acc'.length=acc.length+i∧zlx (z40 acc l) (acc.length+i)=ybi [] (zo2 acc' o.after.toList)∧∀ k,k < acc'.length→zlx acc' k=zlx (z40 acc l) k
 | [],_,_,_,h=>by simp at h
 | o :: r,acc,0,o',h=>by
  simp only [List.getElem?_cons_zero,Option.some.injEq] at h;subst h;refine ⟨acc,rfl,?_,fun k hk=>?_⟩
  ·simp only [z40,zjn,Nat.add_zero]
   rw [zjo r _ acc.length (by simp),zmh]
   simp
  ·simp only [z40,zjn]
   rw [zjo r _ k (by simp; omega),zmh,zmh,List.getElem?_append_left hk]
 | o :: r,acc,i+1,o',h=>by
  simp only [List.getElem?_cons_succ] at h;obtain ⟨acc',h1,h2,h3⟩:=zjc r (acc++[ybi [] (zo2 acc o.after.toList)]) i o' h;simp only [List.length_append,List.length_cons,List.length_nil] at h1 h2;refine ⟨acc',by omega,?_,fun k hk=>by rw [z40,zjn]; exact h3 k hk⟩
  rw [show acc.length+(i+1)=acc.length+(0+1)+i by omega,z40,zjn]
  exact h2
theorem zfa:∀ {l:List Oper} {k i:Nat} {o:Oper} {e:Edge},zf0 k l=true→l[i]?=some o→e∈o.after.toList→Region.binds .any e=true→e.on < k+i
 | [],_,_,_,_,_,h,_,_=>by simp at h
 | o :: r,k,0,o',e,hu,h,he,hb=>by
  simp only [List.getElem?_cons_zero,Option.some.injEq] at h;subst h;simp only [zf0,Bool.and_eq_true] at hu;have key:∀ (es:List Edge),zf0.go k es=true→e∈es→e.on < k:=by
   intro es
   induction es with
   | nil=>intro _ h; cases h
   | cons x es ih=>
    intro hg hm;simp only [zf0.go] at hg;rcases List.mem_cons.1 hm with h1 | h1
    ·subst h1
     rw [hb] at hg;simp only [Bool.and_eq_true] at hg;exact Nat.le_of_ble_eq_true hg.1
    ·split at hg
     ·simp only [Bool.and_eq_true] at hg
      exact ih hg.2 h1
     ·exact ih hg h1
  exact key _ hu.1 he
 | o :: r,k,i+1,o',e,hu,h,he,hb=>by
  simp only [List.getElem?_cons_succ] at h;simp only [zf0,Bool.and_eq_true] at hu
  have:=zfa hu.2 h he hb
  omega
section
variable {ops:List Oper}
def yd3 (ops:List Oper) (L:Nat→Bool):Prop:=∀ i o,ops[i]?=some o→L i=true→∀ e∈o.after.toList,Region.binds .any e=true→L e.on=true
theorem y5b (hu:zf0 0 ops=true):∀ (i:Nat) {o:Oper},ops[i]?=some o→∀ j∈zlx (z40 [] ops) i,j < i:=by
 intro i
 induction i using Nat.strongRecOn with
 | _ i ih=>
  intro o ho j hj;obtain ⟨acc',h1,h2,h3⟩:=zjc ops [] i o ho;simp only [List.length_nil,Nat.zero_add] at h1 h2;rw [h2] at hj;obtain ⟨e,he,hb,h4⟩:=zi9 (y96 hj);have hlt:=zfa hu ho he hb;rw [Nat.zero_add] at hlt;rcases h4 with h4 | h4
  ·omega
  ·have hk:e.on < acc'.length:=by omega
   rw [h3 _ hk] at h4;have hlen:i < ops.length:=(List.getElem?_eq_some_iff.1 ho).1
   have:=ih e.on hlt (o:=ops[e.on]'(by omega)) (by simp [Nat.lt_trans hlt hlen]) j h4
   omega
theorem zqt {L:Nat→Bool} (hu:zf0 0 ops=true) (hL:yd3 ops L):∀ (i:Nat) {o:Oper},ops[i]?=some o→(∀ e∈o.after.toList,Region.binds .any e=true→L e.on=true)→∀ j∈zlx (z40 [] ops) i,L j=true:=by
 intro i
 induction i using Nat.strongRecOn with
 | _ i ih=>
  intro o ho hr j hj;obtain ⟨acc',h1,h2,h3⟩:=zjc ops [] i o ho;simp only [List.length_nil,Nat.zero_add] at h1 h2;rw [h2] at hj;obtain ⟨e,he,hb,h4⟩:=zi9 (y96 hj);have hlt:=zfa hu ho he hb;rw [Nat.zero_add] at hlt;rcases h4 with h4 | h4
  ·subst h4
   exact hr e he hb
  ·have hk:e.on < acc'.length:=by omega
   rw [h3 _ hk] at h4;have hlen:i < ops.length:=(List.getElem?_eq_some_iff.1 ho).1;have hg:ops[e.on]?=some (ops[e.on]'(by omega)):=by simp [Nat.lt_trans hlt hlen]
   exact ih e.on hlt hg (hL e.on _ hg (hr e he hb)) j h4
end
theorem ya4 {d:Option Nat} {l:List Nat} (h:ygc d l=false):∀ t,d=some t→t ∉ l:=by
 rintro t rfl
 exact zlv.1 h
theorem y8o {d e:Option Nat} (h:ye5 d e=false):∀ t,d=some t→e≠some t:=by
 rintro t rfl h'
 subst h';simp only [ye5] at h;exact z3l.1 h rfl
theorem zut {ps:List (List Nat)} {pi:List Nat} {i:Nat} {x:Dn}:∀ {l:List Dn} {k j:Nat} {y:Dn},zue ps pi i x k l=true→l[j]?=some y→i≠k+j→zzm pi (zlx ps (k+j)) i (k+j) x y=true
 | [],_,_,_,_,h,_=>by simp at h
 | z :: r,k,0,y,h,hy,hne=>by
  simp only [List.getElem?_cons_zero,Option.some.injEq] at hy;subst hy;simp only [zue,Bool.and_eq_true,Bool.or_eq_true] at h;rcases h.1 with h1 | h1
  ·exact absurd (z1j.1 h1) hne
  ·exact h1
 | z :: r,k,j+1,y,h,hy,hne=>by
  simp only [List.getElem?_cons_succ] at hy;simp only [zue,Bool.and_eq_true] at h
  have:=zut (k:=k+1) h.2 hy (by omega)
  rw [show k+(j+1)=k+1+j by omega]
  exact this
theorem zus {ps:List (List Nat)} {all:List Dn}:∀ {l:List Dn} {k i:Nat} {x:Dn},y03 ps all k l=true→l[i]?=some x→zue ps (zlx ps (k+i)) (k+i) x 0 all=true
 | [],_,_,_,_,h=>by simp at h
 | z :: r,k,0,x,h,hx=>by
  simp only [List.getElem?_cons_zero,Option.some.injEq] at hx;subst hx;simp only [y03,Bool.and_eq_true] at h;exact h.1
 | z :: r,k,i+1,x,h,hx=>by
  simp only [List.getElem?_cons_succ] at hx;simp only [y03,Bool.and_eq_true] at h
  have:=zus (k:=k+1) h.2 hx
  rw [show k+(i+1)=k+1+i by omega]
  exact this
theorem zug {ds:List Nat}:∀ {l:List Nat},y55 ds l=true→∀ n∈l,zop ds n=true
 | [],_,n,h=>by cases h
 | m :: r,h,n,hn=>by
  simp only [y55,Bool.and_eq_true] at h;rcases List.mem_cons.1 hn with e | e
  ·subst e; exact h.1
  ·exact zug h.2 n e
theorem zs5 {ds:List Nat}:∀ {l:List Dn} {i:Nat} {x:Dn},y94 ds l=true→l[i]?=some x→zhd x.v=true∧y84 x.us=true∧∀ n∈zp7 x.us,zop ds n=true
 | [],_,_,_,h=>by simp at h
 | z :: r,0,x,h,hx=>by
  simp only [List.getElem?_cons_zero,Option.some.injEq] at hx;subst hx;simp only [y94,Bool.and_eq_true] at h;exact ⟨h.1,h.2.1,zug h.2.2.1⟩
 | z :: r,i+1,x,h,hx=>by
  simp only [List.getElem?_cons_succ] at hx;simp only [y94,Bool.and_eq_true] at h;exact zs5 h.2.2.2 hx
theorem y4u {n:Nat}:∀ {us:List Upd},y84 us=true→n ∉ yd0 us→∀ u∈us,∀ m ob,(u = .new m ob∨u = .set m ob)→z4h n (some ob)=some ob
 | [],_,_,u,hu,_,_,_=>by cases hu
 | u :: r,ho,hn,u',hu',m,ob,he=>by
  have h1:y84 r=true∧n ∉ yd0 r∧(∀ m ob,(u = .new m ob∨u = .set m ob)→z4h n (some ob)=some ob):=by
   cases u with
   | kill k=>exact ⟨ho,hn,fun m ob h=>by rcases h with h | h <;> cases h⟩
   | set k ob'=>
    simp only [y84,Bool.and_eq_true] at ho;simp only [yd0,List.mem_append,not_or] at hn;refine ⟨ho.2.2,hn.2,fun m ob h=>?_⟩
    rcases h with h | h <;> cases h
    exact zlg ho.1 hn.1
   | new k ob'=>
    simp only [y84,Bool.and_eq_true] at ho;simp only [yd0,List.mem_append,not_or] at hn;refine ⟨ho.2.2,hn.2,fun m ob h=>?_⟩
    rcases h with h | h <;> cases h
    exact zlg ho.1 hn.1
  rcases List.mem_cons.1 hu' with h | h
  ·subst h
   exact h1.2.2 m ob he
  ·exact y4u h1.1 h1.2.1 u' h m ob he
theorem zmx {t:Nat}:∀ {l:List Operand},Operand.tmp t∈l→t∈zpx l
 | x :: r,h=>by
  rcases List.mem_cons.1 h with h1 | h1
  ·subst h1; exact List.mem_cons_self ..
  ·cases x <;> simp only [zpx,List.mem_cons] <;> first | exact .inr (zmx h1) | exact zmx h1
theorem y12 {α:Type} {p q:α→Bool}:∀ {l:List α},(∀ x∈l,q x=true→p x=true)→(∃ x∈l,p x=true∧q x=false)→l.countP q < l.countP p
 | [],_,⟨_,h,_⟩=>by cases h
 | y :: r,h,⟨x,hx,h1,h2⟩=>by
  have hr:r.countP q≤r.countP p:=by
   clear hx;have h':∀ x∈r,q x=true→p x=true:=fun x hx=>h x (List.mem_cons_of_mem _ hx)
   exact List.countP_mono_left h'
  rcases List.mem_cons.1 hx with e | e
  ·subst e
   rw [List.countP_cons_of_pos h1,List.countP_cons_of_neg (by simp [h2])]
   omega
  ·have:=y12 (l:=r) (fun x hx=>h x (List.mem_cons_of_mem _ hx)) ⟨x,e,h1,h2⟩
   by_cases hq:q y=true
   ·rw [List.countP_cons_of_pos (h y (List.mem_cons_self ..) hq),List.countP_cons_of_pos hq]
    omega
   ·rw [List.countP_cons_of_neg hq]
    by_cases hp:p y=true
    ·rw [List.countP_cons_of_pos hp]; omega
    ·rw [List.countP_cons_of_neg hp]; omega
section
variable {B:BT} {nt:Nat} {w0:World} {X:Zone} {γ:Nat→Value} {st st':St} {a:Act} {w:World} {P:Program} {E:Env}
variable (hT:TiOK P B E) (hE:∀ t,t∈E.eqs→EqSnd P t (E.tyd t).ks) (hSp:SpOK P B E w0 X) (hB:BldOK P B E) (hnt:E.nt=nt) (hn9:nt≤900000)
include hT hE hSp hB hnt hn9
theorem ycu {Q:Exit→Act→World→Prop} {ops:Array Oper} {s0:St} {Ds:List Dn} (hs:Steps E ops.toList ops.toList s0 Ds) (hfree:yff ops.toList Ds=true)
  (hfr:∀ n,zop (zsk ops.toList) n=true→Fr n s0) (hQ:∀ γ' a' w',Rel B nt w0 X γ' (apDs s0 Ds) a' w'→Q .normal a' w') :
  ∀ (fuel:Nat) (listed:Array Bool) {γ:Nat→Value} {a:Act} {w:World},listed.size=ops.size→yd3 ops.toList (fun i=>listed.getD i false) →
   (List.range ops.size).countP (fun i=>!listed.getD i false)≤fuel→Rel B nt w0 X γ (apDs s0 (sel (fun i=>listed.getD i false) 0 Ds)) a w→wpAny P .any ops Q fuel listed a w:=by
 have hlen:Ds.length=ops.size:=by simpa using hs.length
 simp only [yff,Bool.and_eq_true] at hfree;obtain ⟨hup,hone,hpairs⟩:=hfree;have hgd:∀ (listed:Array Bool) (i:Nat),listed.size=ops.size→i < ops.size→listed.getD i true=listed.getD i false:=fun listed i h1 h2=>by
  simp [Array.getD,h1,h2]
 have hready:∀ (listed:Array Bool) (i:Nat),listed.size=ops.size→(i∈Region.ready .any ops listed↔∃ o,ops.toList[i]?=some o∧listed.getD i false=false∧∀ e∈o.after.toList,Region.binds .any e=true→listed.getD e.on false=true):=by
  intro listed i hsz;simp only [Region.ready,List.mem_filter,List.mem_range,Bool.and_eq_true,Bool.not_eq_true'];constructor
  ·rintro ⟨h1,h2,h3⟩
   refine ⟨ops[i],by simp [h1],by rw [← hgd listed i hsz h1]; exact h2,fun e he hb=>?_⟩
   simp only [Array.getElem?_eq_getElem h1,Option.map_some,Option.getD_some,Array.all_eq_true_iff_forall_mem,Bool.or_eq_true,Bool.not_eq_true'] at h3;rcases h3 e (by simpa using he) with h4 | h4
   ·rw [hb] at h4; cases h4
   ·exact h4
  ·rintro ⟨o,ho,h2,h3⟩
   obtain ⟨h1,rfl⟩:=List.getElem?_eq_some_iff.1 ho;simp only [Array.length_toList] at h1;refine ⟨h1,by rw [hgd listed i hsz h1]; exact h2,?_⟩
   simp only [Array.getElem?_eq_getElem h1,Option.map_some,Option.getD_some,Array.all_eq_true_iff_forall_mem,Bool.or_eq_true,Bool.not_eq_true'];intro e he;cases hb:Region.binds .any e with
   | false=>exact .inl rfl
   | true=>exact .inr (h3 e (by simpa using he) hb)
 have hend:∀ (listed:Array Bool) {γ:Nat→Value} {a:Act} {w:World},(∀ i,i < ops.size→listed.getD i false=true)→Rel B nt w0 X γ (apDs s0 (sel (fun i=>listed.getD i false) 0 Ds)) a w→Q .normal a w:=by
  intro listed γ a w hall h;rw [zdv (L':=fun _=>true) _ _ (fun j _ h2=>hall j (by omega)),yaz] at h
  exact hQ γ a w h
 have hnil:∀ (listed:Array Bool),listed.size=ops.size→Region.ready .any ops listed=[]→∀ i,i < ops.size→listed.getD i false=true:=by
  intro listed hsz hr i
  induction i using Nat.strongRecOn with
  | _ i ih=>
   intro hi;cases hL:listed.getD i false with
   | true=>rfl
   | false=>
    exfalso;have hm:i∈Region.ready .any ops listed:=by
     refine (hready listed i hsz).2 ⟨ops[i],by simp [hi],hL,fun e he hb=>?_⟩
     have:=zfa (i:=i) hup (by simp [hi]:ops.toList[i]?=some ops[i]) he hb
     exact ih e.on (by omega) (by omega)
    rw [hr] at hm;cases hm
 intro fuel
 induction fuel with
 | zero=>
  intro listed γ a w hsz hcl hcount h;have hall:∀ i,i < ops.size→listed.getD i false=true:=by
   intro i hi;have h0:(List.range ops.size).countP (fun i=>!listed.getD i false)=0:=by omega
   have:=(List.countP_eq_zero.1 h0) i (List.mem_range.2 hi)
   simpa using this
  refine ⟨?_,hend listed hall h⟩;refine List.eq_nil_iff_forall_not_mem.2 (fun i hi=>?_)
  obtain ⟨o,ho,h2,_⟩:=(hready listed i hsz).1 hi;have h1:i < ops.size:=by simpa using (List.getElem?_eq_some_iff.1 ho).1
  rw [hall i h1] at h2;cases h2
 | succ fuel ih=>
  intro listed γ a w hsz hcl hcount h;refine ⟨fun hr=>hend listed (hnil listed hsz hr) h,fun i hi=>?_⟩
  obtain ⟨o,ho,hLi,hedges⟩:=(hready listed i hsz).1 hi;have hi':i < ops.size:=by simpa using (List.getElem?_eq_some_iff.1 ho).1
  have hoi:ops[i]?=some o:=by simpa using ho
  obtain ⟨D,hD⟩:∃ D,Ds[i]?=some D:=⟨Ds[i]'(by omega),by simp [hlen,hi']⟩
  generalize hLdef:(fun i=>listed.getD i false)=L at *
  have hL:∀ j,listed.getD j false=L j:=fun j=>congrFun hLdef j
  simp only [hL] at hLi hedges;have hin:∀ j∈zlx (z40 [] ops.toList) i,L j=true:=zqt hup hcl i ho hedges;have hout:∀ j D',Ds[j]?=some D'→L j=true→i ∉ zlx (z40 [] ops.toList) j:=by
   intro j D' hj hLj hm;have hj':j < ops.size:=by have:=(List.getElem?_eq_some_iff.1 hj).1; omega
   have hoj:ops.toList[j]?=some ops[j]:=by simp [hj']
   have:=zqt hup hcl j hoj (hcl j _ hoj hLj) i hm
   rw [hLi] at this;cases this
  have hlt:∀ j,j∈zlx (z40 [] ops.toList) i→j < i:=y5b hup i ho;have hltj:∀ j D',Ds[j]?=some D'→i∈zlx (z40 [] ops.toList) j→i < j:=by
   intro j D' hj hm;have hj':j < ops.size:=by have:=(List.getElem?_eq_some_iff.1 hj).1; omega
   exact y5b hup j (by simp [hj']:ops.toList[j]?=some ops[j]) i hm
  have hpair:∀ j D',Ds[j]?=some D'→i≠j→zzm (zlx (z40 [] ops.toList) i) (zlx (z40 [] ops.toList) j) i j D D'=true:=by
   intro j D' hj hne;have h1:=zus (k:=0) hpairs hD;rw [Nat.zero_add] at h1;have h2:=zut (k:=0) h1 hj (by omega)
   rwa [Nat.zero_add] at h2
  have hunord:∀ j D',Ds[j]?=some D'→i≠j→i ∉ zlx (z40 [] ops.toList) j→j ∉ zlx (z40 [] ops.toList) i →
    (∀ t,D'.dst=some t→t ∉ D.tm)∧(∀ t,D.dst=some t→D'.dst≠some t)∧(∀ n∈z69 D'.us,n ∉ D.rd)∧(∀ n∈z69 D.us,n ∉ z69 D'.us):=by
   intro j D' hj hne h1 h2;have hp:=hpair j D' hj hne;simp only [zzm,zlv.2 h1,zlv.2 h2,Bool.and_eq_true,Bool.not_eq_true'] at hp;exact ⟨ya4 hp.2.1,y8o hp.2.2.1,zhy.1 hp.2.2.2.1,zhy.1 hp.2.2.2.2⟩
  have hdiff:∀ j D',Ds[j]?=some D'→L j≠decide (j < i)→i≠j∧i ∉ zlx (z40 [] ops.toList) j∧j ∉ zlx (z40 [] ops.toList) i:=by
   intro j D' hj hne;cases hLj:L j with
   | true=>
    rw [hLj] at hne;have hji:¬ j < i:=fun h=>hne (by simp [h])
    have hij:i≠j:=fun e=>by subst e; rw [hLi] at hLj; cases hLj
    exact ⟨hij,hout j D' hj hLj,fun hm=>hji (hlt j hm)⟩
   | false=>
    rw [hLj] at hne;have hji:j < i:=by
     rcases Nat.lt_or_ge j i with h | h
     ·exact h
     ·exact absurd (by simp; omega) hne
    refine ⟨by omega,fun hm=>?_,fun hm=>?_⟩
    ·have:=hltj j D' hj hm; omega
    ·have:=hin j hm; rw [hLj] at this; cases this
  have hstep:=Steps.get hs ho hD;have htake:apDs s0 (Ds.take i)=apDs s0 (sel (fun j=>decide (j < i)) 0 Ds):=by
   have:=yd4 i Ds 0
   rw [Nat.zero_add] at this;rw [this]
  rw [htake] at hstep;have hobj:∀ n∈D.rd,z03 (apDs s0 (sel L 0 Ds)).o n=z03 (apDs s0 (sel (fun j=>decide (j < i)) 0 Ds)).o n:=by
   intro n hn;refine zel Ds 0 rfl (fun j D' hj hnm=>?_)
   rw [Nat.zero_add];refine Decidable.byContradiction (fun hne=>?_)
   obtain ⟨h1,h2,h3⟩:=hdiff j D' hj hne;exact (hunord j D' hj h1 h2 h3).2.2.1 n hnm hn
  have htm:∀ t∈D.tm,(apDs s0 (sel L 0 Ds)).get t=(apDs s0 (sel (fun j=>decide (j < i)) 0 Ds)).get t:=by
   intro t ht;refine zeu Ds 0 rfl (fun j D' hj hnm=>?_)
   rw [Nat.zero_add];refine Decidable.byContradiction (fun hne=>?_)
   obtain ⟨h1,h2,h3⟩:=hdiff j D' hj hne;exact (hunord j D' hj h1 h2 h3).1 t hnm ht
  have hafter:SEq (apD (apDs s0 (sel L 0 Ds)) D) (apDs s0 (sel (fun j=>(listed.setIfInBounds i true).getD j false) 0 Ds)):=by
   have hset:∀ j,(listed.setIfInBounds i true).getD j false=(L j||Nat.beq j i):=by
    intro j;rw [← hL j];simp only [Array.getD_eq_getD_getElem?,Array.getElem?_setIfInBounds,hsz]
    by_cases e:i=j
    ·subst e
     simp [hi',Nat.beq_refl]
    ·rw [if_neg e,z3l.2 (fun h=>e h.symm),Bool.or_false]
   rw [show (fun j=>(listed.setIfInBounds i true).getD j false)=(fun j=>L j||Nat.beq j i) from funext hset]
   have hsplit:Ds=Ds.take i++D :: Ds.drop (i+1):=by
    have hi2:i < Ds.length:=by omega
    have h1:Ds[i]=D:=by have:=List.getElem?_eq_some_iff.1 hD; exact this.2
    rw [← h1];simp
   have hlate:∀ j D',(Ds.drop (i+1))[j]?=some D'→L (i+1+j)=true→(∀ t,D.dst=some t→D'.dst≠some t)∧∀ n∈z69 D.us,n ∉ z69 D'.us:=by
    intro j D' hj hLj;have hj':Ds[i+1+j]?=some D':=by rw [← hj,List.getElem?_drop]
    have h2:=hout _ D' hj' hLj;have h3:i+1+j ∉ zlx (z40 [] ops.toList) i:=fun hm=>by have:=hlt _ hm; omega
    exact ⟨(hunord _ D' hj' (by omega) h2 h3).2.1,(hunord _ D' hj' (by omega) h2 h3).2.2.2⟩
   have hli:(Ds.take i).length=i:=by simp; omega
   have hR:∀ s,apDs s (sel (fun j=>L j||Nat.beq j i) 0 Ds)=apDs (apD (apDs s (sel L 0 (Ds.take i))) D) (sel L (i+1) (Ds.drop (i+1))):=by
    intro s;rw [show sel (fun j=>L j||Nat.beq j i) 0 Ds=sel (fun j=>L j||Nat.beq j i) 0 (Ds.take i++D :: Ds.drop (i+1)) by rw [← hsplit]]
    rw [zq1,zje,hli,Nat.zero_add];simp only [sel,Nat.beq_refl,Bool.or_true,apDs];rw [zdv (L':=L) (Ds.take i) 0 (fun j _ h2=>by rw [z3l.2 (by omega),Bool.or_false]),zdv (L':=L) (Ds.drop (i+1)) (i+1) (fun j h1 _=>by rw [z3l.2 (by omega),Bool.or_false])]
   have hLs:∀ s,apDs s (sel L 0 Ds)=apDs (apDs s (sel L 0 (Ds.take i))) (sel L (i+1) (Ds.drop (i+1))):=by
    intro s;rw [show sel L 0 Ds=sel L 0 (Ds.take i++D :: Ds.drop (i+1)) by rw [← hsplit]]
    rw [zq1,zje,hli,Nat.zero_add];simp only [sel,hLi]
   rw [hR,hLs];generalize apDs s0 (sel L 0 (Ds.take i))=s1;refine ⟨fun t=>?_,fun n=>?_⟩
   ·by_cases e:D.dst=some t
    ·rw [zbr,if_pos e]
     have:(apDs (apD s1 D) (sel L (i+1) (Ds.drop (i+1)))).get t=(apDs (apD s1 D) (sel (fun _=>false) (i+1) (Ds.drop (i+1)))).get t:=by
      refine zeu _ _ rfl (fun j D' hj hd=>?_)
      cases hLj:L (i+1+j) with
      | false=>rfl
      | true=>exact absurd hd ((hlate j D' hj hLj).1 t e)
     rw [this,zlp];simp only [apDs];rw [zbr,if_pos e]
    ·rw [zbr,if_neg e]
     exact zeu _ _ (by rw [zbr,if_neg e]) (fun _ _ _ _=>rfl)
   ·by_cases e:n∈z69 D.us
    ·have:z03 (apDs (apD s1 D) (sel L (i+1) (Ds.drop (i+1)))).o n=z03 (apDs (apD s1 D) (sel (fun _=>false) (i+1) (Ds.drop (i+1)))).o n:=by
      refine zel _ _ rfl (fun j D' hj hd=>?_)
      cases hLj:L (i+1+j) with
      | false=>rfl
      | true=>exact absurd hd ((hlate j D' hj hLj).2 n e)
     rw [this,zlp];exact y3u e
    ·have h1:z03 (apD (apDs s1 (sel L (i+1) (Ds.drop (i+1)))) D).o n=z03 (apDs s1 (sel L (i+1) (Ds.drop (i+1)))).o n:=zdg e
     rw [h1];exact zel _ _ (zdg e).symm (fun _ _ _ _=>rfl)
  have hnext:∀ γ' a' w',Rel B nt w0 X γ' (apD (apDs s0 (sel L 0 Ds)) D) a' w'→wpAny P .any ops Q fuel (listed.setIfInBounds i true) a' w':=by
   intro γ' a' w' h';have hset:∀ j,(listed.setIfInBounds i true).getD j false=(L j||Nat.beq j i):=by
    intro j;rw [← hL j];simp only [Array.getD_eq_getD_getElem?,Array.getElem?_setIfInBounds,hsz]
    by_cases e:i=j
    ·subst e
     simp [hi',Nat.beq_refl]
    ·rw [if_neg e,z3l.2 (fun h=>e h.symm),Bool.or_false]
   refine ih (listed.setIfInBounds i true) (by simpa using hsz) ?_ ?_ (h'.seq hafter)
   ·intro j o' ho' hLj e he hb
    simp only [hset] at hLj ⊢
    by_cases e':j=i
    ·subst e'
     rw [ho] at ho';simp only [Option.some.injEq] at ho';subst ho';rw [hedges e he hb]
     rfl
    ·rw [z3l.2 e',Bool.or_false] at hLj
     rw [hcl j o' ho' hLj e he hb]
     rfl
   ·have:(List.range ops.size).countP (fun j=>!(listed.setIfInBounds i true).getD j false) < (List.range ops.size).countP (fun j=>!listed.getD j false):=by
     refine y12 (fun j _ hj=>?_) ⟨i,List.mem_range.2 hi',by rw [hL,hLi]; rfl,by rw [hset,Nat.beq_refl,Bool.or_true]; rfl⟩
     rw [hset] at hj;rw [hL];cases hLj:L j <;> simp_all
    simp only [hL] at this hcount;omega
  obtain ⟨hok,hdst,htms,hguard⟩:=hstep;have hclean:=zs5 hone hD;have run:(z49 E (apDs s0 (sel (fun j=>decide (j < i)) 0 Ds)).o (opd (apDs s0 (sel (fun j=>decide (j < i)) 0 Ds))) o.dst o.op).get=some (D.v,D.us)→D.rd=reads E (apDs s0 (sel (fun j=>decide (j < i)) 0 Ds)).o (opd (apDs s0 (sel (fun j=>decide (j < i)) 0 Ds))) o.op →
    (∀ x∈o.op.operands.toList,∀ t,x = .tmp t→t∈D.tm)→o.wp P a w (wpAny P .any ops Q fuel (listed.setIfInBounds i true)) Q:=by
   intro he hrd htmo;have h1:z49 E (apDs s0 (sel L 0 Ds)).o (opd (apDs s0 (sel L 0 Ds))) o.dst o.op=z49 E (apDs s0 (sel (fun j=>decide (j < i)) 0 Ds)).o (opd (apDs s0 (sel (fun j=>decide (j < i)) 0 Ds))) o.dst o.op:=by
    rw [y7b (ρ:=opd (apDs s0 (sel L 0 Ds))) (ρ':=opd (apDs s0 (sel (fun j=>decide (j < i)) 0 Ds))) (fun x hx=>?_)]
    ·exact zve (fun n hn=>hobj n (by rw [hrd]; exact hn))
    ·cases x with
     | tmp t=>exact htm t (htmo _ hx t rfl)
     | _=>rfl
   rw [← h1] at he;have hn9':∀ d,o.dst=some d→d≠900000:=fun d hdd e=>by
    subst e;rw [hdd] at hok;simp only [zrz] at hok;have h8:900000+1≤E.nt:=Nat.le_of_ble_eq_true hok;omega
   refine yd9 hT hE hSp hB h o hn9' he _ _ (fun γ' x w' h3 h4=>hnext γ' _ w' ?_)
   refine (h3.put hnt hok h4).seq ?_;have hfr':∀ n∈zp7 D.us,Fr n (apDs s0 (sel L 0 Ds)):=by
    intro n hn;refine y8z Ds 0 (hfr n (hclean.2.2 n hn)) (fun j D' hj hLj=>?_)
    rw [Nat.zero_add] at hLj;have hne:i≠j:=fun e=>by subst e; rw [hLi] at hLj; cases hLj
    have hp:=hpair j D' hj hne;simp only [zzm,zlv.2 (hout j D' hj hLj),Bool.and_eq_true] at hp;have hdj:=zhy.1 hp.1 n hn;simp only [List.mem_append,not_or] at hdj;have hc':=zs5 hone hj;exact ⟨hc'.1,hdj.1,y4u hc'.2.1 hdj.2⟩
   have:=(zwv hfr' hclean.2.1).put o.dst D.v
   refine this.trans ?_;rw [← hdst];cases hdd:D.dst <;> exact ⟨fun t=>by simp only [apD,hdd,St.put]; try rfl,fun n=>by simp only [apD,St.put]⟩
  unfold wpOp;rw [hoi];simp only;have htmo:∀ x∈o.op.operands.toList,∀ t,x = .tmp t→t∈D.tm:=by
   rintro x hx t rfl
   have:=zmx hx
   rw [htms];unfold zid
   split
   ·split
    ·exact List.mem_cons_of_mem _ this
    ·exact this
   ·exact this
  split at hguard
  ·rename_i hg
   rw [if_pos (by simp [Region.wanted,hg])]
   exact .inl (run hguard.1 hguard.2 htmo)
  ·rename_i j b hg
   have skip:D.v = .tup []→D.us=[]→Region.wanted o (yielded ops a.tmps)=false→(if Region.wanted o (yielded ops a.tmps)=true then o.wp P a w (wpAny P .any ops Q fuel (listed.setIfInBounds i true)) Q∨(o.asks P a w∧LetsOut Q) else wpAny P .any ops Q fuel (listed.setIfInBounds i true) (a.put o.dst undef) w):=by
    intro h1 h2 h3;rw [if_neg (by rw [h3]; simp)]
    refine hnext γ _ w ?_;refine (h.put hnt hok (v:=.tup []) (x:=undef) (by simp only [VRel]; exact ⟨#[],rfl,by simp only [VRels]⟩)).seq ?_
    rw [← hdst,← h1];cases hdd:D.dst <;> exact ⟨fun t=>by simp only [apD,hdd,St.put]; try rfl,fun n=>by simp only [apD,St.put,h2,ztf]⟩
   have hdjm0:∀ dj,zoo ops.toList j=some dj→dj∈D.tm:=by
    intro dj hdj;rw [htms];unfold zid;rw [hg];simp only [hdj];exact List.mem_cons_self ..
   rcases hguard with ⟨dj,c,hdj,hc,hcase⟩ | ⟨dj,hdj,hc,h1,h2⟩
   case inr=>
    rw [← htm dj (hdjm0 dj hdj)] at hc;have hy:yielded ops a.tmps j=none:=by
     unfold yielded;rw [show ops[j]?=ops.toList[j]? by simp,zkg _ _ _ hdj]
     rcases y1x h hc with h0 | h0 <;> simp [h0]
    exact skip h1 h2 (by simp [Region.wanted,hg,hy])
   have hdjm:dj∈D.tm:=by
    rw [htms];unfold zid;rw [hg];simp only [hdj];exact List.mem_cons_self ..
   rw [← htm dj hdjm] at hc;have hy:yielded ops a.tmps j=some c:=by
    unfold yielded;rw [show ops[j]?=ops.toList[j]? by simp,zkg _ _ _ hdj]
    simp [y56 h hc]
   rcases hcase with ⟨rfl,h1,h2⟩ | ⟨hne,h1,h2⟩
   ·rw [if_pos (by simp [Region.wanted,hg,hy])]
    exact .inl (run h1 h2 htmo)
   ·exact skip h1 h2 (by simp [Region.wanted,hg,hy,hne])
theorem y6y {Q:Exit→Act→World→Prop} (hm:P.follows .mixedOrders=true) {r:V × List (List V)} {id:Nat} {ops:Array Oper} {k:St→Res} {γ:Nat→Value} {st:St} {a:Act} {w:World}
  (he:y91 E ops.toList st k=some r) (h:Rel B nt w0 X γ st a w) (hk:∀ γ' st' a' w',Rel B nt w0 X γ' st' a' w'→k st'=some r→Q .normal a' w'):(Code.region id ops true).wp P Q a w:=by
 refine wp_region_any hm ?_;unfold y91 at he;obtain ⟨Ds,s',h1,h2,h3⟩:=y1i ops.toList he
 split at h3
 ·rename_i hf
  simp only [List.append_nil,List.reverse_reverse] at hf;have h0:Rel B nt w0 X γ (zco (zsk ops.toList) st) a { w with drawn:=w.drawn+1 }:=(h.clear (zsk ops.toList)).world (Keep.drew _ w)
  refine ycu hT hE hSp hB hnt hn9 h1 hf (fun n hn=>ybk hn st) (fun γ' a' w' h'=>hk γ' s' a' w' (h'.seq h2.symm) h3) ops.size (Array.replicate ops.size false) (by simp) ?_ ?_ (γ:=γ) ?_
  ·intro i o ho hL
   have hi:i < ops.size:=by simpa using (List.getElem?_eq_some_iff.1 ho).1
   simp [Array.getD,hi] at hL
  ·refine Nat.le_trans (List.countP_le_length) ?_
   simp
  ·rw [zdv (L':=fun _=>false) _ _ (fun j _ _=>by simp [Array.getD]),zlp]
   exact h0
 ·cases h3
end
open Go Go.RowKit
section
variable {B:BT} {nt:Nat} {w0:World} {X:Zone} {γ:Nat→Value} {st st':St} {a:Act} {w:World} {P:Program} {E:Env}
theorem zkr (s:St):∀ (l:List Nat) (i:Nat),lkd .any (zza s l) i=s.get i∨lkd .any (zza s l) i = .any
 | [],i=>.inr rfl
 | j :: r,i=>by
  simp only [zza,za2]
  by_cases e:j=i
  ·subst e; simp
  ·simp only [if_neg e]
   exact zkr s r i
theorem zzl (s:St):∀ (l:List Nat) (n:Nat) (ob:Ob),z03 (y8x s l) n=some ob→z03 s.o n=some ob
 | [],n,ob,h=>by simp [y8x,z03,lkd] at h
 | j :: r,n,ob,h=>by
  simp only [y8x,z01] at h
  split at h
  ·rename_i e
   subst e;exact h
  ·exact zzl s r n ob h
theorem Rel.prune (h:Rel B nt w0 X γ st a w) (kp:Option (List Nat)):Rel B nt w0 X γ (prune kp st) a w:=by
 cases kp with
 | none=>exact h
 | some l=>exact h.less (fun i=>zkr st l i) (fun _ _ h=>h)
theorem VRels.putOne {γ:Nat→Value} {o:Store} {w:World} {O:Nat→Prop} {v:V} {x:Value} (hv:VRel γ o w O v x):∀ {cs:List V} {xs:List Value} {c:Nat},VRels γ o w O cs xs→xs[c]?=some x→VRels γ o w O (zi4 cs c [v]) xs
 | [],[],_,_,h=>by simp at h
 | [],_ :: _,_,h,_=>by simp only [VRels] at h
 | _ :: _,[],_,h,_=>by simp only [VRels] at h
 | u :: cs,y :: xs,0,h,hx=>by
  simp only [VRels] at h;simp only [List.getElem?_cons_zero,Option.some.injEq] at hx;subst hx
  have:zi4 cs 0 []=cs:=by cases cs <;> rfl
  simp only [zi4,this,VRels];exact ⟨hv,h.2⟩
 | u :: cs,y :: xs,c+1,h,hx=>by
  simp only [VRels] at h;simp only [List.getElem?_cons_succ] at hx;simp only [zi4,VRels];exact ⟨h.1,VRels.putOne hv h.2 hx⟩
def yhg (γ:Nat→Value) (o:Store) (w:World) (a:Act) (x:Value):Loc→Prop
 | .tmp t=>x=a.tmps.getD t undef
 | .cell b c=>∃ cs bb T cc,z03 o b=some (.box cs)∧γ b = .pointer (some ⟨bb,0,none⟩)∧w.heap[bb]?=some (.cells cc T (0,0))∧cc.toList[c]?=some x
def yf6 (γ:Nat→Value) (o:Store) (w:World) (a:Act) (x:Value):Loc→Prop
 | .tmp t=>x=a.tmps.getD t undef
 | .cell b c=>∀ cs,z03 o b=some (.box cs)→∃ bb T cc,γ b = .pointer (some ⟨bb,0,none⟩)∧w.heap[bb]?=some (.cells cc T (0,0))∧cc.toList[c]?=some x
theorem Rel.at (h:Rel B nt w0 X γ st a w) (l:Loc) {v:V} (hv:yi0 st l=v) (hne:v≠.any):∃ x,VRel γ st.o w (z07 X γ st.o) v x ∧
  yhg γ st.o w a x l:=by
 subst hv;cases l with
 | tmp t=>exact ⟨_,h.tm t,rfl⟩
 | cell b c=>
  simp only [yi0] at hne ⊢
  split at hne
  ·rename_i cs hob
   have hor:=h.ob b _ hob;simp only [ObRel] at hor;obtain ⟨bb,cc,T,hg,hh,hr⟩:=hor;rw [zqz] at hne ⊢
   cases hc:cs[c]? with
   | none=>rw [hc] at hne; exact absurd rfl hne
   | some u=>
    obtain ⟨x,hx,hrx⟩:=hr.get hc;exact ⟨x,hrx,cs,bb,T,cc,hob,hg,hh,hx⟩
  ·exact absurd rfl hne
theorem Rel.putLoc {γ2:Nat→Value} {st2:St} (h2:Rel B nt w0 X γ2 st2 a w) (l:Loc) {v:V} {x:Value} (hv:VRel γ2 st2.o w (z07 X γ2 st2.o) v x)
  (hx:yf6 γ2 st2.o w a x l):Rel B nt w0 X γ2 (putLoc st2 v l) a w:=by
 cases l with
 | tmp t=>
  simp only [yf6] at hx;subst hx;refine ⟨h2.sz,h2.df,fun i=>?_,h2.ob,h2.lt,h2.dis,h2.keep,h2.nr,h2.fl,h2.pn⟩
  simp only [FM.putLoc,St.get,za2]
  split
  ·rename_i e
   subst e;exact hv
  ·exact h2.tm i
 | cell b c=>
  simp only [FM.putLoc]
  split
  ·rename_i cs hob
   simp only [yf6] at hx;obtain ⟨bb,T,cc,hg,hh,hcx⟩:=hx cs hob;have hob':∀ m,z03 ((b,some (.box (zi4 cs c [v]))) :: st2.o) m=if b=m then some (.box (zi4 cs c [v])) else z03 st2.o m:=fun m=>z01 ..
   have hlen:(zi4 cs c [v]).length=cs.length:=by
    have key:∀ (cs:List V) (c:Nat),(zi4 cs c [v]).length=cs.length:=by
     intro cs
     induction cs with
     | nil=>intro c; cases c <;> rfl
     | cons u r ih=>
      intro c;cases c with
      | zero=>
       have:zi4 r 0 []=r:=by cases r <;> rfl
       simp [zi4,this]
      | succ c=>simp [zi4,ih]
    exact key cs c
   have hP:∀ b',z1f γ2 ((b,some (.box (zi4 cs c [v]))) :: st2.o) b'→z1f γ2 st2.o b':=by
    rintro b' ⟨m,ob,hm,hb⟩
    rw [hob'] at hm
    split at hm
    ·rename_i e
     subst e;simp only [Option.some.injEq] at hm;subst hm;exact ⟨_,_,hob,hb⟩
    ·exact ⟨m,ob,hm,hb⟩
   have hO:∀ b',b' < w.heap.size→z07 X γ2 ((b,some (.box (zi4 cs c [v]))) :: st2.o) b'→z07 X γ2 st2.o b':=fun b' _ hb=>hb.imp_left (hP b')
   have hc:Cmp γ2 st2.o γ2 ((b,some (.box (zi4 cs c [v]))) :: st2.o):=by
    intro m ob' hm;rw [hob'] at hm
    split at hm
    ·rename_i e
     subst e;simp only [Option.some.injEq] at hm;subst hm;exact ⟨rfl,_,hob,hlen.symm⟩
    ·exact ⟨rfl,ob',hm,ob'.fits_refl⟩
   refine ⟨h2.sz,h2.df,fun i=>VRel.mono (Keep.refl _ w) hO (VRel.cmp hc (h2.tm i)),fun m ob hm=>?_,fun b' hb=>h2.lt b' (hP b' hb),fun m1 m2 ob1 ob2 b' hne h3 h4 hb1 hb2=>?_,h2.keep,fun b' hb=>h2.nr b' (hP b' hb),h2.fl,fun p hp ob hm=>?_⟩
   ·simp only at hm ⊢
    rw [hob'] at hm
    split at hm
    ·rename_i e
     subst e;simp only [Option.some.injEq] at hm;subst hm;have hor:=h2.ob _ _ hob;simp only [ObRel] at hor ⊢
     obtain ⟨bb',cc',T',hg',hh',hr'⟩:=hor;rw [hg] at hg';simp only [Value.pointer.injEq,Option.some.injEq,Addr.mk.injEq,and_true] at hg';subst hg';rw [hh] at hh';simp only [Option.some.injEq,Obj.cells.injEq] at hh';obtain ⟨rfl,rfl,_⟩:=hh';exact ⟨bb,cc,T,hg,hh,VRels.mono (Keep.refl _ w) hO (VRels.cmp hc (VRels.putOne hv hr' hcx))⟩
    ·exact (h2.ob m ob hm).later (fun _ _=>rfl) (Keep.refl _ w) hO hc
   ·have key:∀ m ob,z03 ((b,some (.box (zi4 cs c [v]))) :: st2.o) m=some ob→z0g (γ2 m) ob b'→∃ ob0,z03 st2.o m=some ob0∧z0g (γ2 m) ob0 b':=by
     intro m ob hm hb;rw [hob'] at hm
     split at hm
     ·rename_i e
      subst e;simp only [Option.some.injEq] at hm;subst hm;exact ⟨_,hob,hb⟩
     ·exact ⟨ob,hm,hb⟩
    obtain ⟨o1,q1,q2⟩:=key m1 ob1 h3 hb1;obtain ⟨o2,q3,q4⟩:=key m2 ob2 h4 hb2;exact h2.dis m1 m2 o1 o2 b' hne q1 q3 q2 q4
   ·simp only at hm
    rw [hob'] at hm
    split at hm
    ·rename_i e
     exact h2.pn p hp _ (e ▸ hob)
    ·exact h2.pn p hp ob hm
  ·exact h2
theorem Rel.canon1 (h:Rel B nt w0 X γ st a w) (c:Can):∃ γ',Rel B nt w0 X γ' (canon1 c st) a w:=by
 unfold FM.canon1
 split
 ·exact ⟨γ,h⟩
 rename_i h9;have h9:=z3l.1 h9
 split
 ·rename_i hv
  split
  ·rename_i hks
   have hks':0 < c.ks.length:=Nat.le_of_ble_eq_true hks;obtain ⟨x,hx,hat⟩:=h.at c.loc hv (by simp)
   simp only [VRel] at hx;have hadd:=h.add c.nm h9 (.row true c.e c.ag c.ks []) (.slice none 0 0) (fun b hb=>by simp [z0g,Value.ownBlock] at hb) (fun O' hO'=>by
    simp only [ObRel];exact ⟨hks',by simp [strMax],[],⟨by simp,.inl ⟨rfl,rfl⟩⟩,fun i y hy=>by simp at hy⟩)
   have hadd:=hadd.shrink (F:=X.far) (fun b hb=>⟨hb,fun hb'=>by simp [z0g,Value.ownBlock] at hb'⟩)
   refine ⟨_,hadd.putLoc c.loc (x:=x) ?_ ?_⟩
   ·simp only [VRel,z0a,if_true]
    subst hx;exact ⟨Nat.le_refl _,none,0,0,none,rfl,rfl,Nat.le_refl _,Nat.le_refl _,Nat.le_refl _,by simp [maxLen],.inl rfl,fun _=>rfl⟩
   ·revert hat
    cases c.loc with
    | tmp t=>exact fun hat=>hat
    | cell b k=>
     intro hat;obtain ⟨cs,bb,T,cc,q1,q2,q3,q4⟩:=hat;intro cs2 hcs2;rw [z0a] at hcs2
     split at hcs2
     ·cases hcs2
     ·rename_i hne
      exact ⟨bb,T,cc,by simp only [if_neg hne]; exact q2,q3,q4⟩
  ·exact ⟨γ,h⟩
 ·rename_i n lo hi hv
  split
  ·rename_i e ag ks l hn hlo hob
   have hn':=z3l.1 hn;obtain rfl:=z1j.1 hlo;obtain ⟨x,hx,hat⟩:=h.at c.loc hv (by simp)
   simp only [VRel,hob] at hx;have hk:=h.kill n;have hor:=h.ob n _ hob;have hkb:∀ b,z0g (γ n) (.row true e ag ks l) b→z0r γ st.o n b:=fun b hb=>⟨_,hob,hb⟩
   have hadd:=hk.add c.nm h9 (.row true e ag ks l) (γ n) (fun b hb=>⟨.inr (hkb b hb),(h.lt b ⟨n,_,hob,hb⟩).2⟩) (fun O' hO'=>by
    simp only [ObRel] at hor ⊢
    obtain ⟨k1,k2,xs,k3,k4⟩:=hor;refine ⟨k1,k2,xs,k3,fun i y hy=>Kd.RelAll.mono (Keep.refl _ w) (fun b _ hb=>?_) (fun _ _ hu=>hu) (k4 i y hy)⟩
    rcases hO' b hb with h1 | h1 | h1
    ·obtain ⟨m,ob1,q1,q2⟩:=h1
     simp only [St.up] at q1;rw [z01] at q1
     split at q1
     ·cases q1
     ·exact .inl ⟨m,ob1,q1,q2⟩
    ·exact .inr h1
    ·obtain ⟨ob1,q1,q2⟩:=h1
     exact .inl ⟨n,ob1,q1,q2⟩)
   have hadd:=hadd.shrink (F:=X.far) (fun b hb=>⟨.inl hb,fun hb'=>h.nr b ⟨n,_,hob,hb'⟩ hb⟩)
   refine ⟨_,hadd.putLoc c.loc (x:=x) ?_ ?_⟩
   ·simp only [VRel,z0a,if_true]
    exact hx
   ·revert hat
    cases c.loc with
    | tmp t=>exact fun hat=>hat
    | cell b k=>
     intro hat;obtain ⟨cs,bb,T,cc,q1,q2,q3,q4⟩:=hat;intro cs2 hcs2;rw [z0a] at hcs2
     split at hcs2
     ·cases hcs2
     ·rename_i hne
      exact ⟨bb,T,cc,by simp only [if_neg hne]; exact q2,q3,q4⟩
  ·exact ⟨γ,h⟩
 ·exact ⟨γ,h⟩
theorem Rel.canons:∀ (l:List Can) {γ:Nat→Value} {st:St},Rel B nt w0 X γ st a w→∃ γ',Rel B nt w0 X γ' (canons l st) a w
 | [],γ,st,h=>⟨γ,h⟩
 | c :: r,γ,st,h=>by
  obtain ⟨γ1,h1⟩:=h.canon1 c;exact Rel.canons r h1
theorem Rel.restrict (h:Rel B nt w0 X γ st a w) (kp:KP):∃ γ',Rel B nt w0 X γ' (restrict kp st) a w:=by
 have h1:Rel B nt w0 X γ ⟨zza st kp.t,st.o⟩ a w:=h.less (fun i=>zkr st kp.t i) (fun _ _ h=>h)
 obtain ⟨γ',h2⟩:=h1.canons kp.c;exact ⟨γ',h2.less (fun i=>zkr _ kp.t i) (fun n ob=>zzl _ kp.o n ob)⟩
variable (hT:TiOK P B E) (hE:∀ t,t∈E.eqs→EqSnd P t (E.tyd t).ks) (hSp:SpOK P B E w0 X) (hB:BldOK P B E) (hnt:E.nt=nt) (hn9:nt≤900000)
include hT hE hSp hB hnt hn9
theorem zpv {Q:Exit→Act→World→Prop} {r:V × List (List V)} {ops:Array Oper} {k:St→Res} :
  ∀ (l:List Oper) (i:Nat) {γ:Nat→Value} {st:St} {a:Act} {w:World},ops.toList.drop i=l→zou E ops.toList l st k=some r→Rel B nt w0 X γ st a w →
   (∀ γ' st' a' w',Rel B nt w0 X γ' st' a' w'→k st'=some r→Q .normal a' w')→wpOps P ops Q (List.range' i l.length) a w
 | [],i,γ,st,a,w,hl,he,h,hk=>by
  simp only [zou] at he;exact hk _ _ _ _ h he
 | o :: l,i,γ,st,a,w,hl,he,h,hk=>by
  have hoi:ops[i]?=some o:=by
   rw [← Array.getElem?_toList]
   have:=congrArg (·[0]?) hl
   simpa using this
  have hl':ops.toList.drop (i+1)=l:=by
   have:=congrArg (List.drop 1) hl
   simpa using this
  simp only [List.length_cons,List.range'_succ,wpOps,hoi];simp only [zou] at he;have hd:zrz E o.dst=true:=by
   cases hd:zrz E o.dst with
   | true=>rfl
   | false=>rw [hd] at he; cases he
  rw [hd] at he;simp only at he;have go:∀ {st:St},Rel B nt w0 X γ st a w→Region.wanted o (yielded ops a.tmps)=true→((z49 E st.o (opd st) o.dst o.op).run fun v us=>zou E ops.toList l ((st.ups us).put o.dst v) k)=some r →
    (if Region.wanted o (yielded ops a.tmps)=true then o.wp P a w (wpOps P ops Q (List.range' (i+1) l.length)) Q∨(o.asks P a w∧LetsOut Q) else wpOps P ops Q (List.range' (i+1) l.length) (a.put o.dst undef) w):=by
   intro st h hw he;rw [if_pos hw];obtain ⟨v,us,h1,h2⟩:=T.run_some he;refine .inl (yd9 hT hE hSp hB h o (fun d hdd e=>by subst e; rw [hdd] at hd; simp only [zrz] at hd; have h8:900000+1≤E.nt:=Nat.le_of_ble_eq_true hd; omega) h1 _ _ (fun γ' x w' h3 h4=>?_))
   exact zpv l (i+1) hl' h2 (h3.put hnt hd h4) hk
  have no:∀ {st:St},Rel B nt w0 X γ st a w→Region.wanted o (yielded ops a.tmps)=false→zou E ops.toList l (st.put o.dst (.tup [])) k=some r →
    (if Region.wanted o (yielded ops a.tmps)=true then o.wp P a w (wpOps P ops Q (List.range' (i+1) l.length)) Q∨(o.asks P a w∧LetsOut Q) else wpOps P ops Q (List.range' (i+1) l.length) (a.put o.dst undef) w):=by
   intro st h hw he;rw [if_neg (by rw [hw]; simp)]
   exact zpv l (i+1) hl' he (h.put hnt hd (by simp only [VRel]; exact ⟨#[],rfl,by simp only [VRels]⟩)) hk
  split at he
  ·rename_i hg
   exact go h (by simp [Region.wanted,hg]) he
  ·rename_i j b hg
   split at he
   ·rename_i dj hdj
    split at he
    ·rename_i c hc
     have hy:yielded ops a.tmps j=some c:=by
      unfold yielded;rw [show ops[j]?=ops.toList[j]? by simp,zkg _ _ _ hdj]
      simp [y56 h hc]
     have hlit:=h.lit hc;cases c with
     | true=>
      simp only at he;cases b with
      | true=>exact go (st:=st.put (some dj) (.bool true)) hlit (by simp [Region.wanted,hg,hy]) he
      | false=>exact no (st:=st.put (some dj) (.bool true)) hlit (by simp [Region.wanted,hg,hy]) he
     | false=>
      simp only at he;cases b with
      | false=>exact go (st:=st.put (some dj) (.bool false)) hlit (by simp [Region.wanted,hg,hy]) he
      | true=>exact no (st:=st.put (some dj) (.bool false)) hlit (by simp [Region.wanted,hg,hy]) he
    ·rename_i hc
     have hy:yielded ops a.tmps j=none:=by
      unfold yielded;rw [show ops[j]?=ops.toList[j]? by simp,zkg _ _ _ hdj]
      rcases y1x h hc with h0 | h0 <;> simp [h0]
     exact no h (by simp [Region.wanted,hg,hy]) he
    ·cases he
   ·cases he
def yao:Out→Exit
 | .normal=>.normal
 | .exit i=>.exit i
 | .ret=>.ret
omit hT hE hSp hB hnt hn9 in
theorem y0j (J:Nat→Prop) (h:∃ n,J n):∃ n,J n∧∀ m,J m→n≤m:=by
 obtain ⟨n,hn⟩:=h
 induction n using Nat.strongRecOn with
 | _ n ih=>
  by_cases hm:∃ m,m < n∧J m
  ·obtain ⟨m,h1,h2⟩:=hm
   exact ih m h1 h2
  ·exact ⟨n,hn,fun m hJ=>Nat.le_of_not_lt (fun hlt=>hm ⟨m,hlt,hJ⟩)⟩
theorem zjp (hm:P.follows .mixedOrders=true) {r:V × List (List V)}:∀ (c:Code) {k:Out→St→Res} {Q:Exit→Act→World→Prop} {γ:Nat→Value} {st:St} {a:Act} {w:World},zgc E c st k=some r→Rel B nt w0 X γ st a w →
  (∀ o γ' st' a' w',Rel B nt w0 X γ' st' a' w'→k o st'=some r→Q (yao o) a' w')→c.wp P Q a w
 | .skip,k,Q,γ,st,a,w,he,h,hk=>wp_skip (hk .normal γ st a w h he)
 | .exit id,k,Q,γ,st,a,w,he,h,hk=>wp_exit (hk (.exit id) γ st a w h he)
 | .ret,k,Q,γ,st,a,w,he,h,hk=>wp_ret (hk .ret γ st a w h he)
 | .label _,k,Q,γ,st,a,w,he,h,hk=>by simp [zgc,evG] at he
 | .goto _,k,Q,γ,st,a,w,he,h,hk=>by simp [zgc,evG] at he
 | .scope _,k,Q,γ,st,a,w,he,h,hk=>by simp [zgc,evG] at he
 | .rangeFunc _ _ _ _,k,Q,γ,st,a,w,he,h,hk=>by simp [zgc,evG] at he
 | .region id ops draw,k,Q,γ,st,a,w,he,h,hk=>by
  simp only [zgc,evG] at he;cases draw with
  | true=>
   simp only at he;exact y6y hT hE hSp hB hnt hn9 hm he h (fun γ' st' a' w' h' hk'=>hk .normal γ' _ a' w' (h'.prune _) hk')
  | false=>
   simp only at he;refine wp_region ?_;rw [show ops.size=ops.toList.length by simp,List.range_eq_range']
   exact zpv hT hE hSp hB hnt hn9 ops.toList 0 rfl he h (fun γ' st' a' w' h' hk'=>hk .normal γ' _ a' w' (h'.prune _) hk')
 | .seq x y,k,Q,γ,st,a,w,he,h,hk=>by
  simp only [zgc,evG] at he;refine wp_seq (zjp hm x he h (fun o γ' st' a' w' h' hk'=>?_))
  cases o with
  | normal=>exact zjp hm y hk' h' hk
  | exit i=>exact hk (.exit i) γ' st' a' w' h' hk'
  | ret=>exact hk .ret γ' st' a' w' h' hk'
 | .cond c x y,k,Q,γ,st,a,w,he,h,hk=>by
  simp only [zgc,evG] at he
  split at he
  ·rename_i b hc
   have hcr:=z1k h c;rw [hc] at hcr;simp only [VRel] at hcr;have hlit:Rel B nt w0 X γ (ygy st c b) a w:=by
    unfold ygy
    split
    ·exact h.lit hc
    ·exact h
   cases b with
   | true=>exact wp_cond_true hcr (zjp hm x he hlit hk)
   | false=>exact wp_cond_false hcr (zjp hm y he hlit hk)
  ·cases he
 | .block id c,k,Q,γ,st,a,w,he,h,hk=>by
  simp only [zgc,evG] at he;refine wp_block (zjp hm c he h (fun o γ' st' a' w' h' hk'=>?_))
  cases o with
  | normal=>exact hk .normal γ' st' a' w' h' hk'
  | ret=>exact hk .ret γ' st' a' w' h' hk'
  | exit i=>
   simp only [yao,Exit.inBlock];simp only [z04] at hk';cases hb:Nat.beq i id with
   | true=>
    rw [hb] at hk';rw [if_pos (z1j.1 hb)];exact hk .normal γ' st' a' w' h' hk'
   | false=>
    rw [hb] at hk';rw [if_neg (z3l.1 hb)];exact hk (.exit i) γ' st' a' w' h' hk'
 | .loop c,k,Q,γ,st,a,w,he,h,hk=>by
  simp only [zgc,evG] at he;generalize lkd ⟨[],[],[]⟩ E.lp (zi8 c)=kp at he
  let J:Act→World→Nat→Prop:=fun a w n=>∃ γ st,Rel B nt w0 X γ st a w∧zsq c (evG zsq E c) kp n st k=some r
  obtain ⟨γr,hr⟩:=h.restrict kp;refine wp_loop (fun a w=>∃ n,J a w n) (fun a w=>(Classical.epsilon fun n=>J a w n∧∀ m,J a w m→n≤m)) ⟨_,γr,_,hr,he⟩ ?_
  intro a w hI;have hleast:=Classical.epsilon_spec (y0j (J a w) hI);generalize (Classical.epsilon fun n=>J a w n∧∀ m,J a w m→n≤m)=n at hleast
  obtain ⟨⟨γ1,st1,h1,he1⟩,_⟩:=hleast;cases n with
  | zero=>simp [zsq] at he1
  | succ n=>
   simp only [zsq] at he1;refine zjp hm c he1 h1 (fun o γ' st' a' w' h' hk'=>?_)
   obtain ⟨γr,hr⟩:=h'.restrict kp;cases o with
   | normal=>
    simp only [yao,Exit.then];have hJ:J a' w' n:=⟨γr,_,hr,hk'⟩;refine ⟨⟨n,hJ⟩,?_⟩
    have:=Classical.epsilon_spec (y0j (J a' w') ⟨n,hJ⟩)
    exact Nat.lt_succ_of_le (this.2 n hJ)
   | exit i=>exact hk (.exit i) γr _ a' w' hr hk'
   | ret=>exact hk .ret γr _ a' w' hr hk'
end
open Go Go.RowKit
theorem zng (o:Store) (bs:List V) (tk:Option Kd) (v:V):z92 (zdw (z7s o bs tk v))=true:=by
 cases v <;> simp only [z7s] <;> repeat' split
 all_goals rfl
theorem zpt (o:Store) (bs:List V):∀ (l:List V) (ks:List Kd),(y27 (fun k v=>zdw (z7s o bs k v)) ks l).all z92=true
 | [],ks=>by cases ks <;> rfl
 | v :: l,[]=>by simp [y27,zng,zpt o bs l []]
 | v :: l,k :: ks=>by simp [y27,zng,zpt o bs l ks]
theorem zpu (o:Store) (ks:List Kd) (v:V):(match y43 o ks v with | .agg l=>l.all z92 | v=>z92 v)=true∧∀ l,y43 o ks v≠.tup l:=by
 by_cases hc:∃ l,v = .agg l
 ·obtain ⟨l,rfl⟩:=hc
  simp only [y43];exact ⟨zpt o [] l ks,fun l' h=>by cases h⟩
 ·have h1:y43 o ks v=zdw (z7s o [] ks.head? v):=by cases v <;> first | rfl | exact absurd ⟨_,rfl⟩ hc
  have h2:=zng o [] ks.head? v;rw [h1];cases hx:zdw (z7s o [] ks.head? v) <;> rw [hx] at h2 <;> simp only [z92] at h2 ⊢ <;> first | (cases h2; done) | (refine ⟨trivial,fun l h=>?_⟩; cases h)
theorem zrv (o:Store) (ks:List (List Kd)) (v:V):zih (zk1 o ks v)=true:=by
 by_cases hc:∃ l,v = .tup l
 ·obtain ⟨l,rfl⟩:=hc
  simp only [zk1,zih];have key:∀ (l:List V) (ks:List (List Kd)),((zk1.go o ks l).all fun v=>match v with | .agg l=>l.all z92 | v=>z92 v)=true:=by
   intro l
   induction l with
   | nil=>intro ks; cases ks <;> rfl
   | cons v l ih=>
    intro ks;cases ks with
    | nil=>simp only [zk1.go,List.all_cons,Bool.and_eq_true]; exact ⟨(zpu o [] v).1,ih []⟩
    | cons k ks=>simp only [zk1.go,List.all_cons,Bool.and_eq_true]; exact ⟨(zpu o k v).1,ih ks⟩
  exact key l ks
 ·have h1:zk1 o ks v=y43 o (ks.headD []) v:=by cases v <;> first | rfl | exact absurd ⟨_,rfl⟩ hc
  rw [h1];obtain ⟨h2,h3⟩:=zpu o (ks.headD []) v;cases hx:y43 o (ks.headD []) v <;> rw [hx] at h2 <;> simp only [zih] at h2 ⊢ <;> first | exact h2 | exact absurd hx (h3 _)
theorem zxy (o:Store) (all:List Nat) (cs:List V):(cs.map (z3a o all)).all okC=true:=by
 refine List.all_eq_true.2 (fun v hv=>?_)
 obtain ⟨u,_,rfl⟩:=List.mem_map.1 hv;rcases zbv o all u with ⟨_,_,_,_,_,_,_,_,_,h1⟩ | ⟨h1,_⟩
 ·rw [h1]; rfl
 ·cases hcc:z3a o all u <;> first | rfl | (rw [hcc] at h1; cases h1)
section
variable {B:BT} {nt:Nat} {w0:World} {X:Zone} {γ:Nat→Value} {st st':St} {a:Act} {w:World} {P:Program} {E:Env}
theorem y72 (h:Rel B nt w0 X γ st a w) {n:Nat} {cs:List V} (ho:z03 st.o n=some (.box cs)) {extra:List Nat} {m:Nat} (hm:m∈extra) {b:Nat} (hr:RowOf γ st.o m b) :
  ¬ (z0r γ st.o n b∨∃ m∈z3i st.o (z15 cs++extra) cs,z0r γ st.o m b):=by
 intro hLb;obtain ⟨e,ag,ks,l,h5,h6⟩:=hr;rcases hLb with ⟨ob,h7,h8⟩ | ⟨m2,h9,ob,h7,h8⟩
 ·have hne:n≠m:=by
   rintro rfl
   rw [ho] at h5;cases h5
  exact h.dis n m ob _ b hne h7 h5 h8 h6
 ·by_cases hne:m2=m
  ·subst hne
   obtain ⟨hi2,e2,ag2,ks2,l2,k1,k2,k3⟩:=z6q.1 h9;rw [z89] at k3;have q1:=zh8 (z9l k1);have q2:=zh8 hm;omega
  ·exact h.dis m2 m ob _ b hne h7 h5 h8 h6
theorem yc7 {p:Value} (h:Rel ⟨B.T,B.e,some p,B.ng,B.F⟩ nt w0 X γ st a w) {v:V} {x:Value} (hv:VRel γ st.o w (z07 X γ st.o) v x) {ks:List (List Kd)} {vs:List V} {r:V} {out:List (List V)} (he:yct st.o ks (z5r vs) v=some (r,out)) {g0:Value} (hp:p=zli g0) :
  ∃ γ',Rel B.base 0 w0 X γ' ⟨[],z2u r out⟩ zu9 w∧VRel γ' (z2u r out) w (z07 X γ' (z2u r out)) (y42 r) x∧z9i vs r out g0 (γ' 900000):=by
 have hfar:∀ b,X.far b→z07 X γ st.o b∧∀ b',b'=b→¬ z1f γ st.o b':=fun b hb=>⟨.inr hb,fun b' e hP=>h.nr b' hP (e ▸ hb)⟩
 have hbd:∀ {n:Nat} {cs:List V} (ho:z03 st.o n=some (.box cs)) (extra:List Nat),∃ γb,Rel B.base 0 w0 X γb ⟨[],z6y (cs.map (z3a st.o (z15 cs++extra)))⟩ zu9 w∧γb 900000=γ n ∧
   ∀ b,z1f γb (z6y (cs.map (z3a st.o (z15 cs++extra)))) b→z0r γ st.o n b∨∃ m∈z3i st.o (z15 cs++extra) cs,z0r γ st.o m b:=by
  intro n cs ho extra;exact h.bound ho extra (w1:=w0) (own1:=X.own) (F:=X.far) h.keep (fun b hb=>⟨.inr hb,fun ⟨ob,h1,h2⟩=>h.nr b ⟨n,ob,h1,h2⟩ hb,fun m _ ⟨ob,h1,h2⟩=>h.nr b ⟨m,ob,h1,h2⟩ hb,fun m _ ⟨ob,h1,h2⟩=>h.nr b ⟨m,ob,h1,h2⟩ hb⟩)
   (fun b hb=>by
    rcases hb with ⟨ob,h1,h2⟩ | ⟨m,_,ob,h1,h2⟩
    ·exact (h.lt b ⟨n,ob,h1,h2⟩).2
    ·exact (h.lt b ⟨m,ob,h1,h2⟩).2)
 have hbP:∀ {n b:Nat} {hs:List Nat},(z0r γ st.o n b∨∃ m∈hs,z0r γ st.o m b)→z1f γ st.o b:=by
  rintro n b hs (⟨ob,h1,h2⟩ | ⟨m,_,ob,h1,h2⟩)
  ·exact ⟨n,ob,h1,h2⟩
  ·exact ⟨m,ob,h1,h2⟩
 unfold yct at he
 split at he
 ·rename_i s0 hb
  split at he
  ·rename_i s hob
   simp only [Option.some.injEq,Prod.mk.injEq] at he;obtain ⟨rfl,rfl⟩:=he;obtain ⟨hR,hP⟩:=h.boundB hob (w1:=w0) (own1:=X.own) (F:=X.far) h.keep (fun b hb=>⟨.inr hb,fun ⟨ob,h1,h2⟩=>h.nr b ⟨_,ob,h1,h2⟩ hb⟩) (fun b ⟨ob,h1,h2⟩=>(h.lt b ⟨_,ob,h1,h2⟩).2)
   have hmo:z2u (zk1 st.o ks v) [[.bld s]]=z6y [.bld s]:=by cases zk1 st.o ks v <;> rfl
   have hf:=zrv st.o ks v;refine ⟨_,by rw [hmo]; exact hR,?_,?_⟩
   ·rw [hmo,za8 hf]
    refine zxk h hv (fun b _ hb=>?_) (fun m hm b hr hb=>?_) ks
    ·exact hb.imp_left (fun hb=>by obtain ⟨ob,h1,h2⟩:=hP b hb; exact ⟨_,ob,h1,h2⟩)
    ·obtain ⟨e,ag,ks',l,q1,q2⟩:=hr
     rcases hb with hb | hb
     ·obtain ⟨ob,h1,h2⟩:=hP b hb
      refine h.dis 900000 m ob _ b ?_ h1 q1 h2 q2
      rintro rfl
      rw [hob] at q1;cases q1
     ·exact h.nr b ⟨m,_,q1,q2⟩ hb
   ·simp only [z9i,hb]
    exact ⟨hf,rfl,(h.pn p rfl _ hob).trans hp⟩
  ·cases he
 ·rename_i cs0 hnb hb
  split at he
  ·rename_i cs hob
   simp only [Option.some.injEq,Prod.mk.injEq] at he;obtain ⟨rfl,rfl⟩:=he;obtain ⟨γb,hR,hg,hP⟩:=hbd hob (zg6 v);have hmo:z2u (zk1 st.o ks v) [cs.map (z3a st.o (z15 cs++zg6 v))]=z6y (cs.map (z3a st.o (z15 cs++zg6 v))):=by cases zk1 st.o ks v <;> rfl
   have hf:=zrv st.o ks v;refine ⟨γb,by rw [hmo]; exact hR,?_,?_⟩
   ·rw [hmo,za8 hf]
    refine zxk h hv (fun b _ hb=>hb.imp_left (fun hb=>hbP (hP b hb))) (fun m hm b hr hb=>?_) ks
    rcases hb with hb | hb
    ·exact y72 h hob hm hr (hP b hb)
    ·obtain ⟨e,ag,ks',l,q1,q2⟩:=hr
     exact h.nr b ⟨m,_,q1,q2⟩ hb
   ·simp only [z9i,hb]
    refine ⟨hf,?_,?_⟩
    ·unfold zy4
     split
     ·exact absurd rfl (hnb _)
     ·exact absurd rfl (hnb _)
     ·exact zxy _ _ _
    ·rw [hg]
     exact (h.pn p rfl _ hob).trans hp
  ·cases he
 ·rename_i hb
  have fin9:∀ v,VRel γ st.o w (z07 X γ st.o) v x→∃ γ',Rel B.base 0 w0 X γ' ⟨[],z2u (zk1 st.o ks v) []⟩ zu9 w∧VRel γ' (z2u (zk1 st.o ks v) []) w (z07 X γ' (z2u (zk1 st.o ks v) [])) (y42 (zk1 st.o ks v)) x∧z9i vs (zk1 st.o ks v) [] g0 (γ' 900000):=by
   intro v hv;have hf:=zrv st.o ks v;have hmo:z2u (zk1 st.o ks v) []=[]:=by
    cases hx:zk1 st.o ks v <;> first | rfl | (rw [hx] at hf; simp only [zih,z92] at hf; cases hf)
   refine ⟨γ,?_,?_,?_⟩
   ·rw [hmo]
    refine ⟨rfl,rfl,fun i=>by simp only [St.get,lkd,VRel],fun n ob hn=>?_,?_,?_,h.keep,?_,h.fl,fun p hp=>by cases hp⟩
    ·simp only [z03,lkd] at hn; cases hn
    ·rintro b ⟨n,ob,hn,_⟩; simp only [z03,lkd] at hn; cases hn
    ·intro n m ob ob' b _ hn; simp only [z03,lkd] at hn; cases hn
    ·rintro b ⟨n,ob,hn,_⟩; simp only [z03,lkd] at hn; cases hn
   ·rw [hmo,za8 hf]
    refine zxk h hv (fun b _ hb=>?_) (fun m hm b hr hb=>?_) ks
    ·rcases hb with ⟨n,ob,hn,_⟩ | hb
     ·simp only [z03,lkd] at hn; cases hn
     ·exact .inr hb
    ·rcases hb with ⟨n,ob,hn,_⟩ | hb
     ·simp only [z03,lkd] at hn; cases hn
     ·obtain ⟨e,ag,ks',l,q1,q2⟩:=hr
      exact h.nr b ⟨m,_,q1,q2⟩ hb
   ·simp only [z9i,hb]
    cases hx:zk1 st.o ks v <;> first | (rw [hx] at hf; exact hf) | (rw [hx] at hf; simp only [zih,z92] at hf; cases hf)
  split at he
  ·rename_i n i c
   split at he
   ·rename_i cs hob hc
    simp only [Option.some.injEq,Prod.mk.injEq] at he;obtain ⟨rfl,rfl⟩:=he;obtain rfl:=z1j.1 hc;obtain ⟨γb,hR,hg,hP⟩:=hbd hob [];refine ⟨γb,hR,?_,?_⟩
    ·simp only [VRel,hob] at hv
     simp only [z2u,y42,z7t,VRel];rw [zhl (zxy _ _ _),z01,if_pos rfl,hg];exact ⟨trivial,hv.2⟩
    ·simp only [z9i,hb,okR]
     exact zxy _ _ _
   ·cases he
  ·rename_i n lo hi
   split at he
   ·rename_i e ag ks' l hob
    split at he
    ·rename_i hlo
     simp only [Option.some.injEq,Prod.mk.injEq] at he;obtain ⟨rfl,rfl⟩:=he;obtain rfl:=z1j.1 hlo;obtain ⟨hpr,hpb⟩:=zy7 (γ':=fun m=>if m=900000 then x else γ m) (o':=[(900000,some (Ob.row true e ag ks' (l.take hi)))]) h hob hv
     have hmo:z2u (.vec e ag ks' (l.take hi)) []=[(900000,some (.row true e ag ks' (l.take hi)))]:=rfl;have obs:∀ m ob,z03 [(900000,some (Ob.row true e ag ks' (l.take hi)))] m=some ob→m=900000∧ob = .row true e ag ks' (l.take hi):=fun m ob hn=>by
      rw [z01] at hn
      split at hn
      ·rename_i h9
       simp only [Option.some.injEq] at hn;exact ⟨h9.symm,hn.symm⟩
      ·simp [z03,lkd] at hn
     have ownP:∀ b,z1f (fun m=>if m=900000 then x else γ m) [(900000,some (Ob.row true e ag ks' (l.take hi)))] b→z0r γ st.o n b:=by
      rintro b ⟨m,ob,hn,hb⟩
      obtain ⟨rfl,rfl⟩:=obs m ob hn;exact hpb b (by simpa only [if_true] using hb)
     have hlt:∀ b,z0r γ st.o n b→z1f γ st.o b:=fun b ⟨ob,h1,h2⟩=>⟨n,ob,h1,h2⟩
     have hO:∀ b,b < w.heap.size→z07 X (fun m=>if m=900000 then x else γ m) [(900000,some (Ob.row true e ag ks' (l.take hi)))] b→z07 X γ st.o b:=fun b _ hb=>hb.imp_left (fun hb=>hlt b (ownP b hb))
     rw [hmo];refine ⟨fun m=>if m=900000 then x else γ m,⟨rfl,rfl,fun i=>by simp only [St.get,lkd,VRel],fun m ob hn=>?_,fun b hb=>h.lt b (hlt b (ownP b hb)),fun m m' ob ob' b hnm h1 h2=>?_,h.keep,fun b hb=>h.nr b (hlt b (ownP b hb)),h.fl,fun p hp=>by cases hp⟩,?_,?_⟩
     ·obtain ⟨rfl,rfl⟩:=obs m ob hn
      simp only [ObRel,if_true] at hpr ⊢
      obtain ⟨k1,k2,xs,k3,k4⟩:=hpr;exact ⟨k1,k2,xs,k3,fun i y hy=>Kd.RelAll.mono (Keep.refl _ w) hO (fun _ _ hu=>hu) (k4 i y hy)⟩
     ·obtain ⟨rfl,rfl⟩:=obs m ob h1
      obtain ⟨rfl,rfl⟩:=obs m' ob' h2;exact absurd rfl hnm
     ·simp only [y42,VRel,z01,if_true]
      refine ⟨Nat.le_refl _,?_⟩;simp only [VRel,hob] at hv;obtain ⟨hl,p,len,cap,p',hgm,hxx,_,h22,h33,hm4,_,h5⟩:=hv;have htl:(l.take hi).length=hi:=by rw [List.length_take,Nat.min_eq_left hl]
      rw [htl];rw [Nat.sub_zero,Nat.sub_zero] at hxx;refine ⟨p',hi,cap,p',hxx,by rw [hxx]; simp,Nat.zero_le _,Nat.le_refl _,by omega,hm4,.inl ?_,fun _=>rfl⟩
      cases p' <;> simp [Addr.add]
     ·simp only [z9i,hb,okR]
    ·cases he
   ·simp only [Option.some.injEq,Prod.mk.injEq] at he
    obtain ⟨rfl,rfl⟩:=he;exact fin9 _ hv
  ·rename_i hnp
   simp only [Option.some.injEq,Prod.mk.injEq] at he;obtain ⟨rfl,rfl⟩:=he;exact fin9 _ hv
theorem zvj:∀ (vs:List V) (i j:Nat),lkd .any (y0e i vs) j=if i≤j∧j < i+vs.length then z7t (vs.getD (j - i) .any) else .any
 | [],i,j=>by
  rw [if_neg (by simp only [List.length_nil]; omega)]
  rfl
 | v :: r,i,j=>by
  simp only [y0e,za2,zvj r (i+1) j,List.length_cons]
  by_cases e:i=j
  ·subst e
   simp
  ·rw [if_neg e]
   by_cases h:i+1≤j∧j < i+1+r.length
   ·rw [if_pos h,if_pos (by omega),show j - i=(j - (i+1))+1 by omega]
    simp
   ·rw [if_neg h,if_neg (by omega)]
theorem zy5 (hT:TiOK P B E) {w:World}:∀ {rs:List ResultVar} {l:List V},yd1 E st rs=some l→Rel B nt w0 X γ st a w →
  ∃ xs:List Value,(rs.mapM fun r=>match r with | .tmp t=>pure (a.tmps.getD t undef) | .cell ad t=>do loadVar t (← asAddr (a.tmps.getD ad undef)):Sem (List Value)).run P w = .ok xs w∧VRels γ st.o w (z07 X γ st.o) l xs
 | [],l,h,hR=>by
  simp only [yd1,Option.some.injEq] at h;subst h;exact ⟨[],by simp,by simp only [VRels]⟩
 | .tmp t :: r,l,h,hR=>by
  simp only [yd1] at h
  split at h
  ·rename_i l' hl'
   simp only [Option.some.injEq] at h;subst h;obtain ⟨xs,h1,h2⟩:=zy5 hT hl' hR;refine ⟨a.tmps.getD t undef :: xs,?_,?_⟩
   ·simp only [List.mapM_cons,Sem.run_bind,Sem.run_pure,Result.andThen_ok,h1]
   ·simp only [VRels]
    exact ⟨hR.tm t,h2⟩
  ·cases h
 | .cell ad t :: r,l,h,hR=>by
  simp only [yd1] at h
  split at h
  ·rename_i n i c hop
   split at h
   ·rename_i cs hob
    split at h
    ·rename_i v l' hv hl'
     simp only [Option.some.injEq] at h;subst h;obtain ⟨xs,h1,h2⟩:=zy5 hT hl' hR;have hx:=hR.tm ad;rw [hop] at hx;simp only [VRel,hob] at hx;obtain ⟨_,b,hg,hx⟩:=hx;have hor:=hR.ob n _ hob;simp only [ObRel] at hor;obtain ⟨b',cs',T,hg',hh,hr⟩:=hor;rw [hg] at hg';simp only [Value.pointer.injEq,Option.some.injEq,Addr.mk.injEq,and_true] at hg';subst hg';obtain ⟨y,hy,hr'⟩:=y0n (hT.known (zqc hv)) hv hh hr;refine ⟨y :: xs,?_,?_⟩
     ·have hy':(do loadVar t (← asAddr (a.tmps.getD ad undef)):Sem Value).run P w = .ok y w:=by
       rw [hx];exact hy
      simp only [Sem.run_bind] at hy';simp only [List.mapM_cons,Sem.run_bind,hy',Sem.run_pure,Result.andThen_ok,h1]
     ·simp only [VRels]
      exact ⟨hr',h2⟩
    ·cases h
   ·cases h
  ·cases h
theorem y8u {f:FuncId} {fn:Func} {code:Code} (hf:P.funcs[f]?=some fn) (hn:(fn.name == "runtime.NumGoroutine")=false) (hb:fn.body=some code) (hnt:E.nt=fn.ntmps) (hn9:Nat.ble fn.ntmps 900000=true) {rs:List ResultVar} (hrs:fn.results.toList=rs)
  (rks:List (List Kd)) (hm:P.follows .mixedOrders=true) (hT:TiOK P B E) (hE:∀ t,t∈E.eqs→EqSnd P t (E.tyd t).ks) (hSp:∀ f sp,lk E.sp f=some sp→Snd P B f (fun vs=>(sp vs).get)) (hIp:∀ f p,lk E.ip f=some p→y7e P f p) (hB:BldOK P B E):Snd P B f (z1c E code rs rks):=by
 intro w X γ vs xs r out hsp hgl hxo hR hV;unfold z1c at hsp
 split at hsp
 case h_2=>cases hsp
 rename_i hle;have hle':=Nat.le_of_ble_eq_true hle;have hlen:xs.length=vs.length:=by rw [← hV.length,List.length_map]
 refine Does.enter hf hn (by rw [hb]; rfl) (calls_of_wp hf hb ?_)
 let B':BT:=⟨B.T,B.e,some (zli (γ 900000)),B.ng,B.F⟩
 have hT':TiOK P B' E:=fun t x ht=>⟨(hT t x ht).info,(hT t x ht).ks,(hT t x ht).by1,(hT t x ht).one,(hT t x ht).und⟩
 have hSp':SpOK P B' E w X:=⟨⟨hgl,hxo⟩,fun f sp hfs=>hSp f sp hfs,hIp⟩
 have hB':BldOK P B' E:=hB;have hstart:Rel B' fn.ntmps w X γ ⟨y0e 0 vs,zbh vs⟩ { tmps:=xs.toArray++Array.replicate (fn.ntmps - xs.toArray.size) undef,defers:=[] } w:=by
  refine ⟨?_,rfl,fun i=>?_,fun n ob hnob=>?_,hR.lt,hR.dis,hR.keep,hR.nr,hR.fl,fun p hp ob _=>?_⟩
  ·simp
   omega
  ·simp only [St.get,zvj]
   split
   ·rename_i hi
    have hi':i < vs.length:=by omega
    have h1:(vs.map z7t)[i]?=some (z7t vs[i]):=by simp [hi']
    obtain ⟨x,hx,hvx⟩:=hV.get h1;have h2:vs.getD (i - 0) .any=vs[i]:=by simp [hi']
    rw [h2];have h3:(xs.toArray++Array.replicate (fn.ntmps - xs.toArray.size) undef).getD i undef=x:=by
     rw [Array.getD_eq_getD_getElem?,Array.getElem?_append_left (by simp; omega)]
     simp [hx]
    simp only [h3];exact hvx
   ·simp only [VRel]
  ·have:=hR.ob n ob hnob
   cases ob with
   | box l=>simpa only [ObRel] using this
   | row own e ag ks l=>cases own <;> simpa only [ObRel] using this
   | bld s=>simpa only [ObRel,BT.base] using this
  ·simp only [B',Option.some.injEq] at hp
   exact hp
 refine zjp hT' hE hSp' hB' hnt (Nat.le_of_ble_eq_true hn9) hm code hsp hstart (fun o γ' st' a' w' h' hk'=>?_)
 have fin:∀ l,yd1 E st' rs=some l→yct st'.o rks (z5r vs) (yfl l)=some (r,out)→bodyPost P fn (fun e w'=>∃ x,e = .returned x∧∃ γ',Rel B.base 0 w X γ' ⟨[],z2u r out⟩ zu9 w'∧VRel γ' (z2u r out) w' (z07 X γ' (z2u r out)) (y42 r) x∧z9i vs r out (γ 900000) (γ' 900000)) .ret a' w':=by
  intro l hl he;obtain ⟨ys,hy1,hy2⟩:=zy5 (P:=P) hT' hl h';have hval:(results fn a'.tmps).run P w' = .ok (if h:ys.toArray.size=1 then ys.toArray[0] else .tuple ys.toArray) w':=by
   unfold results;rw [show fn.results=rs.toArray by rw [← hrs]]
   rw [Array.mapM_eq_mapM_toList];simp only [Sem.run_bind,Sem.run_map]
   erw [hy1]
   rfl
  have hrel:VRel γ' st'.o w' (z07 X γ' st'.o) (yfl l) (if h:ys.toArray.size=1 then ys.toArray[0] else .tuple ys.toArray):=by
   match l,ys,hy2 with
   | [],[],_=>simp only [yfl,VRel]; exact ⟨#[],by simp,by simp only [VRels]⟩
   | [v],[y],h2=>simp only [VRels] at h2; simpa [yfl] using h2.1
   | v :: v' :: l,y :: y' :: ys,h2=>simp only [yfl,VRel]; exact ⟨(y :: y' :: ys).toArray,by simp,by simpa using h2⟩
  obtain ⟨γ2,q1,q2,q3⟩:=yc7 (B:=B) h' hrel he rfl;exact ⟨h'.df,_,hval,_,rfl,γ2,q1,q2,q3⟩
 cases o with
 | exit i=>simp [z3f] at hk'
 | normal=>
  simp only [z3f] at hk'
  split at hk'
  ·rename_i l hl
   exact fin l hl hk'
  ·cases hk'
 | ret=>
  simp only [z3f] at hk'
  split at hk'
  ·rename_i l hl
   exact fin l hl hk'
  ·cases hk'
end
open Go Go.RowKit
def zB:V→Value→Bool
 | .int k n,.int k' n'=>k==k'&&(n==n'&&y7r k n)
 | .bool b,.bool c=>b==c
 | .str s,.string s'=>s.size==0&&s'.size==0
 | .zs,.slice none 0 0=>true
 | .nilp,.pointer none=>true
 | .err true,.nilIface=>true
 | .any,_=>true
 | _,_=>false
def zBs:List V→List Value→Bool
 | [],[]=>true
 | v :: vs,x :: xs=>zB v x&&zBs vs xs
 | _,_=>false
def dB (P:Program) (T t:Nat) (ks:List Kd):TD→TypeDesc→Bool
 | .slice e,.slice e'=>e==e'
 | .struct fs,.struct fields=>fs==fields.toList.map (fun f=>(f.offset,f.type))&&fields.toList.all (fun f=>(P.info? f.type).isSome)
 | .array n e,.array n' e'=>n==n'&&e==e'
 | .ptr e,.pointer e'=>e==e'
 | .bld,_=>t==T
 | .iface,.interface _=>true
 | .leaf,d=>match ks with
  | [.int k]=>(match d with | .int k'=>k==k' | _=>false)
  | [.str]=>(match d with | .string=>true | _=>false)
  | [.bool]=>(match d with | .bool=>true | _=>false)
  | _=>true
 | _,_=>false
def tiB (P:Program) (T t:Nat) (x:TI):Bool:=
 match P.info? t,P.underlying t with
 | some i,some d=>match i.zero with
  | some z=>i.size==x.size&&(i.bytes==x.bytes&&(z.cells.size==x.size&&(zBs x.zero z.cells.toList&&(x.ks.length==x.size&&(Nat.ble 1 x.bytes&&((x.agg||x.size==1)&&(d.isRow==x.agg&&dB P T t x.ks x.d d)))))))
  | none=>false
 | _,_=>false
def ygp (P:Program) (T:Nat):List (Nat × TI)→Bool
 | []=>true
 | (t,x) :: r=>tiB P T t x&&ygp P T r
theorem ygv {γ:Nat→Value} {o:Store} {w:World} {O:Nat→Prop} {v:V} {x:Value} (h:zB v x=true):VRel γ o w O v x:=by
 unfold zB at h
 split at h
 ·simp only [Bool.and_eq_true,beq_iff_eq,y7r,decide_eq_true_eq] at h
  obtain ⟨rfl,rfl,h1,h2⟩:=h;simp only [VRel];exact ⟨trivial,h1,h2⟩
 ·simp only [beq_iff_eq] at h
  subst h;simp only [VRel]
 ·rename_i s s'
  simp only [Bool.and_eq_true,beq_iff_eq] at h;have e:∀ s:ByteArray,s.size=0→s=ByteArray.empty:=fun s hs=>by
   obtain ⟨⟨l⟩⟩:=s;cases l with
   | nil=>rfl
   | cons a l=>simp [ByteArray.size] at hs
  simp only [VRel];rw [e s h.1,e s' h.2];exact ⟨rfl,by simp [ByteArray.size_empty]⟩
 ·simp only [VRel]
 ·simp only [VRel]
 ·simp only [VRel]
 ·simp only [VRel]
 ·cases h
theorem ya2 {γ:Nat→Value} {o:Store} {w:World} {O:Nat→Prop}:∀ {l:List V} {xs:List Value},zBs l xs=true→VRels γ o w O l xs
 | [],[],_=>by simp only [VRels]
 | [],_ :: _,h=>by simp [zBs] at h
 | _ :: _,[],h=>by simp [zBs] at h
 | v :: vs,x :: xs,h=>by
  simp only [zBs,Bool.and_eq_true] at h;simp only [VRels];exact ⟨ygv h.1,ya2 h.2⟩
theorem ydw {P:Program} {B:BT} {t:Nat} {x:TI} (h:tiB P B.T t x=true):TISnd P B t x:=by
 unfold tiB at h
 split at h
 ·rename_i i d hi hd
  split at h
  ·rename_i z hz
   simp only [Bool.and_eq_true,beq_iff_eq,Bool.or_eq_true] at h;obtain ⟨h1,h2,h3,h4,h5,h6,h7,h8,h9⟩:=h;refine ⟨⟨i,z,hi,h1,h2,hz,h3,fun γ o w O=>ya2 h4⟩,h5,Nat.le_of_ble_eq_true h6,fun ha=>by rw [ha] at h7; simpa using h7,⟨d,hd,h8,?_⟩⟩
   cases hx:x.d with
   | slice e=>rw [hx] at h9; cases d <;> simp only [dB] at h9 <;> first | (cases h9; done) | (simp only [beq_iff_eq] at h9; subst h9; rfl)
   | struct fs=>
    rw [hx] at h9;cases d <;> simp only [dB] at h9 <;> first | (cases h9; done) | skip
    rename_i fields;simp only [Bool.and_eq_true,beq_iff_eq,List.all_eq_true] at h9;exact ⟨fields,rfl,h9.1,h9.2⟩
   | array n e=>
    rw [hx] at h9;cases d <;> simp only [dB] at h9 <;> first | (cases h9; done) | skip
    simp only [Bool.and_eq_true,beq_iff_eq] at h9;obtain ⟨rfl,rfl⟩:=h9
    rfl
   | ptr e=>rw [hx] at h9; cases d <;> simp only [dB] at h9 <;> first | (cases h9; done) | (simp only [beq_iff_eq] at h9; subst h9; rfl)
   | bld=>rw [hx] at h9; simp only [dB,beq_iff_eq] at h9; exact h9
   | iface=>rw [hx] at h9; cases d <;> simp only [dB] at h9 <;> first | (cases h9; done) | exact ⟨_,rfl⟩
   | leaf=>
    rw [hx] at h9;refine ⟨fun k hk=>?_,fun hk=>?_,fun hk=>?_⟩ <;> rw [hk] at h9 <;> cases d <;> simp only [dB] at h9 <;> first | (cases h9; done) | (simp only [beq_iff_eq] at h9; subst h9; rfl) | rfl
  ·cases h
 ·cases h
theorem yf7 {P:Program} {B:BT} {E:Env} {ti:List (Nat × TI)} (he:E.ti=ti) (h:ygp P B.T ti=true):TiOK P B E:=by
 subst he;have key:∀ (l:List (Nat × TI)),ygp P B.T l=true→∀ t x,lk l t=some x→tiB P B.T t x=true:=by
  intro l
  induction l with
  | nil=>intro _ t x hx; simp [lk] at hx
  | cons p r ih=>
   obtain ⟨j,y⟩:=p;intro hl t x hx;simp only [ygp,Bool.and_eq_true] at hl;simp only [lk] at hx
   split at hx
   ·rename_i hb
    simp only [Option.some.injEq] at hx;subst hx;rw [← z1j.1 hb];exact hl.1
   ·exact ih hl.2 t x hx
 exact fun t x ht=>ydw (key E.ti h t x ht)
def zv4 (P:Program) (t w:Nat):Bool:=match P.info? t with | some _=>P.cellsOf t==w | none=>false
def yep (ks:List Kd):Nat→List Kd
 | 0=>[]
 | n+1=>ks++yep ks n
def ygk (P:Program) (g:Nat→Option (List Kd)):List Field→Nat→Option (List Kd)
 | [],_=>some []
 | f :: r,o=>match g f.type with
  | some ks=>match f.name != "_"&&(f.offset==o&&zv4 P f.type ks.length) with
   | true=>match ygk P g r (o+ks.length) with
    | some ks'=>some (ks++ks')
    | none=>none
   | false=>none
  | none=>none
def eqW (P:Program):Nat→Nat→Option (List Kd)
 | 0,_=>none
 | d+1,t=>match P.underlying t with
  | some (.int k)=>some [.int k]
  | some .bool=>some [.bool]
  | some (.struct fs)=>match P.stoodInHeld t with
   | true=>none
   | false=>ygk P (eqW P d) fs.toList 0
  | some (.array n e)=>match eqW P d e with
   | some ks=>match zv4 P e ks.length with
    | true=>some (yep ks n)
    | false=>none
   | none=>none
  | _=>none
def yhb (P:Program) (ti:List (Nat × TI)):List Nat→Bool
 | []=>true
 | t :: r=>(!(P.eqGuardType P.depth t))&&((match P.underlying t with | some d=>d.isRow | none=>false)&&(match eqW P 10 t with | some ks=>zsl.kdsEq (lkd TI.none ti t).ks ks | none=>false))&&yhb P ti r
theorem z8n:∀ {ks:List Kd} {l:List V},z7e ks l=true→l.length=ks.length
 | [],[],_=>rfl
 | [],_ :: _,h=>by simp [z7e] at h
 | k :: _,[],h=>by cases k <;> simp [z7e] at h
 | k :: ks,v :: l,h=>by
  cases k <;> cases v <;> simp only [z7e] at h <;> try (cases h; done)
  ·split at h
   ·simp [z8n h]
   ·cases h
  ·simp [z8n h]
theorem zcu:∀ {ks ks':List Kd} {l:List V},z7e (ks++ks') l=true→z7e ks (l.take ks.length)=true∧z7e ks' (l.drop ks.length)=true
 | [],_,_,h=>⟨rfl,h⟩
 | k :: ks,ks',[],h=>by cases k <;> simp [z7e] at h
 | k :: ks,ks',v :: l,h=>by
  cases k <;> cases v <;> simp only [List.cons_append,z7e] at h <;> try (cases h; done)
  ·split at h
   ·rename_i hk
    obtain ⟨h1,h2⟩:=zcu h;simp only [List.length_cons,List.take_succ_cons,List.drop_succ_cons,z7e,hk];exact ⟨h1,h2⟩
   ·cases h
  ·obtain ⟨h1,h2⟩:=zcu h
   simp only [List.length_cons,List.take_succ_cons,List.drop_succ_cons,z7e];exact ⟨h1,h2⟩
theorem zi1:∀ {a a':List V} {b b':List V} {c:Bool},a.length=a'.length→zv0 (a++b) (a'++b')=some c→∃ c1 c2,zv0 a a'=some c1∧zv0 b b'=some c2∧c=(c1&&c2)
 | [],[],b,b',c,_,h=>⟨true,c,rfl,h,by simp⟩
 | [],_ :: _,_,_,_,hl,_=>by simp at hl
 | _ :: _,[],_,_,_,hl,_=>by simp at hl
 | x :: a,y :: a',b,b',c,hl,h=>by
  have hl':a.length=a'.length:=by simpa using hl
  cases x <;> cases y <;> simp only [List.cons_append,zv0] at h ⊢ <;> try (cases h; done)
  ·split at h
   ·rename_i hk
    split at h
    ·rename_i c0 h0
     simp only [Option.some.injEq] at h;obtain ⟨c1,c2,h1,h2,h3⟩:=zi1 hl' h0;rw [h1];exact ⟨_,c2,rfl,h2,by rw [← h,h3,Bool.and_assoc]⟩
    ·cases h
   ·cases h
  ·split at h
   ·rename_i c0 h0
    simp only [Option.some.injEq] at h;obtain ⟨c1,c2,h1,h2,h3⟩:=zi1 hl' h0;rw [h1];exact ⟨_,c2,rfl,h2,by rw [← h,h3,Bool.and_assoc]⟩
   ·cases h
theorem zfh:∀ {a a':List V} {c:Bool},zv0 a a'=some c→a.length=a'.length
 | [],[],_,_=>rfl
 | [],_ :: _,_,h=>by simp [zv0] at h
 | x :: _,[],_,h=>by cases x <;> simp [zv0] at h
 | x :: a,y :: a',c,h=>by
  cases x <;> cases y <;> simp only [zv0] at h <;> try (cases h; done)
  ·split at h
   ·split at h
    ·rename_i h0
     simp [zfh h0]
    ·cases h
   ·cases h
  ·split at h
   ·rename_i h0
    simp [zfh h0]
   ·cases h
section
variable {P:Program} {γ:Nat→Value} {o:Store} {w:World} {O:Nat→Prop}
def zom (P:Program) (γ:Nat→Value) (o:Store) (w:World) (O:Nat→Prop) (t:Nat) (l:List V) (x:Value):Prop:=
 match P.underlying t with
 | some d=>match d.isRow with
  | true=>∃ xs,x = .agg xs∧VRels γ o w O l xs.toList
  | false=>∃ v,l=[v]∧VRel γ o w O v x
 | none=>False
theorem y8m {d t:Nat} {ks:List Kd} (h:eqW P d t=some ks):∃ k,P.underlying t=some k∧(k.isRow=false→ks.length=1):=by
 cases d with
 | zero=>simp [eqW] at h
 | succ d=>
  simp only [eqW] at h
  split at h
  ·rename_i hu; simp only [Option.some.injEq] at h; exact ⟨_,hu,fun _=>by rw [← h]; rfl⟩
  ·rename_i hu; simp only [Option.some.injEq] at h; exact ⟨_,hu,fun _=>by rw [← h]; rfl⟩
  ·rename_i hu; exact ⟨_,hu,fun h=>by simp [TypeDesc.isRow] at h⟩
  ·rename_i hu; exact ⟨_,hu,fun h=>by simp [TypeDesc.isRow] at h⟩
  ·cases h
theorem zev {t n off:Nat} {l:List V} {xs:Array Value} (hu:∃ k,P.underlying t=some k∧(k.isRow=false→n=1)) (hs:zv4 P t n=true) (hr:VRels γ o w O l xs.toList) (hl:off+n≤l.length) (W:World) :
  ∃ y,(part t xs off).run P W = .ok y W∧zom P γ o w O t ((l.drop off).take n) y:=by
 obtain ⟨k,hu,hn⟩:=hu;unfold zv4 at hs
 split at hs
 ·rename_i i hi
  simp only [beq_iff_eq] at hs;cases hrow:k.isRow with
  | true=>
   refine ⟨.agg (xs.extract off (off+n)),?_,?_⟩
   ·cases k <;> simp [TypeDesc.isRow] at hrow <;> simp [part,isAgg,run_underlying hu,run_sizeOf W hi,hs]
   ·unfold zom
    rw [hu];simp only [hrow];refine ⟨_,rfl,?_⟩
    have:(xs.extract off (off+n)).toList=(xs.toList.drop off).take n:=by
     simp [List.extract_eq_take_drop]
    rw [this];exact (hr.drop off).take n
  | false=>
   obtain rfl:=hn hrow;obtain ⟨v,hv⟩:∃ v,l[off]?=some v:=⟨l[off]'(by omega),List.getElem?_eq_getElem _⟩
   obtain ⟨y,hy,hyr⟩:=hr.get hv;have hy':xs[off]?=some y:=by simpa using hy
   refine ⟨y,?_,?_⟩
   ·cases k <;> simp [TypeDesc.isRow] at hrow <;> simp [part,isAgg,run_underlying hu,hy']
   ·unfold zom
    rw [hu];simp only [hrow];refine ⟨v,?_,hyr⟩;rw [List.take_one,List.head?_drop,hv]
    rfl
 ·cases hs
def yew (P:Program) (γ:Nat→Value) (o:Store) (w:World) (O:Nat→Prop) (dd t:Nat) (ks:List Kd):Prop:=∀ (W:World) (x y:Value) (l l':List V) (c:Bool),z7e ks l=true→zom P γ o w O t l x→zom P γ o w O t l' y→zv0 l l'=some c→(Op.equalIn dd t x y).run P W = .ok c W
theorem z8x (l:List V) (off n:Nat):l.drop off=(l.drop off).take n++l.drop (off+n):=by
 rw [← List.drop_drop]; exact (List.take_append_drop n (l.drop off)).symm
theorem zod {dd:Nat} {g:Nat→Option (List Kd)} (hg:∀ t ks,g t=some ks→yew P γ o w O dd t ks∧∃ k,P.underlying t=some k∧(k.isRow=false→ks.length=1)) {xs ys:Array Value} {l l':List V} (hx:VRels γ o w O l xs.toList) (hy:VRels γ o w O l' ys.toList) (hll:l.length=l'.length) (W:World) :
  ∀ (fs:List Field) (off:Nat) {ks:List Kd} {c:Bool},off≤l.length→ygk P g fs off=some ks→z7e ks (l.drop off)=true→zv0 (l.drop off) (l'.drop off)=some c→(Op.eqFields dd xs ys fs).run P W = .ok c W
 | [],off,ks,c,hoff,hf,hk,he=>by
  simp only [ygk,Option.some.injEq] at hf;subst hf;have h0:=z8n hk;have h1:l.drop off=[]:=List.length_eq_zero_iff.1 h0;have h2:l'.drop off=[]:=by
   have:=zfh he
   rw [h1] at this;exact List.length_eq_zero_iff.1 this.symm
  rw [h1,h2] at he;simp only [zv0,Option.some.injEq] at he;subst he;simp [Op.eqFields]
 | f :: r,off,ks,c,hoff,hf,hk,he=>by
  simp only [ygk] at hf
  split at hf
  ·rename_i ks1 hw
   split at hf
   ·rename_i hb
    split at hf
    ·rename_i ks2 hf2
     simp only [Option.some.injEq] at hf;subst hf;simp only [Bool.and_eq_true,beq_iff_eq,bne_iff_ne,ne_eq] at hb;obtain ⟨hn,ho,hs⟩:=hb;obtain ⟨hrun,hu⟩:=hg _ _ hw;obtain ⟨hk1,hk2⟩:=zcu hk;rw [List.drop_drop] at hk2;have hkl:=z8n hk;simp only [List.length_drop,List.length_append] at hkl;have hle:off+ks1.length≤l.length:=by omega
     rw [z8x l off ks1.length,z8x l' off ks1.length] at he;obtain ⟨c1,c2,h1,h2,h3⟩:=zi1 (by simp; omega) he
     obtain ⟨a,ha,hac⟩:=zev (off:=off) hu hs hx hle W;obtain ⟨b,hb,hbc⟩:=zev (off:=off) hu hs hy (by omega) W
     have he1:=hrun W a b _ _ c1 hk1 hac hbc h1;have ih:=zod hg hx hy hll W r (off+ks1.length) hle hf2 hk2 h2;simp only [Op.eqFields,hn,ne_eq,not_false_eq_true,if_true,Sem.run_bind,ho,ha,hb,he1,Result.andThen_ok];subst h3;cases c1
     ·simp
     ·simpa using ih
    ·cases hf
   ·cases hf
  ·cases hf
theorem zqj {dd e:Nat} {ks:List Kd} (hrun:yew P γ o w O dd e ks) (hu:∃ k,P.underlying e=some k∧(k.isRow=false→ks.length=1)) (hs:zv4 P e ks.length=true) {xs ys:Array Value} {l l':List V} (hx:VRels γ o w O l xs.toList) (hy:VRels γ o w O l' ys.toList) (hll:l.length=l'.length) (W:World) :
  ∀ (m i:Nat) {c:Bool},i*ks.length+m*ks.length=l.length→z7e (yep ks m) (l.drop (i*ks.length))=true→zv0 (l.drop (i*ks.length)) (l'.drop (i*ks.length))=some c→(Op.eqItems dd e ks.length xs ys (List.range' i m)).run P W = .ok c W
 | 0,i,c,hl,hk,he=>by
  rw [List.drop_of_length_le (by omega),List.drop_of_length_le (by omega)] at he
  simp only [zv0,Option.some.injEq] at he;subst he;simp [Op.eqItems]
 | m+1,i,c,hl,hk,he=>by
  rw [Nat.add_mul,Nat.one_mul] at hl;obtain ⟨hk1,hk2⟩:=zcu (ks:=ks) (ks':=yep ks m) hk;rw [List.drop_drop] at hk2;rw [z8x l (i*ks.length) ks.length,z8x l' (i*ks.length) ks.length] at he;obtain ⟨c1,c2,h1,h2,h3⟩:=zi1 (by simp; omega) he
  obtain ⟨a,ha,hac⟩:=zev (off:=i*ks.length) hu hs hx (by omega) W
  obtain ⟨b,hb,hbc⟩:=zev (off:=i*ks.length) hu hs hy (by omega) W
  have he1:=hrun W a b _ _ c1 hk1 hac hbc h1;have ih:=zqj hrun hu hs hx hy hll W m (i+1) (by rw [Nat.add_mul,Nat.one_mul]; omega) (by rw [Nat.add_mul,Nat.one_mul]; exact hk2) (by rw [Nat.add_mul,Nat.one_mul]; exact h2)
  simp only [List.range'_succ,Op.eqItems,Sem.run_bind,ha,hb,he1,Result.andThen_ok];subst h3;cases c1
  ·simp
  ·simpa using ih
theorem zqe (ks:List Kd):∀ n,(yep ks n).length=n*ks.length
 | 0=>by simp [yep]
 | n+1=>by simp only [yep,List.length_append,zqe ks n,Nat.add_mul,Nat.one_mul]; omega
theorem y2d (dd:Nat):∀ (d t:Nat) (ks:List Kd),eqW P d t=some ks→yew P γ o w O (dd+d) t ks
 | 0,t,ks,h=>by simp [eqW] at h
 | d+1,t,ks,h=>by
  intro W x y l l' c hk hx hy he;have hll:=zfh he;simp only [eqW] at h;unfold zom at hx hy
  split at h
  ·rename_i k hu
   simp only [Option.some.injEq] at h;subst h;rw [hu] at hx hy;simp only at hx hy;obtain ⟨v,rfl,hx⟩:=hx;obtain ⟨v',rfl,hy⟩:=hy;cases v <;> simp only [z7e] at hk <;> try (cases hk; done)
   cases v' <;> simp only [zv0] at he <;> try (cases he; done)
   simp only [VRel] at hx hy;obtain ⟨rfl,_⟩:=hx;obtain ⟨rfl,_⟩:=hy
   split at he
   ·rename_i hkk
    simp only [Option.some.injEq,Bool.and_true] at he;have hkk:=eq_of_beq hkk;subst hkk;rw [show dd+(d+1)=(dd+d)+1 from rfl,run_equalIn_int W _ t _ k _ _ hu,he]
   ·cases he
  ·rename_i hu
   simp only [Option.some.injEq] at h;subst h;rw [hu] at hx hy;simp only at hx hy;obtain ⟨v,rfl,hx⟩:=hx;obtain ⟨v',rfl,hy⟩:=hy;cases v <;> simp only [z7e] at hk <;> try (cases hk; done)
   cases v' <;> simp only [zv0] at he <;> try (cases he; done)
   simp only [VRel] at hx hy;subst hx; subst hy;simp only [Option.some.injEq,Bool.and_true] at he;rw [show dd+(d+1)=(dd+d)+1 from rfl,run_equalIn_bool W _ t _ _ hu,he]
  ·rename_i fs hu
   rw [hu] at hx hy;simp only at hx hy;obtain ⟨xs,rfl,hx⟩:=hx;obtain ⟨ys,rfl,hy⟩:=hy
   split at h
   ·cases h
   ·rename_i hst
    have hfs:P.fieldsOf t=fs:=by simp [Program.fieldsOf,hu]
    rw [show dd+(d+1)=(dd+d)+1 from rfl,run_equalIn_struct W (dd+d) t xs ys (by rw [hfs]; exact hu) hst,hfs]
    exact zod (fun t ks ht=>⟨y2d dd d t ks ht,y8m ht⟩) hx hy hll W fs.toList 0 (Nat.zero_le _) h hk he
  ·rename_i m e hu
   rw [hu] at hx hy;simp only at hx hy;obtain ⟨xs,rfl,hx⟩:=hx;obtain ⟨ys,rfl,hy⟩:=hy
   split at h
   ·rename_i ks1 hw
    split at h
    ·rename_i hs
     simp only [Option.some.injEq] at h;subst h;have hs':=hs;unfold zv4 at hs'
     split at hs'
     ·rename_i i hi
      simp only [beq_iff_eq] at hs';have hkl:=z8n hk;rw [zqe] at hkl;rw [show dd+(d+1)=(dd+d)+1 from rfl,run_equalIn_array W (dd+d) xs ys hu hi,hs',List.range_eq_range']
      exact zqj (y2d dd d e ks1 hw) (y8m hw) hs hx hy hll W m 0 (by omega) (by simpa using hk) (by simpa using he)
     ·cases hs'
    ·cases h
   ·cases h
  ·cases h
end
theorem ydo {P:Program} {E:Env} {ti:List (Nat × TI)} (hti:E.ti=ti) {l:List Nat} (h:yhb P ti l=true):∀ t,t∈l→EqSnd P t (E.tyd t).ks:=by
 induction l with
 | nil=>intro t ht; cases ht
 | cons t r ih=>
  intro t' ht';simp only [yhb,Bool.and_eq_true,Bool.not_eq_true'] at h;rcases List.mem_cons.1 ht' with e | e
  ·subst e
   refine ⟨h.1.1,fun γ o w w' O l l' xs ys c hk hc hx hy=>?_⟩
   obtain ⟨⟨_,h2,h3⟩,_⟩:=h
   split at h3
   ·rename_i ks hn
    have hks:(E.tyd t').ks=ks:=by
     unfold Env.tyd;rw [hti];exact zw4 h3
    rw [hks] at hk
    split at h2
    ·rename_i k hk2
     have hcx:∀ {l:List V} {xs:Array Value},VRels γ o w O l xs.toList→zom P γ o w O t' l (.agg xs):=fun hx=>by
      unfold zom;rw [hk2];simp only [h2];exact ⟨_,rfl,hx⟩
     exact y2d (P:=P) (γ:=γ) (o:=o) (w:=w) (O:=O) 9990 10 t' ks hn w' (.agg xs) (.agg ys) l l' c hk (hcx hx) (hcx hy) hc
    ·cases h2
   ·cases h3
  ·exact ih h.2 t' e
open Go Go.RowKit
theorem Snd.mono {P:Program} {B:BT} {f:FuncId} {sp sp':ydi} (h:Snd P B f sp) (hs:∀ vs r,sp' vs=some r→sp vs=some r):Snd P B f sp':=
 fun w X γ vs xs r out hsp=>h w X γ vs xs r out (hs vs _ hsp)
def z3c (P:Program) (B:BT) (f:FuncId) (sp:z0u):Prop:=Snd P B f (fun vs=>(sp vs).get)
mutual
def wfK:Kd→IV→Prop
 | .int k,x=>k.min≤x.toInt∧x.toInt≤k.max
 | .bool,_=>True
 | .str,x=>x.toStr.size≤strMax
 | .list ag ks,x=>x.toList.length≤strMax∧∀ y∈x.toList,yfg ks (z2y ag y) 0
def yfg:List Kd→(Nat→IV)→Nat→Prop
 | [],_,_=>True
 | k :: ks,f,j=>wfK k (f j)∧yfg ks f (j+1)
end
def wfL:V→Prop
 | .int k n=>k.min≤n∧n≤k.max
 | .str s=>s.size≤strMax
 | .list ag ks l=>l.length≤strMax∧∀ y∈l,yfg ks (z2y ag y) 0
 | .vec _ ag ks l=>l.length≤strMax∧∀ y∈l,yfg ks (z2y ag y) 0
 | .bld s=>s.size≤strMax
 | _=>True
def wfLs:List V→Prop
 | []=>True
 | v :: r=>wfL v∧wfLs r
def wfV:V→Prop
 | .agg l=>wfLs l
 | .bor l=>wfLs l
 | v=>wfL v
def yd5:List V→Prop
 | []=>True
 | v :: r=>wfV v∧yd5 r
mutual
theorem Kd.Rel.wf {w:World} {O:Nat→Prop}:∀ {k:Kd} {x:IV} {v:Value},Kd.Rel w O k x v→wfK k x
 | .int k,x,v,h=>by simp only [Kd.Rel] at h; simp only [wfK]; exact h.2
 | .bool,x,v,h=>by simp only [wfK]
 | .str,x,v,h=>by simp only [Kd.Rel] at h; simp only [wfK]; exact h.2
 | .list ag ks,x,v,h=>by
  simp only [Kd.Rel] at h;obtain ⟨p,c,_,_,_,hl,hi⟩:=h;simp only [wfK];refine ⟨hl,fun y hy=>?_⟩
  obtain ⟨i,hi'⟩:=List.getElem?_of_mem hy;obtain ⟨b,o,_,_,_,hr⟩:=hi i y hi';exact Kd.RelAll.wf hr
theorem Kd.RelAll.wf {w:World} {O:Nat→Prop}:∀ {ks:List Kd} {f:Nat→IV} {j:Nat} {R:Nat→Value→Prop},Kd.RelAll w O ks f j R→yfg ks f j
 | [],_,_,_,_=>by simp only [yfg]
 | k :: ks,f,j,R,h=>by
  simp only [Kd.RelAll] at h;obtain ⟨⟨u,_,hr⟩,h2⟩:=h;simp only [yfg];exact ⟨Kd.Rel.wf hr,Kd.RelAll.wf h2⟩
end
theorem VRel.wfL {γ:Nat→Value} {o:Store} {w:World} {O:Nat→Prop} {v:V} {x:Value} (h:VRel γ o w O v x):wfL v:=by
 cases v <;> simp only [FM.wfL] <;> simp only [VRel] at h
 ·exact h.2
 ·exact h.2
 ·have:=Kd.Rel.wf h
  simp only [wfK,IV.toList] at this;exact this
theorem VRels.wfLs {γ:Nat→Value} {o:Store} {w:World} {O:Nat→Prop}:∀ {l:List V} {xs:List Value},VRels γ o w O l xs→wfLs l
 | [],[],_=>by simp only [FM.wfLs]
 | [],_ :: _,h=>by simp only [VRels] at h
 | _ :: _,[],h=>by simp only [VRels] at h
 | v :: vs,x :: xs,h=>by
  simp only [VRels] at h;simp only [FM.wfLs];exact ⟨h.1.wfL,VRels.wfLs h.2⟩
theorem yg0 {B:BT} {γ:Nat→Value} {o:Store} {w:World} {O:Nat→Prop} {g:Value} {e:Nat} {ag:Bool} {ks:List Kd} {l:List IV} (h:ObRel B γ o w O g (.row true e ag ks l)):wfL (.vec e ag ks l):=by
 simp only [ObRel] at h;obtain ⟨_,hl,xs,_,hr⟩:=h;simp only [FM.wfL];refine ⟨hl,fun y hy=>?_⟩
 obtain ⟨i,hi⟩:=List.getElem?_of_mem hy;exact Kd.RelAll.wf (hr i y hi)
theorem ye4 {B:BT} {nt:Nat} {w0:World} {X:Zone} {γ:Nat→Value} {a:Act} {w:World} {cs:List V} (h:Rel B nt w0 X γ ⟨[],z6y cs⟩ a w):wfLs cs:=by
 by_cases hb:∃ s,cs=[.bld s]
 ·obtain ⟨s,rfl⟩:=hb
  have:=h.ob 900000 (.bld s) (by simp [z6y,z01])
  simp only [ObRel] at this;obtain ⟨b,v,p,_,_,_,_,_,hs⟩:=this;simp only [FM.wfLs,FM.wfL,and_true];exact hs
 ·have he:z6y cs=(900000,some (.box (z63 900001 cs))) :: zg4 900001 cs:=zwb (fun s e=>hb ⟨s,e⟩)
  have hbox:=h.ob 900000 (.box (z63 900001 cs)) (by rw [he,z01,if_pos rfl])
  simp only [ObRel] at hbox;obtain ⟨b,c,T,_,_,hr⟩:=hbox;have hall:∀ (j:Nat) (v:V),cs[j]?=some v→FM.wfL v:=by
   intro j v hj
   by_cases hv:∃ e ag ks l,v = .vec e ag ks l
   ·obtain ⟨e,ag,ks,l,rfl⟩:=hv
    have hat:=zk3 (nr:=900001) hj
    have:=h.ob (900001+j) _ (show z03 (z6y cs) (900001+j)=_ by rw [he,z01,if_neg (by omega)]; exact hat)
    exact yg0 this
   ·have hbk:(z63 900001 cs)[j]?=some v:=by
     rw [zgu,hj];cases v <;> first | rfl | exact absurd ⟨_,_,_,_,rfl⟩ hv
    obtain ⟨x,_,hx⟩:=hr.get hbk;exact hx.wfL
  clear hr he hb h
  induction cs with
  | nil=>simp only [FM.wfLs]
  | cons v r ih=>
   simp only [FM.wfLs];exact ⟨hall 0 v rfl,ih (fun j u hj=>hall (j+1) u (by simpa using hj))⟩
theorem y9x {B:BT} {nt:Nat} {w0:World} {X:Zone} {γ:Nat→Value} {a:Act} {w:World} {O:Nat→Prop} {o:Store} {cs:Option (List V)} (hcs:∀ l,cs=some l→wfLs l):∀ {vs:List V} {xs:List Value},(∀ l,.bor l∈vs→cs=some l)→VRels γ o w O (vs.map z7t) xs→yd5 vs
 | [],_,_,_=>by simp only [yd5]
 | v :: r,[],_,h=>by simp only [List.map_cons,VRels] at h
 | v :: r,x :: xs,hb,h=>by
  simp only [List.map_cons,VRels] at h;simp only [yd5];refine ⟨?_,y9x (B:=B) (nt:=nt) (w0:=w0) (X:=X) (a:=a) hcs (fun l hl=>hb l (List.mem_cons_of_mem _ hl)) h.2⟩
  have h1:=h.1
  by_cases hbor:∃ l,v = .bor l
  ·obtain ⟨l,rfl⟩:=hbor
   simp only [wfV];exact hcs l (hb l (List.mem_cons_self ..))
  ·by_cases hagg:∃ l,v = .agg l
   ·obtain ⟨l,rfl⟩:=hagg
    simp only [z7t,VRel] at h1;obtain ⟨cs',_,hr⟩:=h1;simp only [wfV];exact hr.wfLs
   ·have:wfV v=FM.wfL v:=by cases v <;> first | rfl | exact absurd ⟨_,rfl⟩ hbor | exact absurd ⟨_,rfl⟩ hagg
    rw [this];cases v <;> first | exact h1.wfL | exact absurd ⟨_,rfl⟩ hbor | exact absurd ⟨_,rfl⟩ hagg | (simp only [FM.wfL])
def zcl:List V→Option (List V)→Prop
 | [],_=>True
 | .bor l :: r,c=>c=some l∧zcl r c
 | _ :: r,c=>zcl r c
theorem zmn:∀ {vs:List V} {c:Option (List V)},zcl vs c→∀ l,.bor l∈vs→c=some l
 | [],_,_,l,h=>by cases h
 | v :: r,c,ho,l,h=>by
  rcases List.mem_cons.1 h with e | e
  ·subst e
   exact ho.1
  ·cases v <;> simp only [zcl] at ho <;> first | exact zmn ho l e | exact zmn ho.2 l e
theorem yez {P:Program} {B:BT} {f:FuncId} {fn:Func} (E:Nat→Env) (sp:z0u) (rks:List (List Kd)) (hf:P.funcs[f]?=some fn) {code:Code} {rs:List ResultVar} {nt:Nat}
  (hc:(fn.name == "runtime.NumGoroutine")=false∧fn.body=some code∧fn.ntmps=nt∧Nat.ble nt 900000=true∧fn.results.toList=rs) (hnt:∀ N,(E N).nt=nt) (hm:P.follows .mixedOrders=true)
  (hT:∀ N,TiOK P B (E N)) (hE:∀ N t,t∈(E N).eqs→EqSnd P t ((E N).tyd t).ks) (hSp:∀ N f sp,lk (E N).sp f=some sp→z3c P B f sp) (hIp:∀ N f p,lk (E N).ip f=some p→y7e P f p) (hB:∀ N,BldOK P B (E N))
  (h:∀ vs r,(zcl vs (z5r vs)→yd5 vs)→(sp vs).get=some r→∃ N,z1c (E N) code rs rks vs=some r):z3c P B f sp:=by
 intro w X γ vs xs r out hsp hg hx hR hV;have hwf:zcl vs (z5r vs)→yd5 vs:=fun ho=>by
  refine y9x (B:=B.base) (nt:=0) (w0:=w) (X:=X) (a:=zu9) (cs:=z5r vs) (fun l hl=>?_) (zmn ho) hV
  have hm:zbh vs=z6y l:=by simp only [zbh,hl]
  rw [hm] at hR;exact ye4 hR
 obtain ⟨N,hN⟩:=h vs _ hwf hsp;exact y8u hf hc.1 hc.2.1 ((hnt N).trans hc.2.2.1.symm) (by rw [hc.2.2.1]; exact hc.2.2.2.1) hc.2.2.2.2 rks hm (hT N) (hE N) (hSp N) (hIp N) (hB N) w X γ vs xs r out hN hg hx hR hV
abbrev ic (n:Nat):Int:=n
abbrev lpE (E:Env) (c:Code) (kp:KP) (n:Nat) (s:St) (k:Out→St→Res):Res:=zsq c (evG zsq E c) kp n s k
abbrev kSq (E:Env) (c:Code) (k:Out→St→Res):Out→St→Res:=yi7 c (evG zsq E c) k
abbrev rnd (E:Env) (c:Code) (s:St) (k:Out→St→Res):Res:=evG zsq E c s k
theorem z05 (E:Env) (c:Code) (kp:KP) (n:Nat) (s:St) (k:Out→St→Res):lpE E c kp (n+1) s k=rnd E c s (z4t (fun s'=>lpE E c kp n s' k) kp k):=rfl
def z0l (fn:Func):Code:=match fn.body with | some c=>c | none=>.skip
def z0p:Code→List Nat→Code
 | c,[]=>c
 | .seq a _,0 :: r=>z0p a r
 | .seq _ b,_ :: r=>z0p b r
 | .cond _ a _,0 :: r=>z0p a r
 | .cond _ _ b,_ :: r=>z0p b r
 | .block _ c,_ :: r=>z0p c r
 | .loop c,_ :: r=>z0p c r
 | .scope c,_ :: r=>z0p c r
 | _,_=>.skip
open Go Go.RowKit
section
variable {P:Program} {B:BT} {f:FuncId}
theorem Does.of_calls {fn:Func} (hf:P.funcs[f]?=some fn) (hn:(fn.name == "runtime.NumGoroutine")=false) (hb:fn.body.isNone=false) {xs:List Value} {w:World} {R:Ending→World→Prop} (h:Calls P f xs.toArray w R):Does P f xs w R:=Does.enter hf hn hb h
theorem y7f {r:V} (h:∀ cs,r≠.bor cs) (hv:∀ e ag ks l,r≠.vec e ag ks l):z2u r []=[]:=by
 cases r <;> first | rfl | exact absurd rfl (h _) | exact absurd rfl (hv _ _ _ _)
theorem z6g {w:World} {X:Zone} {γ:Nat→Value} {vs:List V} {xs:List Value} {r:V} (hR:Rel B.base 0 w X γ ⟨[],zbh vs⟩ zu9 w) (hb:z5r vs=none) (hr:zih r=true)
  (h:Does P f xs w fun e w'=>∃ x,e = .returned x∧Keep (fun _=>False) w w'∧∀ O:Nat→Prop,(∀ b,O b→b < w.heap.size)→VRel γ [] w' O r x) :
  Does P f xs w fun e w'=>∃ x,e = .returned x∧∃ γ',Rel B.base 0 w X γ' ⟨[],z2u r []⟩ zu9 w'∧VRel γ' (z2u r []) w' (z07 X γ' (z2u r [])) (y42 r) x∧z9i vs r [] (γ 900000) (γ' 900000):=by
 have hm:zbh vs=[]:=by simp only [zbh,hb]
 rw [hm] at hR;have hnb:∀ cs,r≠.bor cs:=fun cs e=>by subst e; simp [zih,z92] at hr
 have hnv:∀ e ag ks l,r≠.vec e ag ks l:=fun e ag ks l h=>by subst h; simp [zih,z92] at hr
 rw [y7f hnb hnv,za8 hr];refine h.mono ?_
 rintro e w' ⟨x,rfl,hk,hv⟩
 refine ⟨x,rfl,γ,hR.world hk,hv _ (fun b hb=>?_),?_⟩
 ·rcases hb with ⟨n,ob,hn,_⟩ | hb
  ·simp [z03,lkd] at hn
  ·exact hR.fl b hb
 ·simp only [z9i,hb]
  cases r <;> first | exact hr | exact absurd rfl (hnb _) | exact absurd rfl (hnv _ _ _ _)
structure BldIs (B:BT) (w:World) (b:Nat) (p v:Value) (s:ByteArray):Prop where
 self:p = .pointer none∨p = .pointer (some ⟨b,0,none⟩)
 heap:w.heap[b]?=some (.cells #[p,v] B.T (0,0))
 own:w.ownsRowF 0 B.e 1 v s.size (Lib.strCells s)
 ne:v.ownBlock≠some b
 size:s.size≤strMax
theorem y36 {w:World} {X:Zone} {γ:Nat→Value} {vs:List V} {xs:List Value} {r:V} {s s':ByteArray} (hR:Rel B.base 0 w X γ ⟨[],zbh vs⟩ zu9 w) (hb:z5r vs=some [.bld s]) (hr:zih r=true) (hnl:∀ γ' o w' O x,VRel γ [] w O r x→VRel γ' o w' O r x)
  (h:∀ b v p,γ 900000 = .tuple #[.pointer (some ⟨b,0,none⟩),v]→BldIs B w b p v s→Does P f xs w fun e w'=>∃ x,e = .returned x∧(∃ p' v',BldIs B w' b p' v' s'∧Keep (fun k=>k=b∨v.ownBlock=some k) w w'∧∀ k,v'.ownBlock=some k→v.ownBlock=some k∨w.heap.size≤k)∧∀ O,VRel γ [] w O r x) :
  Does P f xs w fun e w'=>∃ x,e = .returned x∧∃ γ',Rel B.base 0 w X γ' ⟨[],z2u r [[.bld s']]⟩ zu9 w'∧VRel γ' (z2u r [[.bld s']]) w' (z07 X γ' (z2u r [[.bld s']])) (y42 r) x∧z9i vs r [[.bld s']] (γ 900000) (γ' 900000):=by
 have hm:zbh vs=z6y [.bld s]:=by simp only [zbh,hb]
 have hmo:z2u r [[.bld s']]=z6y [.bld s']:=by cases r <;> rfl
 rw [hm] at hR;have hob:z03 (z6y [.bld s]) 900000=some (.bld s):=by simp [z6y,z01]
 have hor:=hR.ob 900000 _ hob;simp only [ObRel,BT.base] at hor;obtain ⟨b,v,p,hg,hp,hh,how,hne,hsz⟩:=hor;rw [hmo,za8 hr];refine (h b v p hg ⟨hp,hh,how,hne,hsz⟩).mono ?_
 rintro e w' ⟨x,rfl,⟨p',v',hB,hk,hnew⟩,hx⟩
 have hPb:∀ k,(k=b∨v.ownBlock=some k)→z1f γ (z6y [.bld s]) k:=by
  rintro k hk
  refine ⟨900000,_,hob,⟨b,0,none⟩,v,hg,?_⟩;rcases hk with rfl | hk
  ·exact .inl rfl
  ·exact .inr hk
 have hXb:∀ k,(k=b∨v.ownBlock=some k)→k < w.heap.size∧X.own k∧¬ X.far k:=fun k hk=>by
  obtain ⟨h1,h2⟩:=hR.lt k (hPb k hk);exact ⟨h1,h2.resolve_left (by omega),hR.nr k (hPb k hk)⟩
 have hkX:Keep X.own w w':=hk.mono (fun k _ h=>(hXb k h).2.1)
 have hobs:∀ n ob,z03 (z6y [.bld s']) n=some ob→n=900000∧ob = .bld s':=by
  intro n ob hn;simp only [z6y,z01] at hn
  split at hn
  ·rename_i e
   simp only [Option.some.injEq] at hn;exact ⟨e.symm,hn.symm⟩
  ·simp [z03,lkd] at hn
 have hP':∀ k,z1f (fun _=>.tuple #[.pointer (some ⟨b,0,none⟩),v']) (z6y [.bld s']) k→k=b∨v'.ownBlock=some k:=by
  rintro k ⟨n,ob,hn,hbk⟩
  obtain ⟨rfl,rfl⟩:=hobs n ob hn;obtain ⟨a,v2,h1,h2⟩:=hbk;simp only [Value.tuple.injEq] at h1;have e1:a=⟨b,0,none⟩∧v2=v':=by
   have:=congrArg Array.toList h1
   simp at this;exact ⟨this.1.symm,this.2.symm⟩
  obtain ⟨rfl,rfl⟩:=e1;rcases h2 with h2 | h2
  ·exact .inl h2.symm
  ·exact .inr h2
 have hlt':∀ k,v'.ownBlock=some k→k < w'.heap.size:=by
  intro k hk;rcases hB.own.2 with ⟨rfl,_⟩ | ⟨g,cap,cur,fz,rfl,_,hgh,_⟩
  ·simp [Value.ownBlock] at hk
  ·simp only [Value.ownBlock,Option.some.injEq] at hk
   subst hk;exact (Array.getElem?_eq_some_iff.1 hgh).1
 refine ⟨x,rfl,fun _=>.tuple #[.pointer (some ⟨b,0,none⟩),v'],⟨rfl,rfl,fun i=>by simp only [St.get,lkd,VRel],fun n ob hn=>?_,fun k hk2=>?_,fun n m ob ob' k hnm h1 h2=>?_,hkX,fun k hk2 hf=>?_,fun k hf=>Nat.lt_of_lt_of_le (hR.fl k hf) hk.size,fun q hq=>by cases hq⟩,hnl _ _ _ _ _ (hx _),?_⟩
 ·obtain ⟨rfl,rfl⟩:=hobs n ob hn
  simp only [ObRel,BT.base];exact ⟨b,v',p',rfl,hB.self,hB.heap,hB.own,hB.ne,hB.size⟩
 ·rcases hP' k hk2 with rfl | h2
  ·obtain ⟨h3,h4,_⟩:=hXb k (.inl rfl)
   exact ⟨Nat.lt_of_lt_of_le h3 hk.size,.inr h4⟩
  ·refine ⟨hlt' k h2,?_⟩
   rcases hnew k h2 with h3 | h3
   ·exact .inr (hXb k (.inr h3)).2.1
   ·exact .inl h3
 ·obtain ⟨rfl,rfl⟩:=hobs n ob h1
  obtain ⟨rfl,rfl⟩:=hobs m ob' h2;exact absurd rfl hnm
 ·rcases hP' k hk2 with rfl | h2
  ·exact (hXb k (.inl rfl)).2.2 hf
  ·rcases hnew k h2 with h3 | h3
   ·exact (hXb k (.inr h3)).2.2 hf
   ·have:=hR.fl k hf
    omega
 ·simp only [z9i,hb]
  exact ⟨hr,rfl,by rw [hg]; rfl⟩
theorem y2m {w:World} {γ:Nat→Value} {s:ByteArray} {O:Nat→Prop} {x:Value} {b:Nat} {v:Value} (hg:γ 900000 = .tuple #[.pointer (some ⟨b,0,none⟩),v]) (h:VRel γ (z6y [.bld s]) w O (.ptr 900000 0 0) x):x = .pointer (some ⟨b,0,none⟩):=by
 simp only [VRel,z6y,z01,if_true] at h;obtain ⟨_,b',v',h1,rfl⟩:=h;rw [hg] at h1;simp only [Value.tuple.injEq] at h1
 have:=congrArg Array.toList h1
 simp at this;rw [this.1]
theorem y9y {w:World} {X:Zone} {γ:Nat→Value} {vs:List V} {xs:List Value} {e:Nat} {ag:Bool} {ks:List Kd} {l:List IV} (hR:Rel B.base 0 w X γ ⟨[],zbh vs⟩ zu9 w) (hb:z5r vs=none) (he:e < 1000000) (hks:0 < ks.length) (hl:l.length≤strMax)
  (h:Does P f xs w fun e' w'=>∃ v ys,e' = .returned v∧Keep (fun _=>False) w w'∧w'.ownsRow w.heap.size e ks.length v l.length ys∧∀ (O:Nat→Prop) i y,l[i]?=some y→Kd.RelAll w' O ks (z2y ag y) 0 (fun j u=>ys[i*ks.length+j]?=some u)) :
  Does P f xs w fun e' w'=>∃ x,e' = .returned x∧∃ γ',Rel B.base 0 w X γ' ⟨[],z2u (.vec e ag ks l) []⟩ zu9 w'∧VRel γ' (z2u (.vec e ag ks l) []) w' (z07 X γ' (z2u (.vec e ag ks l) [])) (y42 (.vec e ag ks l)) x∧z9i vs (.vec e ag ks l) [] (γ 900000) (γ' 900000):=by
 have hm:zbh vs=[]:=by simp only [zbh,hb]
 rw [hm] at hR;have hmo:z2u (.vec e ag ks l) []=[(900000,some (.row true e ag ks l))]:=rfl;rw [hmo];refine h.mono ?_
 rintro e' w' ⟨v,ys,rfl,hk,hown,hel⟩
 have hown0:w'.ownsRow 0 e ks.length v l.length ys:=by
  refine ⟨hown.1,?_⟩;rcases hown.2 with h1 | ⟨g,cap,cur,h1,_,h2,h3,h4,h5,h6⟩
  ·exact .inl h1
  ·exact .inr ⟨g,cap,cur,h1,Nat.zero_le _,h2,h3,h4,h5,h6⟩
 have obs:∀ n ob,z03 [(900000,some (Ob.row true e ag ks l))] n=some ob→n=900000∧ob = .row true e ag ks l:=fun n ob hn=>by
  rw [z01] at hn
  split at hn
  ·rename_i h9
   simp only [Option.some.injEq] at hn;exact ⟨h9.symm,hn.symm⟩
  ·simp [z03,lkd] at hn
 have hfresh:∀ b,v.ownBlock=some b→w.heap.size≤b∧b < w'.heap.size:=fun b hb=>hown.lt b hb
 have ownP:∀ b,z1f (fun n=>if n=900000 then v else γ n) [(900000,some (Ob.row true e ag ks l))] b→v.ownBlock=some b:=by
  rintro b ⟨n,ob,hn,hb⟩
  obtain ⟨rfl,rfl⟩:=obs n ob hn
  simpa only [z0g,if_true] using hb
 refine ⟨v,rfl,fun n=>if n=900000 then v else γ n,⟨hR.sz,hR.df,fun i=>by simp only [St.get,lkd,VRel],fun n ob hn=>?_,fun b hb=>?_,fun n m ob ob' b hnm h1 h2=>?_,hk.mono (fun _ _ h=>h.elim),fun b hb hf=>?_,fun b hf=>Nat.lt_of_lt_of_le (hR.fl b hf) hk.size,fun p hp=>by cases hp⟩,?_,?_⟩
 ·obtain ⟨rfl,rfl⟩:=obs n ob hn
  simp only [ObRel,if_true];exact ⟨hks,hl,ys,OwnRow.of hown0 he,hel _⟩
 ·have:=hfresh b (ownP b hb)
  exact ⟨this.2,.inl this.1⟩
 ·obtain ⟨rfl,rfl⟩:=obs n ob h1
  obtain ⟨rfl,rfl⟩:=obs m ob' h2;exact absurd rfl hnm
 ·have:=hfresh b (ownP b hb)
  have:=hR.fl b hf
  omega
 ·simp only [y42,VRel,z01,if_true]
  refine ⟨Nat.le_refl _,?_⟩;rcases hown.2 with ⟨rfl,h0⟩ | ⟨g,cap,cur,rfl,_,h2,h3,h4,h5,h6⟩
  ·exact ⟨none,0,0,none,rfl,by rw [h0],Nat.zero_le _,by rw [h0]; exact Nat.le_refl _,Nat.le_refl _,Nat.zero_le _,.inl rfl,fun _=>rfl⟩
  ·refine ⟨some ⟨g,0,none⟩,l.length,cap,some ⟨g,0,none⟩,rfl,by simp,Nat.zero_le _,Nat.le_refl _,h3,h4,.inl ?_,fun _=>rfl⟩
   simp [Addr.add]
 ·simp only [z9i,hb,okR]
end
theorem yca {w w':World} {O:Nat→Prop} (hO:∀ b,O b→b < w.heap.size) {g:Nat} {T:TypeId} {l:List ByteArray} {c:Nat} (hg:w.heap.size≤g) (hh:w'.heap[g]?=some (.cells (l.map Value.string).toArray T (0,0))) (hc:l.length≤c) (hcm:c≤maxLen) (hl:l.length≤strMax)
  (hs:∀ s∈l,s.size≤strMax):Kd.Rel w' O (.list false [.str]) (.list (l.map IV.str)) (.slice (some ⟨g,0,none⟩) l.length c):=by
 simp only [Kd.Rel,IV.toList,List.length_map];refine ⟨_,c,rfl,hc,hcm,hl,fun i y hy=>⟨g,0,rfl,fun h=>by have:=hO g h; omega,(Array.getElem?_eq_some_iff.1 hh).1,?_⟩⟩
 simp only [List.getElem?_map,Option.map_eq_some_iff] at hy;obtain ⟨s,hs1,rfl⟩:=hy;simp only [Kd.RelAll,List.length_cons,List.length_nil,Nat.zero_add,Nat.mul_one,Nat.add_zero,and_true];refine ⟨.string s,?_,?_⟩
 ·simp only [World.cell?,hh]
  simp [hs1]
 ·simp only [Kd.Rel,z2y,IV.toStr]
  exact ⟨trivial,hs s (List.mem_of_getElem? hs1)⟩
open Go Go.RowKit
theorem R.get_br (b:Bool) (x y:R):(R.br b x y).get=cond b x.get y.get:=by cases b <;> rfl
theorem R.get_ok (v:V) (o:List (List V)):(R.ok v o).get=some (v,o):=rfl
theorem R.get_no:R.no.get=none:=rfl
def z0i (n:Int):ByteArray:=⟨(Lib.itoa n).toArray⟩
def z3w (s:ByteArray):Int:=match Lib.atoiAll s.data.toList with | .ok v=>v | .range=>Lib.atoiSat s.data.toList | _=>0
def zlw (s:ByteArray):Bool:=match Lib.atoiAll s.data.toList with | .ok _=>true | _=>false
def cutL (s sep:ByteArray):ByteArray:=⟨(Lib.cut s.data.toList sep.data.toList).1.toArray⟩
def zed (s sep:ByteArray):ByteArray:=⟨(Lib.cut s.data.toList sep.data.toList).2.1.toArray⟩
def yig (s sep:ByteArray):Bool:=(Lib.cut s.data.toList sep.data.toList).2.2
def z09 (s sep:ByteArray):List ByteArray:=Lib.splitB sep 0 (Lib.countB s sep) s
def zdk (c:Int):UInt8:=UInt8.ofNat c.toNat
def z18:z0u
 | [.bor [.bld s],.str t]=>.br (decide (s.size+t.size≤strMax)) (.ok (.tup [.int .i64 (ic t.size),.err true]) [[.bld (s++t)]]) .no
 | _=>.no
def z1m:z0u
 | [.bor [.bld s],.int .u8 c]=>.br (decide (s.size+1≤strMax)) (.ok (.err true) [[.bld (s.push (zdk c))]]) .no
 | _=>.no
def z1y:z0u
 | [.bor [.bld s]]=>.ok (.str s) [[.bld s]]
 | _=>.no
def z2j:z0u
 | [.int .i64 n]=>.ok (.str (z0i n)) []
 | _=>.no
def z2k:z0u
 | [.str s]=>.ok (.tup [.int .i64 (z3w s),.err (zlw s)]) []
 | _=>.no
def z4e:z0u
 | [.str s,.str sep]=>.br (decide (s.size < 4294967281)) (.ok (.tup [.str (cutL s sep),.str (zed s sep),.bool (yig s sep)]) []) .no
 | _=>.no
def z1a:z0u
 | [.str s,.str sep]=>.br (decide (s.size < 4294967281)&&decide (1≤sep.size)) (.ok (.list false [.str] ((z09 s sep).map IV.str)) []) .no
 | _=>.no
def z99 (n:Int):ByteArray:=⟨(Lib.decDigits n.toNat).toArray⟩
def puV (s:ByteArray):Int:=match Lib.parseMag s.data.toList with | .ok v=>(v:Int) | .range=>18446744073709551615 | _=>0
def puN (s:ByteArray):Bool:=match Lib.parseMag s.data.toList with | .ok _=>true | _=>false
def zfw (s cs:ByteArray):ByteArray:=⟨(Lib.trimRightB s.data.toList (cs.data.toList.headD 0)).toArray⟩
def zly (s:ByteArray) (n:Nat):ByteArray:=⟨(Lib.repeatL s.data.toList n).toArray⟩
def z14 (s p:ByteArray):ByteArray:=⟨(Lib.trimPrefix s.data.toList p.data.toList).toArray⟩
def zdm (s p:ByteArray):Bool:=Lib.hasPrefix s.data.toList p.data.toList
def z4x:z0u
 | [.int .u64 n,.int .i64 b]=>.br (decide (b=10)) (.ok (.str (z99 n)) []) .no
 | _=>.no
def z5j:z0u
 | [.str s,.int .i64 b,.int .i64 c]=>.br (decide (b=10)&&decide (c=64)) (.ok (.tup [.int .u64 (puV s),.err (puN s)]) []) .no
 | _=>.no
def z5f:z0u
 | [.str s,.str cs]=>.br (decide (cs.size=1)&&decide ((cs.data.toList.headD 0).toNat < 128)) (.ok (.str (zfw s cs)) []) .no
 | _=>.no
def z4c:z0u
 | [.str s,.int .i64 n]=>.br (decide (0≤n)&&decide (s.size*n.toNat≤strMax)) (.ok (.str (zly s n.toNat)) []) .no
 | _=>.no
def z2w:z0u
 | [.str s,.str p]=>.ok (.tup [.str (z14 s p),.bool (zdm s p)]) []
 | _=>.no
def z9n (l:List ByteArray) (sep:ByteArray):ByteArray:=⟨(Lib.join (l.map (·.data.toList)) sep.data.toList).toArray⟩
def z5u:z0u
 | [.list false [.str] l,.str sep]=>.br (decide (l.length≤strMax)&&decide ((z9n (l.map IV.toStr) sep).size≤strMax)) (.ok (.str (z9n (l.map IV.toStr) sep)) []) .no
 | _=>.no
def zf5:List IV→ByteArray→Int→Int
 | [],_,_ => -1
 | x :: l,s,i=>cond (s.toList==x.toStr.toList) i (zf5 l s (i+1))
theorem zya {l:List UInt8} {v:Int} (h:Lib.atoiAll l = .ok v):IntKind.i64.min≤v∧v≤IntKind.i64.max:=by
 have e1:IntKind.i64.min = -9223372036854775808:=rfl;have e2:IntKind.i64.max=9223372036854775807:=rfl;rw [e1,e2];unfold Lib.atoiAll at h
 split at h
 ·cases h
 ·simp only at h
  split at h
  ·cases h
  ·cases h
  ·rename_i u hu
   split at h
   ·cases h
   ·split at h
    ·cases h
    ·simp only [Lib.NumEnd.ok.injEq] at h
     subst h
     split <;> omega
theorem zq2 (s:ByteArray):IntKind.i64.min≤z3w s∧z3w s≤IntKind.i64.max:=by
 have e1:IntKind.i64.min = -9223372036854775808:=rfl;have e2:IntKind.i64.max=9223372036854775807:=rfl;unfold z3w
 split
 ·rename_i v hv
  exact zya hv
 ·unfold Lib.atoiSat
  rw [e1,e2]
  split <;> omega
 ·rw [e1,e2]; omega
theorem ze4 {n:Int} (h0:IntKind.i64.min≤n) (h1:n≤IntKind.i64.max):(z0i n).size≤21:=by
 have e1:IntKind.i64.min = -9223372036854775808:=rfl;have e2:IntKind.i64.max=9223372036854775807:=rfl;rw [e1] at h0;rw [e2] at h1
 have:=Lib.itoa_length_le n h0 h1
 simpa [z0i,ByteArray.size] using this
theorem zrm (s:ByteArray):IntKind.u64.min≤puV s∧puV s≤IntKind.u64.max:=by
 have e1:IntKind.u64.min=0:=rfl;have e2:IntKind.u64.max=18446744073709551615:=rfl;unfold puV
 split
 ·rename_i v hv
  have:=Lib.parseMag_lt hv
  rw [e1,e2]; omega
 ·rw [e1,e2]; omega
 ·rw [e1,e2]; omega
theorem zrr {n:Int} (h0:0≤n) (h1:n≤18446744073709551615):(z99 n).size≤20:=by
 rcases Int.lt_or_le 0 n with h | h
 ·have hd:=Lib.numDigits_eq n.toNat (by omega) (by omega)
  have hl:=Lib.decDigits_length n.toNat;have hs:(z99 n).size=(Lib.decDigits n.toNat).length:=by simp [z99,ByteArray.size]
  rw [hs,hl]
  split at hd <;> omega
 ·have:n=0:=by omega
  subst this;have hd:Lib.decDigits (0:Int).toNat=[UInt8.ofNat (48+0)]:=by rw [show (0:Int).toNat=0 from rfl,Lib.decDigits]; rfl
  unfold z99;rw [hd]
  decide
theorem zr9 (s cs:ByteArray):(zfw s cs).size≤s.size:=by
 have:∀ (l:List UInt8) c,(Lib.trimRightB l c).length≤l.length:=fun l c=>by
  unfold Lib.trimRightB;rw [List.length_reverse]
  have:=(List.dropWhile_sublist (·==c) (l:=l.reverse)).length_le
  simpa using this
 have h:=this s.data.toList (cs.data.toList.headD 0);simp only [zfw,ByteArray.size,List.size_toArray]
 simpa using h
theorem zln (s p:ByteArray):(z14 s p).size≤s.size:=by
 simp only [z14,ByteArray.size,List.size_toArray,Lib.trimPrefix]
 split
 ·simp
 ·simp
theorem zrx (s:ByteArray) (n:Nat):(zly s n).size=s.size*n:=by
 have:∀ (l:List UInt8) n,(Lib.repeatL l n).length=l.length*n:=fun l n=>by rw [Lib.repeatL_length,Nat.mul_comm]
 show (Lib.repeatL s.data.toList n).toArray.size=s.size*n;rw [List.size_toArray,this,Array.length_toList]
 rfl
theorem zl5 (s sep:ByteArray):(cutL s sep).size≤s.size∧(zed s sep).size≤s.size:=by
 unfold cutL zed Lib.cut
 split
 ·simp only [ByteArray.size,List.size_toArray,List.length_take,List.length_drop,Array.length_toList]
  omega
 ·simp only [ByteArray.size,List.size_toArray,Array.length_toList,List.length_nil]
  omega
theorem z6f (sep:ByteArray):∀ (k:Nat) (s:ByteArray),(Lib.splitB sep 0 k s).length≤k+1∧∀ p∈Lib.splitB sep 0 k s,p.size≤s.size
 | 0,s=>by simp [Lib.splitB]
 | k+1,s=>by
  unfold Lib.splitB
  split
  ·simp
  ·obtain ⟨h1,h2⟩:=z6f sep k (s.extract ((Lib.indexB s sep).toNat+sep.size) s.size)
   refine ⟨by simp only [List.length_cons]; omega,fun p hp=>?_⟩
   rcases List.mem_cons.1 hp with h | h
   ·subst h
    simp only [ByteArray.size_extract];omega
   ·have:=h2 p h
    simp only [ByteArray.size_extract] at this;omega
open Go Go.Proofs
def yce:List (Nat × TI):=[
 (2,⟨1,8,false,[.int .i64],[.int .i64 0],.leaf⟩),
 (3,⟨1,8,false,[.int .i64],[.int .i64 0],.leaf⟩),
 (4,⟨1,1,false,[.bool],[.bool false],.leaf⟩),
 (5,⟨1,1,false,[.int .u8],[.int .u8 0],.leaf⟩),
 (6,⟨1,1,false,[.int .u8],[.int .u8 0],.leaf⟩),
 (7,⟨4,24,true,[.int .i64,.int .i64,.bool,.int .u8],[.int .i64 0,.int .i64 0,.bool false,.int .u8 0],.struct [(0,2),(1,3),(2,4),(3,6)]⟩),
 (8,⟨4,24,true,[.int .i64,.int .i64,.bool,.int .u8],[.int .i64 0,.int .i64 0,.bool false,.int .u8 0],.struct [(0,2),(1,3),(2,4),(3,6)]⟩),
 (9,⟨1,16,false,[.str],[.str ⟨#[]⟩],.leaf⟩),
 (22,⟨1,24,false,[.list false [.int .i64]],[.zs],.slice 3⟩),
 (23,⟨1,24,false,[.list true [.int .i64,.list false [.int .i64],.list false [.int .i64],.list false [.int .i64],.list false [.int .i64]]],[.zs],.slice 84⟩),
 (25,⟨4,64,true,[.int .i64,.int .i64,.list false [.int .i64],.list true [.int .i64,.list false [.int .i64],.list false [.int .i64],.list false [.int .i64],.list false [.int .i64]]],[.int .i64 0,.int .i64 0,.zs,.zs],.struct [(0,3),(1,3),(2,22),(3,23)]⟩),
 (26,⟨1,24,false,[.list true [.int .i64,.int .i64,.int .i64,.int .i64,.int .i64,.int .i64,.bool,.list false [.int .i64]]],[.zs],.slice 40⟩),
 (27,⟨3,24,true,[.int .i64,.int .i64,.int .i64],[.int .i64 0,.int .i64 0,.int .i64 0],.array 3 3⟩),
 (28,⟨1,24,false,[.list true [.int .i64,.list false [.int .u64]]],[.zs],.slice 88⟩),
 (30,⟨6,64,true,[.int .i64,.int .i64,.int .i64,.int .i64,.int .i64,.list true [.int .i64,.list false [.int .u64]]],[.int .i64 0,.int .i64 0,.int .i64 0,.int .i64 0,.int .i64 0,.zs],.struct [(0,3),(1,3),(2,27),(5,28)]⟩),
 (32,⟨1,24,false,[.list true [.int .i64,.int .i64,.int .i64,.int .i64,.int .i64,.int .i64,.int .i64,.int .i64,.int .i64,.int .i64,.int .i64,.int .i64,.int .i64,.int .i64,.int .i64,.bool,.int .i64]],[.zs],.slice 38⟩),
 (34,⟨2,16,true,[.int .i64,.int .i64],[.int .i64 0,.int .i64 0],.struct [(0,3),(1,3)]⟩),
 (36,⟨10,80,true,[.int .i64,.int .i64,.int .i64,.int .i64,.int .i64,.int .i64,.int .i64,.int .i64,.int .i64,.int .i64],[.int .i64 0,.int .i64 0,.int .i64 0,.int .i64 0,.int .i64 0,.int .i64 0,.int .i64 0,.int .i64 0,.int .i64 0,.int .i64 0],.array 5 34⟩),
 (38,⟨17,136,true,[.int .i64,.int .i64,.int .i64,.int .i64,.int .i64,.int .i64,.int .i64,.int .i64,.int .i64,.int .i64,.int .i64,.int .i64,.int .i64,.int .i64,.int .i64,.bool,.int .i64],[.int .i64 0,.int .i64 0,.int .i64 0,.int .i64 0,.int .i64 0,.int .i64 0,.int .i64 0,.int .i64 0,.int .i64 0,.int .i64 0,.int .i64 0,.int .i64 0,.int .i64 0,.int .i64 0,.int .i64 0,.bool false,.int .i64 0],.struct [(0,3),(1,3),(2,36),(12,3),(13,3),(14,3),(15,4),(16,3)]⟩),
 (40,⟨8,80,true,[.int .i64,.int .i64,.int .i64,.int .i64,.int .i64,.int .i64,.bool,.list false [.int .i64]],[.int .i64 0,.int .i64 0,.int .i64 0,.int .i64 0,.int .i64 0,.int .i64 0,.bool false,.zs],.struct [(0,3),(1,3),(2,3),(3,3),(4,3),(5,3),(6,4),(7,22)]⟩),
 (47,⟨1,24,false,[.list true [.int .i64,.list true [.bool,.int .i64,.int .i64],.int .i64,.int .i64,.int .i64,.int .i64,.int .i64,.int .i64]],[.zs],.slice 55⟩),
 (51,⟨1,24,false,[.list true [.bool,.int .i64,.int .i64]],[.zs],.slice 127⟩),
 (53,⟨4,32,true,[.int .i64,.int .i64,.int .i64,.int .i64],[.int .i64 0,.int .i64 0,.int .i64 0,.int .i64 0],.array 4 3⟩),
 (55,⟨8,80,true,[.int .i64,.list true [.bool,.int .i64,.int .i64],.int .i64,.int .i64,.int .i64,.int .i64,.int .i64,.int .i64],[.int .i64 0,.zs,.int .i64 0,.int .i64 0,.int .i64 0,.int .i64 0,.int .i64 0,.int .i64 0],.struct [(0,3),(1,51),(2,53),(6,3),(7,3)]⟩),
 (66,⟨1,24,false,[.list false [.str]],[.zs],.slice 9⟩),
 (69,⟨1,24,false,[.list false [.int .u8]],[.zs],.slice 5⟩),
 (84,⟨5,104,true,[.int .i64,.list false [.int .i64],.list false [.int .i64],.list false [.int .i64],.list false [.int .i64]],[.int .i64 0,.zs,.zs,.zs,.zs],.struct [(0,3),(1,22),(2,22),(3,22),(4,22)]⟩),
 (85,⟨1,24,false,[.list false [.int .u64]],[.zs],.slice 103⟩),
 (88,⟨2,32,true,[.int .i64,.list false [.int .u64]],[.int .i64 0,.zs],.struct [(0,3),(1,85)]⟩),
 (93,⟨1,24,false,[.list true [.int .i64,.int .i64]],[.zs],.slice 34⟩),
 (95,⟨1,8,false,[.list false []],[.nilp],.ptr 98⟩),
 (98,⟨1,24,true,[.list false [.str]],[.zs],.struct [(0,66)]⟩),
 (103,⟨1,8,false,[.int .u64],[.int .u64 0],.leaf⟩),
 (106,⟨1,8,false,[.list false []],[.nilp],.ptr 108⟩),
 (108,⟨2,32,true,[.list false [],.list false [.int .u8]],[.nilp,.zs],.bld⟩),
 (111,⟨6,48,true,[.bool,.int .i64,.int .i64,.int .i64,.int .i64,.int .i64],[.bool false,.int .i64 0,.int .i64 0,.int .i64 0,.int .i64 0,.int .i64 0],.struct [(0,4),(1,3),(2,3),(3,3),(4,3),(5,3)]⟩),
 (120,⟨1,16,false,[.list false []],[.err true],.iface⟩),
 (127,⟨3,24,true,[.bool,.int .i64,.int .i64],[.bool false,.int .i64 0,.int .i64 0],.struct [(0,4),(1,3),(2,3)]⟩),
 (131,⟨1,24,false,[.list true [.int .i64,.int .i64,.int .i64,.int .i64,.int .i64,.int .i64,.int .i64,.int .i64,.int .i64,.int .i64]],[.zs],.slice 36⟩),
 (141,⟨1,8,false,[.list false []],[.nilp],.ptr 183⟩),
 (150,⟨1,24,false,[.list true [.bool,.int .i64,.int .i64,.int .i64,.int .i64,.int .i64]],[.zs],.slice 111⟩),
 (152,⟨1,8,false,[.int .u64],[.int .u64 0],.leaf⟩),
 (183,⟨34,336,true,[.int .i64,.int .i64,.int .i64,.int .i64,.int .i64,.list true [.int .i64,.list false [.int .u64]],.int .i64,.int .i64,.int .i64,.int .i64,.int .i64,.int .i64,.int .i64,.int .i64,.int .i64,.int .i64,.int .i64,.int .i64,.int .i64,.int .i64,.int .i64,.bool,.int .i64,.list true [.int .i64,.int .i64,.int .i64,.int .i64,.int .i64,.int .i64,.int .i64,.int .i64,.int .i64,.int .i64],.list true [.bool,.int .i64,.int .i64],.int .i64,.list true [.bool,.int .i64,.int .i64],.int .i64,.int .i64,.int .i64,.int .i64,.int .i64,.int .i64,.int .i64],[.int .i64 0,.int .i64 0,.int .i64 0,.int .i64 0,.int .i64 0,.zs,.int .i64 0,.int .i64 0,.int .i64 0,.int .i64 0,.int .i64 0,.int .i64 0,.int .i64 0,.int .i64 0,.int .i64 0,.int .i64 0,.int .i64 0,.int .i64 0,.int .i64 0,.int .i64 0,.int .i64 0,.bool false,.int .i64 0,.zs,.zs,.int .i64 0,.zs,.int .i64 0,.int .i64 0,.int .i64 0,.int .i64 0,.int .i64 0,.int .i64 0,.int .i64 0],.struct [(0,30),(6,38),(23,131),(24,51),(25,55),(33,3)]⟩),
 (252,⟨11,88,true,[.int .i64,.int .i64,.int .i64,.int .i64,.int .i64,.int .i64,.int .i64,.int .i64,.int .i64,.int .i64,.int .i64],[.int .i64 0,.int .i64 0,.int .i64 0,.int .i64 0,.int .i64 0,.int .i64 0,.int .i64 0,.int .i64 0,.int .i64 0,.int .i64 0,.int .i64 0],.struct [(0,3),(1,36)]⟩),
 (253,⟨1,24,false,[.list true [.int .i64,.int .i64,.int .i64,.int .i64,.int .i64,.int .i64,.int .i64,.int .i64,.int .i64,.int .i64,.int .i64]],[.zs],.slice 252⟩),
 (272,⟨1,24,false,[.list true [.int .i64,.int .i64,.int .i64,.int .i64,.int .i64,.int .i64,.int .i64,.int .i64,.int .i64,.int .i64,.int .i64]],[.zs],.slice 275⟩),
 (275,⟨11,88,true,[.int .i64,.int .i64,.int .i64,.int .i64,.int .i64,.int .i64,.int .i64,.int .i64,.int .i64,.int .i64,.int .i64],[.int .i64 0,.int .i64 0,.int .i64 0,.int .i64 0,.int .i64 0,.int .i64 0,.int .i64 0,.int .i64 0,.int .i64 0,.int .i64 0,.int .i64 0],.struct [(0,36),(10,3)]⟩)]
def yg1:List Nat:=[34,38,53,111,127]
noncomputable abbrev PR:Program:=Tryz.prog
theorem yhh:ygp PR 108 yce=true:=by kernel_rfl
theorem yhv:yhb PR yce yg1=true:=by kernel_rfl
theorem yhy:PR.follows .mixedOrders=true:=by kernel_rfl
theorem yg6:∃ i,PR.info? 108=some i∧i.zero=some (.agg #[.pointer none,.slice none 0 0]):=by
 refine ⟨(PR.info? 108).getD default,by kernel_rfl,by kernel_rfl⟩
theorem ye6 (_h:(lkd TI.none yce 108).d = .bld):∃ i,PR.info? 108=some i∧i.zero=some (.agg #[.pointer none,.slice none 0 0]):=yg6
def mkE (sp:List (Nat × z0u)) (lp:List (Nat × KP)) (nt N:Nat):Env:=⟨yce,sp,[],lp,nt,N,yg1,[]⟩
noncomputable abbrev z45:Func:=Tryz.f5
noncomputable def z9j:Code:=z0l Tryz.f5
theorem zg3:(z45.name == "runtime.NumGoroutine")=false∧z45.body=some z9j∧z45.ntmps=39∧Nat.ble 39 900000=true∧z45.results.toList=[.tmp 0]:=⟨by kernel_rfl,by kernel_rfl,by kernel_rfl,by kernel_rfl,by kernel_rfl⟩
noncomputable abbrev zex:Func:=Tryz.f18
noncomputable def z2c:Code:=z0l Tryz.f18
theorem y44:(zex.name == "runtime.NumGoroutine")=false∧zex.body=some z2c∧zex.ntmps=100∧Nat.ble 100 900000=true∧zex.results.toList=[.tmp 4]:=⟨by kernel_rfl,by kernel_rfl,by kernel_rfl,by kernel_rfl,by kernel_rfl⟩
noncomputable abbrev zcn:Func:=Tryz.f19
noncomputable def z10:Code:=z0l Tryz.f19
theorem zzy:(zcn.name == "runtime.NumGoroutine")=false∧zcn.body=some z10∧zcn.ntmps=88∧Nat.ble 88 900000=true∧zcn.results.toList=[.cell 2 30,.tmp 3]:=⟨by kernel_rfl,by kernel_rfl,by kernel_rfl,by kernel_rfl,by kernel_rfl⟩
noncomputable abbrev zd6:Func:=Tryz.f20
noncomputable def z1g:Code:=z0l Tryz.f20
theorem y1s:(zd6.name == "runtime.NumGoroutine")=false∧zd6.body=some z1g∧zd6.ntmps=94∧Nat.ble 94 900000=true∧zd6.results.toList=[.tmp 2]:=⟨by kernel_rfl,by kernel_rfl,by kernel_rfl,by kernel_rfl,by kernel_rfl⟩
noncomputable abbrev zbo:Func:=Tryz.f21
noncomputable def z4j:Code:=z0l Tryz.f21
theorem zxd:(zbo.name == "runtime.NumGoroutine")=false∧zbo.body=some z4j∧zbo.ntmps=59∧Nat.ble 59 900000=true∧zbo.results.toList=[.tmp 2,.tmp 3]:=⟨by kernel_rfl,by kernel_rfl,by kernel_rfl,by kernel_rfl,by kernel_rfl⟩
noncomputable abbrev zd0:Func:=Tryz.f23
noncomputable def zoh:Code:=z0l Tryz.f23
theorem zz8:(zd0.name == "runtime.NumGoroutine")=false∧zd0.body=some zoh∧zd0.ntmps=17∧Nat.ble 17 900000=true∧zd0.results.toList=[.cell 2 55,.tmp 3]:=⟨by kernel_rfl,by kernel_rfl,by kernel_rfl,by kernel_rfl,by kernel_rfl⟩
noncomputable abbrev zd4:Func:=Tryz.f24
noncomputable def z6o:Code:=z0l Tryz.f24
theorem zzn:(zd4.name == "runtime.NumGoroutine")=false∧zd4.body=some z6o∧zd4.ntmps=61∧Nat.ble 61 900000=true∧zd4.results.toList=[.tmp 2]:=⟨by kernel_rfl,by kernel_rfl,by kernel_rfl,by kernel_rfl,by kernel_rfl⟩
noncomputable abbrev za1:Func:=Tryz.f26
noncomputable def z16:Code:=z0l Tryz.f26
theorem zst:(za1.name == "runtime.NumGoroutine")=false∧za1.body=some z16∧za1.ntmps=59∧Nat.ble 59 900000=true∧za1.results.toList=[.tmp 6]:=⟨by kernel_rfl,by kernel_rfl,by kernel_rfl,by kernel_rfl,by kernel_rfl⟩
noncomputable abbrev z6v:Func:=Tryz.f28
noncomputable def ze9:Code:=z0l Tryz.f28
theorem zml:(z6v.name == "runtime.NumGoroutine")=false∧z6v.body=some ze9∧z6v.ntmps=14∧Nat.ble 14 900000=true∧z6v.results.toList=[.cell 0 30]:=⟨by kernel_rfl,by kernel_rfl,by kernel_rfl,by kernel_rfl,by kernel_rfl⟩
noncomputable abbrev z9v:Func:=Tryz.f29
noncomputable def z3n:Code:=z0l Tryz.f29
theorem ztw:(z9v.name == "runtime.NumGoroutine")=false∧z9v.body=some z3n∧z9v.ntmps=54∧Nat.ble 54 900000=true∧z9v.results.toList=[.tmp 6]:=⟨by kernel_rfl,by kernel_rfl,by kernel_rfl,by kernel_rfl,by kernel_rfl⟩
noncomputable abbrev za3:Func:=Tryz.f31
noncomputable def zip:Code:=z0l Tryz.f31
theorem zsw:(za3.name == "runtime.NumGoroutine")=false∧za3.body=some zip∧za3.ntmps=8∧Nat.ble 8 900000=true∧za3.results.toList=[.tmp 2]:=⟨by kernel_rfl,by kernel_rfl,by kernel_rfl,by kernel_rfl,by kernel_rfl⟩
noncomputable abbrev zhp:Func:=Tryz.f41
noncomputable def zv9:Code:=z0l Tryz.f41
theorem y75:(zhp.name == "runtime.NumGoroutine")=false∧zhp.body=some zv9∧zhp.ntmps=39∧Nat.ble 39 900000=true∧zhp.results.toList=[.cell 4 38]:=⟨by kernel_rfl,by kernel_rfl,by kernel_rfl,by kernel_rfl,by kernel_rfl⟩
noncomputable abbrev zfm:Func:=Tryz.f42
noncomputable def zpr:Code:=z0l Tryz.f42
theorem y48:(zfm.name == "runtime.NumGoroutine")=false∧zfm.body=some zpr∧zfm.ntmps=9∧Nat.ble 9 900000=true∧zfm.results.toList=[.tmp 2]:=⟨by kernel_rfl,by kernel_rfl,by kernel_rfl,by kernel_rfl,by kernel_rfl⟩
noncomputable abbrev zff:Func:=Tryz.f44
noncomputable def zq0:Code:=z0l Tryz.f44
theorem y2a:(zff.name == "runtime.NumGoroutine")=false∧zff.body=some zq0∧zff.ntmps=38∧Nat.ble 38 900000=true∧zff.results.toList=[.tmp 2]:=⟨by kernel_rfl,by kernel_rfl,by kernel_rfl,by kernel_rfl,by kernel_rfl⟩
noncomputable abbrev z4w:Func:=Tryz.f47
noncomputable def zbb:Code:=z0l Tryz.f47
theorem zik:(z4w.name == "runtime.NumGoroutine")=false∧z4w.body=some zbb∧z4w.ntmps=8∧Nat.ble 8 900000=true∧z4w.results.toList=[.tmp 4]:=⟨by kernel_rfl,by kernel_rfl,by kernel_rfl,by kernel_rfl,by kernel_rfl⟩
noncomputable abbrev z64:Func:=Tryz.f48
noncomputable def zd8:Code:=z0l Tryz.f48
theorem zlu:(z64.name == "runtime.NumGoroutine")=false∧z64.body=some zd8∧z64.ntmps=26∧Nat.ble 26 900000=true∧z64.results.toList=[.tmp 2]:=⟨by kernel_rfl,by kernel_rfl,by kernel_rfl,by kernel_rfl,by kernel_rfl⟩
noncomputable abbrev zcq:Func:=Tryz.f49
noncomputable def zof:Code:=z0l Tryz.f49
theorem y1e:(zcq.name == "runtime.NumGoroutine")=false∧zcq.body=some zof∧zcq.ntmps=24∧Nat.ble 24 900000=true∧zcq.results.toList=[.tmp 4]:=⟨by kernel_rfl,by kernel_rfl,by kernel_rfl,by kernel_rfl,by kernel_rfl⟩
noncomputable abbrev zf6:Func:=Tryz.f50
noncomputable def zra:Code:=z0l Tryz.f50
theorem y4k:(zf6.name == "runtime.NumGoroutine")=false∧zf6.body=some zra∧zf6.ntmps=13∧Nat.ble 13 900000=true∧zf6.results.toList=[.tmp 4]:=⟨by kernel_rfl,by kernel_rfl,by kernel_rfl,by kernel_rfl,by kernel_rfl⟩
noncomputable abbrev zeg:Func:=Tryz.f51
noncomputable def zq6:Code:=z0l Tryz.f51
theorem y4a:(zeg.name == "runtime.NumGoroutine")=false∧zeg.body=some zq6∧zeg.ntmps=11∧Nat.ble 11 900000=true∧zeg.results.toList=[.tmp 2]:=⟨by kernel_rfl,by kernel_rfl,by kernel_rfl,by kernel_rfl,by kernel_rfl⟩
noncomputable abbrev z68:Func:=Tryz.f52
noncomputable def zcz:Code:=z0l Tryz.f52
theorem zk4:(z68.name == "runtime.NumGoroutine")=false∧z68.body=some zcz∧z68.ntmps=28∧Nat.ble 28 900000=true∧z68.results.toList=[.tmp 2]:=⟨by kernel_rfl,by kernel_rfl,by kernel_rfl,by kernel_rfl,by kernel_rfl⟩
noncomputable abbrev zbl:Func:=Tryz.f53
noncomputable def z2z:Code:=z0l Tryz.f53
theorem zxx:(zbl.name == "runtime.NumGoroutine")=false∧zbl.body=some z2z∧zbl.ntmps=54∧Nat.ble 54 900000=true∧zbl.results.toList=[.tmp 2]:=⟨by kernel_rfl,by kernel_rfl,by kernel_rfl,by kernel_rfl,by kernel_rfl⟩
noncomputable abbrev zf9:Func:=Tryz.f54
noncomputable def zs6:Code:=z0l Tryz.f54
theorem y4g:(zf9.name == "runtime.NumGoroutine")=false∧zf9.body=some zs6∧zf9.ntmps=10∧Nat.ble 10 900000=true∧zf9.results.toList=[]:=⟨by kernel_rfl,by kernel_rfl,by kernel_rfl,by kernel_rfl,by kernel_rfl⟩
noncomputable abbrev zbm:Func:=Tryz.f55
noncomputable def zl7:Code:=z0l Tryz.f55
theorem zxo:(zbm.name == "runtime.NumGoroutine")=false∧zbm.body=some zl7∧zbm.ntmps=33∧Nat.ble 33 900000=true∧zbm.results.toList=[.cell 2 111,.tmp 3]:=⟨by kernel_rfl,by kernel_rfl,by kernel_rfl,by kernel_rfl,by kernel_rfl⟩
noncomputable abbrev zen:Func:=Tryz.f58
noncomputable def z6n:Code:=z0l Tryz.f58
theorem y3y:(zen.name == "runtime.NumGoroutine")=false∧zen.body=some z6n∧zen.ntmps=29∧Nat.ble 29 900000=true∧zen.results.toList=[.tmp 4,.tmp 5,.tmp 6]:=⟨by kernel_rfl,by kernel_rfl,by kernel_rfl,by kernel_rfl,by kernel_rfl⟩
noncomputable abbrev zbi:Func:=Tryz.f59
noncomputable def zlm:Code:=z0l Tryz.f59
theorem zvv:(zbi.name == "runtime.NumGoroutine")=false∧zbi.body=some zlm∧zbi.ntmps=37∧Nat.ble 37 900000=true∧zbi.results.toList=[.tmp 2]:=⟨by kernel_rfl,by kernel_rfl,by kernel_rfl,by kernel_rfl,by kernel_rfl⟩
noncomputable abbrev zfl:Func:=Tryz.f61
noncomputable def z0w:Code:=z0l Tryz.f61
theorem y46:(zfl.name == "runtime.NumGoroutine")=false∧zfl.body=some z0w∧zfl.ntmps=87∧Nat.ble 87 900000=true∧zfl.results.toList=[.cell 2 55]:=⟨by kernel_rfl,by kernel_rfl,by kernel_rfl,by kernel_rfl,by kernel_rfl⟩
noncomputable abbrev zdf:Func:=Tryz.f62
noncomputable def zo9:Code:=z0l Tryz.f62
theorem zzq:(zdf.name == "runtime.NumGoroutine")=false∧zdf.body=some zo9∧zdf.ntmps=47∧Nat.ble 47 900000=true∧zdf.results.toList=[.tmp 2]:=⟨by kernel_rfl,by kernel_rfl,by kernel_rfl,by kernel_rfl,by kernel_rfl⟩
noncomputable abbrev zey:Func:=Tryz.f63
noncomputable def z86:Code:=z0l Tryz.f63
theorem y2w:(zey.name == "runtime.NumGoroutine")=false∧zey.body=some z86∧zey.ntmps=26∧Nat.ble 26 900000=true∧zey.results.toList=[]:=⟨by kernel_rfl,by kernel_rfl,by kernel_rfl,by kernel_rfl,by kernel_rfl⟩
noncomputable abbrev zbp:Func:=Tryz.f65
noncomputable def zll:Code:=z0l Tryz.f65
theorem zwr:(zbp.name == "runtime.NumGoroutine")=false∧zbp.body=some zll∧zbp.ntmps=41∧Nat.ble 41 900000=true∧zbp.results.toList=[.tmp 4]:=⟨by kernel_rfl,by kernel_rfl,by kernel_rfl,by kernel_rfl,by kernel_rfl⟩
noncomputable abbrev zbc:Func:=Tryz.f66
noncomputable def zl0:Code:=z0l Tryz.f66
theorem zwm:(zbc.name == "runtime.NumGoroutine")=false∧zbc.body=some zl0∧zbc.ntmps=16∧Nat.ble 16 900000=true∧zbc.results.toList=[.cell 2 36]:=⟨by kernel_rfl,by kernel_rfl,by kernel_rfl,by kernel_rfl,by kernel_rfl⟩
noncomputable abbrev zcm:Func:=Tryz.f67
noncomputable def z8d:Code:=z0l Tryz.f67
theorem zyx:(zcm.name == "runtime.NumGoroutine")=false∧zcm.body=some z8d∧zcm.ntmps=75∧Nat.ble 75 900000=true∧zcm.results.toList=[.tmp 4,.tmp 5]:=⟨by kernel_rfl,by kernel_rfl,by kernel_rfl,by kernel_rfl,by kernel_rfl⟩
noncomputable abbrev zbf:Func:=Tryz.f68
noncomputable def z2a:Code:=z0l Tryz.f68
theorem zvo:(zbf.name == "runtime.NumGoroutine")=false∧zbf.body=some z2a∧zbf.ntmps=94∧Nat.ble 94 900000=true∧zbf.results.toList=[.tmp 6]:=⟨by kernel_rfl,by kernel_rfl,by kernel_rfl,by kernel_rfl,by kernel_rfl⟩
noncomputable abbrev zkc:Func:=Tryz.f69
noncomputable def y0v:Code:=z0l Tryz.f69
theorem yax:(zkc.name == "runtime.NumGoroutine")=false∧zkc.body=some y0v∧zkc.ntmps=25∧Nat.ble 25 900000=true∧zkc.results.toList=[.tmp 6]:=⟨by kernel_rfl,by kernel_rfl,by kernel_rfl,by kernel_rfl,by kernel_rfl⟩
noncomputable abbrev z9y:Func:=Tryz.f70
noncomputable def z1t:Code:=z0l Tryz.f70
theorem zsr:(z9y.name == "runtime.NumGoroutine")=false∧z9y.body=some z1t∧z9y.ntmps=75∧Nat.ble 75 900000=true∧z9y.results.toList=[.tmp 8]:=⟨by kernel_rfl,by kernel_rfl,by kernel_rfl,by kernel_rfl,by kernel_rfl⟩
noncomputable abbrev z7q:Func:=Tryz.f71
noncomputable def zg1:Code:=z0l Tryz.f71
theorem zp8:(z7q.name == "runtime.NumGoroutine")=false∧z7q.body=some zg1∧z7q.ntmps=32∧Nat.ble 32 900000=true∧z7q.results.toList=[.tmp 2]:=⟨by kernel_rfl,by kernel_rfl,by kernel_rfl,by kernel_rfl,by kernel_rfl⟩
noncomputable abbrev z7n:Func:=Tryz.f72
noncomputable def zft:Code:=z0l Tryz.f72
theorem zpf:(z7n.name == "runtime.NumGoroutine")=false∧z7n.body=some zft∧z7n.ntmps=66∧Nat.ble 66 900000=true∧z7n.results.toList=[.tmp 6]:=⟨by kernel_rfl,by kernel_rfl,by kernel_rfl,by kernel_rfl,by kernel_rfl⟩
noncomputable abbrev zfi:Func:=Tryz.f73
noncomputable def z5c:Code:=z0l Tryz.f73
theorem y4i:(zfi.name == "runtime.NumGoroutine")=false∧zfi.body=some z5c∧zfi.ntmps=82∧Nat.ble 82 900000=true∧zfi.results.toList=[.cell 2 38,.tmp 3,.tmp 4]:=⟨by kernel_rfl,by kernel_rfl,by kernel_rfl,by kernel_rfl,by kernel_rfl⟩
noncomputable abbrev zib:Func:=Tryz.f84
noncomputable def zv8:Code:=z0l Tryz.f84
theorem y7c:(zib.name == "runtime.NumGoroutine")=false∧zib.body=some zv8∧zib.ntmps=8∧Nat.ble 8 900000=true∧zib.results.toList=[.tmp 0]:=⟨by kernel_rfl,by kernel_rfl,by kernel_rfl,by kernel_rfl,by kernel_rfl⟩
noncomputable abbrev z1w:Func:=Tryz.f89
noncomputable def z4g:Code:=z0l Tryz.f89
theorem z95:(z1w.name == "runtime.NumGoroutine")=false∧z1w.body=some z4g∧z1w.ntmps=16∧Nat.ble 16 900000=true∧z1w.results.toList=[.tmp 4]:=⟨by kernel_rfl,by kernel_rfl,by kernel_rfl,by kernel_rfl,by kernel_rfl⟩
noncomputable abbrev zi2:Func:=Tryz.f91
noncomputable def zu8:Code:=z0l Tryz.f91
theorem y6d:(zi2.name == "runtime.NumGoroutine")=false∧zi2.body=some zu8∧zi2.ntmps=76∧Nat.ble 76 900000=true∧zi2.results.toList=[.tmp 2,.tmp 3]:=⟨by kernel_rfl,by kernel_rfl,by kernel_rfl,by kernel_rfl,by kernel_rfl⟩
noncomputable abbrev zem:Func:=Tryz.f92
noncomputable def zr7:Code:=z0l Tryz.f92
theorem y3t:(zem.name == "runtime.NumGoroutine")=false∧zem.body=some zr7∧zem.ntmps=32∧Nat.ble 32 900000=true∧zem.results.toList=[.tmp 2]:=⟨by kernel_rfl,by kernel_rfl,by kernel_rfl,by kernel_rfl,by kernel_rfl⟩
noncomputable abbrev zfb:Func:=Tryz.f93
noncomputable def zpw:Code:=z0l Tryz.f93
theorem y2p:(zfb.name == "runtime.NumGoroutine")=false∧zfb.body=some zpw∧zfb.ntmps=25∧Nat.ble 25 900000=true∧zfb.results.toList=[.tmp 4]:=⟨by kernel_rfl,by kernel_rfl,by kernel_rfl,by kernel_rfl,by kernel_rfl⟩
noncomputable abbrev z1o:Func:=Tryz.f94
noncomputable def z3p:Code:=z0l Tryz.f94
theorem z78:(z1o.name == "runtime.NumGoroutine")=false∧z1o.body=some z3p∧z1o.ntmps=9∧Nat.ble 9 900000=true∧z1o.results.toList=[.tmp 4]:=⟨by kernel_rfl,by kernel_rfl,by kernel_rfl,by kernel_rfl,by kernel_rfl⟩
noncomputable abbrev z8t:Func:=Tryz.f95
noncomputable def zgo:Code:=z0l Tryz.f95
theorem zrh:(z8t.name == "runtime.NumGoroutine")=false∧z8t.body=some zgo∧z8t.ntmps=22∧Nat.ble 22 900000=true∧z8t.results.toList=[.tmp 3]:=⟨by kernel_rfl,by kernel_rfl,by kernel_rfl,by kernel_rfl,by kernel_rfl⟩
noncomputable abbrev zde:Func:=Tryz.f96
noncomputable def z1u:Code:=z0l Tryz.f96
theorem y15:(zde.name == "runtime.NumGoroutine")=false∧zde.body=some z1u∧zde.ntmps=94∧Nat.ble 94 900000=true∧zde.results.toList=[.tmp 4]:=⟨by kernel_rfl,by kernel_rfl,by kernel_rfl,by kernel_rfl,by kernel_rfl⟩
noncomputable abbrev zbg:Func:=Tryz.f98
noncomputable def zkh:Code:=z0l Tryz.f98
theorem zxq:(zbg.name == "runtime.NumGoroutine")=false∧zbg.body=some zkh∧zbg.ntmps=14∧Nat.ble 14 900000=true∧zbg.results.toList=[.tmp 6]:=⟨by kernel_rfl,by kernel_rfl,by kernel_rfl,by kernel_rfl,by kernel_rfl⟩
noncomputable abbrev zhr:Func:=Tryz.f99
noncomputable def zv1:Code:=z0l Tryz.f99
theorem y7x:(zhr.name == "runtime.NumGoroutine")=false∧zhr.body=some zv1∧zhr.ntmps=18∧Nat.ble 18 900000=true∧zhr.results.toList=[.tmp 6]:=⟨by kernel_rfl,by kernel_rfl,by kernel_rfl,by kernel_rfl,by kernel_rfl⟩
noncomputable abbrev z8v:Func:=Tryz.f100
noncomputable def zgj:Code:=z0l Tryz.f100
theorem zrg:(z8v.name == "runtime.NumGoroutine")=false∧z8v.body=some zgj∧z8v.ntmps=11∧Nat.ble 11 900000=true∧z8v.results.toList=[.tmp 5]:=⟨by kernel_rfl,by kernel_rfl,by kernel_rfl,by kernel_rfl,by kernel_rfl⟩
noncomputable abbrev zbj:Func:=Tryz.f105
noncomputable def zlr:Code:=z0l Tryz.f105
theorem zvz:(zbj.name == "runtime.NumGoroutine")=false∧zbj.body=some zlr∧zbj.ntmps=20∧Nat.ble 20 900000=true∧zbj.results.toList=[.tmp 4]:=⟨by kernel_rfl,by kernel_rfl,by kernel_rfl,by kernel_rfl,by kernel_rfl⟩
noncomputable abbrev zcv:Func:=Tryz.f106
noncomputable def z5a:Code:=z0l Tryz.f106
theorem zze:(zcv.name == "runtime.NumGoroutine")=false∧zcv.body=some z5a∧zcv.ntmps=37∧Nat.ble 37 900000=true∧zcv.results.toList=[.tmp 2]:=⟨by kernel_rfl,by kernel_rfl,by kernel_rfl,by kernel_rfl,by kernel_rfl⟩
noncomputable abbrev z9z:Func:=Tryz.f107
noncomputable def zit:Code:=z0l Tryz.f107
theorem ztk:(z9z.name == "runtime.NumGoroutine")=false∧z9z.body=some zit∧z9z.ntmps=35∧Nat.ble 35 900000=true∧z9z.results.toList=[.tmp 4]:=⟨by kernel_rfl,by kernel_rfl,by kernel_rfl,by kernel_rfl,by kernel_rfl⟩
noncomputable abbrev zcx:Func:=Tryz.f108
noncomputable def zoi:Code:=z0l Tryz.f108
theorem y20:(zcx.name == "runtime.NumGoroutine")=false∧zcx.body=some zoi∧zcx.ntmps=71∧Nat.ble 71 900000=true∧zcx.results.toList=[.tmp 4]:=⟨by kernel_rfl,by kernel_rfl,by kernel_rfl,by kernel_rfl,by kernel_rfl⟩
noncomputable abbrev z9w:Func:=Tryz.f109
noncomputable def ziu:Code:=z0l Tryz.f109
theorem zte:(z9w.name == "runtime.NumGoroutine")=false∧z9w.body=some ziu∧z9w.ntmps=16∧Nat.ble 16 900000=true∧z9w.results.toList=[.tmp 2]:=⟨by kernel_rfl,by kernel_rfl,by kernel_rfl,by kernel_rfl,by kernel_rfl⟩
noncomputable abbrev zbe:Func:=Tryz.f110
noncomputable def zkv:Code:=z0l Tryz.f110
theorem zwg:(zbe.name == "runtime.NumGoroutine")=false∧zbe.body=some zkv∧zbe.ntmps=6∧Nat.ble 6 900000=true∧zbe.results.toList=[.tmp 2]:=⟨by kernel_rfl,by kernel_rfl,by kernel_rfl,by kernel_rfl,by kernel_rfl⟩
noncomputable abbrev zlh:Func:=Tryz.f111
noncomputable def yac:Code:=z0l Tryz.f111
theorem yal:(zlh.name == "runtime.NumGoroutine")=false∧zlh.body=some yac∧zlh.ntmps=32∧Nat.ble 32 900000=true∧zlh.results.toList=[.cell 6 36,.cell 7 36]:=⟨by kernel_rfl,by kernel_rfl,by kernel_rfl,by kernel_rfl,by kernel_rfl⟩
noncomputable abbrev zf2:Func:=Tryz.f112
noncomputable def zqa:Code:=z0l Tryz.f112
theorem y2z:(zf2.name == "runtime.NumGoroutine")=false∧zf2.body=some zqa∧zf2.ntmps=12∧Nat.ble 12 900000=true∧zf2.results.toList=[.tmp 2]:=⟨by kernel_rfl,by kernel_rfl,by kernel_rfl,by kernel_rfl,by kernel_rfl⟩
noncomputable abbrev zdl:Func:=Tryz.f113
noncomputable def z0v:Code:=z0l Tryz.f113
theorem zzc:(zdl.name == "runtime.NumGoroutine")=false∧zdl.body=some z0v∧zdl.ntmps=66∧Nat.ble 66 900000=true∧zdl.results.toList=[.tmp 6,.tmp 7]:=⟨by kernel_rfl,by kernel_rfl,by kernel_rfl,by kernel_rfl,by kernel_rfl⟩
noncomputable abbrev zhu:Func:=Tryz.f114
noncomputable def zu6:Code:=z0l Tryz.f114
theorem y83:(zhu.name == "runtime.NumGoroutine")=false∧zhu.body=some zu6∧zhu.ntmps=15∧Nat.ble 15 900000=true∧zhu.results.toList=[.tmp 4]:=⟨by kernel_rfl,by kernel_rfl,by kernel_rfl,by kernel_rfl,by kernel_rfl⟩
noncomputable abbrev zdj:Func:=Tryz.f115
noncomputable def zoj:Code:=z0l Tryz.f115
theorem y1p:(zdj.name == "runtime.NumGoroutine")=false∧zdj.body=some zoj∧zdj.ntmps=24∧Nat.ble 24 900000=true∧zdj.results.toList=[.tmp 6]:=⟨by kernel_rfl,by kernel_rfl,by kernel_rfl,by kernel_rfl,by kernel_rfl⟩
noncomputable abbrev z9x:Func:=Tryz.f116
noncomputable def zir:Code:=z0l Tryz.f116
theorem zu2:(z9x.name == "runtime.NumGoroutine")=false∧z9x.body=some zir∧z9x.ntmps=14∧Nat.ble 14 900000=true∧z9x.results.toList=[.cell 6 53]:=⟨by kernel_rfl,by kernel_rfl,by kernel_rfl,by kernel_rfl,by kernel_rfl⟩
noncomputable abbrev z4f:Func:=Tryz.f117
noncomputable def zat:Code:=z0l Tryz.f117
theorem zgb:(z4f.name == "runtime.NumGoroutine")=false∧z4f.body=some zat∧z4f.ntmps=66∧Nat.ble 66 900000=true∧z4f.results.toList=[.tmp 2]:=⟨by kernel_rfl,by kernel_rfl,by kernel_rfl,by kernel_rfl,by kernel_rfl⟩
noncomputable abbrev z2l:Func:=Tryz.f118
noncomputable def z0y:Code:=z0l Tryz.f118
theorem zc2:(z2l.name == "runtime.NumGoroutine")=false∧z2l.body=some z0y∧z2l.ntmps=19∧Nat.ble 19 900000=true∧z2l.results.toList=[.tmp 4]:=⟨by kernel_rfl,by kernel_rfl,by kernel_rfl,by kernel_rfl,by kernel_rfl⟩
noncomputable abbrev zi7:Func:=Tryz.f119
noncomputable def zu5:Code:=z0l Tryz.f119
theorem y6m:(zi7.name == "runtime.NumGoroutine")=false∧zi7.body=some zu5∧zi7.ntmps=46∧Nat.ble 46 900000=true∧zi7.results.toList=[.cell 2 38]:=⟨by kernel_rfl,by kernel_rfl,by kernel_rfl,by kernel_rfl,by kernel_rfl⟩
noncomputable abbrev zi0:Func:=Tryz.f120
noncomputable def zvi:Code:=z0l Tryz.f120
theorem y7d:(zi0.name == "runtime.NumGoroutine")=false∧zi0.body=some zvi∧zi0.ntmps=11∧Nat.ble 11 900000=true∧zi0.results.toList=[.tmp 2]:=⟨by kernel_rfl,by kernel_rfl,by kernel_rfl,by kernel_rfl,by kernel_rfl⟩
noncomputable abbrev zer:Func:=Tryz.f121
noncomputable def zrq:Code:=z0l Tryz.f121
theorem y35:(zer.name == "runtime.NumGoroutine")=false∧zer.body=some zrq∧zer.ntmps=11∧Nat.ble 11 900000=true∧zer.results.toList=[.tmp 2]:=⟨by kernel_rfl,by kernel_rfl,by kernel_rfl,by kernel_rfl,by kernel_rfl⟩
noncomputable abbrev z1z:Func:=Tryz.f141
noncomputable def z4q:Code:=z0l Tryz.f141
theorem z9d:(z1z.name == "runtime.NumGoroutine")=false∧z1z.body=some z4q∧z1z.ntmps=21∧Nat.ble 21 900000=true∧z1z.results.toList=[.tmp 4]:=⟨by kernel_rfl,by kernel_rfl,by kernel_rfl,by kernel_rfl,by kernel_rfl⟩
noncomputable abbrev zdb:Func:=Tryz.f144
noncomputable def znq:Code:=z0l Tryz.f144
theorem y0x:(zdb.name == "runtime.NumGoroutine")=false∧zdb.body=some znq∧zdb.ntmps=19∧Nat.ble 19 900000=true∧zdb.results.toList=[.tmp 2,.tmp 3]:=⟨by kernel_rfl,by kernel_rfl,by kernel_rfl,by kernel_rfl,by kernel_rfl⟩
noncomputable abbrev zd1:Func:=Tryz.f145
noncomputable def znz:Code:=z0l Tryz.f145
theorem y0c:(zd1.name == "runtime.NumGoroutine")=false∧zd1.body=some znz∧zd1.ntmps=43∧Nat.ble 43 900000=true∧zd1.results.toList=[.tmp 2]:=⟨by kernel_rfl,by kernel_rfl,by kernel_rfl,by kernel_rfl,by kernel_rfl⟩
noncomputable abbrev zi6:Func:=Tryz.f146
noncomputable def zur:Code:=z0l Tryz.f146
theorem y7y:(zi6.name == "runtime.NumGoroutine")=false∧zi6.body=some zur∧zi6.ntmps=30∧Nat.ble 30 900000=true∧zi6.results.toList=[.tmp 8]:=⟨by kernel_rfl,by kernel_rfl,by kernel_rfl,by kernel_rfl,by kernel_rfl⟩
noncomputable abbrev z1x:Func:=Tryz.f147
noncomputable def z0d:Code:=z0l Tryz.f147
theorem z98:(z1x.name == "runtime.NumGoroutine")=false∧z1x.body=some z0d∧z1x.ntmps=19∧Nat.ble 19 900000=true∧z1x.results.toList=[.tmp 4]:=⟨by kernel_rfl,by kernel_rfl,by kernel_rfl,by kernel_rfl,by kernel_rfl⟩
noncomputable abbrev zes:Func:=Tryz.f148
noncomputable def zqy:Code:=z0l Tryz.f148
theorem y2v:(zes.name == "runtime.NumGoroutine")=false∧zes.body=some zqy∧zes.ntmps=21∧Nat.ble 21 900000=true∧zes.results.toList=[.tmp 4]:=⟨by kernel_rfl,by kernel_rfl,by kernel_rfl,by kernel_rfl,by kernel_rfl⟩
noncomputable abbrev zdc:Func:=Tryz.f149
noncomputable def zol:Code:=z0l Tryz.f149
theorem y07:(zdc.name == "runtime.NumGoroutine")=false∧zdc.body=some zol∧zdc.ntmps=21∧Nat.ble 21 900000=true∧zdc.results.toList=[.tmp 4]:=⟨by kernel_rfl,by kernel_rfl,by kernel_rfl,by kernel_rfl,by kernel_rfl⟩
noncomputable abbrev zek:Func:=Tryz.f150
noncomputable def zqd:Code:=z0l Tryz.f150
theorem y2t:(zek.name == "runtime.NumGoroutine")=false∧zek.body=some zqd∧zek.ntmps=7∧Nat.ble 7 900000=true∧zek.results.toList=[.tmp 2]:=⟨by kernel_rfl,by kernel_rfl,by kernel_rfl,by kernel_rfl,by kernel_rfl⟩
noncomputable abbrev zcp:Func:=Tryz.f155
noncomputable def znt:Code:=z0l Tryz.f155
theorem y0s:(zcp.name == "runtime.NumGoroutine")=false∧zcp.body=some znt∧zcp.ntmps=8∧Nat.ble 8 900000=true∧zcp.results.toList=[.tmp 2]:=⟨by kernel_rfl,by kernel_rfl,by kernel_rfl,by kernel_rfl,by kernel_rfl⟩
noncomputable abbrev zd7:Func:=Tryz.f156
noncomputable def z57:Code:=z0l Tryz.f156
theorem y0b:(zd7.name == "runtime.NumGoroutine")=false∧zd7.body=some z57∧zd7.ntmps=40∧Nat.ble 40 900000=true∧zd7.results.toList=[.tmp 2]:=⟨by kernel_rfl,by kernel_rfl,by kernel_rfl,by kernel_rfl,by kernel_rfl⟩
noncomputable abbrev zi5:Func:=Tryz.f157
noncomputable def zua:Code:=z0l Tryz.f157
theorem y73:(zi5.name == "runtime.NumGoroutine")=false∧zi5.body=some zua∧zi5.ntmps=29∧Nat.ble 29 900000=true∧zi5.results.toList=[.cell 4 34,.cell 5 34]:=⟨by kernel_rfl,by kernel_rfl,by kernel_rfl,by kernel_rfl,by kernel_rfl⟩
noncomputable abbrev zcr:Func:=Tryz.f158
noncomputable def z88:Code:=z0l Tryz.f158
theorem y0l:(zcr.name == "runtime.NumGoroutine")=false∧zcr.body=some z88∧zcr.ntmps=88∧Nat.ble 88 900000=true∧zcr.results.toList=[.tmp 4,.tmp 5]:=⟨by kernel_rfl,by kernel_rfl,by kernel_rfl,by kernel_rfl,by kernel_rfl⟩
noncomputable abbrev zct:Func:=Tryz.f159
noncomputable def z2q:Code:=z0l Tryz.f159
theorem zzo:(zct.name == "runtime.NumGoroutine")=false∧zct.body=some z2q∧zct.ntmps=33∧Nat.ble 33 900000=true∧zct.results.toList=[.tmp 6]:=⟨by kernel_rfl,by kernel_rfl,by kernel_rfl,by kernel_rfl,by kernel_rfl⟩
noncomputable abbrev z7p:Func:=Tryz.f160
noncomputable def zfq:Code:=z0l Tryz.f160
theorem zpc:(z7p.name == "runtime.NumGoroutine")=false∧z7p.body=some zfq∧z7p.ntmps=27∧Nat.ble 27 900000=true∧z7p.results.toList=[.tmp 4]:=⟨by kernel_rfl,by kernel_rfl,by kernel_rfl,by kernel_rfl,by kernel_rfl⟩
noncomputable abbrev zcy:Func:=Tryz.f190
noncomputable def znw:Code:=z0l Tryz.f190
theorem y19:(zcy.name == "runtime.NumGoroutine")=false∧zcy.body=some znw∧zcy.ntmps=9∧Nat.ble 9 900000=true∧zcy.results.toList=[.tmp 2]:=⟨by kernel_rfl,by kernel_rfl,by kernel_rfl,by kernel_rfl,by kernel_rfl⟩
noncomputable abbrev zbn:Func:=Tryz.f192
noncomputable def zkx:Code:=z0l Tryz.f192
theorem zwz:(zbn.name == "runtime.NumGoroutine")=false∧zbn.body=some zkx∧zbn.ntmps=16∧Nat.ble 16 900000=true∧zbn.results.toList=[.tmp 2]:=⟨by kernel_rfl,by kernel_rfl,by kernel_rfl,by kernel_rfl,by kernel_rfl⟩
noncomputable abbrev zkd:Func:=Tryz.f193
noncomputable def y0p:Code:=z0l Tryz.f193
theorem yav:(zkd.name == "runtime.NumGoroutine")=false∧zkd.body=some y0p∧zkd.ntmps=12∧Nat.ble 12 900000=true∧zkd.results.toList=[.cell 4 34]:=⟨by kernel_rfl,by kernel_rfl,by kernel_rfl,by kernel_rfl,by kernel_rfl⟩
noncomputable abbrev zei:Func:=Tryz.f194
noncomputable def zq7:Code:=z0l Tryz.f194
theorem y3n:(zei.name == "runtime.NumGoroutine")=false∧zei.body=some zq7∧zei.ntmps=2∧Nat.ble 2 900000=true∧zei.results.toList=[.cell 0 34]:=⟨by kernel_rfl,by kernel_rfl,by kernel_rfl,by kernel_rfl,by kernel_rfl⟩
noncomputable abbrev zdd:Func:=Tryz.f195
noncomputable def zo3:Code:=z0l Tryz.f195
theorem zzv:(zdd.name == "runtime.NumGoroutine")=false∧zdd.body=some zo3∧zdd.ntmps=15∧Nat.ble 15 900000=true∧zdd.results.toList=[.tmp 4]:=⟨by kernel_rfl,by kernel_rfl,by kernel_rfl,by kernel_rfl,by kernel_rfl⟩
noncomputable abbrev zia:Func:=Tryz.f217
noncomputable def z3x:Code:=z0l Tryz.f217
theorem y6o:(zia.name == "runtime.NumGoroutine")=false∧zia.body=some z3x∧zia.ntmps=46∧Nat.ble 46 900000=true∧zia.results.toList=[.tmp 4,.cell 5 111]:=⟨by kernel_rfl,by kernel_rfl,by kernel_rfl,by kernel_rfl,by kernel_rfl⟩
end Go.FM
