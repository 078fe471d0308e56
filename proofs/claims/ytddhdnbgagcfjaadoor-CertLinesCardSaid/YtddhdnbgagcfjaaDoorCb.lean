/-
  A small machine that reckons what a call comes to; the functions of the program, one by one. (THE SMALL MACHINE (18): what a call does to the caller's mem, THE SMALL MACHINE (19): a variable that is lent: its cells, , THE SMALL MACHINE (20): arguments and results, as the other , and so on.)
-/
import Derived.Test.YtddhdnbgagcfjaaDoorCa
import Derived.MapKept
import Derived.Lib.ConvBytes
import Derived.Orders
namespace Go.FM
open Go Go.RowKit
section
variable {B:BT} {nt:Nat} {w0:World} {X:Zone} {γ:Nat→Value} {st st':St} {a:Act} {w:World} {P:Program} {E:Env}
theorem Rel.shrink (h:Rel B nt w0 X γ st a w) {F:Nat→Prop} (hF:∀ b,F b→X.far b):Rel B nt w0 ⟨X.own,F⟩ γ st a w:=by
  have hO:∀ b,b < w.heap.size→z02 ⟨X.own,F⟩ γ st.o b→z02 X γ st.o b:=fun b _ hb=>hb.imp_right (hF b)
  exact ⟨h.sz,h.df,fun i=>VRel.mono (Keep.refl _ w) hO (h.tm i),fun n ob hn=>(h.ob n ob hn).later (fun _ _=>rfl) (Keep.refl _ w) hO (Cmp.refl _ _),h.lt,h.dis,h.keep,fun b hb hf=>h.nr b hb (hF b hf),fun b hb=>h.fl b (hF b hb),h.pn⟩
def z07 (γ:Nat→Value) (o:Store) (n b:Nat):Prop:=∃ ob,z01 o n=some ob∧z04 (γ n) ob b
theorem Rel.kill (h:Rel B nt w0 X γ st a w) (n:Nat):Rel B nt w0 ⟨X.own,fun b=>X.far b∨z07 γ st.o n b⟩ γ (st.up (.kill n)) a w:=by
  have hP:∀ b,z0h γ ((n,none) :: st.o) b→z0h γ st.o b∧¬ z07 γ st.o n b:=by
    rintro b ⟨m,ob,hm,hb⟩
    rw [z00] at hm
    split at hm
    · cases hm
    · rename_i hne
      exact ⟨⟨m,ob,hm,hb⟩,fun ⟨ob',hn,hb'⟩=>h.dis n m ob' ob b hne hn hm hb' hb⟩
  have hO:∀ b,b < w.heap.size→z02 ⟨X.own,fun b=>X.far b∨z07 γ st.o n b⟩ γ ((n,none) :: st.o) b→z02 X γ st.o b:=by
    rintro b _ (hb | hb | ⟨ob,h1,h2⟩)
    · exact .inl (hP b hb).1
    · exact .inr hb
    · exact .inl ⟨n,ob,h1,h2⟩
  have hc:Cmp γ st.o γ ((n,none) :: st.o):=by
    intro m ob hm
    rw [z00] at hm
    split at hm
    · cases hm
    · exact ⟨rfl,ob,hm,ob.fits_refl⟩
  refine ⟨h.sz,h.df,fun i=>VRel.mono (Keep.refl _ w) hO (VRel.cmp hc (h.tm i)),fun m ob hm=>?_,fun b hb=>h.lt b (hP b hb).1,?_,h.keep,?_,?_,fun p hp ob hm=>?_⟩
  · simp only [St.up] at hm ⊢
    have hm':=hm
    rw [z00] at hm
    split at hm
    · cases hm
    · exact (h.ob m ob hm).later (fun _ _=>rfl) (Keep.refl _ w) hO hc
  · intro m1 m2 ob1 ob2 b hne h1 h2 hb1 hb2
    simp only [St.up] at h1 h2
    rw [z00] at h1 h2
    split at h1
    · cases h1
    · split at h2
      · cases h2
      · exact h.dis m1 m2 ob1 ob2 b hne h1 h2 hb1 hb2
  · intro b hb hf
    rcases hf with hf | hf
    · exact h.nr b (hP b hb).1 hf
    · exact (hP b hb).2 hf
  · intro b hb
    rcases hb with hb | ⟨ob,h1,h2⟩
    · exact h.fl b hb
    · exact (h.lt b ⟨n,ob,h1,h2⟩).1
  · simp only [St.up] at hm
    rw [z00] at hm
    split at hm
    · cases hm
    · exact h.pn p hp ob hm
theorem Rel.fresh (h:Rel B nt w0 X γ st a w) {w':World} {K:Nat→Prop} (hk:Keep K w w') (hK:∀ b,b < w.heap.size→K b→X.far b∧(w0.heap.size≤b∨X.own b)) :
    Rel B nt w0 ⟨X.own,fun b=>X.far b∨(w.heap.size≤b∧b < w'.heap.size)⟩ γ st a w':=by
  have hkf:Keep (z02 X γ st.o) w w':=hk.mono (fun b hb h1=>.inr (hK b hb h1).1)
  have hO:∀ b,b < w.heap.size→z02 ⟨X.own,fun b=>X.far b∨(w.heap.size≤b∧b < w'.heap.size)⟩ γ st.o b→z02 X γ st.o b:=by
    rintro b hlt (hb | hb | hb)
    · exact .inl hb
    · exact .inr hb
    · omega
  refine ⟨h.sz,h.df,fun i=>VRel.mono hkf hO (h.tm i),fun n ob hn=>(h.ob n ob hn).later (fun b hb=>?_) hkf hO (Cmp.refl _ _),fun b hb=>⟨Nat.lt_of_lt_of_le (h.lt b hb).1 hk.size,(h.lt b hb).2⟩,h.dis,?_,?_,?_,h.pn⟩
  · exact hk.block b (h.lt b ⟨n,ob,hn,hb⟩).1 (fun h1=>h.nr b ⟨n,ob,hn,hb⟩ (hK b (h.lt b ⟨n,ob,hn,hb⟩).1 h1).1)
  · refine h.keep.trans (hk.mono (fun b hb h1=>(show w0.heap.size≤b∨X.own b from (hK b hb h1).2))) (fun b hb h1=>?_)
    rcases h1 with h1 | h1
    · omega
    · exact h1
  · rintro b hb (hf | hf)
    · exact h.nr b hb hf
    · have:=(h.lt b hb).1
      omega
  · rintro b (hb | hb)
    · exact Nat.lt_of_lt_of_le (h.fl b hb) hk.size
    · exact hb.2
theorem VRels.each {γ γ':Nat→Value} {o o':Store} {w:World} {O:Nat→Prop} (hv:∀ v x,VRel γ o w O v x→VRel γ' o' w O v x):∀ {l:List V} {xs:List Value},VRels γ o w O l xs→VRels γ' o' w O l xs
  | [],[],_=>by simp only [VRels]
  | [],_ :: _,h=>by simp only [VRels] at h
  | _ :: _,[],h=>by simp only [VRels] at h
  | v :: vs,x :: xs,h=>by
    simp only [VRels] at h ⊢
    exact ⟨hv v x h.1,VRels.each hv h.2⟩
theorem ObRel.after {γ γ':Nat→Value} {o o':Store} {w w':World} {O O':Nat→Prop} {g:Value} {ob:Ob} (h:ObRel B γ o w O g ob) (hb:∀ b,z04 g ob b→w'.heap[b]?=w.heap[b]?) (hk:Keep O w w') (hO:∀ b,b < w.heap.size→O' b→O b)
    (hv:∀ v x,VRel γ o w O v x→VRel γ' o' w O v x):ObRel B γ' o' w' O' g ob:=by
  cases ob with
  | box l=>
    simp only [ObRel] at h ⊢
    obtain ⟨b,c,T,rfl,hh,hr⟩:=h
    exact ⟨b,c,T,rfl,by rw [hb b ⟨_,rfl,rfl⟩]; exact hh,VRels.mono hk hO (hr.each hv)⟩
  | row own e ag ks l=>
    cases own with
    | true=>
      simp only [ObRel] at h ⊢
      obtain ⟨h1,h2,xs,hx,hr⟩:=h
      exact ⟨h1,h2,xs,z3q hx hb,fun i y hy=>Kd.RelAll.mono hk hO (fun _ _ hu=>hu) (hr i y hy)⟩
    | false=>
      simp only [ObRel] at h ⊢
      exact ⟨h.1,Kd.Rel.mono hk hO h.2⟩
  | bld s=>
    simp only [ObRel] at h ⊢
    obtain ⟨b,v,p,rfl,hp,h1,h2,h3⟩:=h
    exact ⟨b,v,p,rfl,hp,by rw [hb b ⟨_,_,rfl,.inl rfl⟩]; exact h1,z1a h2 (fun b' hb'=>hb b' ⟨_,_,rfl,.inr hb'⟩),h3⟩
  | map vk es=>
    simp only [ObRel] at h ⊢
    obtain ⟨h0,b,ents,rfl,h1,h2⟩:=h
    exact ⟨h0,b,ents,rfl,by rw [hb b rfl]; exact h1,EntRel.mono hk hO h2⟩
  | iter vk last rest=>
    simp only [ObRel] at h ⊢
    obtain ⟨h0,r,b,since,seen,ents,clock,rfl,h1,h2,h3⟩:=h
    exact ⟨h0,r,b,since,seen,ents,clock,rfl,by rw [hb r ⟨_,_,rfl,.inl rfl⟩]; exact h1,by rw [hb b ⟨_,_,rfl,.inr rfl⟩]; exact h2,IterRel.mono hk hO h3⟩
theorem Rel.lend (h:Rel B nt w0 X γ st a w) {n:Nat} {ob ob':Ob} {g':Value} (ho:z01 st.o n=some ob) (had:z7y g'=z7y (γ n)) {w':World} {K:Nat→Prop} (hk:Keep K w w')
    (hK:∀ b,b < w.heap.size→K b→z07 γ st.o n b∨(X.far b∧(w0.heap.size≤b∨X.own b)))
    (hb:∀ b,z04 g' ob' b→b < w'.heap.size∧(z07 γ st.o n b∨w.heap.size≤b))
    (hv:∀ O v x,VRel γ st.o w O v x→VRel (fun m=>if n=m then g' else γ m) ((n,some ob') :: st.o) w O v x)
    (hr:ObRel B (fun m=>if n=m then g' else γ m) ((n,some ob') :: st.o) w' (z02 ⟨X.own,fun b=>(X.far b∨(w.heap.size≤b∧b < w'.heap.size))∧¬ z04 g' ob' b⟩ (fun m=>if n=m then g' else γ m) ((n,some ob') :: st.o)) g' ob') :
    Rel B nt w0 ⟨X.own,fun b=>(X.far b∨(w.heap.size≤b∧b < w'.heap.size))∧¬ z04 g' ob' b⟩ (fun m=>if n=m then g' else γ m) (st.up (.set n ob')) a w':=by
  have hnof:∀ m,n≠m→z01 ((n,some ob') :: st.o) m=z01 st.o m:=fun m e=>by rw [z00,if_neg e]
  have hP:∀ b,z0h (fun m=>if n=m then g' else γ m) ((n,some ob') :: st.o) b→z04 g' ob' b∨∃ m ob1,n≠m∧z01 st.o m=some ob1∧z04 (γ m) ob1 b:=by
    rintro b ⟨m,ob1,hm,hb1⟩
    by_cases e:n=m
    · subst e
      rw [z00,if_pos rfl,Option.some.injEq] at hm
      subst hm
      simp only [if_true] at hb1
      exact .inl hb1
    · rw [hnof m e] at hm
      simp only [if_neg e] at hb1
      exact .inr ⟨m,ob1,e,hm,hb1⟩
  have hkf:Keep (z02 X γ st.o) w w':=hk.mono (fun b hb h1=>by
    rcases hK b hb h1 with ⟨ob1,h2,h3⟩ | h2
    · exact .inl ⟨n,ob1,h2,h3⟩
    · exact .inr h2.1)
  have hO:∀ b,b < w.heap.size→z02 ⟨X.own,fun b=>(X.far b∨(w.heap.size≤b∧b < w'.heap.size))∧¬ z04 g' ob' b⟩ (fun m=>if n=m then g' else γ m) ((n,some ob') :: st.o) b→z02 X γ st.o b:=by
    rintro b hlt (h1 | ⟨h1,h2⟩)
    · rcases hP b h1 with h3 | ⟨m,ob1,_,h3,h4⟩
      · rcases (hb b h3).2 with ⟨ob1,h5,h6⟩ | h5
        · exact .inl ⟨n,ob1,h5,h6⟩
        · omega
      · exact .inl ⟨m,ob1,h3,h4⟩
    · rcases h1 with h1 | h1
      · exact .inr h1
      · omega
  have hother:∀ m ob1,n≠m→z01 st.o m=some ob1→∀ b,z04 (γ m) ob1 b→¬ K b:=by
    intro m ob1 e hm b hb1 hKb
    have hlt:=(h.lt b ⟨m,ob1,hm,hb1⟩).1
    rcases hK b hlt hKb with ⟨ob2,h2,h3⟩ | h2
    · exact h.dis n m ob2 ob1 b e h2 hm h3 hb1
    · exact h.nr b ⟨m,ob1,hm,hb1⟩ h2.1
  have hnew:∀ m ob1,n≠m→z01 st.o m=some ob1→∀ b,z04 (γ m) ob1 b→¬ z04 g' ob' b:=by
    intro m ob1 e hm b hb1 hb2
    rcases (hb b hb2).2 with ⟨ob2,h2,h3⟩ | h2
    · exact h.dis n m ob2 ob1 b e h2 hm h3 hb1
    · have:=(h.lt b ⟨m,ob1,hm,hb1⟩).1
      omega
  refine ⟨h.sz,h.df,fun i=>VRel.mono hkf hO (hv _ _ _ (h.tm i)),fun m ob1 hm=>?_,fun b hb1=>?_,?_,?_,?_,?_,fun p hp ob1 hm=>?_⟩
  case refine_7=>
    simp only [St.up] at hm
    by_cases e:n=900000
    · simp only [if_pos e]
      rw [had,e]
      exact h.pn p hp ob (by rw [← e]; exact ho)
    · rw [hnof _ e] at hm
      simp only [if_neg e]
      exact h.pn p hp ob1 hm
  · by_cases e:n=m
    · subst e
      simp only [St.up] at hm ⊢
      rw [z00,if_pos rfl,Option.some.injEq] at hm
      subst hm
      simp only [if_true]
      exact hr
    · simp only [St.up] at hm ⊢
      rw [hnof m e] at hm
      simp only [if_neg e]
      exact (h.ob m ob1 hm).after (fun b hb1=>hk.block b (h.lt b ⟨m,ob1,hm,hb1⟩).1 (hother m ob1 e hm b hb1)) hkf hO (hv _)
  · rcases hP b hb1 with h3 | ⟨m,ob1,_,h3,h4⟩
    · refine ⟨(hb b h3).1,?_⟩
      rcases (hb b h3).2 with ⟨ob1,h5,h6⟩ | h5
      · exact (h.lt b ⟨n,ob1,h5,h6⟩).2
      · exact .inl (Nat.le_trans h.keep.size h5)
    · exact ⟨Nat.lt_of_lt_of_le (h.lt b ⟨m,ob1,h3,h4⟩).1 hk.size,(h.lt b ⟨m,ob1,h3,h4⟩).2⟩
  · intro m1 m2 ob1 ob2 b hne h1 h2 hb1 hb2
    simp only [St.up] at h1 h2
    by_cases e1:n=m1
    · subst e1
      rw [z00,if_pos rfl,Option.some.injEq] at h1
      subst h1
      simp only [if_true] at hb1
      rw [hnof m2 hne] at h2
      simp only [if_neg hne] at hb2
      exact hnew m2 ob2 hne h2 b hb2 hb1
    · rw [hnof m1 e1] at h1
      simp only [if_neg e1] at hb1
      by_cases e2:n=m2
      · subst e2
        rw [z00,if_pos rfl,Option.some.injEq] at h2
        subst h2
        simp only [if_true] at hb2
        exact hnew m1 ob1 e1 h1 b hb1 hb2
      · rw [hnof m2 e2] at h2
        simp only [if_neg e2] at hb2
        exact h.dis m1 m2 ob1 ob2 b hne h1 h2 hb1 hb2
  · have hk2:Keep (fun b=>w0.heap.size≤b∨X.own b) w w':=hk.mono (fun b hlt h1=>by
      rcases hK b hlt h1 with ⟨ob1,h2,h3⟩ | h2
      · exact (h.lt b ⟨n,ob1,h2,h3⟩).2
      · exact h2.2)
    refine h.keep.trans hk2 (fun b hlt h1=>?_)
    rcases h1 with h1 | h1
    · omega
    · exact h1
  · rintro b h1 ⟨h2,h3⟩
    rcases hP b h1 with h4 | ⟨m,ob1,_,h4,h5⟩
    · exact h3 h4
    · rcases h2 with h2 | h2
      · exact h.nr b ⟨m,ob1,h4,h5⟩ h2
      · have:=(h.lt b ⟨m,ob1,h4,h5⟩).1
        omega
  · rintro b ⟨h1 | h1,_⟩
    · exact Nat.lt_of_lt_of_le (h.fl b h1) hk.size
    · exact h1.2
theorem Rel.add (h:Rel B nt w0 X γ st a w) (d:Nat) (hd9:d≠900000) (ob':Ob) (g:Value) (hb:∀ b,z04 g ob' b→X.far b∧(w0.heap.size≤b∨X.own b))
    (hr:∀ O':Nat→Prop,(∀ b,O' b→z02 X γ st.o b)→ObRel B (fun n=>if d=n then g else γ n) (st.up (.new d ob')).o w O' g ob') :
    Rel B nt w0 ⟨X.own,fun b=>X.far b∧¬ z04 g ob' b⟩ (fun n=>if d=n then g else γ n) (st.up (.new d ob')) a w:=by
  have hP:∀ b,z0h (fun n=>if d=n then g else γ n) (st.up (.new d ob')).o b→z0h γ st.o b∨z04 g ob' b:=by
    rintro b ⟨m,ob1,hm,hb1⟩
    rw [z03] at hm
    split at hm
    · rename_i e
      subst e
      simp only [Option.some.injEq] at hm
      subst hm
      simp only [if_true] at hb1
      exact .inr hb1
    · rename_i e
      obtain ⟨ob0,h0,hs⟩:=z11 hm
      simp only [if_neg e] at hb1
      exact .inl ⟨m,ob0,h0,((z22 hs).2 _ _).1 hb1⟩
  have hO:∀ b,z02 ⟨X.own,fun b=>X.far b∧¬ z04 g ob' b⟩ (fun n=>if d=n then g else γ n) (st.up (.new d ob')).o b→z02 X γ st.o b:=by
    rintro b (h1 | h1)
    · rcases hP b h1 with h2 | h2
      · exact .inl h2
      · exact .inr (hb b h2).1
    · exact .inr h1.1
  have hcmp:z5o d γ st.o (fun n=>if d=n then g else γ n) (st.up (.new d ob')).o:=by
    intro m ob1 hmd hm
    rw [z03,if_neg (fun e=>hmd e.symm)] at hm
    obtain ⟨ob0,h0,hs⟩:=z11 hm
    exact ⟨if_neg (fun e=>hmd e.symm),ob0,h0,(z22 hs).1⟩
  refine ⟨h.sz,h.df,fun i=>?_,fun m ob1 hm=>?_,fun b hb1=>?_,?_,h.keep,?_,fun b hb=>h.fl b hb.1,fun p hp ob1 h1=>?_⟩
  case refine_6=>
    rw [z03,if_neg hd9] at h1
    obtain ⟨ob0,h0,_⟩:=z11 h1
    simp only [if_neg hd9]
    exact h.pn p hp ob0 h0
  · rw [z4r]
    exact VRel.mono (Keep.refl _ w) (fun b _=>hO b) (zc4 hcmp (h.tm i))
  · by_cases e:d=m
    · subst e
      rw [z03,if_pos rfl,Option.some.injEq] at hm
      subst hm
      simp only [if_true]
      exact hr _ hO
    · rw [z03,if_neg e] at hm
      obtain ⟨ob0,h0,hs⟩:=z11 hm
      simp only [if_neg e]
      have hor:=h.ob m ob0 h0
      cases ob0 with
      | box l=>
        simp only [z17,Option.some.injEq] at hs
        subst hs
        simp only [ObRel] at hor ⊢
        obtain ⟨b,c,T,hg,hh,hr1⟩:=hor
        exact ⟨b,c,T,hg,hh,VRels.mono (Keep.refl _ w) (fun b _=>hO b) (z6v hcmp hr1)⟩
      | row own e' ag ks' l=>
        simp only [z17,Option.some.injEq] at hs
        subst hs
        cases own with
        | true=>
          simp only [ObRel] at hor ⊢
          obtain ⟨h1,h2,xs,hx,hr1⟩:=hor
          exact ⟨h1,h2,xs,hx,fun i y hy=>Kd.RelAll.mono (Keep.refl _ w) (fun b _=>hO b) (fun _ _ hu=>hu) (hr1 i y hy)⟩
        | false=>
          simp only [ObRel] at hor ⊢
          exact ⟨hor.1,Kd.Rel.mono (Keep.refl _ w) (fun b _=>hO b) hor.2⟩
      | bld s=>
        simp only [z17,Option.some.injEq] at hs
        subst hs
        simpa only [ObRel] using hor
      | map vk es=>
        simp only [z17,Option.some.injEq] at hs
        subst hs
        simp only [ObRel] at hor ⊢
        obtain ⟨h0,b,ents,hg,h1,h2⟩:=hor
        exact ⟨h0,b,ents,hg,h1,EntRel.mono (Keep.refl _ w) (fun b _=>hO b) h2⟩
      | iter vk last rest=>
        simp only [z17,Option.some.injEq] at hs
        subst hs
        simp only [ObRel] at hor ⊢
        obtain ⟨h0,r,b,since,seen,ents,clock,hg,h1,h2,h3⟩:=hor
        exact ⟨h0,r,b,since,seen,ents,clock,hg,h1,h2,IterRel.mono (Keep.refl _ w) (fun b _=>hO b) h3⟩
  · rcases hP b hb1 with h2 | h2
    · exact h.lt b h2
    · exact ⟨h.fl b (hb b h2).1,(hb b h2).2⟩
  · intro m1 m2 ob1 ob2 b hne h1 h2 hb1 hb2
    have key:∀ m ob,z01 (st.up (.new d ob')).o m=some ob→z04 (if d=m then g else γ m) ob b→(d=m∧z04 g ob' b)∨(d≠m∧∃ ob0,z01 st.o m=some ob0∧z04 (γ m) ob0 b):=by
      intro m ob hm hb1
      rw [z03] at hm
      split at hm
      · rename_i e
        subst e
        simp only [Option.some.injEq] at hm
        subst hm
        simp only [if_true] at hb1
        exact .inl ⟨rfl,hb1⟩
      · rename_i e
        obtain ⟨ob0,h0,hs⟩:=z11 hm
        simp only [if_neg e] at hb1
        exact .inr ⟨e,ob0,h0,((z22 hs).2 _ _).1 hb1⟩
    rcases key m1 ob1 h1 hb1 with ⟨e1,k1⟩ | ⟨e1,o1,p1,q1⟩ <;> rcases key m2 ob2 h2 hb2 with ⟨e2,k2⟩ | ⟨e2,o2,p2,q2⟩
    · exact hne (e1.symm.trans e2)
    · exact h.nr b ⟨m2,o2,p2,q2⟩ (hb b k1).1
    · exact h.nr b ⟨m1,o1,p1,q1⟩ (hb b k2).1
    · exact h.dis m1 m2 o1 o2 b hne p1 p2 q1 q2
  · rintro b h1 ⟨h2,h3⟩
    rcases hP b h1 with h4 | h4
    · exact h.nr b h4 h2
    · exact h3 h4
end
open Go Go.RowKit
theorem z2l (m:Nat):∀ a b:List Nat,occ m (a++b)=occ m a+occ m b
  | [],b=>by simp [occ]
  | x :: r,b=>by
    simp only [List.cons_append,occ,z2l m r b]
    cases Nat.beq x m <;> simp <;> omega
theorem z6c {m:Nat}:∀ {l:List Nat},m∈l→1≤occ m l
  | x :: r,h=>by
    simp only [occ]
    cases hb:Nat.beq x m with
    | true=>simp
    | false=>
      rcases List.mem_cons.1 h with h1 | h1
      · subst h1
        rw [Nat.beq_refl] at hb
        cases hb
      · exact z6c h1
theorem zon {m lo hi:Nat}:∀ {cs:List V} {j:Nat},cs[j]?=some (.row m lo hi)→m∈z0c cs:=fun h=>z2z (List.mem_of_getElem? h)
theorem z7r {m lo hi lo' hi':Nat}:∀ {cs:List V} {i j:Nat},i < j→cs[i]?=some (.row m lo hi)→cs[j]?=some (.row m lo' hi')→2≤occ m (z0c cs)
  | [],i,j,_,h,_=>by simp at h
  | v :: r,0,0,h,_,_=>by omega
  | v :: r,0,j+1,_,h1,h2=>by
    simp only [List.getElem?_cons_zero,Option.some.injEq] at h1
    subst h1
    have:=z6c (zon (cs:=r) (j:=j) (by simpa using h2))
    simp only [z0c,occ,Nat.beq_refl]
    omega
  | v :: r,i+1,0,h,_,_=>by omega
  | v :: r,i+1,j+1,h,h1,h2=>by
    have:=z7r (cs:=r) (i:=i) (j:=j) (by omega) (by simpa using h1) (by simpa using h2)
    cases v <;> simp only [z0c] <;> try exact this
    simp only [occ]
    split <;> omega
def z2r:V→Bool
  | .any | .int _ _ | .bool _ | .str _ | .list _ _ _ | .zs | .err _ | .nilp=>true
  | _=>false
def okC:V→Bool
  | .vec _ _ _ _=>true
  | v=>z2r v
theorem z3e {γ γ':Nat→Value} {o o':Store} {w:World} {O:Nat→Prop} {v:V} (hf:z2r v=true) {x:Value} (h:VRel γ o w O v x):VRel γ' o' w O v x:=by
  cases v <;> simp only [z2r] at hf <;> first | (cases hf; done) | (simp only [VRel] at h ⊢; try exact h)
theorem z61 (nm:Nat):∀ (cs:List V) (j:Nat),(z1s nm cs)[j]?=(cs[j]?).map fun v=>match v with | .vec _ _ _ l=>.row (nm+j) 0 l.length | v=>v
  | [],j=>by simp [z1s]
  | v :: r,0=>by cases v <;> simp [z1s]
  | v :: r,j+1=>by
    have:=z61 (nm+1) r j
    rw [show nm+1+j=nm+(j+1) by omega] at this
    cases v <;> simpa [z1s] using this
theorem z2k (nm:Nat):∀ cs:List V,(z1s nm cs).length=cs.length
  | []=>rfl
  | v :: r=>by cases v <;> simp [z1s,z2k (nm+1) r]
theorem zgl:∀ {cs:List V} {nr m:Nat} {ob:Ob},z01 (z5y nr cs) m=some ob→∃ j e ag ks l,m=nr+j∧cs[j]?=some (.vec e ag ks l)∧ob = .row true e ag ks l
  | [],nr,m,ob,h=>by simp [z5y,z01,lkd] at h
  | v :: r,nr,m,ob,h=>by
    have key:z01 (z5y (nr+1) r) m=some ob→∃ j e ag ks l,m=nr+j∧(v :: r)[j]?=some (.vec e ag ks l)∧ob = .row true e ag ks l:=fun h'=>by
      obtain ⟨j,e,ag,ks,l,h1,h2,h3⟩:=zgl h'
      exact ⟨j+1,e,ag,ks,l,by omega,by simpa using h2,h3⟩
    cases v <;> simp only [z5y] at h <;> try exact key h
    rw [z00] at h
    split at h
    · rename_i e ag ks l hn
      simp only [Option.some.injEq] at h
      exact ⟨0,e,ag,ks,l,by omega,by simp,h.symm⟩
    · exact key h
theorem z8m:∀ {cs:List V} {nr j e:Nat} {ag:Bool} {ks:List Kd} {l:List IV},cs[j]?=some (.vec e ag ks l)→z01 (z5y nr cs) (nr+j)=some (.row true e ag ks l)
  | [],nr,j,_,_,_,_,h=>by simp at h
  | v :: r,nr,0,e,ag,ks,l,h=>by
    simp only [List.getElem?_cons_zero,Option.some.injEq] at h
    subst h
    simp [z5y,z00]
  | v :: r,nr,j+1,e,ag,ks,l,h=>by
    have:=z8m (cs:=r) (nr:=nr+1) (j:=j) (by simpa using h)
    rw [show nr+1+j=nr+(j+1) by omega] at this
    cases v <;> simp only [z5y] <;> try exact this
    rw [z00,if_neg (by omega)]
    exact this
theorem ze9 {cs:List V} (h:∀ s,cs≠[.bld s]):z28 cs=(900000,some (.box (z1s 900001 cs))) :: z5y 900001 cs:=by
  unfold z28
  split
  · rename_i s
    exact absurd rfl (h s)
  · rfl
def zdu:Act:=⟨#[],[]⟩
section
variable {B:BT} {nt:Nat} {w0:World} {X:Zone} {γ:Nat→Value} {st st':St} {a:Act} {w:World} {P:Program} {E:Env}
theorem znv {B B':BT} {γ γ':Nat→Value} {o o':Store} {O:Nat→Prop} {g:Value} {e:Nat} {ag:Bool} {ks:List Kd} {l:List IV} (h:ObRel B γ o w O g (.row true e ag ks l)):ObRel B' γ' o' w O g (.row true e ag ks l):=by
  simpa only [ObRel] using h
def RowOf (γ:Nat→Value) (o:Store) (n b:Nat):Prop:=∃ e ag ks l,z01 o n=some (.row true e ag ks l)∧(γ n).ownBlock=some b
theorem RowOf.block {γ:Nat→Value} {o:Store} {n b:Nat} (h:RowOf γ o n b):z07 γ o n b:=by
  obtain ⟨e,ag,ks,l,h1,h2⟩:=h
  exact ⟨_,h1,h2⟩
theorem zgh (h:Rel B nt w0 X γ st a w) {n lo hi:Nat} {own:Bool} {e:Nat} {ag:Bool} {ks:List Kd} {l:List IV} (hob:z01 st.o n=some (.row own e ag ks l)) {x:Value}
    (hx:VRel γ st.o w (z02 X γ st.o) (.row n lo hi) x) {O':Nat→Prop} (hO:∀ b,b < w.heap.size→O' b→z02 X γ st.o b) (hn:∀ b,RowOf γ st.o n b→¬ O' b) :
    Kd.Rel w O' (.list ag ks) (.list ((l.take hi).drop lo)) x:=by
  simp only [VRel,hob] at hx
  obtain ⟨h1,h2⟩:=zdm h hob hO (fun ho b hb=>hn b ⟨e,ag,ks,l,by subst ho; exact hob,hb⟩)
  exact zlc h2 hx.2 hx.1
theorem zev (h:Rel B nt w0 X γ st a w) {n hi:Nat} {e:Nat} {ag:Bool} {ks:List Kd} {l:List IV} (hob:z01 st.o n=some (.row true e ag ks l)) {x:Value}
    (hx:VRel γ st.o w (z02 X γ st.o) (.row n 0 hi) x) {γ':Nat→Value} {o':Store}:ObRel B γ' o' w (z02 X γ st.o) x (.row true e ag ks (l.take hi))∧(∀ b,z04 x (.row true e ag ks (l.take hi)) b→z07 γ st.o n b):=by
  have hx0:=hx
  simp only [VRel,hob] at hx
  obtain ⟨hl,p,len,cap,p',hg,hv,_,h2,h3,hm,_,h5⟩:=hx
  rw [h5 rfl,Nat.sub_zero,Nat.sub_zero] at hv
  have hor:=h.ob n _ hob
  simp only [ObRel] at hor ⊢
  obtain ⟨hkp,hstr,xs,hxs,hr⟩:=hor
  have htl:(l.take hi).length=hi:=by rw [List.length_take,Nat.min_eq_left hl]
  refine ⟨⟨hkp,by rw [htl]; omega,xs.take (hi*ks.length),?_,fun i y hy=>?_⟩,fun b hb=>⟨_,hob,?_⟩⟩
  · have hx1:=hxs.1
    refine ⟨by rw [List.length_take,hx1,htl,Nat.min_eq_left (Nat.mul_le_mul_right _ hl)],?_⟩
    rcases hxs.2 with ⟨h6,h7⟩ | ⟨g,cap',cur,T,fr,h6,h7,h8,h9,h10,h11,h12⟩
    · rw [hg] at h6
      simp only [Value.slice.injEq] at h6
      obtain ⟨rfl,rfl,rfl⟩:=h6
      obtain rfl:hi=0:=by omega
      exact .inl ⟨hv,htl⟩
    · rw [hg] at h6
      simp only [Value.slice.injEq] at h6
      obtain ⟨rfl,rfl,rfl⟩:=h6
      refine .inr ⟨g,cap,cur,T,fr,by rw [hv,htl],h7,by rw [htl]; omega,h9,h10,?_,h12⟩
      rw [htl,← h11,List.take_take,Nat.min_eq_left (Nat.mul_le_mul_right _ hl)]
  · rw [List.getElem?_take] at hy
    split at hy
    · rename_i hlt
      have h6:=hr i y hy
      rw [Kd.RelAll_iff] at h6 ⊢
      intro j k hj
      obtain ⟨u,hu,hk⟩:=h6 j k hj
      refine ⟨u,?_,hk⟩
      have hjl:j < ks.length:=by
        rcases Nat.lt_or_ge j ks.length with h' | h'
        · exact h'
        · rw [List.getElem?_eq_none h'] at hj; cases hj
      rw [List.getElem?_take,if_pos]
      · exact hu
      · have e1:(i+1)*ks.length≤hi*ks.length:=Nat.mul_le_mul_right _ hlt
        rw [Nat.succ_mul] at e1
        omega
    · cases hy
  · simp only [z04] at hb ⊢
    rw [hv] at hb
    rw [hg]
    cases p <;> first | (simp [Value.ownBlock] at hb; done) | simpa [Value.ownBlock] using hb
end
open Go Go.RowKit
section
variable {B:BT} {nt:Nat} {w0:World} {X:Zone} {γ:Nat→Value} {st st':St} {a:Act} {w:World} {P:Program} {E:Env}
def zll (γ:Nat→Value) (o:Store) (γb:Nat→Value) (bo:Store) (n:Nat):Prop:=
  γb 900000=γ n∧((∃ cs cs',z01 o n=some (.box cs)∧z01 bo 900000=some (.box cs'))∨(∃ s s',z01 o n=some (.bld s)∧z01 bo 900000=some (.bld s')))
theorem zdx (h:Rel B nt w0 X γ st a w) {v:V} {x:Value} (hv:VRel γ st.o w (z02 X γ st.o) v x) {γb:Nat→Value} {bo:Store} {O':Nat→Prop} (hO:∀ b,b < w.heap.size→O' b→z02 X γ st.o b)
    (hrow:∀ m∈z0c [v],∀ b,RowOf γ st.o m b→¬ O' b) (hl:∀ m∈z2x.lentC [v],zll γ st.o γb bo m) (bs:List V) (tk:Option Kd) :
    VRel γb bo w O' (z25.go (z1w st.o bs tk v)) x:=by
  cases v with
  | any=>simp only [z1w,z25.go,VRel]
  | int k n=>simp only [z1w,z25.go]; exact z3e rfl (VRel.mono (Keep.refl _ w) hO hv)
  | bool b=>simp only [z1w,z25.go]; exact z3e rfl (VRel.mono (Keep.refl _ w) hO hv)
  | str s=>simp only [z1w,z25.go]; exact z3e rfl (VRel.mono (Keep.refl _ w) hO hv)
  | list ag ks l=>simp only [z1w,z25.go]; exact z3e rfl (VRel.mono (Keep.refl _ w) hO hv)
  | zs=>
    simp only [z1w]
    split
    · simp only [z25.go,VRel,Kd.Rel,IV.toList]
      simp only [VRel] at hv
      exact ⟨none,0,by rw [hv]; rfl,Nat.le_refl _,by simp [maxLen],by simp [FM.strMax],fun i y hy=>by simp at hy⟩
    · simp only [z25.go,VRel]
  | row n lo hi=>
    simp only [z1w]
    split
    · rename_i own e ag ks l hob
      simp only [z25.go,VRel]
      exact zgh h hob hv hO (hrow n (by simp [z0c]))
    · simp only [z25.go,VRel]
  | ptr n i c=>
    simp only [z1w]
    split
    · simp only [z25.go,VRel]
    · rename_i ob hnr hob
      split
      · rename_i hic
        simp only [Bool.and_eq_true] at hic
        obtain ⟨h1,h2⟩:=hic
        obtain rfl:=z0f.1 h1
        obtain rfl:=z0f.1 h2
        obtain ⟨hg,h3⟩:=hl n (by simp [z2x.lentC])
        simp only [z25.go,VRel]
        simp only [VRel] at hv
        rcases h3 with ⟨cs,cs',h4,h5⟩ | ⟨s,s',h4,h5⟩
        · rw [h4] at hv
          rw [h5,hg]
          exact hv
        · rw [h4] at hv
          rw [h5,hg]
          exact hv
      · simp only [z25.go,VRel]
    · simp only [z25.go,VRel]
  | iptr ks f c=>
    simp only [z1w,z25.go,VRel] at hv ⊢
    obtain ⟨b,off,h1,h2,h3,h4⟩:=hv
    exact ⟨b,off,h1,fun hb=>h2 (hO b h3 hb),h3,Kd.RelAll.mono (Keep.refl _ w) hO (fun _ _ hu=>hu) h4⟩
  | bview n c cap sz len=>simp only [z1w,z25.go,VRel]
  | agg l=>simp only [z1w,z25.go,VRel]
  | tup l=>simp only [z1w,z25.go,VRel]
  | err b=>simp only [z1w,z25.go]; exact z3e rfl (VRel.mono (Keep.refl _ w) hO hv)
  | nilp=>simp only [z1w,z25.go]; exact z3e rfl (VRel.mono (Keep.refl _ w) hO hv)
  | clo f l=>simp only [z1w,z25.go,VRel]
  | bor l=>simp only [z1w,z25.go,VRel]
  | vec e ag ks l=>simp only [z1w,z25.go,VRel]
  | bld s=>simp only [z1w,z25.go,VRel]
theorem zlo {o:Store} {bs:List V} {tk:Option Kd} {v:V} {γb:Nat→Value} {bo:Store} {w:World} {O':Nat→Prop} {x:Value} (h:VRel γb bo w O' (z25.go (z1w o bs tk v)) x):VRel γb bo w O' (z30 (z1w o bs tk v)) x:=by
  cases hv:z1w o bs tk v <;> rw [hv] at h <;> simp only [z25.go,z30] at h ⊢ <;> first | exact h | simp only [VRel]
theorem z32 (v:V) (r:List V):∀ m,m∈z0c [v]∨m∈z0c r→m∈z0c (v :: r):=by
  intro m hm
  cases v <;> simp_all [z0c]
theorem z6n (v:V) (r:List V):∀ m,m∈z2x.lentC [v]∨m∈z2x.lentC r→m∈z2x.lentC (v :: r):=by
  intro m hm
  cases v <;> simp_all [z2x.lentC]
theorem zdy (h:Rel B nt w0 X γ st a w) {v:V} {x:Value} (hv:VRel γ st.o w (z02 X γ st.o) v x) {γb:Nat→Value} {bo:Store} {O':Nat→Prop} (hO:∀ b,b < w.heap.size→O' b→z02 X γ st.o b)
    (hrow:∀ m∈z0c [v],∀ b,RowOf γ st.o m b→¬ O' b) (bs:List V) (tk:Option Kd):VRel γb bo w O' (z30 (z1w st.o bs tk v)) x:=by
  by_cases hp:z2x.lentC [v]=[]
  · exact zlo (zdx h hv hO hrow (by rw [hp]; simp) bs tk)
  · cases v <;> simp only [z2x.lentC,not_true_eq_false] at hp
    simp only [z1w]
    split
    · simp only [z30,VRel]
    · split <;> simp only [z30,VRel]
    · simp only [z30,VRel]
theorem zei (h:Rel B nt w0 X γ st a w) {γb:Nat→Value} {bo:Store} {O':Nat→Prop} (hO:∀ b,b < w.heap.size→O' b→z02 X γ st.o b) (bs:List V) :
    ∀ {l:List V} {ks:List Kd} {xs:List Value},VRels γ st.o w (z02 X γ st.o) l xs→(∀ m∈z0c l,∀ b,RowOf γ st.o m b→¬ O' b) →
      VRels γb bo w O' (zh0 (fun k v=>z30 (z1w st.o bs k v)) ks l) xs
  | [],ks,[],_,_=>by cases ks <;> simp only [zh0,VRels]
  | [],ks,x :: xs,hv,_=>by simp only [VRels] at hv
  | v :: l,ks,[],hv,_=>by simp only [VRels] at hv
  | v :: l,ks,x :: xs,hv,hr=>by
    simp only [VRels] at hv
    have h1:∀ tk,VRel γb bo w O' (z30 (z1w st.o bs tk v)) x:=fun tk=>zdy h hv.1 hO (fun m hm=>hr m (z32 v l m (.inl hm))) bs tk
    have h2:∀ ks,VRels γb bo w O' (zh0 (fun k v=>z30 (z1w st.o bs k v)) ks l) xs:=fun ks=>zei h hO bs hv.2 (fun m hm=>hr m (z32 v l m (.inr hm)))
    cases ks with
    | nil=>simp only [zh0,VRels]; exact ⟨h1 _,h2 _⟩
    | cons k ks=>simp only [zh0,VRels]; exact ⟨h1 _,h2 _⟩
theorem zi2 (h:Rel B nt w0 X γ st a w) {γb:Nat→Value} {bo:Store} {O':Nat→Prop} (hO:∀ b,b < w.heap.size→O' b→z02 X γ st.o b) (bs:List V) :
    ∀ {l:List V} {xs:List Value},VRels γ st.o w (z02 X γ st.o) l xs→(∀ m∈z0c l,∀ b,RowOf γ st.o m b→¬ O' b)→(∀ m∈z2x.lentC l,zll γ st.o γb bo m) →
      VRels γb bo w O' ((l.map (z1w st.o bs none)).map z25.go) xs
  | [],[],_,_,_=>by simp only [List.map_nil,VRels]
  | [],x :: xs,hv,_,_=>by simp only [VRels] at hv
  | v :: l,[],hv,_,_=>by simp only [VRels] at hv
  | v :: l,x :: xs,hv,hr,hl=>by
    simp only [VRels,List.map_cons] at hv ⊢
    exact ⟨zdx h hv.1 hO (fun m hm=>hr m (z32 v l m (.inl hm))) (fun m hm=>hl m (z6n v l m (.inl hm))) bs none,
      zi2 h hO bs hv.2 (fun m hm=>hr m (z32 v l m (.inr hm))) (fun m hm=>hl m (z6n v l m (.inr hm)))⟩
theorem zhx (h:Rel B nt w0 X γ st a w) {v:V} {x:Value} (hv:VRel γ st.o w (z02 X γ st.o) v x) {γb:Nat→Value} {bo:Store} {O':Nat→Prop} (hO:∀ b,b < w.heap.size→O' b→z02 X γ st.o b)
    (hrow:∀ m∈z5n v,∀ b,RowOf γ st.o m b→¬ O' b) (hl:∀ m∈z2x [v],zll γ st.o γb bo m) (bs:List V) (ks:List Kd) :
    VRel γb bo w O' (z25 (zcg st.o bs ks v)) x:=by
  by_cases hc:(∃ l,v = .agg l)∨(∃ f l,v = .clo f l)
  · rcases hc with ⟨l,rfl⟩ | ⟨f,l,rfl⟩
    · simp only [zcg,z25,VRel] at hv ⊢
      obtain ⟨cs,hx,hr⟩:=hv
      exact ⟨cs,hx,zei h hO bs hr hrow⟩
    · simp only [zcg,z25,VRel] at hv ⊢
      obtain ⟨cs,hx,hr⟩:=hv
      exact ⟨cs,hx,zi2 h hO bs hr hrow (fun m hm=>hl m (by simpa [z2x] using hm))⟩
  · have h1:zcg st.o bs ks v=z1w st.o bs ks.head? v:=by
      cases v <;> first | rfl | exact absurd (.inl ⟨_,rfl⟩) hc | exact absurd (.inr ⟨_,_,rfl⟩) hc
    have h2:z25 (z1w st.o bs ks.head? v)=z25.go (z1w st.o bs ks.head? v):=by
      cases v <;> simp only [z1w] <;> repeat' split
      all_goals rfl
    rw [h1,h2]
    refine zdx h hv hO (fun m hm=>hrow m ?_) (fun m hm=>hl m ?_) bs _
    · cases v <;> simp_all [z0c,z5n]
    · cases v <;> simp_all [z2x,z2x.lentC]
theorem z81 (h:Rel B nt w0 X γ st a w) {γb:Nat→Value} {bo:Store} {O':Nat→Prop} (hO:∀ b,b < w.heap.size→O' b→z02 X γ st.o b) (bs:List V) :
    ∀ {l:List V} {tks:List (List Kd)} {xs:List Value},VRels γ st.o w (z02 X γ st.o) l xs→(∀ m∈z0a l,∀ b,RowOf γ st.o m b→¬ O' b)→(∀ m∈z2x l,zll γ st.o γb bo m) →
      VRels γb bo w O' ((z1j st.o bs tks l).map z25) xs
  | [],tks,[],_,_,_=>by cases tks <;> simp only [z1j,List.map_nil,VRels]
  | [],tks,x :: xs,hv,_,_=>by simp only [VRels] at hv
  | v :: l,tks,[],hv,_,_=>by simp only [VRels] at hv
  | v :: l,tks,x :: xs,hv,hr,hl=>by
    simp only [VRels] at hv
    have h1:∀ ks,VRel γb bo w O' (z25 (zcg st.o bs ks v)) x:=fun ks=>zhx h hv.1 hO (fun m hm=>hr m (by simp only [z0a,List.mem_append]; exact .inl hm)) (fun m hm=>hl m (by
      cases v <;> simp_all [z2x])) bs ks
    have h2:∀ tks,VRels γb bo w O' ((z1j st.o bs tks l).map z25) xs:=fun tks=>z81 h hO bs hv.2 (fun m hm=>hr m (by simp only [z0a,List.mem_append]; exact .inr hm)) (fun m hm=>hl m (by
      cases v <;> simp_all [z2x]))
    cases tks with
    | nil=>simp only [z1j,List.map_cons,VRels]; exact ⟨h1 _,h2 _⟩
    | cons k ks=>simp only [z1j,List.map_cons,VRels]; exact ⟨h1 _,h2 _⟩
end
open Go Go.RowKit
section
variable {B:BT} {nt:Nat} {w0:World} {X:Zone} {γ:Nat→Value} {st st':St} {a:Act} {w:World} {P:Program} {E:Env}
theorem zir (h:Rel B nt w0 X γ st a w) {v:V} {x:Value} (hv:VRel γ st.o w (z02 X γ st.o) v x) {γb:Nat→Value} {bo:Store} {O':Nat→Prop} (hO:∀ b,b < w.heap.size→O' b→z02 X γ st.o b)
    (hrow:∀ m∈z5n v,∀ b,RowOf γ st.o m b→¬ O' b) (ks:List Kd):VRel γb bo w O' (zhr st.o ks v) x:=by
  by_cases hc:∃ l,v = .agg l
  · obtain ⟨l,rfl⟩:=hc
    simp only [zhr,VRel] at hv ⊢
    obtain ⟨cs,hx,hr⟩:=hv
    exact ⟨cs,hx,zei h hO [] hr hrow⟩
  · have h1:zhr st.o ks v=z30 (z1w st.o [] ks.head? v):=by
      cases v <;> first | rfl | exact absurd ⟨_,rfl⟩ hc
    rw [h1]
    refine zdy h hv hO (fun m hm=>hrow m ?_) [] _
    cases v <;> simp_all [z0c,z5n]
theorem zex (h:Rel B nt w0 X γ st a w) {v:V} {x:Value} (hv:VRel γ st.o w (z02 X γ st.o) v x) {γb:Nat→Value} {bo:Store} {O':Nat→Prop} (hO:∀ b,b < w.heap.size→O' b→z02 X γ st.o b)
    (hrow:∀ m∈z5n v,∀ b,RowOf γ st.o m b→¬ O' b) (ks:List (List Kd)):VRel γb bo w O' (z7x st.o ks v) x:=by
  by_cases hc:∃ l,v = .tup l
  · obtain ⟨l,rfl⟩:=hc
    simp only [z7x,VRel] at hv ⊢
    obtain ⟨cs,hx,hr⟩:=hv
    refine ⟨cs,hx,?_⟩
    have key:∀ (l:List V) (ks:List (List Kd)) (xs:List Value),VRels γ st.o w (z02 X γ st.o) l xs→(∀ m∈z5n.go l,∀ b,RowOf γ st.o m b→¬ O' b)→VRels γb bo w O' (z7x.go st.o ks l) xs:=by
      intro l
      induction l with
      | nil=>
        intro ks xs h1 _
        cases xs with
        | nil=>cases ks <;> simp only [z7x.go,VRels]
        | cons _ _=>simp only [VRels] at h1
      | cons v l ih=>
        intro ks xs h1 h2
        cases xs with
        | nil=>simp only [VRels] at h1
        | cons x xs=>
          simp only [VRels] at h1
          have h3:∀ ks,VRel γb bo w O' (zhr st.o ks v) x:=by
            intro ks
            by_cases hq:(∃ f l',v = .clo f l')∨(∃ l',v = .tup l')
            · rcases hq with ⟨f,l',rfl⟩ | ⟨l',rfl⟩ <;> simp only [zhr,z1w,z30,VRel]
            · refine zir h h1.1 hO (fun m hm=>h2 m ?_) ks
              cases v <;> simp_all [z5n,z5n.go]
          have h4:∀ ks,VRels γb bo w O' (z7x.go st.o ks l) xs:=fun ks=>ih ks xs h1.2 (fun m hm=>h2 m (by
            cases v <;> simp_all [z5n.go]))
          cases ks with
          | nil=>simp only [z7x.go,VRels]; exact ⟨h3 _,h4 _⟩
          | cons k ks=>simp only [z7x.go,VRels]; exact ⟨h3 _,h4 _⟩
    exact key l ks _ hr hrow
  · have h1:z7x st.o ks v=zhr st.o (ks.headD []) v:=by
      cases v <;> first | rfl | exact absurd ⟨_,rfl⟩ hc
    rw [h1]
    exact zir h hv hO hrow _
theorem z43 (o:Store) (all:List Nat) (v:V):(∃ m hi e ag ks l,v = .row m 0 hi∧z01 o m=some (.row true e ag ks l)∧occ m all=1∧z0v o all v = .vec e ag ks (l.take hi)) ∨
    (z2r (z0v o all v)=true∧∀ m lo hi,v = .row m lo hi→∀ own e ag ks l,z01 o m=some (.row own e ag ks l)→z0v o all v = .list ag ks ((l.take hi).drop lo)∧(own&&(Nat.beq lo 0&&Nat.beq (occ m all) 1))=false):=by
  cases v
  case row m lo hi=>
    simp only [z0v]
    split
    · rename_i own e ag ks l hob
      cases hb:(own&&(Nat.beq lo 0&&Nat.beq (occ m all) 1)) with
      | true=>
        simp only [Bool.and_eq_true] at hb
        obtain ⟨rfl,h1,h2⟩:=hb
        obtain rfl:=z0f.1 h1
        exact .inl ⟨m,hi,e,ag,ks,l,rfl,hob,z0f.1 h2,by simp only⟩
      | false=>
        refine .inr ⟨rfl,fun m' lo' hi' he own' e' ag' ks' l' hob'=>?_⟩
        simp only [V.row.injEq] at he
        obtain ⟨rfl,rfl,rfl⟩:=he
        rw [hob] at hob'
        simp only [Option.some.injEq,Ob.row.injEq] at hob'
        obtain ⟨rfl,rfl,rfl,rfl,rfl⟩:=hob'
        exact ⟨rfl,hb⟩
    · rename_i hno
      refine .inr ⟨rfl,fun m' lo' hi' he own' e' ag' ks' l' hob'=>?_⟩
      simp only [V.row.injEq] at he
      obtain ⟨rfl,rfl,rfl⟩:=he
      exact absurd hob' (hno _ _ _ _ _)
  all_goals exact .inr ⟨rfl,fun _ _ _ he=>by cases he⟩
theorem z26 {o:Store} {all:List Nat} {n:Nat}:∀ {cs:List V},n∈z14 o all cs↔∃ hi e ag ks l,.row n 0 hi∈cs∧z01 o n=some (.row true e ag ks l)∧occ n all=1
  | []=>by simp [z14]
  | v :: r=>by
    have ih:=z26 (o:=o) (all:=all) (n:=n) (cs:=r)
    have skip:(∀ hi e ag ks l,v = .row n 0 hi→z01 o n=some (.row true e ag ks l)→occ n all=1→False)→(n∈z14 o all r↔∃ hi e ag ks l,V.row n 0 hi∈v :: r∧z01 o n=some (.row true e ag ks l)∧occ n all=1):=by
      intro hs
      rw [ih]
      constructor
      · rintro ⟨hi,e,ag,ks,l,h1,h2,h3⟩
        exact ⟨hi,e,ag,ks,l,List.mem_cons_of_mem _ h1,h2,h3⟩
      · rintro ⟨hi,e,ag,ks,l,h1,h2,h3⟩
        rcases List.mem_cons.1 h1 with h4 | h4
        · exact (hs hi e ag ks l h4.symm h2 h3).elim
        · exact ⟨hi,e,ag,ks,l,h4,h2,h3⟩
    cases v
    case row m lo hi=>
      simp only [z14]
      split
      · rename_i own e ag ks l hob
        split
        · rename_i hb
          simp only [Bool.and_eq_true] at hb
          obtain ⟨rfl,h1,h2⟩:=hb
          obtain rfl:=z0f.1 h1
          by_cases hm:n=m
          · subst hm
            exact ⟨fun _=>⟨hi,e,ag,ks,l,List.mem_cons_self ..,hob,z0f.1 h2⟩,fun _=>List.mem_cons_self ..⟩
          · have h3:=skip (fun hi' e' ag' ks' l' he _ _=>by simp only [V.row.injEq] at he; exact hm he.1.symm)
            rw [← h3]
            simp [hm]
        · rename_i hb
          refine skip (fun hi' e' ag' ks' l' he ho hc=>?_)
          simp only [V.row.injEq] at he
          obtain ⟨rfl,rfl,rfl⟩:=he
          rw [hob] at ho
          simp only [Option.some.injEq,Ob.row.injEq] at ho
          rw [hc,ho.1] at hb
          simp at hb
      · rename_i hno
        refine skip (fun hi' e' ag' ks' l' he ho hc=>?_)
        simp only [V.row.injEq] at he
        obtain ⟨rfl,rfl,rfl⟩:=he
        exact hno _ _ _ _ _ ho
    all_goals exact skip (fun _ _ _ _ _ he _ _=>by cases he)
theorem zdo {o:Store} {all:List Nat} {n lo hi:Nat} {own:Bool} {e:Nat} {ag:Bool} {ks:List Kd} {l:List IV} (ho:z01 o n=some (.row own e ag ks l)) (hb:(own&&(Nat.beq lo 0&&Nat.beq (occ n all) 1))=false) :
    ∀ {cs:List V},.row n lo hi∈cs→n∈z1h o all cs
  | v :: r,hm=>by
    rcases List.mem_cons.1 hm with h1 | h1
    · subst h1
      simp only [z1h,ho,hb]
      exact List.mem_cons_self ..
    · have ih:=zdo ho hb h1
      cases v <;> simp only [z1h] <;> try exact ih
      split
      · split
        · exact ih
        · exact List.mem_cons_of_mem _ ih
      · exact ih
theorem Rel.bound (h:Rel B nt w0 X γ st a w) {n:Nat} {cs:List V} (ho:z01 st.o n=some (.box cs)) (extra:List Nat) {w1:World} {own1 F:Nat→Prop} (hk:Keep own1 w1 w)
    (hF:∀ b,F b→z02 X γ st.o b∧¬ z07 γ st.o n b∧(∀ m∈z14 st.o (z0c cs++extra) cs,¬ z07 γ st.o m b)∧(∀ m∈z1h st.o (z0c cs++extra) cs,¬ z07 γ st.o m b))
    (hown:∀ b,z07 γ st.o n b∨(∃ m∈z14 st.o (z0c cs++extra) cs,z07 γ st.o m b)→w1.heap.size≤b∨own1 b) :
    ∃ γb,Rel B.base 0 w1 ⟨own1,F⟩ γb ⟨[],z28 (cs.map (z0v st.o (z0c cs++extra)))⟩ zdu w∧γb 900000=γ n ∧
      ∀ b,z0h γb (z28 (cs.map (z0v st.o (z0c cs++extra)))) b→z07 γ st.o n b∨∃ m∈z14 st.o (z0c cs++extra) cs,z07 γ st.o m b:=by
  generalize hall:z0c cs++extra=all at *
  have hor:=h.ob n _ ho
  simp only [ObRel] at hor
  obtain ⟨b0,c,T,hg,hh,hr⟩:=hor
  have hbs:∀ s,cs.map (z0v st.o all)≠[.bld s]:=by
    intro s he
    cases cs with
    | nil=>simp at he
    | cons v r=>
      simp only [List.map_cons,List.cons.injEq] at he
      rcases z43 st.o all v with ⟨_,_,_,_,_,_,_,_,_,h1⟩ | ⟨h1,_⟩
      · rw [h1] at he; cases he.1
      · rw [he.1] at h1; cases h1
  rw [ze9 hbs]
  let γb:Nat→Value:=fun m=>if 900000=m then γ n else c.toList.getD (m - 900001) undef
  have hγ0:γb 900000=γ n:=by simp [γb]
  have hγ1:∀ j u,c.toList[j]?=some u→γb (900001+j)=u:=by
    intro j u hu
    simp only [γb]
    rw [if_neg (by omega),show 900001+j - 900001=j by omega,List.getD_eq_getElem?_getD,hu]
    rfl
  have hob0:z01 ((900000,some (.box (z1s 900001 (cs.map (z0v st.o all))))) :: z5y 900001 (cs.map (z0v st.o all))) 900000=some (.box (z1s 900001 (cs.map (z0v st.o all)))):=by
    rw [z00,if_pos rfl]
  have hrow:∀ m ob,900000≠m→z01 ((900000,some (.box (z1s 900001 (cs.map (z0v st.o all))))) :: z5y 900001 (cs.map (z0v st.o all))) m=some ob →
      ∃ j m' hi e ag ks l u,m=900001+j∧cs[j]?=some (.row m' 0 hi)∧z01 st.o m'=some (.row true e ag ks l)∧occ m' all=1∧ob = .row true e ag ks (l.take hi)∧c.toList[j]?=some u∧γb m=u ∧
        VRel γ st.o w (z02 X γ st.o) (.row m' 0 hi) u∧m'∈z14 st.o all cs:=by
    intro m ob hne hm
    rw [z00,if_neg hne] at hm
    obtain ⟨j,e,ag,ks,l,rfl,hj,rfl⟩:=zgl hm
    rw [List.getElem?_map] at hj
    cases hv:cs[j]? with
    | none=>rw [hv] at hj; cases hj
    | some v=>
      rw [hv] at hj
      simp only [Option.map_some,Option.some.injEq] at hj
      rcases z43 st.o all v with ⟨m',hi,e',ag',ks',l',rfl,h1,h2,h3⟩ | ⟨h1,_⟩
      · rw [h3] at hj
        simp only [V.vec.injEq] at hj
        obtain ⟨rfl,rfl,rfl,rfl⟩:=hj
        obtain ⟨u,hu,hvr⟩:=hr.get hv
        exact ⟨j,m',hi,e',ag',ks',l',u,rfl,hv,h1,h2,rfl,hu,hγ1 j u hu,hvr,z26.2 ⟨hi,e',ag',ks',l',List.mem_of_getElem? hv,h1,h2⟩⟩
      · rw [hj] at h1; cases h1
  have hblk:∀ m ob,900000≠m→z01 ((900000,some (.box (z1s 900001 (cs.map (z0v st.o all))))) :: z5y 900001 (cs.map (z0v st.o all))) m=some ob→∀ b,z04 (γb m) ob b →
      ∃ j m' hi,m=900001+j∧cs[j]?=some (.row m' 0 hi)∧occ m' all=1∧m'∈z14 st.o all cs∧z07 γ st.o m' b:=by
    intro m ob hne hm b hb
    obtain ⟨j,m',hi,e,ag,ks,l,u,h1,h2,h3,h4,h5,h6,h7,h8,h9⟩:=hrow m ob hne hm
    refine ⟨j,m',hi,h1,h2,h4,h9,?_⟩
    rw [h7,h5] at hb
    exact (zev (γ':=γb) (o':=[]) h h3 h8).2 b hb
  have hP:∀ b,z0h γb ((900000,some (.box (z1s 900001 (cs.map (z0v st.o all))))) :: z5y 900001 (cs.map (z0v st.o all))) b→z07 γ st.o n b∨∃ m∈z14 st.o all cs,z07 γ st.o m b:=by
    rintro b ⟨m,ob,hm,hb⟩
    by_cases e:900000=m
    · subst e
      rw [hob0,Option.some.injEq] at hm
      subst hm
      rw [hγ0] at hb
      exact .inl ⟨_,ho,hb⟩
    · obtain ⟨j,m',hi,_,_,_,h9,h10⟩:=hblk m ob e hm b hb
      exact .inr ⟨m',h9,h10⟩
  have hPO:∀ b,z07 γ st.o n b∨(∃ m∈z14 st.o all cs,z07 γ st.o m b)→z0h γ st.o b:=by
    rintro b (⟨ob,h1,h2⟩ | ⟨m,_,ob,h1,h2⟩)
    · exact ⟨n,ob,h1,h2⟩
    · exact ⟨m,ob,h1,h2⟩
  have hO:∀ b,b < w.heap.size→z02 ⟨own1,F⟩ γb ((900000,some (.box (z1s 900001 (cs.map (z0v st.o all))))) :: z5y 900001 (cs.map (z0v st.o all))) b→z02 X γ st.o b:=by
    rintro b _ (hb | hb)
    · exact .inl (hPO b (hP b hb))
    · exact (hF b hb).1
  refine ⟨γb,⟨rfl,rfl,fun i=>by simp only [St.get,lkd,VRel],fun m ob hm=>?_,fun b hb=>⟨(h.lt b (hPO b (hP b hb))).1,hown b (hP b hb)⟩,?_,hk,?_,?_,fun p hp=>by cases hp⟩,hγ0,hP⟩
  · by_cases e:900000=m
    · subst e
      rw [hob0,Option.some.injEq] at hm
      subst hm
      simp only [ObRel]
      refine ⟨b0,c,T,by rw [hγ0,hg],hh,?_⟩
      refine VRels.of_get (by rw [z2k,List.length_map,hr.length]) (fun j v x hv hx=>?_)
      rw [z61,List.getElem?_map] at hv
      cases hcj:cs[j]? with
      | none=>rw [hcj] at hv; cases hv
      | some u=>
        rw [hcj] at hv
        simp only [Option.map_some,Option.some.injEq] at hv
        have hux:=hr.get' hcj hx
        rcases z43 st.o all u with ⟨m',hi,e',ag',ks',l',rfl,h1,h2,h3⟩ | ⟨h1,h2⟩
        · rw [h3] at hv
          simp only at hv
          subst hv
          have hv2:cs.map (z0v st.o all)=cs.map (z0v st.o all):=rfl
          have hat:=z8m (cs:=cs.map (z0v st.o all)) (nr:=900001) (j:=j) (e:=e') (ag:=ag') (ks:=ks') (l:=l'.take hi) (by rw [List.getElem?_map,hcj]; simp [h3])
          simp only [VRel]
          rw [z00,if_neg (by omega),hat]
          simp only
          refine ⟨Nat.le_refl _,?_⟩
          rw [hγ1 j x hx]
          have hux0:=hux
          simp only [VRel,h1] at hux
          obtain ⟨hl,p,len,cap,p',hgm,hxx,_,h22,h33,hm4,_,h5⟩:=hux
          have htl:(l'.take hi).length=hi:=by rw [List.length_take,Nat.min_eq_left hl]
          rw [htl]
          rw [Nat.sub_zero,Nat.sub_zero] at hxx
          refine ⟨p',hi,cap,p',hxx,by rw [hxx]; simp,Nat.zero_le _,Nat.le_refl _,by omega,hm4,.inl ?_,fun _=>rfl⟩
          cases p' <;> simp [Addr.add]
        · have hv':v=z0v st.o all u:=by
            rw [← hv]
            cases hcc:z0v st.o all u <;> first | rfl | (rw [hcc] at h1; cases h1)
          subst hv'
          by_cases hrw:∃ m' lo hi,u = .row m' lo hi
          · obtain ⟨m',lo,hi,rfl⟩:=hrw
            cases hob':z01 st.o m' with
            | none=>simp only [z0v,hob',VRel]
            | some ob'=>
              by_cases hrr:∃ own e ag ks l,ob' = .row own e ag ks l
              · obtain ⟨own,e,ag,ks,l,rfl⟩:=hrr
                obtain ⟨h3,h4⟩:=h2 m' lo hi rfl own e ag ks l hob'
                rw [h3]
                simp only [VRel]
                refine zgh h hob' hux hO (fun b hb hb'=>?_)
                replace hb:=hb.block
                have hsh:=zdo (cs:=cs) (all:=all) (hi:=hi) hob' h4 (List.mem_of_getElem? hcj)
                rcases hb' with hb' | hb'
                · rcases hP b hb' with ⟨ob1,h5,h6⟩ | ⟨m2,h5,ob1,h6,h7⟩
                  · obtain ⟨ob2,h8,h9⟩:=hb
                    have hne:n≠m':=by
                      rintro rfl
                      rw [ho] at hob'
                      cases hob'
                    exact h.dis n m' ob1 ob2 b hne h5 h8 h6 h9
                  · obtain ⟨ob2,h8,h9⟩:=hb
                    by_cases hne:m2=m'
                    · subst hne
                      obtain ⟨hi2,e2,ag2,ks2,l2,k1,k2,k3⟩:=z26.1 h5
                      obtain ⟨j2,hj2⟩:=List.mem_iff_getElem?.1 k1
                      have hocc:2≤occ m2 all:=by
                        rw [← hall,z2l]
                        rcases Nat.lt_trichotomy j j2 with hlt | hlt | hlt
                        · have:=z7r hlt hcj hj2
                          omega
                        · subst hlt
                          rw [hcj] at hj2
                          simp only [Option.some.injEq,V.row.injEq,true_and] at hj2
                          obtain ⟨rfl,rfl⟩:=hj2
                          rw [k2] at hob'
                          simp only [Option.some.injEq,Ob.row.injEq] at hob'
                          rw [← hob'.1,k3] at h4
                          simp at h4
                        · have:=z7r hlt hj2 hcj
                          omega
                      omega
                    · exact h.dis m2 m' ob1 ob2 b hne h6 h8 h7 h9
                · exact (hF b hb').2.2.2 m' hsh hb
              · have:z0v st.o all (.row m' lo hi) = .any:=by
                  simp only [z0v,hob']
                  split
                  · rename_i own e ag ks l heq
                    simp only [Option.some.injEq] at heq
                    exact absurd ⟨_,_,_,_,_,heq⟩ hrr
                  · rfl
                rw [this]
                simp only [VRel]
          · have hfree:z0v st.o all u=u∨z0v st.o all u = .any:=by
              cases u <;> first | exact .inl rfl | exact .inr rfl | exact absurd ⟨_,_,_,rfl⟩ hrw
            rcases hfree with h3 | h3
            · rw [h3] at h1 ⊢
              exact z3e h1 (VRel.mono (Keep.refl _ w) hO hux)
            · rw [h3]
              simp only [VRel]
    · obtain ⟨j,m',hi,e',ag,ks,l,u,h1,h2,h3,h4,h5,h6,h7,h8,h9⟩:=hrow m ob e hm
      rw [h5,h7]
      have:=(zev (γ':=γb) (o':=[]) h h3 h8).1
      simp only [ObRel] at this ⊢
      obtain ⟨k1,k2,xs,k3,k4⟩:=this
      exact ⟨k1,k2,xs,k3,fun i y hy=>Kd.RelAll.mono (Keep.refl _ w) hO (fun _ _ hu=>hu) (k4 i y hy)⟩
  · intro m1 m2 ob1 ob2 b hne h1 h2 hb1 hb2
    by_cases e1:900000=m1
    · subst e1
      rw [hob0,Option.some.injEq] at h1
      subst h1
      rw [hγ0] at hb1
      obtain ⟨j,m',hi,k1,k2,k3,k4,ob3,k5,k6⟩:=hblk m2 ob2 hne h2 b hb2
      have hne':n≠m':=by
        rintro rfl
        obtain ⟨_,_,_,_,_,_,q,_⟩:=z26.1 k4
        rw [ho] at q
        cases q
      exact h.dis n m' _ ob3 b hne' ho k5 hb1 k6
    · obtain ⟨j1,m1',hi1,k1,k2,k3,k4,ob3,k5,k6⟩:=hblk m1 ob1 e1 h1 b hb1
      by_cases e2:900000=m2
      · subst e2
        rw [hob0,Option.some.injEq] at h2
        subst h2
        rw [hγ0] at hb2
        have hne':n≠m1':=by
          rintro rfl
          obtain ⟨_,_,_,_,_,_,q,_⟩:=z26.1 k4
          rw [ho] at q
          cases q
        exact h.dis n m1' _ ob3 b hne' ho k5 hb2 k6
      · obtain ⟨j2,m2',hi2,p1,p2,p3,p4,ob4,p5,p6⟩:=hblk m2 ob2 e2 h2 b hb2
        by_cases hmm:m1'=m2'
        · subst hmm
          have hocc:2≤occ m1' all:=by
            rw [← hall,z2l]
            rcases Nat.lt_trichotomy j1 j2 with hlt | hlt | hlt
            · have:=z7r hlt k2 p2
              omega
            · omega
            · have:=z7r hlt p2 k2
              omega
          omega
        · exact h.dis m1' m2' ob3 ob4 b hmm k5 p5 k6 p6
  · rintro b hb hf
    obtain ⟨_,f1,f2,_⟩:=hF b hf
    rcases hP b hb with h1 | ⟨m,h1,h2⟩
    · exact f1 h1
    · exact f2 m h1 h2
  · intro b hb
    rcases (hF b hb).1 with h1 | h1
    · exact (h.lt b h1).1
    · exact h.fl b h1
end
open Go Go.RowKit
theorem z92:∀ l:List V,zj3 l=l.map fun _=>.any
  | []=>rfl
  | _ :: r=>by simp [zj3,z92 r]
section
variable {B:BT} {nt:Nat} {w0:World} {X:Zone} {γ:Nat→Value} {st st':St} {a:Act} {w:World} {P:Program} {E:Env}
theorem z6i {B':BT} {own:Nat→Prop} {O1:Nat→Prop} {g:Nat→Value} (nm:Nat):∀ (r:List V) (j0:Nat) {γ:Nat→Value} {st:St} {F:Nat→Prop},nm+j0+r.length≤900000→Rel B nt w0 ⟨own,F⟩ γ st a w →
    (∀ b,z02 ⟨own,F⟩ γ st.o b→O1 b) →
    (∀ j e ag ks l,r[j]?=some (.vec e ag ks l)→ObRel B' γ [] w O1 (g (j0+j)) (.row true e ag ks l)∧∀ b,(g (j0+j)).ownBlock=some b→F b∧(w0.heap.size≤b∨own b)) →
    (∀ i j e ag ks l e' ag' ks' l' b,i≠j→r[i]?=some (.vec e ag ks l)→r[j]?=some (.vec e' ag' ks' l')→(g (j0+i)).ownBlock=some b→(g (j0+j)).ownBlock=some b→False) →
    ∃ γd F',Rel B nt w0 ⟨own,F'⟩ γd (st.ups (z50 (nm+j0) r)) a w∧(∀ b,F' b→F b)∧(∀ b,F b→(∀ j e ag ks l,r[j]?=some (.vec e ag ks l)→(g (j0+j)).ownBlock≠some b)→F' b) ∧
      (∀ b,z02 ⟨own,F'⟩ γd (st.ups (z50 (nm+j0) r)).o b→z02 ⟨own,F⟩ γ st.o b) ∧
      (∀ j e ag ks l,r[j]?=some (.vec e ag ks l)→γd (nm+j0+j)=g (j0+j)∧z01 (st.ups (z50 (nm+j0) r)).o (nm+j0+j)=some (.row true e ag ks l)) ∧
      (∀ m,(m < nm+j0∨nm+j0+r.length≤m)→γd m=γ m∧(∀ cs:List V,z01 st.o m=some (.box (zj3 cs))→z01 (st.ups (z50 (nm+j0) r)).o m=some (.box (zj3 cs))) ∧
        (∀ e ag ks l,z01 st.o m=some (.row true e ag ks l)→z01 (st.ups (z50 (nm+j0) r)).o m=some (.row true e ag ks l)))
  | [],j0,γ,st,F,_,h,hO,hr,hd=>⟨γ,F,h,fun _ h=>h,fun _ h _=>h,fun _ h=>h,fun j e ag ks l hj=>by simp at hj,fun m _=>⟨rfl,fun _ h=>h,fun _ _ _ _ h=>h⟩⟩
  | v :: r,j0,γ,st,F,h9,h,hO,hr,hd=>by
    rw [List.length_cons] at h9
    by_cases hv:∃ e ag ks l,v = .vec e ag ks l
    · obtain ⟨e,ag,ks,l,rfl⟩:=hv
      obtain ⟨hr0,hb0⟩:=hr 0 e ag ks l (by simp)
      rw [Nat.add_zero] at hr0 hb0
      have h1:=h.add (nm+j0) (by omega) (.row true e ag ks l) (g j0) (fun b hb=>hb0 b hb) (fun O' hO'=>by
        simp only [ObRel] at hr0 ⊢
        obtain ⟨k1,k2,xs,k3,k4⟩:=hr0
        exact ⟨k1,k2,xs,k3,fun i y hy=>Kd.RelAll.mono (Keep.refl _ w) (fun b _ hb=>hO b (hO' b hb)) (fun _ _ hu=>hu) (k4 i y hy)⟩)
      have hO2:∀ b,z02 ⟨own,fun b=>F b∧¬ z04 (g j0) (.row true e ag ks l) b⟩ (fun m=>if nm+j0=m then g j0 else γ m) (st.up (.new (nm+j0) (.row true e ag ks l))).o b→z02 ⟨own,F⟩ γ st.o b:=by
        rintro b (⟨m,ob1,hm,hb1⟩ | hb)
        · rw [z03] at hm
          split at hm
          · rename_i e1
            subst e1
            simp only [Option.some.injEq] at hm
            subst hm
            simp only [if_true] at hb1
            exact .inr (hb0 b hb1).1
          · rename_i e1
            obtain ⟨ob0,h0,hs⟩:=z11 hm
            simp only [if_neg e1] at hb1
            exact .inl ⟨m,ob0,h0,((z22 hs).2 _ _).1 hb1⟩
        · exact .inr hb.1
      obtain ⟨γd,F',r1,r2,r3,r4,r5,r6⟩:=z6i (B':=B') nm r (j0+1) (by omega) h1 (fun b hb=>hO b (hO2 b hb)) (fun j e' ag' ks' l' hj=>by
          obtain ⟨q1,q2⟩:=hr (j+1) e' ag' ks' l' (by simpa using hj)
          rw [show j0+(j+1)=j0+1+j by omega] at q1 q2
          refine ⟨znv q1,fun b hb=>⟨⟨(q2 b hb).1,fun hb'=>?_⟩,(q2 b hb).2⟩⟩
          exact hd 0 (j+1) e ag ks l e' ag' ks' l' b (by omega) (by simp) (by simpa using hj) hb' (by rw [show j0+(j+1)=j0+1+j by omega]; exact hb))
        (fun i j e1 ag1 ks1 l1 e2 ag2 ks2 l2 b hij h1 h2 hb1 hb2=>hd (i+1) (j+1) e1 ag1 ks1 l1 e2 ag2 ks2 l2 b (by omega) (by simpa using h1) (by simpa using h2) (by rw [show j0+(i+1)=j0+1+i by omega]; exact hb1) (by rw [show j0+(j+1)=j0+1+j by omega]; exact hb2))
      refine ⟨γd,F',r1,fun b hb=>(r2 b hb).1,fun b hb hn=>r3 b ⟨hb,fun hb'=>hn 0 e ag ks l (by simp) hb'⟩ (fun j e' ag' ks' l' hj=>by
          have:=hn (j+1) e' ag' ks' l' (by simpa using hj)
          rwa [show j0+(j+1)=j0+1+j by omega] at this),fun b hb=>hO2 b (r4 b hb),?_,?_⟩
      · intro j e' ag' ks' l' hj
        cases j with
        | zero=>
          simp only [List.getElem?_cons_zero,Option.some.injEq,V.vec.injEq] at hj
          obtain ⟨rfl,rfl,rfl,rfl⟩:=hj
          obtain ⟨p1,_,p3⟩:=r6 (nm+j0) (.inl (by omega))
          refine ⟨by rw [Nat.add_zero,Nat.add_zero,p1]; simp,?_⟩
          rw [Nat.add_zero]
          exact p3 e ag ks l (by rw [z03,if_pos rfl])
        | succ j=>
          obtain ⟨p1,p2⟩:=r5 j e' ag' ks' l' (by simpa using hj)
          rw [show nm+(j0+1)+j=nm+j0+(j+1) by omega] at p1 p2
          exact ⟨by rw [p1]; congr 1; omega,p2⟩
      · intro m hm
        have hne:nm+j0≠m:=by
          simp only [List.length_cons] at hm
          omega
        obtain ⟨p1,p2,p3⟩:=r6 m (by simp only [List.length_cons] at hm; omega)
        refine ⟨by rw [p1,if_neg hne],fun cs hc=>p2 cs ?_,fun e' ag' ks' l' hc=>p3 e' ag' ks' l' ?_⟩
        · rw [z03,if_neg hne,hc]
          simp only [z17,z92,List.map_map,Option.some.injEq,Ob.box.injEq]
          rfl
        · rw [z03,if_neg hne,hc]
          rfl
    · have hu:z50 (nm+j0) (v :: r)=z50 (nm+(j0+1)) r:=by
        cases v <;> first | rfl | exact absurd ⟨_,_,_,_,rfl⟩ hv
      rw [hu]
      obtain ⟨γd,F',r1,r2,r3,r4,r5,r6⟩:=z6i (B':=B') nm r (j0+1) (by omega) h hO (fun j e' ag' ks' l' hj=>by
          obtain ⟨q1,q2⟩:=hr (j+1) e' ag' ks' l' (by simpa using hj)
          rw [show j0+(j+1)=j0+1+j by omega] at q1 q2
          exact ⟨q1,q2⟩)
        (fun i j e1 ag1 ks1 l1 e2 ag2 ks2 l2 b hij h1 h2 hb1 hb2=>hd (i+1) (j+1) e1 ag1 ks1 l1 e2 ag2 ks2 l2 b (by omega) (by simpa using h1) (by simpa using h2) (by rw [show j0+(i+1)=j0+1+i by omega]; exact hb1) (by rw [show j0+(j+1)=j0+1+j by omega]; exact hb2))
      refine ⟨γd,F',r1,r2,fun b hb hn=>r3 b hb (fun j e' ag' ks' l' hj=>by
          have:=hn (j+1) e' ag' ks' l' (by simpa using hj)
          rwa [show j0+(j+1)=j0+1+j by omega] at this),r4,?_,?_⟩
      · intro j e' ag' ks' l' hj
        cases j with
        | zero=>
          simp only [List.getElem?_cons_zero,Option.some.injEq] at hj
          exact absurd ⟨_,_,_,_,hj⟩ hv
        | succ j=>
          obtain ⟨p1,p2⟩:=r5 j e' ag' ks' l' (by simpa using hj)
          rw [show nm+(j0+1)+j=nm+j0+(j+1) by omega] at p1 p2
          exact ⟨by rw [p1]; congr 1; omega,p2⟩
      · intro m hm
        exact r6 m (by simp only [List.length_cons] at hm; omega)
end
open Go Go.RowKit
def z71:V→Bool
  | .agg l=>l.all z2r
  | .tup l=>l.all fun v=>match v with | .agg l=>l.all z2r | v=>z2r v
  | v=>z2r v
def okR:V→Bool
  | .bor cs=>cs.all okC
  | .vec _ _ _ _=>true
  | v=>z71 v
def zey:List V→List V→Bool
  | [.bld _],[.bld _]=>true
  | [.bld _],_=>false
  | _,cs=>cs.all okC
def z3s (vs:List V) (r:V) (out:List (List V)) (g g':Value):Prop:=
  match z1e vs,out with
  | none,[]=>okR r=true
  | some cs,[cs']=>z71 r=true∧zey cs cs'=true∧z7y g'=z7y g
  | _,_=>False
def Does (P:Program) (f:FuncId) (xs:List Value) (w:World) (R:Ending→World→Prop):Prop:=
  match (callFunc f xs.toArray).run P w with
  | .ok (.enter g args) w'=>Calls P g args w' R
  | .ok (.value x) w'=>R (.returned x) w'
  | .ok (.row row args) w'=>Rows P row args w' fun x w''=>R (.returned x) w''
  | _=>False
theorem Does.mono {P:Program} {f:FuncId} {xs:List Value} {w:World} {R R':Ending→World→Prop} (h:Does P f xs w R) (hr:∀ e w',R e w'→R' e w'):Does P f xs w R':=by
  unfold Does at h ⊢
  split at h
  · exact Calls.mono h hr
  · exact hr _ _ h
  · exact Rows.mono h (fun v w'=>hr _ _)
  · exact h.elim
theorem Does.enter {P:Program} {f:FuncId} {fn:Func} (hf:P.funcs[f]?=some fn) (hn:(fn.name == "runtime.NumGoroutine")=false) (hb:fn.body.isNone=false) {xs:List Value} {w:World} {R:Ending→World→Prop} (h:Calls P f xs.toArray w R):Does P f xs w R:=by
  have:(callFunc f xs.toArray).run P w = .ok (.enter f xs.toArray) w:=by
    unfold callFunc
    have hn':¬ fn.name = "runtime.NumGoroutine":=by simpa using hn
    have hb':¬ fn.body=none:=fun h=>by rw [h] at hb; cases hb
    simp [hf,hn',hb']
  unfold Does
  rw [this]
  exact h
def Snd (P:Program) (B:BT) (f:FuncId) (sp:zlm):Prop:=
  ∀ (w:World) (X:Zone) (γ:Nat→Value) (vs:List V) (xs:List Value) (r:V) (out:List (List V)),sp vs=some (r,out)→Glob B w→(∀ b,X.own b→B.ng≤b) →
    Rel B.base 0 w X γ ⟨[],z48 vs⟩ zdu w→VRels γ (z48 vs) w (z02 X γ (z48 vs)) (vs.map z25) xs →
    Does P f xs w fun e w'=>∃ x,e = .returned x∧∃ γ',Rel B.base 0 w X γ' ⟨[],z15 r out⟩ zdu w'∧VRel γ' (z15 r out) w' (z02 X γ' (z15 r out)) (zit r) x∧z3s vs r out (γ 900000) (γ' 900000)
theorem z8a {γ γ':Nat→Value} {o o':Store} {w:World} {O O':Nat→Prop} {v:V} (hf:z2r v=true) (hO:isL v=true→∀ b,b < w.heap.size→O' b→O b) {x:Value} (h:VRel γ o w O v x):VRel γ' o' w O' v x:=by
  cases v <;> simp only [z2r] at hf <;> first | (cases hf; done) | (exact z3e rfl (VRel.mono (Keep.refl _ w) (hO rfl) h)) | (simp only [VRel] at h ⊢; try exact h)
theorem zau:∀ {l:List V} {v:V},v∈l→isL v=true→z9z l=true
  | u :: r,v,hm,hv=>by
    simp only [z9z]
    cases hu:isL u with
    | true=>rfl
    | false=>
      rcases List.mem_cons.1 hm with h1 | h1
      · subst h1
        rw [hv] at hu
        cases hu
      · exact zau h1 hv
theorem z9e {γ γ':Nat→Value} {o o':Store} {w:World} {O O':Nat→Prop}:∀ {l:List V} {xs:List Value},l.all z2r=true→(z9z l=true→∀ b,b < w.heap.size→O' b→O b)→VRels γ o w O l xs→VRels γ' o' w O' l xs
  | [],[],_,_,_=>by simp only [VRels]
  | [],_ :: _,_,_,h=>by simp only [VRels] at h
  | _ :: _,[],_,_,h=>by simp only [VRels] at h
  | v :: l,x :: xs,hf,hO,h=>by
    simp only [VRels] at h ⊢
    simp only [List.all_cons,Bool.and_eq_true] at hf
    exact ⟨z8a hf.1 (fun hv=>hO (zau (List.mem_cons_self ..) hv)) h.1,z9e hf.2 (fun hl=>hO (by simp only [z9z]; split <;> first | rfl | exact hl)) h.2⟩
theorem zbb {γ γ':Nat→Value} {o o':Store} {w:World} {O O':Nat→Prop} {v:V} (hf:z71 v=true) (hO:z0w v=true→∀ b,b < w.heap.size→O' b→O b) {x:Value} (h:VRel γ o w O v x):VRel γ' o' w O' v x:=by
  by_cases ha:∃ l,v = .agg l
  · obtain ⟨l,rfl⟩:=ha
    simp only [VRel] at h ⊢
    obtain ⟨cs,hx,hr⟩:=h
    exact ⟨cs,hx,z9e hf hO hr⟩
  by_cases ht:∃ l,v = .tup l
  · obtain ⟨l,rfl⟩:=ht
    simp only [VRel] at h ⊢
    obtain ⟨cs,hx,hr⟩:=h
    refine ⟨cs,hx,?_⟩
    simp only [z71] at hf
    have key:∀ (l:List V) (xs:List Value),(l.all fun v=>match v with | .agg l=>l.all z2r | v=>z2r v)=true→(z0w.go l=true→∀ b,b < w.heap.size→O' b→O b)→VRels γ o w O l xs→VRels γ' o' w O' l xs:=by
      intro l
      induction l with
      | nil=>
        intro xs _ _ h
        cases xs with
        | nil=>simp only [VRels]
        | cons _ _=>simp only [VRels] at h
      | cons v l ih=>
        intro xs hf hO h
        cases xs with
        | nil=>simp only [VRels] at h
        | cons x xs=>
          simp only [VRels] at h ⊢
          simp only [List.all_cons,Bool.and_eq_true] at hf
          have h2:z0w.go l=true→z0w.go (v :: l)=true:=fun hl=>by cases v <;> simp only [z0w.go] <;> first | exact hl | (split <;> first | rfl | exact hl)
          refine ⟨?_,ih xs hf.2 (fun hl=>hO (h2 hl)) h.2⟩
          by_cases hv:∃ l',v = .agg l'
          · obtain ⟨l',rfl⟩:=hv
            have h1:=h.1
            simp only [VRel] at h1 ⊢
            obtain ⟨cs,hx,hr⟩:=h1
            exact ⟨cs,hx,z9e hf.1 (fun hl=>hO (by simp only [z0w.go,hl])) hr⟩
          · have hf1:z2r v=true:=by
              have:=hf.1
              split at this
              · exact absurd ⟨_,rfl⟩ hv
              · exact this
            exact z8a hf1 (fun hl=>hO (by cases v <;> simp_all [z0w.go])) h.1
    exact key l _ hf hO hr
  have h1:z2r v=true:=by cases v <;> first | exact hf | exact absurd ⟨_,rfl⟩ ha | exact absurd ⟨_,rfl⟩ ht
  exact z8a h1 (fun hl=>hO (by cases v <;> first | exact hl | (simp only [isL] at hl; cases hl))) h
theorem z3i {v:V} (h:z71 v=true):zit v=v:=by
  cases v <;> first | rfl | (simp only [z71,z2r] at h; cases h)
theorem zhw {o:Store} {bs:List V} {tk:Option Kd} {v:V} (h:z2x.lentC [v]=[]):∀ cs,z1w o bs tk v≠.bor cs:=by
  intro cs hc
  cases v
  case ptr n i c=>simp [z2x.lentC] at h
  all_goals simp only [z1w] at hc
  all_goals (repeat' split at hc)
  all_goals (cases hc)
theorem zfd {o:Store} {bs:List V} {tk:Option Kd} {v:V} {cs:List V} (h:z1w o bs tk v = .bor cs):cs=bs:=by
  cases v <;> simp only [z1w] at h <;> try (cases h; done)
  all_goals (repeat' split at h)
  all_goals first | (cases h; done) | (cases h; rfl)
theorem zff {o:Store} {bs:List V}:∀ {l:List V},(z1e.borC (l.map (z1w o bs none))=none∨z1e.borC (l.map (z1w o bs none))=some bs)∧(z2x.lentC l=[]→z1e.borC (l.map (z1w o bs none))=none)
  | []=>by simp [z1e.borC]
  | v :: r=>by
    have ih:=zff (o:=o) (bs:=bs) (l:=r)
    have hl:z2x.lentC (v :: r)=[]→z2x.lentC [v]=[]∧z2x.lentC r=[]:=by cases v <;> simp [z2x.lentC]
    simp only [List.map_cons]
    cases hv:z1w o bs none v
    case bor cs=>
      simp only [z1e.borC]
      refine ⟨.inr (by rw [zfd hv]),fun h=>absurd hv (zhw (hl h).1 cs)⟩
    all_goals (simp only [z1e.borC]; exact ⟨ih.1,fun h=>ih.2 (hl h).2⟩)
theorem z42 {o:Store} {bs:List V}:∀ {l:List V} {tks:List (List Kd)},(z1e (z1j o bs tks l)=none∨z1e (z1j o bs tks l)=some bs)∧(z2x l=[]→z1e (z1j o bs tks l)=none)
  | [],tks=>by cases tks <;> simp [z1j,z1e]
  | v :: r,tks=>by
    obtain ⟨ks,tks',he⟩:∃ ks tks',z1j o bs tks (v :: r)=zcg o bs ks v :: z1j o bs tks' r:=by
      cases tks with
      | nil=>exact ⟨[],[],rfl⟩
      | cons k ks=>exact ⟨k,ks,rfl⟩
    have ih:=z42 (o:=o) (bs:=bs) (l:=r) (tks:=tks')
    rw [he]
    have hl:z2x (v :: r)=[]→z2x [v]=[]∧z2x r=[]:=by cases v <;> simp [z2x]
    by_cases hc:∃ f l,v = .clo f l
    · obtain ⟨f,l,rfl⟩:=hc
      have hb:=zff (o:=o) (bs:=bs) (l:=l)
      simp only [zcg,z1e]
      cases hx:z1e.borC (l.map (z1w o bs none)) with
      | none=>exact ⟨ih.1,fun h=>ih.2 (hl h).2⟩
      | some cs=>
        simp only
        refine ⟨.inr ?_,fun h=>?_⟩
        · rcases hb.1 with h1 | h1 <;> rw [hx] at h1
          · cases h1
          · exact h1
        · have:=hb.2 (by have:=(hl h).1; simpa [z2x] using this)
          rw [hx] at this
          cases this
    · by_cases ha:∃ l,v = .agg l
      · obtain ⟨l,rfl⟩:=ha
        simp only [zcg,z1e]
        exact ⟨ih.1,fun h=>ih.2 (hl h).2⟩
      · have h1:zcg o bs ks v=z1w o bs ks.head? v:=by
          cases v <;> first | rfl | exact absurd ⟨_,rfl⟩ ha | exact absurd ⟨_,_,rfl⟩ hc
        rw [h1]
        cases hv:z1w o bs ks.head? v
        case bor cs=>
          simp only [z1e]
          refine ⟨.inr (by rw [zfd hv]),fun h=>absurd hv (zhw (v:=v) ?_ cs)⟩
          have:=(hl h).1
          cases v <;> simp_all [z2x,z2x.lentC]
        case clo f l=>
          exfalso
          cases v <;> simp only [z1w] at hv <;> try (cases hv; done)
          all_goals (repeat' split at hv)
          all_goals (cases hv)
        all_goals (simp only [z1e]; exact ⟨ih.1,fun h=>ih.2 (hl h).2⟩)
open Go Go.RowKit
section
variable {B:BT} {nt:Nat} {w0:World} {X:Zone} {γ:Nat→Value} {st st':St} {a:Act} {w:World} {P:Program} {E:Env}
theorem z3f (h:Rel B nt w0 X γ st a w) (ns:List Nat) {b:Nat} (hb:z02 X γ (st.ups (z06 st.o ns)).o b):z02 X γ st.o b∧∀ m∈ns,¬ RowOf γ st.o m b:=by
  obtain ⟨h1,h2,h3,h4,h5⟩:=z0z st.o ns (FrzLe.refl _) h
  refine ⟨h2.owned hb,?_⟩
  rintro m hm ⟨e,ag,ks,l,ho,hob⟩
  rcases hb with ⟨m',ob',hm',hb'⟩ | hb
  · by_cases e1:m=m'
    · subst e1
      rcases h2 m with h6 | ⟨e',ag',ks',l',h6,h7⟩
      · rw [h6,ho] at hm'
        have:=h4 m hm true e ag ks l (by rw [h6,ho])
        cases this
      · rw [h7,Option.some.injEq] at hm'
        subst hm'
        exact hb'.elim
    · rcases h2 m' with h6 | ⟨e',ag',ks',l',h6,h7⟩
      · rw [h6] at hm'
        exact h.dis m m' _ ob' b e1 ho hm' hob hb'
      · rw [h7,Option.some.injEq] at hm'
        subst hm'
        exact hb'.elim
  · exact h.near ⟨m,_,ho,hob⟩ hb
theorem z98 (h:Rel B nt w0 X γ st a w) (hg:GX B w0 X) {f:FuncId} {sp:zlm} (hS:Snd P B f sp) {vs:List V} {xs:List Value} (hv:VRels γ st.o w (z02 X γ st.o) vs xs) (hl:z2x vs=[]) {tks:List (List Kd)} {v:V} {out:List (List V)}
    (hsp:sp (z1j st.o [] tks vs)=some (v,out)) :
    Does P f xs w fun e w'=>∃ x,e = .returned x∧∃ γ',Rel B.base 0 w ⟨fun _=>False,fun b=>z02 X γ st.o b∧∀ m∈z0a vs,¬ RowOf γ st.o m b⟩ γ' ⟨[],z15 v out⟩ zdu w' ∧
      VRel γ' (z15 v out) w' (z02 ⟨fun _=>False,fun b=>z02 X γ st.o b∧∀ m∈z0a vs,¬ RowOf γ st.o m b⟩ γ' (z15 v out)) (zit v) x∧okR v=true∧out=[]:=by
  have hb:z1e (z1j st.o [] tks vs)=none:=z42.2 hl
  have hm:z48 (z1j st.o [] tks vs)=[]:=by simp only [z48,hb]
  have hR:Rel B.base 0 w ⟨fun _=>False,fun b=>z02 X γ st.o b∧∀ m∈z0a vs,¬ RowOf γ st.o m b⟩ γ ⟨[],[]⟩ zdu w:=by
    refine ⟨rfl,rfl,fun i=>by simp only [St.get,lkd,VRel],fun n ob hn=>?_,?_,?_,Keep.refl _ w,?_,?_,fun p hp=>by cases hp⟩
    · simp only [z01,lkd] at hn; cases hn
    · rintro b ⟨n,ob,hn,_⟩; simp only [z01,lkd] at hn; cases hn
    · intro n m ob ob' b _ hn; simp only [z01,lkd] at hn; cases hn
    · rintro b ⟨n,ob,hn,_⟩; simp only [z01,lkd] at hn; cases hn
    · rintro b ⟨hb | hb,_⟩
      · exact (h.lt b hb).1
      · exact h.fl b hb
  have:=hS w ⟨fun _=>False,fun b=>z02 X γ st.o b∧∀ m∈z0a vs,¬ RowOf γ st.o m b⟩ γ (z1j st.o [] tks vs) xs v out hsp (h.glob hg) (fun _ hf=>hf.elim) (by rw [hm]; exact hR) (by
    rw [hm]
    refine z81 h (fun b _ hb=>?_) [] hv (fun m hm b hr hb=>?_) (fun m hm=>by rw [hl] at hm; cases hm)
    · rcases hb with ⟨n,ob,hn,_⟩ | hb
      · simp only [z01,lkd] at hn; cases hn
      · exact hb.1
    · rcases hb with ⟨n,ob,hn,_⟩ | hb
      · simp only [z01,lkd] at hn; cases hn
      · exact hb.2 m hm hr)
  refine this.mono ?_
  rintro e w' ⟨x,he,γ',h1,h2,h3⟩
  refine ⟨x,he,γ',h1,h2,?_⟩
  simp only [z3s,hb] at h3
  cases out with
  | nil=>exact ⟨h3,rfl⟩
  | cons _ _=>exact h3.elim
theorem z5i (h:Rel B nt w0 X γ st a w) {w':World} {X':Zone} (hX:∀ b,¬ X'.own b) {γ':Nat→Value} {st':St} {a':Act} (hc:Rel B.base 0 w X' γ' st' a' w') (F:Nat→Prop) (hF:∀ b,F b→X.far b∨(w.heap.size≤b∧b < w'.heap.size)):Rel B nt w0 ⟨X.own,F⟩ γ st a w':=
  (h.fresh (hc.keep) (fun b _ hb=>(hX b hb).elim)).shrink hF
theorem z6k {cs:List V} (h:cs.all okC=true):z28 cs=(900000,some (.box (z1s 900001 cs))) :: z5y 900001 cs:=by
  refine ze9 (fun s he=>?_)
  subst he
  simp [okC,z2r] at h
theorem zcx {w':World} {X':Zone} {γ':Nat→Value} {cs:List V} (hok:cs.all okC=true) (_:Rel B.base 0 w X' γ' ⟨[],z28 cs⟩ zdu w') {c:Array Value}
    (hr:VRels γ' (z28 cs) w' (z02 X' γ' (z28 cs)) (z1s 900001 cs) c.toList) {γf:Nat→Value} {of:Store} {nm:Nat}
    (hrow:∀ j e ag ks l,cs[j]?=some (.vec e ag ks l)→γf (nm+j)=γ' (900001+j)∧z01 of (nm+j)=some (.row true e ag ks l)) {O':Nat→Prop} (hO:z9z cs=true→∀ b,b < w'.heap.size→O' b→z02 X' γ' (z28 cs) b) :
    VRels γf of w' O' (z1s nm cs) c.toList:=by
  have hl:=hr.length
  rw [z2k] at hl
  refine VRels.of_get (by rw [z2k,hl]) (fun j v x hv hx=>?_)
  rw [z61] at hv
  cases hcj:cs[j]? with
  | none=>rw [hcj] at hv; cases hv
  | some u=>
    rw [hcj] at hv
    simp only [Option.map_some,Option.some.injEq] at hv
    have hb:(z1s 900001 cs)[j]?=some (match (generalizing:=false) u with | .vec _ _ _ l=>.row (900001+j) 0 l.length | v=>v):=by rw [z61,hcj]; rfl
    have hux:=hr.get' hb hx
    have huok:okC u=true:=List.all_eq_true.1 hok u (List.mem_of_getElem? hcj)
    by_cases hvec:∃ e ag ks l,u = .vec e ag ks l
    · obtain ⟨e,ag,ks,l,rfl⟩:=hvec
      simp only at hv hux
      subst hv
      obtain ⟨h1,h2⟩:=hrow j e ag ks l hcj
      have hat:=z8m (nr:=900001) hcj
      have hat':z01 (z28 cs) (900001+j)=some (.row true e ag ks l):=by
        rw [z6k hok,z00,if_neg (by omega)]
        exact hat
      simp only [VRel,hat'] at hux
      simp only [VRel,h2,h1]
      exact hux
    · have hf:z2r u=true:=by cases u <;> first | exact huok | exact absurd ⟨_,_,_,_,rfl⟩ hvec
      have hvu:v=u:=by cases u <;> first | exact hv.symm | exact absurd ⟨_,_,_,_,rfl⟩ hvec
      have hux':VRel γ' (z28 cs) w' (z02 X' γ' (z28 cs)) u x:=by cases u <;> first | exact hux | exact absurd ⟨_,_,_,_,rfl⟩ hvec
      subst hvu
      exact z8a hf (fun hv=>hO (zau (List.mem_of_getElem? hcj) hv)) hux'
theorem zfe {w':World} {X':Zone} {γ':Nat→Value} {cs:List V} (hok:cs.all okC=true) (hc:Rel B.base 0 w X' γ' ⟨[],z28 cs⟩ zdu w') :
    (∀ (γ:Nat→Value) j e ag ks l,cs[j]?=some (.vec e ag ks l)→ObRel B.base γ [] w' (fun b=>z9z cs=true→z02 X' γ' (z28 cs) b) (γ' (900001+j)) (.row true e ag ks l)∧∀ b,(γ' (900001+j)).ownBlock=some b→z0h γ' (z28 cs) b) ∧
    (∀ i j e ag ks l e' ag' ks' l' b,i≠j→cs[i]?=some (.vec e ag ks l)→cs[j]?=some (.vec e' ag' ks' l')→(γ' (900001+i)).ownBlock=some b→(γ' (900001+j)).ownBlock=some b→False) ∧
    (∀ j e ag ks l b,cs[j]?=some (.vec e ag ks l)→(γ' (900001+j)).ownBlock=some b→z07 γ' (z28 cs) 900000 b→False):=by
  have hat:∀ {j e ag ks l},cs[j]?=some (V.vec e ag ks l)→z01 (z28 cs) (900001+j)=some (.row true e ag ks l):=by
    intro j e ag ks l hj
    rw [z6k hok,z00,if_neg (by omega)]
    exact z8m hj
  refine ⟨fun γ j e ag ks l hj=>⟨?_,fun b hb=>⟨_,_,hat hj,hb⟩⟩,?_,?_⟩
  · have hr:=hc.ob _ _ (hat hj)
    simp only [ObRel] at hr ⊢
    obtain ⟨k1,k2,xs,k3,k4⟩:=hr
    refine ⟨k1,k2,xs,k3,fun i y hy=>Kd.RelAll.mono (Keep.refl _ w') (fun b _ hb=>?_) (fun _ _ hu=>hu) (k4 i y hy)⟩
    exact hb (zau (List.mem_of_getElem? hj) rfl)
  · intro i j e ag ks l e' ag' ks' l' b hij h1 h2 hb1 hb2
    exact hc.dis _ _ _ _ b (by omega) (hat h1) (hat h2) hb1 hb2
  · rintro j e ag ks l b hj hb ⟨ob,h1,h2⟩
    exact hc.dis _ _ _ _ b (by omega) (hat hj) h1 hb h2
theorem zj6 (h:Rel B nt w0 X γ st a w) (hg:GX B w0 X) {f:FuncId} {sp:zlm} (hS:Snd P B f sp) {vs:List V} {xs:List Value} (hv:VRels γ st.o w (z02 X γ st.o) vs xs) (hl:z2x vs=[]) {tks:List (List Kd)} {v:V} {out:List (List V)}
    (hsp:sp (z1j st.o [] tks vs)=some (v,out)) (hnb:∀ cs,v≠.bor cs) (hnv:∀ e ag ks l,v≠.vec e ag ks l) :
    Does P f xs w fun e w'=>∃ x,e = .returned x∧∃ γ',Rel B nt w0 X γ' (st.ups (z06 st.o (match z0w v with | true=>z0a vs | false=>[]))) a w' ∧
      VRel γ' (st.ups (z06 st.o (match z0w v with | true=>z0a vs | false=>[]))).o w' (z02 X γ' (st.ups (z06 st.o (match z0w v with | true=>z0a vs | false=>[]))).o) v x:=by
  refine (z98 h hg hS hv hl hsp).mono ?_
  rintro e w' ⟨x,he,γ',h1,h2,h3,rfl⟩
  have hf:z71 v=true:=by cases v <;> first | exact h3 | exact absurd rfl (hnb _) | exact absurd rfl (hnv _ _ _ _)
  have hmo:z15 v []=[]:=by cases v <;> first | rfl | exact absurd rfl (hnb _) | exact absurd rfl (hnv _ _ _ _)
  rw [hmo] at h1 h2
  rw [z3i hf] at h2
  have hz:=(z0z st.o (match z0w v with | true=>z0a vs | false=>[]) (FrzLe.refl _) h).1
  have hp:=z5i hz (fun b hb=>hb) h1 X.far (fun b hb=>.inl hb)
  refine ⟨x,he,γ,hp,zbb hf (fun hhl b _ hb=>?_) h2⟩
  have:=z3f h _ hb
  rw [hhl] at this
  exact .inr this
theorem zkd (h:Rel B nt w0 X γ st a w) (hg:GX B w0 X) {f:FuncId} {sp:zlm} (hS:Snd P B f sp) {vs:List V} {xs:List Value} (hv:VRels γ st.o w (z02 X γ st.o) vs xs) (hl:z2x vs=[]) {tks:List (List Kd)} {cs:List V} {out:List (List V)}
    (hsp:sp (z1j st.o [] tks vs)=some (.bor cs,out)) (d:Nat) (hd9:d≠900000) (hn9:1000*(d+1)+cs.length≤900000) :
    Does P f xs w fun e w'=>∃ x,e = .returned x∧∃ γ',Rel B nt w0 X γ' (st.ups (z06 st.o (match z9z cs with | true=>z0a vs | false=>[])++(z50 (1000*(d+1)) cs++[.new d (.box (z1s (1000*(d+1)) cs))]))) a w' ∧
      VRel γ' (st.ups (z06 st.o (match z9z cs with | true=>z0a vs | false=>[])++(z50 (1000*(d+1)) cs++[.new d (.box (z1s (1000*(d+1)) cs))]))).o w'
        (z02 X γ' (st.ups (z06 st.o (match z9z cs with | true=>z0a vs | false=>[])++(z50 (1000*(d+1)) cs++[.new d (.box (z1s (1000*(d+1)) cs))]))).o) (.ptr d 0 0) x:=by
  refine (z98 h hg hS hv hl hsp).mono ?_
  rintro e w' ⟨x,he,γ',h1,h2,h3,rfl⟩
  simp only [okR] at h3
  have hmo:z15 (.bor cs) []=z28 cs:=rfl
  rw [hmo] at h1 h2
  generalize hX':(⟨fun _=>False,fun b=>z02 X γ st.o b∧∀ m∈z0a vs,¬ RowOf γ st.o m b⟩:Zone)=X' at h1 h2
  have hXo:∀ b,¬ X'.own b:=fun b hb=>by rw [← hX'] at hb; exact hb
  have hz:=(z0z st.o (match z9z cs with | true=>z0a vs | false=>[]) (FrzLe.refl _) h).1
  have hPf:∀ b,z0h γ' (z28 cs) b→w.heap.size≤b∧b < w'.heap.size:=fun b hb=>by
    obtain ⟨q1,q2⟩:=h1.lt b hb
    exact ⟨q2.resolve_right (hXo b),q1⟩
  have hp:=z5i hz hXo h1 (fun b=>X.far b∨z0h γ' (z28 cs) b) (fun b hb=>hb.imp_right (hPf b))
  obtain ⟨br1,br2,br3⟩:=zfe h3 h1
  have hO1:∀ b,z02 ⟨X.own,fun b=>X.far b∨z0h γ' (z28 cs) b⟩ γ (st.ups (z06 st.o (match z9z cs with | true=>z0a vs | false=>[]))).o b→(z9z cs=true→z02 X' γ' (z28 cs) b):=by
    intro b hb hal
    rw [hal] at hb
    have key:z02 X γ (st.ups (z06 st.o (z0a vs))).o b∨z0h γ' (z28 cs) b:=by
      rcases hb with hb | hb | hb
      · exact .inl (.inl hb)
      · exact .inl (.inr hb)
      · exact .inr hb
    rcases key with hb | hb
    · have:=z3f h _ hb
      exact .inr (by rw [← hX']; exact this)
    · exact .inl hb
  obtain ⟨γd,F',r1,r2,r3,r4,r5,r6⟩:=z6i (B':=B.base) (g:=fun j=>γ' (900001+j)) (1000*(d+1)) cs 0 (by omega) hp hO1 (fun j e ag ks l hj=>by
      rw [Nat.zero_add]
      obtain ⟨q1,q2⟩:=br1 γ j e ag ks l hj
      exact ⟨q1,fun b hb=>⟨.inr (q2 b hb),.inl (Nat.le_trans h.keep.size (hPf b (q2 b hb)).1)⟩⟩)
    (fun i j e ag ks l e' ag' ks' l' b hij q1 q2 q3 q4=>by
      rw [Nat.zero_add] at q3 q4
      exact br2 i j e ag ks l e' ag' ks' l' b hij q1 q2 q3 q4)
  simp only [Nat.add_zero,Nat.zero_add] at r1 r3 r4 r5 r6
  have hob0:z01 (z28 cs) 900000=some (.box (z1s 900001 cs)):=by rw [z6k h3,z00,if_pos rfl]
  have hor:=h1.ob _ _ hob0
  simp only [ObRel] at hor
  obtain ⟨b0,c,T,hg,hh,hr⟩:=hor
  have hb0P:z0h γ' (z28 cs) b0:=⟨900000,_,hob0,⟨_,hg,rfl⟩⟩
  have hadd:=r1.add d hd9 (.box (z1s (1000*(d+1)) cs)) (γ' 900000) (fun b hb=>by
      obtain ⟨ad,q1,q2⟩:=hb
      rw [hg] at q1
      simp only [Value.pointer.injEq,Option.some.injEq] at q1
      subst q1
      simp only at q2
      subst q2
      exact ⟨r3 b0 (.inr hb0P) (fun j e ag ks l hj hb=>br3 j e ag ks l b0 hj hb ⟨_,hob0,_,hg,rfl⟩),.inl (Nat.le_trans h.keep.size (hPf b0 hb0P).1)⟩)
    (fun O' hO'=>by
      simp only [ObRel]
      refine ⟨b0,c,T,hg,hh,zcx h3 h1 hr (fun j e ag ks l hj=>?_) (fun hal b _ hb=>hO1 b (r4 b (hO' b hb)) hal)⟩
      obtain ⟨q1,q2⟩:=r5 j e ag ks l hj
      refine ⟨by rw [if_neg (by omega)]; exact q1,?_⟩
      rw [z03,if_neg (by omega),q2]
      rfl)
  have hfin:=hadd.shrink (F:=X.far) (fun b hb=>by
      have hlt:=h.fl b hb
      refine ⟨r3 b (.inl hb) (fun j e ag ks l hj hbj=>?_),fun hbb=>?_⟩
      · have:=hPf b ((br1 γ j e ag ks l hj).2 b hbj)
        omega
      · obtain ⟨ad,q1,q2⟩:=hbb
        rw [hg] at q1
        simp only [Value.pointer.injEq,Option.some.injEq] at q1
        subst q1
        simp only at q2
        subst q2
        have:=hPf b0 hb0P
        omega)
  refine ⟨x,he,_,by rw [z0n,z0n]; exact hfin,?_⟩
  rw [z0n,z0n]
  simp only [St.ups,VRel,z03,if_true]
  simp only [zit,z25,VRel,hob0] at h2
  exact h2
theorem zlu (h:Rel B nt w0 X γ st a w) (hg:GX B w0 X) {f:FuncId} {sp:zlm} (hS:Snd P B f sp) {vs:List V} {xs:List Value} (hv:VRels γ st.o w (z02 X γ st.o) vs xs) (hl:z2x vs=[]) {tks:List (List Kd)} {e:Nat} {ag:Bool} {ks:List Kd} {l:List IV} {out:List (List V)}
    (hsp:sp (z1j st.o [] tks vs)=some (.vec e ag ks l,out)) (d:Nat) (hd9:d≠900000) :
    Does P f xs w fun e' w'=>∃ x,e' = .returned x∧∃ γ',Rel B nt w0 X γ' (st.ups (z06 st.o (z0a vs)++[.new d (.row true e ag ks l)])) a w' ∧
      VRel γ' (st.ups (z06 st.o (z0a vs)++[.new d (.row true e ag ks l)])).o w' (z02 X γ' (st.ups (z06 st.o (z0a vs)++[.new d (.row true e ag ks l)])).o) (.row d 0 l.length) x:=by
  refine (z98 h hg hS hv hl hsp).mono ?_
  rintro e' w' ⟨x,he,γ',h1,h2,h3,rfl⟩
  have hmo:z15 (.vec e ag ks l) []=[(900000,some (.row true e ag ks l))]:=rfl
  rw [hmo] at h1 h2
  generalize hX':(⟨fun _=>False,fun b=>z02 X γ st.o b∧∀ m∈z0a vs,¬ RowOf γ st.o m b⟩:Zone)=X' at h1 h2
  have hXo:∀ b,¬ X'.own b:=fun b hb=>by rw [← hX'] at hb; exact hb
  have hz:=(z0z st.o (z0a vs) (FrzLe.refl _) h).1
  have hPf:∀ b,z0h γ' [(900000,some (.row true e ag ks l))] b→w.heap.size≤b∧b < w'.heap.size:=fun b hb=>by
    obtain ⟨q1,q2⟩:=h1.lt b hb
    exact ⟨q2.resolve_right (hXo b),q1⟩
  have hp:=z5i hz hXo h1 (fun b=>X.far b∨z0h γ' [(900000,some (.row true e ag ks l))] b) (fun b hb=>hb.imp_right (hPf b))
  have hO1:∀ b,z02 ⟨X.own,fun b=>X.far b∨z0h γ' [(900000,some (.row true e ag ks l))] b⟩ γ (st.ups (z06 st.o (z0a vs))).o b→z02 X' γ' [(900000,some (.row true e ag ks l))] b:=by
    intro b hb
    have key:z02 X γ (st.ups (z06 st.o (z0a vs))).o b∨z0h γ' [(900000,some (.row true e ag ks l))] b:=by
      rcases hb with hb | hb | hb
      · exact .inl (.inl hb)
      · exact .inl (.inr hb)
      · exact .inr hb
    rcases key with hb | hb
    · have:=z3f h _ hb
      exact .inr (by rw [← hX']; exact this)
    · exact .inl hb
  have hob0:z01 [(900000,some (.row true e ag ks l))] 900000=some (.row true e ag ks l):=by rw [z00,if_pos rfl]
  have hor:=h1.ob _ _ hob0
  simp only [ObRel] at hor
  obtain ⟨k1,k2,ys,k3,k4⟩:=hor
  have hg0:∀ b,z04 (γ' 900000) (.row true e ag ks l) b→z0h γ' [(900000,some (.row true e ag ks l))] b:=fun b hb=>⟨900000,_,hob0,hb⟩
  have hadd:=hp.add d hd9 (.row true e ag ks l) (γ' 900000) (fun b hb=>⟨.inr (hg0 b hb),.inl (Nat.le_trans h.keep.size (hPf b (hg0 b hb)).1)⟩)
    (fun O' hO'=>by
      simp only [ObRel]
      exact ⟨k1,k2,ys,k3,fun i y hy=>Kd.RelAll.mono (Keep.refl _ w') (fun b _ hb=>hO1 b (hO' b hb)) (fun _ _ hu=>hu) (k4 i y hy)⟩)
  have hfin:=hadd.shrink (F:=X.far) (fun b hb=>by
      have hlt:=h.fl b hb
      refine ⟨.inl hb,fun hbb=>?_⟩
      have:=hPf b (hg0 b hbb)
      omega)
  refine ⟨x,he,_,by rw [z0n]; exact hfin,?_⟩
  rw [z0n]
  simp only [St.ups,VRel,z03,if_true]
  simp only [zit,VRel,hob0] at h2
  exact h2
theorem zle {γ:Nat→Value} {o:Store} {w:World} {O O':Nat→Prop} (hO:∀ b,b < w.heap.size→O' b→O b) {v:V} {y:Kd × IV} {x:Value} (he:zo4 v=some y) (hv:VRel γ o w O v x):Kd.Rel w O' y.1 y.2 x:=by
  cases v <;> simp only [zo4] at he <;> first | (cases he; done) | skip
  all_goals
    simp only [Option.some.injEq] at he
    subst he
    simp only [VRel] at hv
  case list ag ks l=>exact Kd.Rel.mono (Keep.refl _ w) hO hv
  all_goals
    simp only [Kd.Rel,IV.toInt,IV.toBool,IV.toStr]
    exact hv
theorem zgv {γ:Nat→Value} {o:Store} {w:World} {O O':Nat→Prop} (hO:∀ b,b < w.heap.size→O' b→O b) :
    ∀ {cs:List V} {y:List Kd × List IV} {xs:List Value} {j:Nat} {f:Nat→IV} {R:Nat→Value→Prop},zlf cs=some y→VRels γ o w O cs xs→(∀ i,f (j+i)=nth y.2 i)→(∀ i u,xs[i]?=some u→R (j+i) u)→Kd.RelAll w O' y.1 f j R
  | [],y,xs,j,f,R,he,hv,hf,hR=>by
    simp only [zlf,Option.some.injEq] at he
    subst he
    simp only [Kd.RelAll]
  | v :: cs,y,[],j,f,R,he,hv,hf,hR=>by simp only [VRels] at hv
  | v :: cs,y,x :: xs,j,f,R,he,hv,hf,hR=>by
    simp only [zlf] at he
    split at he
    · rename_i a b ha hb
      simp only [Option.some.injEq] at he
      subst he
      simp only [VRels] at hv
      simp only [Kd.RelAll]
      refine ⟨⟨x,by have:=hR 0 x rfl; simpa using this,?_⟩,zgv hO hb hv.2 (fun i=>?_) (fun i u hu=>?_)⟩
      · have h0:=hf 0
        simp only [Nat.add_zero,nth] at h0
        rw [h0]
        exact zle hO ha hv.1
      · rw [show j+1+i=j+(i+1) by omega,hf]
        rfl
      · rw [show j+1+i=j+(i+1) by omega]
        exact hR (i+1) u (by simpa using hu)
    · cases he
theorem zlw (h:Rel B nt w0 X γ st a w) {v:V} {x:Value} (hv:VRel γ st.o w (z02 X γ st.o) v x) {γb:Nat→Value} {bo:Store} {O':Nat→Prop} (hO:∀ b,b < w.heap.size→O' b→z02 X γ st.o b)
    (hrow:∀ m∈z0c [v],∀ b,RowOf γ st.o m b→¬ O' b) (hl:∀ m∈z2x.lentC [v],∀ b,z07 γ st.o m b→¬ O' b):VRel γb bo w O' (z25.go (zgy st.o v)) x:=by
  by_cases hp:∃ n i c,v = .ptr n i c
  · obtain ⟨n,i,c,rfl⟩:=hp
    simp only [zgy]
    split
    · rename_i cs hic ho
      split
      · rename_i y hy
        simp only [Bool.and_eq_true] at hic
        obtain rfl:=z0f.1 hic.1
        obtain rfl:=z0f.1 hic.2
        simp only [VRel,ho] at hv
        obtain ⟨_,b,hg,rfl⟩:=hv
        obtain ⟨b',c,T,hg',hh,hc⟩:=h.ob n _ ho
        rw [hg] at hg'
        simp only [Value.pointer.injEq,Option.some.injEq,Addr.mk.injEq,and_true] at hg'
        subst hg'
        simp only [z25.go,VRel]
        refine ⟨b,0,rfl,hl n (by simp [z2x.lentC]) b ⟨_,ho,⟨_,hg,rfl⟩⟩,?_,zgv hO hy hc (fun i=>by rw [Nat.zero_add]) (fun i u hu=>?_)⟩
        · rcases Nat.lt_or_ge b w.heap.size with h1 | h1
          · exact h1
          · rw [Array.getElem?_eq_none h1] at hh
            cases hh
        · simp only [World.cell?,hh,Nat.zero_add]
          simpa using hu
      · simp only [z25.go,VRel]
    · simp only [z25.go,VRel]
  · have h1:zgy st.o v=z30 (z1w st.o [] none v):=by cases v <;> first | rfl | exact absurd ⟨_,_,_,rfl⟩ hp
    have h2:z25.go (z30 (z1w st.o [] none v))=z30 (z1w st.o [] none v):=by cases z1w st.o [] none v <;> rfl
    rw [h1,h2]
    exact zdy h hv hO hrow [] none
theorem zfj (h:Rel B nt w0 X γ st a w) {γb:Nat→Value} {bo:Store} {O':Nat→Prop} (hO:∀ b,b < w.heap.size→O' b→z02 X γ st.o b) :
    ∀ {l:List V} {xs:List Value},VRels γ st.o w (z02 X γ st.o) l xs→(∀ m∈z0c l,∀ b,RowOf γ st.o m b→¬ O' b)→(∀ m∈z2x.lentC l,∀ b,z07 γ st.o m b→¬ O' b) →
      VRels γb bo w O' ((l.map (zgy st.o)).map z25.go) xs
  | [],[],_,_,_=>by simp only [List.map_nil,VRels]
  | [],x :: xs,hv,_,_=>by simp only [VRels] at hv
  | v :: l,[],hv,_,_=>by simp only [VRels] at hv
  | v :: l,x :: xs,hv,hr,hl=>by
    simp only [VRels,List.map_cons] at hv ⊢
    exact ⟨zlw h hv.1 hO (fun m hm=>hr m (z32 v l m (.inl hm))) (fun m hm=>hl m (z6n v l m (.inl hm))),
      zfj h hO hv.2 (fun m hm=>hr m (z32 v l m (.inr hm))) (fun m hm=>hl m (z6n v l m (.inr hm)))⟩
theorem zln (h:Rel B nt w0 X γ st a w) {v:V} {x:Value} (hv:VRel γ st.o w (z02 X γ st.o) v x) {γb:Nat→Value} {bo:Store} {O':Nat→Prop} (hO:∀ b,b < w.heap.size→O' b→z02 X γ st.o b)
    (hrow:∀ m∈z5n v,∀ b,RowOf γ st.o m b→¬ O' b) (hl:∀ m∈z2x [v],∀ b,z07 γ st.o m b→¬ O' b) (ks:List Kd):VRel γb bo w O' (z25 (zh4 st.o ks v)) x:=by
  by_cases hc:(∃ f l,v = .clo f l)∨(∃ n i c,v = .ptr n i c)
  · rcases hc with ⟨f,l,rfl⟩ | ⟨n,i,c,rfl⟩
    · simp only [zh4,z25,VRel] at hv ⊢
      obtain ⟨cs,hx,hr⟩:=hv
      exact ⟨cs,hx,zfj h hO hr hrow (fun m hm=>hl m (by simpa [z2x] using hm))⟩
    · simp only [zh4,z25,VRel]
  · have h1:zh4 st.o ks v=zcg st.o [] ks v:=by cases v <;> first | rfl | exact absurd (.inl ⟨_,_,rfl⟩) hc | exact absurd (.inr ⟨_,_,_,rfl⟩) hc
    have h2:z2x [v]=[]:=by cases v <;> first | rfl | exact absurd (.inl ⟨_,_,rfl⟩) hc | exact absurd (.inr ⟨_,_,_,rfl⟩) hc
    rw [h1]
    exact zhx h hv hO hrow (fun m hm=>by rw [h2] at hm; cases hm) [] ks
theorem zfc (h:Rel B nt w0 X γ st a w) {γb:Nat→Value} {bo:Store} {O':Nat→Prop} (hO:∀ b,b < w.heap.size→O' b→z02 X γ st.o b) :
    ∀ {l:List V} {tks:List (List Kd)} {xs:List Value},VRels γ st.o w (z02 X γ st.o) l xs→(∀ m∈z0a l,∀ b,RowOf γ st.o m b→¬ O' b)→(∀ m∈z2x l,∀ b,z07 γ st.o m b→¬ O' b) →
      VRels γb bo w O' ((z4z st.o tks l).map z25) xs
  | [],tks,[],_,_,_=>by cases tks <;> simp only [z4z,List.map_nil,VRels]
  | [],tks,x :: xs,hv,_,_=>by simp only [VRels] at hv
  | v :: l,tks,[],hv,_,_=>by simp only [VRels] at hv
  | v :: l,tks,x :: xs,hv,hr,hl=>by
    simp only [VRels] at hv
    have h1:∀ ks,VRel γb bo w O' (z25 (zh4 st.o ks v)) x:=fun ks=>zln h hv.1 hO (fun m hm=>hr m (by simp only [z0a,List.mem_append]; exact .inl hm)) (fun m hm=>hl m (by
      cases v <;> simp_all [z2x])) ks
    have h2:∀ tks,VRels γb bo w O' ((z4z st.o tks l).map z25) xs:=fun tks=>zfc h hO hv.2 (fun m hm=>hr m (by simp only [z0a,List.mem_append]; exact .inr hm)) (fun m hm=>hl m (by
      cases v <;> simp_all [z2x]))
    cases tks with
    | nil=>simp only [z4z,List.map_cons,VRels]; exact ⟨h1 _,h2 _⟩
    | cons k ks=>simp only [z4z,List.map_cons,VRels]; exact ⟨h1 _,h2 _⟩
theorem zlv (o:Store) (v:V):∀ cs,zgy o v≠.bor cs:=by
  intro cs he
  by_cases hp:∃ n i c,v = .ptr n i c
  · obtain ⟨n,i,c,rfl⟩:=hp
    simp only [zgy] at he
    split at he
    · split at he <;> cases he
    · cases he
  · have h1:zgy o v=z30 (z1w o [] none v):=by cases v <;> first | rfl | exact absurd ⟨_,_,_,rfl⟩ hp
    rw [h1] at he
    cases hx:z1w o [] none v <;> rw [hx] at he <;> simp only [z30] at he <;> cases he
theorem zfg (o:Store):∀ l:List V,z1e.borC (l.map (zgy o))=none
  | []=>rfl
  | v :: r=>by
    have:=zlv o v
    simp only [List.map_cons]
    cases hx:zgy o v <;> simp only [z1e.borC,zfg o r]
    exact absurd hx (this _)
theorem zb3 (o:Store):∀ (l:List V) (tks:List (List Kd)),z1e (z4z o tks l)=none
  | [],tks=>by cases tks <;> rfl
  | v :: r,tks=>by
    obtain ⟨ks,tks',he⟩:∃ ks tks',z4z o tks (v :: r)=zh4 o ks v :: z4z o tks' r:=by
      cases tks with
      | nil=>exact ⟨[],[],rfl⟩
      | cons k ks=>exact ⟨k,ks,rfl⟩
    have ih:=zb3 o r tks'
    rw [he]
    by_cases hc:(∃ f l,v = .clo f l)∨(∃ n i c,v = .ptr n i c)
    · rcases hc with ⟨f,l,rfl⟩ | ⟨n,i,c,rfl⟩
      · simp only [zh4,z1e,zfg,ih]
      · simp only [zh4,z1e,ih]
    · have h1:zh4 o ks v=zcg o [] ks v:=by cases v <;> first | rfl | exact absurd (.inl ⟨_,_,rfl⟩) hc | exact absurd (.inr ⟨_,_,_,rfl⟩) hc
      have h2:z2x [v]=[]:=by cases v <;> first | rfl | exact absurd (.inl ⟨_,_,rfl⟩) hc | exact absurd (.inr ⟨_,_,_,rfl⟩) hc
      have h3:=(z42 (o:=o) (bs:=[]) (l:=[v]) (tks:=[ks])).2 h2
      simp only [z1j] at h3
      rw [h1]
      cases hx:zcg o [] ks v <;> rw [hx] at h3 <;> simp only [z1e] at h3 ⊢ <;> first | exact ih | (cases h3; done) | skip
      cases hy:z1e.borC _ with
      | none=>simpa only using ih
      | some cs=>rw [hy] at h3; cases h3
theorem zke (h:Rel B nt w0 X γ st a w) (hg:GX B w0 X) {f:FuncId} {sp:zlm} (hS:Snd P B f sp) {vs:List V} {xs:List Value} (hv:VRels γ st.o w (z02 X γ st.o) vs xs) {tks:List (List Kd)} {b:Bool}
    (hsp:sp (z4z st.o tks vs)=some (.bool b,[])) :
    Does P f xs w fun e w'=>∃ x,e = .returned x∧∃ γ',Rel B nt w0 X γ' st a w'∧VRel γ' st.o w' (z02 X γ' st.o) (.bool b) x:=by
  have hb:z1e (z4z st.o tks vs)=none:=zb3 _ _ _
  have hm:z48 (z4z st.o tks vs)=[]:=by simp only [z48,hb]
  generalize hX':(⟨fun _=>False,fun b=>z02 X γ st.o b∧(∀ m∈z0a vs,¬ RowOf γ st.o m b)∧∀ m∈z2x vs,¬ z07 γ st.o m b⟩:Zone)=X'
  have hXo:∀ b,¬ X'.own b:=fun b hb=>by rw [← hX'] at hb; exact hb
  have hXf:∀ b,X'.far b→z02 X γ st.o b∧(∀ m∈z0a vs,¬ RowOf γ st.o m b)∧∀ m∈z2x vs,¬ z07 γ st.o m b:=fun b hb=>by rw [← hX'] at hb; exact hb
  have hO:∀ b,z02 X' γ [] b→X'.far b:=fun b hb=>by
    rcases hb with ⟨n,ob,hn,_⟩ | hb
    · simp only [z01,lkd] at hn; cases hn
    · exact hb
  have hR:Rel B.base 0 w X' γ ⟨[],[]⟩ zdu w:=by
    refine ⟨rfl,rfl,fun i=>by simp only [St.get,lkd,VRel],fun n ob hn=>?_,?_,?_,Keep.refl _ w,?_,?_,fun p hp=>by cases hp⟩
    · simp only [z01,lkd] at hn; cases hn
    · rintro b ⟨n,ob,hn,_⟩; simp only [z01,lkd] at hn; cases hn
    · intro n m ob ob' b _ hn; simp only [z01,lkd] at hn; cases hn
    · rintro b ⟨n,ob,hn,_⟩; simp only [z01,lkd] at hn; cases hn
    · intro b hb
      rcases (hXf b hb).1 with hb | hb
      · exact (h.lt b hb).1
      · exact h.fl b hb
  have:=hS w X' γ (z4z st.o tks vs) xs (.bool b) [] hsp (h.glob hg) (fun b hb=>(hXo b hb).elim) (by rw [hm]; exact hR) (by
    rw [hm]
    exact zfc h (fun b _ hb=>(hXf b (hO b hb)).1) hv (fun m hm b hr hb=>(hXf b (hO b hb)).2.1 m hm hr) (fun m hm b hr hb=>(hXf b (hO b hb)).2.2 m hm hr))
  refine this.mono ?_
  rintro e w' ⟨x,he,γ',h1,h2,_⟩
  have hp:=z5i h hXo h1 X.far (fun b hb=>.inl hb)
  exact ⟨x,he,γ,hp,by simpa only [zit,z25,VRel] using h2⟩
end
open Go Go.RowKit
mutual
theorem VRel.leaves {γ γ':Nat→Value} {o o':Store} {w:World} {O:Nat→Prop} (h1:∀ n lo hi x,VRel γ o w O (.row n lo hi) x→VRel γ' o' w O (.row n lo hi) x) (h2:∀ n i c x,VRel γ o w O (.ptr n i c) x→VRel γ' o' w O (.ptr n i c) x)
    (h3:∀ n c cap sz len x,VRel γ o w O (.bview n c cap sz len) x→VRel γ' o' w O (.bview n c cap sz len) x):∀ {v:V} {x:Value},VRel γ o w O v x→VRel γ' o' w O v x
  | .any,_,_=>by simp only [VRel]
  | .int _ _,_,h=>by simpa only [VRel] using h
  | .bool _,_,h=>by simpa only [VRel] using h
  | .str _,_,h=>by simpa only [VRel] using h
  | .list _ _ _,_,h=>by simpa only [VRel] using h
  | .zs,_,h=>by simpa only [VRel] using h
  | .row _ _ _,_,h=>h1 _ _ _ _ h
  | .ptr _ _ _,_,h=>h2 _ _ _ _ h
  | .iptr _ _ _,_,h=>by simpa only [VRel] using h
  | .bview _ _ _ _ _,_,h=>h3 _ _ _ _ _ _ h
  | .agg l,x,h=>by
    simp only [VRel] at h ⊢
    obtain ⟨cs,hx,hr⟩:=h
    exact ⟨cs,hx,VRels.leaves h1 h2 h3 hr⟩
  | .tup l,x,h=>by
    simp only [VRel] at h ⊢
    obtain ⟨cs,hx,hr⟩:=h
    exact ⟨cs,hx,VRels.leaves h1 h2 h3 hr⟩
  | .err _,_,h=>by simpa only [VRel] using h
  | .nilp,_,h=>by simpa only [VRel] using h
  | .clo _ l,x,h=>by
    simp only [VRel] at h ⊢
    obtain ⟨cs,hx,hr⟩:=h
    exact ⟨cs,hx,VRels.leaves h1 h2 h3 hr⟩
  | .bor _,_,h=>by simp only [VRel] at h
  | .vec _ _ _ _,_,h=>by simp only [VRel] at h
  | .bld _,_,h=>by simp only [VRel] at h
theorem VRels.leaves {γ γ':Nat→Value} {o o':Store} {w:World} {O:Nat→Prop} (h1:∀ n lo hi x,VRel γ o w O (.row n lo hi) x→VRel γ' o' w O (.row n lo hi) x) (h2:∀ n i c x,VRel γ o w O (.ptr n i c) x→VRel γ' o' w O (.ptr n i c) x)
    (h3:∀ n c cap sz len x,VRel γ o w O (.bview n c cap sz len) x→VRel γ' o' w O (.bview n c cap sz len) x):∀ {l:List V} {xs:List Value},VRels γ o w O l xs→VRels γ' o' w O l xs
  | [],[],_=>by simp only [VRels]
  | [],_ :: _,h=>by simp only [VRels] at h
  | _ :: _,[],h=>by simp only [VRels] at h
  | v :: vs,x :: xs,h=>by
    simp only [VRels] at h ⊢
    exact ⟨VRel.leaves h1 h2 h3 h.1,VRels.leaves h1 h2 h3 h.2⟩
end
section
variable {B:BT} {nt:Nat} {w0:World} {X:Zone} {γ:Nat→Value} {st st':St} {a:Act} {w:World} {P:Program} {E:Env}
theorem zg4:∀ (hs:List Nat) {st:St} {X:Zone},Rel B nt w0 X γ st a w →
    Rel B nt w0 ⟨X.own,fun b=>X.far b∨∃ m∈hs,z07 γ st.o m b⟩ γ (st.ups (z3u hs)) a w∧(st.ups (z3u hs)).t=st.t∧∀ m,z01 (st.ups (z3u hs)).o m=if m∈hs then none else z01 st.o m
  | [],st,X,h=>⟨h.shrink (fun b hb=>by simpa using hb),rfl,fun m=>by simp [z3u,St.ups]⟩
  | n :: r,st,X,h=>by
    obtain ⟨h1,h2,h3⟩:=zg4 r (h.kill n)
    have hob:∀ m,z01 (st.up (.kill n)).o m=if n=m then none else z01 st.o m:=fun m=>by simp only [St.up,z00]
    refine ⟨?_,h2,fun m=>?_⟩
    · simp only [z3u,St.ups]
      refine h1.shrink (fun b hb=>?_)
      rcases hb with hb | ⟨m,hm,hb⟩
      · exact .inl (.inl hb)
      · by_cases e:n=m
        · subst e
          exact .inl (.inr hb)
        · rcases List.mem_cons.1 hm with h4 | h4
          · exact absurd h4.symm e
          · obtain ⟨ob,p1,p2⟩:=hb
            exact .inr ⟨m,h4,ob,by rw [hob,if_neg e]; exact p1,p2⟩
    · simp only [z3u,St.ups]
      rw [h3,hob]
      by_cases h4:m∈r
      · simp [h4]
      · by_cases h5:n=m
        · subst h5
          simp
        · have:¬ m=n:=fun e=>h5 e.symm
          simp [h4,h5,this]
theorem zd7 (h:Rel B nt w0 X γ st a w) (ns:List Nat) {n:Nat} {ob:Ob} (ho:z01 st.o n=some ob) (hb:∀ e ag ks l,ob≠.row true e ag ks l):z01 (st.ups (z06 st.o ns)).o n=some ob:=by
  obtain ⟨_,h2,_⟩:=z0z st.o ns (FrzLe.refl _) h
  rcases h2 n with h3 | ⟨e,ag,ks,l,h3,_⟩
  · rw [h3,ho]
  · rw [ho,Option.some.injEq] at h3
    exact absurd h3 (hb _ _ _ _)
theorem Rel.boundB (h:Rel B nt w0 X γ st a w) {n:Nat} {s:ByteArray} (ho:z01 st.o n=some (.bld s)) {w1:World} {own1 F:Nat→Prop} (hk:Keep own1 w1 w)
    (hF:∀ b,F b→z02 X γ st.o b∧¬ z07 γ st.o n b) (hown:∀ b,z07 γ st.o n b→w1.heap.size≤b∨own1 b) :
    Rel B.base 0 w1 ⟨own1,F⟩ (fun _=>γ n) ⟨[],z28 [.bld s]⟩ zdu w∧∀ b,z0h (fun _=>γ n) (z28 [.bld s]) b→z07 γ st.o n b:=by
  have hP:∀ b,z0h (fun _=>γ n) (z28 [.bld s]) b→z07 γ st.o n b:=by
    rintro b ⟨m,ob,hm,hb⟩
    simp only [z28] at hm
    rw [z00] at hm
    split at hm
    · simp only [Option.some.injEq] at hm
      subst hm
      exact ⟨_,ho,hb⟩
    · simp only [z01,lkd] at hm; cases hm
  refine ⟨⟨rfl,rfl,fun i=>by simp only [St.get,lkd,VRel],fun m ob hm=>?_,fun b hb=>?_,?_,hk,?_,?_,fun p hp=>by cases hp⟩,hP⟩
  · simp only [z28] at hm
    rw [z00] at hm
    split at hm
    · simp only [Option.some.injEq] at hm
      subst hm
      have:=h.ob n _ ho
      simpa only [ObRel,BT.base] using this
    · simp only [z01,lkd] at hm; cases hm
  · obtain ⟨ob,h1,h2⟩:=hP b hb
    exact ⟨(h.lt b ⟨n,ob,h1,h2⟩).1,hown b (hP b hb)⟩
  · intro m1 m2 ob1 ob2 b hne h1 h2 _ _
    simp only [z28] at h1 h2
    rw [z00] at h1 h2
    split at h1
    · split at h2
      · omega
      · simp only [z01,lkd] at h2; cases h2
    · simp only [z01,lkd] at h1; cases h1
  · intro b hb hf
    exact (hF b hf).2 (hP b hb)
  · intro b hb
    rcases (hF b hb).1 with h1 | h1
    · exact (h.lt b h1).1
    · exact h.fl b h1
theorem zls (h:Rel B nt w0 X γ st a w) (hg:GX B w0 X) {f:FuncId} {sp:zlm} (hS:Snd P B f sp) {vs:List V} {xs:List Value} (hv:VRels γ st.o w (z02 X γ st.o) vs xs) {n:Nat} (hl:z2x vs=[n]) {s s':ByteArray} (ho:z01 st.o n=some (.bld s))
    {tks:List (List Kd)} {v:V} (hsp:sp (z1j st.o [.bld s] tks vs)=some (v,[[.bld s']])) (hib:zma (z1e (z1j st.o [.bld s] tks vs))=true) :
    Does P f xs w fun e w'=>∃ x,e = .returned x∧∃ γ',Rel B nt w0 X γ' (st.ups (z06 st.o (match z0w v with | true=>z0a vs | false=>[])++[.set n (.bld s')])) a w' ∧
      VRel γ' (st.ups (z06 st.o (match z0w v with | true=>z0a vs | false=>[])++[.set n (.bld s')])).o w' (z02 X γ' (st.ups (z06 st.o (match z0w v with | true=>z0a vs | false=>[])++[.set n (.bld s')])).o) v x:=by
  have hL:∀ b,z07 γ st.o n b→w.heap.size≤b∨z07 γ st.o n b:=fun b hb=>.inr hb
  obtain ⟨hR,hP⟩:=h.boundB ho (w1:=w) (own1:=z07 γ st.o n) (F:=fun b=>z02 X γ st.o b∧¬ z07 γ st.o n b∧∀ m∈z0a vs,¬ RowOf γ st.o m b) (Keep.refl _ w) (fun b hb=>⟨hb.1,hb.2.1⟩) hL
  generalize hX':(⟨z07 γ st.o n,fun b=>z02 X γ st.o b∧¬ z07 γ st.o n b∧∀ m∈z0a vs,¬ RowOf γ st.o m b⟩:Zone)=X' at hR
  have hXf:∀ b,X'.far b↔(z02 X γ st.o b∧¬ z07 γ st.o n b∧∀ m∈z0a vs,¬ RowOf γ st.o m b):=fun b=>by rw [← hX']
  have hXo:∀ b,X'.own b↔z07 γ st.o n b:=fun b=>by rw [← hX']
  have hnP:∀ b,z07 γ st.o n b→z0h γ st.o b:=fun b ⟨ob,h1,h2⟩=>⟨n,ob,h1,h2⟩
  rcases (z42 (o:=st.o) (bs:=[.bld s]) (l:=vs) (tks:=tks)).1 with hb | hb
  · rw [hb] at hib
    cases hib
  · have hm:z48 (z1j st.o [.bld s] tks vs)=z28 [.bld s]:=by simp only [z48,hb]
    have hcall:=hS w X' (fun _=>γ n) (z1j st.o [.bld s] tks vs) xs v [[.bld s']] hsp (h.glob hg) (fun b hb=>h.high hg (hnP b ((hXo b).1 hb))) (by rw [hm]; exact hR) (by
      rw [hm]
      refine z81 h (fun b _ hb=>?_) [.bld s] hv (fun m hm b hr hb=>?_) (fun m hm=>?_)
      · rcases hb with hb | hb
        · exact .inl (hnP b (hP b hb))
        · exact ((hXf b).1 hb).1
      · rcases hb with hb | hb
        · obtain ⟨e,ag,ks,l,h5,h6⟩:=hr
          obtain ⟨ob,h7,h8⟩:=hP b hb
          have hne:n≠m:=by
            rintro rfl
            rw [ho] at h5
            cases h5
          exact h.dis n m ob _ b hne h7 h5 h8 h6
        · exact ((hXf b).1 hb).2.2 m hm hr
      · rw [hl] at hm
        simp only [List.mem_singleton] at hm
        subst hm
        exact ⟨rfl,.inr ⟨s,s,ho,by simp [z28,z00]⟩⟩)
    refine hcall.mono ?_
    rintro e w' ⟨x,he,γ',h1,h2,h3⟩
    simp only [z3s,hb] at h3
    obtain ⟨hf,_,had⟩:=h3
    have hmo:z15 v [[.bld s']]=z28 [.bld s']:=by cases v <;> rfl
    rw [hmo] at h1 h2
    rw [z3i hf] at h2
    refine ⟨x,he,?_⟩
    generalize hF0:(match z0w v with | true=>z0a vs | false=>[])=F0
    have hz:=(z0z st.o F0 (FrzLe.refl _) h).1
    have hon:=zd7 h F0 ho (fun _ _ _ _=>by simp)
    have hob0:z01 (z28 [.bld s']) 900000=some (.bld s'):=by simp [z28,z00]
    have hor:=h1.ob _ _ hob0
    have hor0:=h.ob _ _ ho
    simp only [ObRel] at hor hor0
    obtain ⟨b1,v1,p1,hg1,_⟩:=hor
    obtain ⟨b0,v0,p0,hg0,_⟩:=hor0
    have hbb:b1=b0:=by
      rw [hg1,hg0] at had
      simpa [z7y] using had
    subst hbb
    have hbl:∀ b,z07 γ (st.ups (z06 st.o F0)).o n b↔z07 γ st.o n b:=fun b=>by simp only [z07,hon,ho]
    have hOP:∀ b,z04 (γ' 900000) (.bld s') b→z0h γ' (z28 [.bld s']) b:=fun b hb=>⟨_,_,hob0,hb⟩
    have hsz:=h1.keep.size
    have hlend:=hz.lend (n:=n) (ob':=.bld s') (g':=γ' 900000) hon had h1.keep (K:=X'.own) (fun b _ hb=>.inl ((hbl b).2 ((hXo b).1 hb)))
      (fun b hb=>by
        obtain ⟨q1,q2⟩:=h1.lt b (hOP b hb)
        exact ⟨q1,q2.elim .inr (fun hb=>.inl ((hbl b).2 ((hXo b).1 hb)))⟩)
      (fun O v x hvx=>VRel.leaves (fun m lo hi x hx=>by
          simp only [VRel] at hx ⊢
          rw [z00]
          by_cases e:n=m
          · subst e; simp only [if_true]
          · simp only [if_neg e]; exact hx) (fun m i c x hx=>by
          simp only [VRel] at hx ⊢
          rw [z00]
          by_cases e:n=m
          · subst e
            simp only [if_true]
            rw [hon] at hx
            obtain ⟨rfl,b,v',hg,hxx⟩:=hx
            rw [hg0] at hg
            simp only [Value.tuple.injEq,Array.mk.injEq,List.cons.injEq,Value.pointer.injEq,Option.some.injEq,Addr.mk.injEq,and_true] at hg
            refine ⟨rfl,b1,v1,hg1,?_⟩
            rw [hxx,hg.1]
          · simp only [if_neg e]; exact hx) (fun m c cap sz len x hx=>by
          simp only [VRel] at hx ⊢
          rw [z00]
          by_cases e:n=m
          · subst e; simp only [if_true]
          · simp only [if_neg e]; exact hx) hvx)
      (by
        have hor:=h1.ob _ _ hob0
        simpa only [ObRel,BT.base] using hor)
    have hfin:=hlend.shrink (F:=X.far) (fun b hb=>⟨.inl hb,fun hbb=>by
      obtain ⟨q1,q2⟩:=h1.lt b (hOP b hbb)
      have:=h.fl b hb
      rcases q2 with q2 | q2
      · omega
      · exact h.nr b (hnP b ((hXo b).1 q2)) hb⟩)
    refine ⟨_,by rw [z0n]; exact hfin,?_⟩
    rw [z0n]
    refine zbb hf (fun hhl b hlt hb=>?_) h2
    rw [hhl] at hF0
    simp only at hF0
    rcases hb with ⟨m,ob,hm,hbm⟩ | hb
    · simp only [St.ups,St.up] at hm
      rw [z00] at hm
      by_cases e:n=m
      · subst e
        simp only [if_true,Option.some.injEq] at hm hbm
        subst hm
        exact .inl (hOP b hbm)
      · simp only [if_neg e] at hm hbm
        obtain ⟨q1,q2⟩:=z3f h F0 (b:=b) (.inl ⟨m,ob,hm,hbm⟩)
        refine .inr ((hXf b).2 ⟨q1,fun hbn=>?_,by rw [hF0]; exact q2⟩)
        obtain ⟨ob2,q3,q4⟩:=(hbl b).2 hbn
        exact hz.dis n m ob2 ob b e q3 hm q4 hbm
    · refine .inr ((hXf b).2 ⟨.inr hb,fun hbn=>h.nr b (hnP b hbn) hb,fun m _ ⟨e,ag,ks,l,q1,q2⟩=>h.nr b ⟨m,_,q1,q2⟩ hb⟩)
theorem z6w {o:Store} {all:List Nat} {n:Nat}:∀ {cs:List V},n∈z1h o all cs→∃ lo hi own e ag ks l,.row n lo hi∈cs∧z01 o n=some (.row own e ag ks l)∧(own&&(Nat.beq lo 0&&Nat.beq (occ n all) 1))=false
  | [],h=>by simp [z1h] at h
  | v :: r,h=>by
    have up:n∈z1h o all r→∃ lo hi own e ag ks l,.row n lo hi∈v :: r∧z01 o n=some (.row own e ag ks l)∧(own&&(Nat.beq lo 0&&Nat.beq (occ n all) 1))=false:=fun h'=>by
      obtain ⟨lo,hi,own,e,ag,ks,l,h1,h2,h3⟩:=z6w h'
      exact ⟨lo,hi,own,e,ag,ks,l,List.mem_cons_of_mem _ h1,h2,h3⟩
    cases v
    case row m lo hi=>
      simp only [z1h] at h
      split at h
      · rename_i own e ag ks l hob
        split at h
        · exact up h
        · rename_i hb
          rcases List.mem_cons.1 h with h1 | h1
          · subst h1
            exact ⟨lo,hi,own,e,ag,ks,l,List.mem_cons_self ..,hob,hb⟩
          · exact up h1
      · exact up h
    all_goals exact up h
theorem zlt (h:Rel B nt w0 X γ st a w) (hg:GX B w0 X) {f:FuncId} {sp:zlm} (hS:Snd P B f sp) {vs:List V} {xs:List Value} (hv:VRels γ st.o w (z02 X γ st.o) vs xs) {n:Nat} (hl:z2x vs=[n]) {cs:List V} (ho:z01 st.o n=some (.box cs)) {all:List Nat} (hall:z0c cs++z0a vs=all)
    {tks:List (List Kd)} {v:V} {out:List V} (hsp:sp (z1j st.o (cs.map (z0v st.o all)) tks vs)=some (v,[out])) (hib:zma (z1e (z1j st.o (cs.map (z0v st.o all)) tks vs))=true) {nm:Nat} (hlen:out.length=cs.length) (hnm:n < nm∨nm+out.length≤n) (hn9:nm+out.length≤900000) :
    Does P f xs w fun e w'=>∃ x,e = .returned x∧∃ γ',Rel B nt w0 X γ' (st.ups (z06 st.o (z1h st.o all cs++(match z0w v||z9z out with | true=>z0a vs | false=>[])) ++
          (z3u (z14 st.o all cs)++(.set n (.box (zj3 cs)) :: (z50 nm out++[.set n (.box (z1s nm out))]))))) a w' ∧
      VRel γ' (st.ups (z06 st.o (z1h st.o all cs++(match z0w v||z9z out with | true=>z0a vs | false=>[])) ++
          (z3u (z14 st.o all cs)++(.set n (.box (zj3 cs)) :: (z50 nm out++[.set n (.box (z1s nm out))]))))).o w' (z02 X γ' (st.ups (z06 st.o (z1h st.o all cs++(match z0w v||z9z out with | true=>z0a vs | false=>[])) ++
          (z3u (z14 st.o all cs)++(.set n (.box (zj3 cs)) :: (z50 nm out++[.set n (.box (z1s nm out))]))))).o) v x:=by
  let L:Nat→Prop:=fun b=>z07 γ st.o n b∨∃ m∈z14 st.o all cs,z07 γ st.o m b
  have hLP:∀ b,L b→z0h γ st.o b:=by
    rintro b (⟨ob,h1,h2⟩ | ⟨m,_,ob,h1,h2⟩)
    · exact ⟨n,ob,h1,h2⟩
    · exact ⟨m,ob,h1,h2⟩
  have hbound:=h.bound ho (z0a vs) (w1:=w) (own1:=L) (F:=fun b=>z02 X γ st.o b∧¬ L b∧(∀ m∈z1h st.o all cs,¬ z07 γ st.o m b)∧∀ m∈z0a vs,¬ RowOf γ st.o m b) (Keep.refl _ w)
    (fun b hb=>⟨hb.1,fun h1=>hb.2.1 (.inl h1),fun m hm h1=>hb.2.1 (.inr ⟨m,by rw [← hall]; exact hm,h1⟩),by rw [hall]; exact hb.2.2.1⟩) (fun b hb=>.inr (by rw [hall] at hb; exact hb))
  rw [hall] at hbound
  obtain ⟨γb,hR,hg0,hP⟩:=hbound
  generalize hX':(⟨L,fun b=>z02 X γ st.o b∧¬ L b∧(∀ m∈z1h st.o all cs,¬ z07 γ st.o m b)∧∀ m∈z0a vs,¬ RowOf γ st.o m b⟩:Zone)=X' at hR
  have hXf:∀ b,X'.far b↔(z02 X γ st.o b∧¬ L b∧(∀ m∈z1h st.o all cs,¬ z07 γ st.o m b)∧∀ m∈z0a vs,¬ RowOf γ st.o m b):=fun b=>by rw [← hX']
  have hXo:∀ b,X'.own b↔L b:=fun b=>by rw [← hX']
  have hb:z1e (z1j st.o (cs.map (z0v st.o all)) tks vs)=some (cs.map (z0v st.o all)):=by
    rcases (z42 (o:=st.o) (bs:=cs.map (z0v st.o all)) (l:=vs) (tks:=tks)).1 with hb | hb
    · rw [hb] at hib; cases hib
    · exact hb
  have hm:z48 (z1j st.o (cs.map (z0v st.o all)) tks vs)=z28 (cs.map (z0v st.o all)):=by simp only [z48,hb]
  have hargs:∀ m∈z0a vs,∀ b,RowOf γ st.o m b→¬ L b:=by
    intro m hm b hr hLb
    obtain ⟨e,ag,ks,l,h5,h6⟩:=hr
    rcases hLb with ⟨ob,h7,h8⟩ | ⟨m2,h9,ob,h7,h8⟩
    · have hne:n≠m:=by
        rintro rfl
        rw [ho] at h5
        cases h5
      exact h.dis n m ob _ b hne h7 h5 h8 h6
    · by_cases hne:m2=m
      · subst hne
        obtain ⟨hi2,e2,ag2,ks2,l2,k1,k2,k3⟩:=z26.1 h9
        rw [← hall,z2l] at k3
        have q1:=z6c (z2z k1)
        have q2:=z6c hm
        omega
      · exact h.dis m2 m ob _ b hne h7 h5 h8 h6
  have hok0:∀ v,okC (z0v st.o all v)=true:=by
    intro v
    rcases z43 st.o all v with ⟨_,_,_,_,_,_,_,_,_,h1⟩ | ⟨h1,_⟩
    · rw [h1]; rfl
    · cases hcc:z0v st.o all v <;> first | rfl | (rw [hcc] at h1; cases h1)
  have hcall:=hS w X' γb (z1j st.o (cs.map (z0v st.o all)) tks vs) xs v [out] hsp (h.glob hg) (fun b hb=>h.high hg (hLP b ((hXo b).1 hb))) (by rw [hm]; exact hR) (by
    rw [hm]
    refine z81 h (fun b _ hb=>?_) _ hv (fun m hm b hr hb=>?_) (fun m hm=>?_)
    · rcases hb with hb | hb
      · exact .inl (hLP b (hP b hb))
      · exact ((hXf b).1 hb).1
    · rcases hb with hb | hb
      · exact hargs m hm b hr (hP b hb)
      · exact ((hXf b).1 hb).2.2.2 m hm hr
    · rw [hl] at hm
      simp only [List.mem_singleton] at hm
      subst hm
      exact ⟨hg0,.inl ⟨cs,_,ho,by rw [z6k (List.all_eq_true.2 (fun v hv=>by obtain ⟨u,_,rfl⟩:=List.mem_map.1 hv; exact hok0 u)),z00,if_pos rfl]⟩⟩)
  refine hcall.mono ?_
  rintro e w' ⟨x,he,γ',h1,h2,h3⟩
  simp only [z3s,hb] at h3
  obtain ⟨hf,hsk,had⟩:=h3
  have hok:out.all okC=true:=by
    unfold zey at hsk
    split at hsk
    · rename_i s s' hcs
      cases cs with
      | nil=>simp at hcs
      | cons u r=>
        simp only [List.map_cons,List.cons.injEq] at hcs
        have:=hok0 u
        rw [hcs.1] at this
        cases this
    · cases hsk
    · exact hsk
  have hmo:z15 v [out]=z28 out:=by cases v <;> rfl
  rw [hmo] at h1 h2
  rw [z3i hf] at h2
  refine ⟨x,he,?_⟩
  generalize hF0:z1h st.o all cs++(match z0w v||z9z out with | true=>z0a vs | false=>[])=F0
  have hz:=(z0z st.o F0 (FrzLe.refl _) h).1
  have hzf:=(z0z st.o F0 (FrzLe.refl _) h).2.1
  have hon:=zd7 h F0 ho (fun _ _ _ _=>by simp)
  obtain ⟨hk,hkt,hko⟩:=zg4 (z14 st.o all cs) hz
  have hnh:n ∉ z14 st.o all cs:=by
    intro hn
    obtain ⟨_,_,_,_,_,_,q,_⟩:=z26.1 hn
    rw [ho] at q
    cases q
  have hon2:z01 ((st.ups (z06 st.o F0)).ups (z3u (z14 st.o all cs))).o n=some (.box cs):=by rw [hko,if_neg hnh]; exact hon
  have hor0:=h.ob _ _ ho
  simp only [ObRel] at hor0
  obtain ⟨b0,c0,T0,hgn,hh0,hr0⟩:=hor0
  have hob0:z01 (z28 out) 900000=some (.box (z1s 900001 out)):=by rw [z6k hok,z00,if_pos rfl]
  have hor:=h1.ob _ _ hob0
  simp only [ObRel] at hor
  obtain ⟨b1,c,T,hg,hh,hr⟩:=hor
  have hbb:b1=b0:=by
    rw [hg,hg0,hgn] at had
    simpa [z7y] using had
  subst hbb
  have hg':γ' 900000=γ n:=by rw [hg,hgn]
  have hsz:=h1.keep.size
  have hbn:∀ b,z07 γ st.o n b↔b=b1:=by
    intro b
    constructor
    · rintro ⟨ob,h5,h6⟩
      rw [ho] at h5
      cases h5
      obtain ⟨ad,h7,h8⟩:=h6
      rw [hgn] at h7
      cases h7
      exact h8.symm
    · rintro rfl
      exact ⟨_,ho,_,hgn,rfl⟩
  have hbn2:∀ b,z07 γ ((st.ups (z06 st.o F0)).ups (z3u (z14 st.o all cs))).o n b↔b=b1:=by
    intro b
    rw [← hbn b]
    simp only [z07,hon2,ho]
  have hbx:∀ l b,z04 (γ n) (.box l) b↔b=b1:=by
    intro l b
    rw [← hbn b]
    simp only [z07,ho,Option.some.injEq,exists_eq_left',z04]
  have hhb:∀ m∈z14 st.o all cs,∀ b,z07 γ st.o m b→z07 γ (st.ups (z06 st.o F0)).o m b:=by
    rintro m hm b ⟨ob,h5,h6⟩
    obtain ⟨hi2,e2,ag2,ks2,l2,k1,k2,k3⟩:=z26.1 hm
    refine ⟨ob,?_,h6⟩
    rw [(z0z st.o F0 (FrzLe.refl _) h).2.2.2.2 m ?_]
    · exact h5
    · intro hmF
      rw [← hF0] at hmF
      rcases List.mem_append.1 hmF with h7 | h7
      · obtain ⟨lo3,hi3,own3,e3,ag3,ks3,l3,q1,q2,q3⟩:=z6w h7
        obtain ⟨i1,hi1⟩:=List.mem_iff_getElem?.1 k1
        obtain ⟨i2,hi2⟩:=List.mem_iff_getElem?.1 q1
        rw [← hall,z2l] at k3
        rcases Nat.lt_trichotomy i1 i2 with hlt | hlt | hlt
        · have:=z7r hlt hi1 hi2
          omega
        · subst hlt
          rw [hi1] at hi2
          simp only [Option.some.injEq,V.row.injEq,true_and] at hi2
          obtain ⟨rfl,rfl⟩:=hi2
          rw [k2] at q2
          simp only [Option.some.injEq,Ob.row.injEq] at q2
          obtain ⟨rfl,_⟩:=q2
          rw [← hall,z2l,k3] at q3
          simp at q3
        · have:=z7r hlt hi2 hi1
          omega
      · have q1:m∈z0a vs:=by
          split at h7
          · exact h7
          · cases h7
        rw [← hall,z2l] at k3
        have:=z6c (z2z k1)
        have:=z6c q1
        omega
  have hlend:=hk.lend (n:=n) (ob':=.box (zj3 cs)) (g':=γ n) hon2 rfl h1.keep (K:=X'.own)
    (fun b hlt hb=>by
      have hLb:=(hXo b).1 hb
      rcases hLb with h5 | ⟨m,h6,h7⟩
      · exact .inl ((hbn2 b).2 ((hbn b).1 h5))
      · refine .inr ⟨.inr ⟨m,h6,hhb m h6 b h7⟩,?_⟩
        exact (h.lt b (hLP b (.inr ⟨m,h6,h7⟩))).2)
    (fun b hb=>by
      have:=(hbx _ b).1 hb
      subst this
      exact ⟨Nat.lt_of_lt_of_le (h.lt _ ⟨n,_,ho,(hbx _ _).2 rfl⟩).1 hsz,.inl ((hbn2 _).2 rfl)⟩)
    (fun O v x hvx=>by
      refine VRel.cmp ?_ hvx
      intro m ob1 hm
      refine ⟨by by_cases e:n=m <;> simp [e],?_⟩
      rw [z00] at hm
      by_cases e:n=m
      · subst e
        simp only [if_true,Option.some.injEq] at hm
        subst hm
        exact ⟨_,hon2,by simp [Ob.fits,z92]⟩
      · rw [if_neg e] at hm
        exact ⟨ob1,hm,ob1.fits_refl⟩)
    (by
      simp only [ObRel]
      refine ⟨b1,c,T,hgn,hh,?_⟩
      have hcl:=hr.length
      rw [z2k,hlen] at hcl
      refine VRels.of_get (by rw [z92,List.length_map,hcl]) (fun j v x hv hx=>?_)
      rw [z92,List.getElem?_map] at hv
      cases hcj:cs[j]? with
      | none=>rw [hcj] at hv; cases hv
      | some u=>
        rw [hcj] at hv
        simp only [Option.map_some,Option.some.injEq] at hv
        subst hv
        simp only [VRel])
  obtain ⟨br1,br2,br3⟩:=zfe hok h1
  have hPf:∀ b,z0h γ' (z28 out) b→(w.heap.size≤b∧b < w'.heap.size)∨L b:=fun b hb=>by
    obtain ⟨q1,q2⟩:=h1.lt b hb
    rcases q2 with q2 | q2
    · exact .inl ⟨q2,q1⟩
    · exact .inr ((hXo b).1 q2)
  have hb1P:z0h γ' (z28 out) b1:=⟨900000,_,hob0,⟨_,hg,rfl⟩⟩
  have hLb1:L b1:=.inl ((hbn b1).2 rfl)
  have hsh:=hlend.shrink (F:=fun b=>(X.far b∨z0h γ' (z28 out) b)∧b≠b1) (fun b hb=>by
    refine ⟨?_,fun hbb=>hb.2 ((hbx _ b).1 hbb)⟩
    rcases hb.1 with h5 | h5
    · exact .inl (.inl h5)
    · rcases hPf b h5 with h6 | h6 | ⟨m,h6,h7⟩
      · exact .inr h6
      · exact absurd ((hbn b).1 h6) hb.2
      · exact .inl (.inr ⟨m,h6,hhb m h6 b h7⟩))
  have hfarX:∀ b,X.far b→X'.far b:=fun b hb=>(hXf b).2 ⟨.inr hb,fun hL=>h.nr b (hLP b hL) hb,fun m _ ⟨ob,q1,q2⟩=>h.nr b ⟨m,ob,q1,q2⟩ hb,fun m _ ⟨e,ag,ks,l,q1,q2⟩=>h.nr b ⟨m,_,q1,q2⟩ hb⟩
  have hO1:∀ b,z02 ⟨X.own,fun b=>(X.far b∨z0h γ' (z28 out) b)∧b≠b1⟩ (fun m=>if n=m then γ n else γ m) (((st.ups (z06 st.o F0)).ups (z3u (z14 st.o all cs))).up (.set n (.box (zj3 cs)))).o b →
      ((z0w v||z9z out)=true→z02 X' γ' (z28 out) b):=by
    intro b hb hflag
    rcases hb with ⟨m,ob,hm,hbm⟩ | ⟨hb | hb,_⟩
    · simp only [St.up] at hm
      rw [z00] at hm
      by_cases e:n=m
      · subst e
        simp only [if_true,Option.some.injEq] at hm hbm
        subst hm
        have:=(hbx _ b).1 hbm
        subst this
        exact .inl hb1P
      · simp only [if_neg e] at hm hbm
        rw [hko] at hm
        split at hm
        · cases hm
        rename_i hmh
        obtain ⟨q1,q2⟩:=z3f h F0 (b:=b) (.inl ⟨m,ob,hm,hbm⟩)
        refine .inr ((hXf b).2 ⟨q1,fun hL=>?_,fun m' hm' hbl=>?_,fun m' hm'=>?_⟩)
        · rcases hL with h5 | ⟨m2,h5,h6⟩
          · obtain ⟨ob2,q3,q4⟩:z07 γ (st.ups (z06 st.o F0)).o n b:=⟨_,hon,(hbx _ b).2 ((hbn b).1 h5)⟩
            exact hz.dis n m ob2 ob b e q3 hm q4 hbm
          · obtain ⟨ob2,q3,q4⟩:=hhb m2 h5 b h6
            exact hz.dis m2 m ob2 ob b (fun e=>hmh (e ▸ h5)) q3 hm q4 hbm
        · obtain ⟨lo3,hi3,own3,e3,ag3,ks3,l3,p1,p2,p3⟩:=z6w hm'
          obtain ⟨ob2,q3,q4⟩:=hbl
          rw [p2,Option.some.injEq] at q3
          subst q3
          cases own3 with
          | false=>exact q4.elim
          | true=>exact q2 m' (by rw [← hF0]; exact List.mem_append_left _ hm') ⟨e3,ag3,ks3,l3,p2,q4⟩
        · refine q2 m' ?_
          rw [← hF0,hflag]
          exact List.mem_append_right _ hm'
    · exact .inr (hfarX b hb)
    · exact .inl hb
  have hrows:=z6i (B':=B.base) (O1:=fun b=>z9z out=true→z02 X' γ' (z28 out) b) (g:=fun j=>γ' (900001+j)) nm out 0 (by omega) hsh (fun b hb hal=>hO1 b hb (by simp [hal])) (fun j e ag ks l hj=>by
      rw [Nat.zero_add]
      obtain ⟨q1,q2⟩:=br1 (fun m=>if n=m then γ n else γ m) j e ag ks l hj
      refine ⟨q1,fun b hb=>⟨⟨.inr (q2 b hb),?_⟩,?_⟩⟩
      · rintro rfl
        exact br3 j e ag ks l _ hj hb ⟨_,hob0,_,hg,rfl⟩
      · rcases hPf b (q2 b hb) with h5 | h5
        · exact .inl (Nat.le_trans h.keep.size h5.1)
        · exact (h.lt b (hLP b h5)).2)
    (fun i j e ag ks l e' ag' ks' l' b hij q1 q2 q3 q4=>by
      rw [Nat.zero_add] at q3 q4
      exact br2 i j e ag ks l e' ag' ks' l' b hij q1 q2 q3 q4)
  obtain ⟨γ4,F4,r1,r2,r3,r4,r5,r6⟩:=hrows
  simp only [Nat.add_zero,Nat.zero_add] at r1 r3 r4 r5 r6
  obtain ⟨hγn,hobn,_⟩:=r6 n hnm
  have hon4:=hobn cs (by simp only [St.up,z00,if_true])
  simp only [if_true] at hγn
  have hset:=r1.set (n:=n) (ob':=.box (z1s nm out)) hon4 (by simp only [Ob.fits,z92,List.length_map,z2k,hlen]) (Keep.refl _ w') (fun b hb=>hb) (fun hown hcmp=>by
    simp only [ObRel]
    refine ⟨b1,c,T,by rw [hγn,hgn],hh,zcx hok h1 hr (fun j e ag ks l hj=>?_) (fun hal b _ hb=>hO1 b (r4 b (hown b hb)) (by simp [hal]))⟩
    obtain ⟨q1,q2⟩:=r5 j e ag ks l hj
    refine ⟨q1,?_⟩
    have hjl:j < out.length:=by
      rcases Nat.lt_or_ge j out.length with h' | h'
      · exact h'
      · rw [List.getElem?_eq_none h'] at hj; cases hj
    rw [z00,if_neg (by omega)]
    exact q2)
  have hfin:=hset.shrink (F:=X.far) (fun b hb=>by
    refine r3 b ⟨.inl hb,fun e=>h.nr b (hLP b (e ▸ hLb1)) hb⟩ (fun j e ag ks l hj hbj=>?_)
    rcases hPf b ((br1 γ j e ag ks l hj).2 b hbj) with h5 | h5
    · have:=h.fl b hb
      omega
    · exact h.nr b (hLP b h5) hb)
  have hst:(st.ups (z06 st.o F0++(z3u (z14 st.o all cs)++(.set n (.box (zj3 cs)) :: (z50 nm out++[.set n (.box (z1s nm out))]))))) =
      (((((st.ups (z06 st.o F0)).ups (z3u (z14 st.o all cs))).up (.set n (.box (zj3 cs)))).ups (z50 nm out)).up (.set n (.box (z1s nm out)))):=by
    rw [z0n,z0n]
    simp only [St.ups]
    rw [z0n]
    rfl
  rw [hst]
  refine ⟨_,hfin,zbb hf (fun hhl b _ hb=>?_) h2⟩
  rcases hb with ⟨m,ob,hm,hbm⟩ | hb
  · simp only [St.up] at hm
    rw [z00] at hm
    refine hO1 b (r4 b (.inl ?_)) (by simp [hhl])
    by_cases e:n=m
    · subst e
      simp only [if_true,Option.some.injEq] at hm
      subst hm
      exact ⟨n,_,hon4,hbm⟩
    · rw [if_neg e] at hm
      exact ⟨m,ob,hm,hbm⟩
  · exact .inr (hfarX b hb)
end
open Go Go.RowKit
theorem zhi (k:Int):∀ es:List (Int × IV),z5w es k≤es.length
  | []=>Nat.le_refl _
  | (j,x) :: r=>by
    rw [z5w,List.length_cons]
    have:=zhi k r
    cases j==k <;> simp only [cond_true,cond_false] <;> omega
theorem zaw (x:IV):∀ (es:List (Int × IV)) (i:Nat),(zjl es i x).length=es.length
  | [],_=>rfl
  | (j,y) :: r,0=>rfl
  | (j,y) :: r,i+1=>by rw [zjl,List.length_cons,zaw x r i,List.length_cons]
theorem zih (x:IV):∀ (es:List (Int × IV)) (i j:Nat),(zjl es i x)[j]?=(es[j]?).map fun e=>if j=i then (e.1,x) else e
  | [],i,j=>by simp [zjl]
  | (k,y) :: r,0,0=>by simp [zjl]
  | (k,y) :: r,0,j+1=>by
    rw [zjl,List.getElem?_cons_succ,List.getElem?_cons_succ]
    cases r[j]? <;> simp
  | e :: r,i+1,0=>by simp [zjl]
  | e :: r,i+1,j+1=>by
    rw [zjl,List.getElem?_cons_succ,List.getElem?_cons_succ,zih x r i j]
    congr 1
    funext e
    by_cases h:j=i
    · rw [if_pos h,if_pos (by omega)]
    · rw [if_neg h,if_neg (by omega)]
theorem zi6 (k:Int):∀ (es:List (Int × IV)) (l:List MapEntry) (i:Nat),l.length=es.length→(∀ (j:Nat) (e:Int × IV),es[j]?=some e→∃ m,l[j]?=some m∧m.key = .int .i64 e.1) →
    (z5w es k < es.length→∃ m,l[z5w es k]?=some m∧m.key = .int .i64 k∧Instr.findNow (.int .i64) (.int .i64 k) l i=some (some (i+z5w es k,m.val))) ∧
    (¬ z5w es k < es.length→Instr.findNow (.int .i64) (.int .i64 k) l i=some none)
  | [],[],i,_,_=>⟨fun h=>by simp at h,fun _=>rfl⟩
  | [],_ :: _,i,h,_=>by simp at h
  | _ :: _,[],i,h,_=>by simp at h
  | (j,x) :: r,m :: l,i,hl,h=>by
    obtain ⟨m',hm,hkey⟩:=h 0 (j,x) rfl
    obtain rfl:m=m':=by simpa using hm
    have hs:Instr.sameNow (.int .i64) (.int .i64 k) m.key=some (k==j):=by rw [hkey]; simp [Instr.sameNow]
    rw [z5w]
    by_cases e:j=k
    · subst e
      rw [beq_self_eq_true,cond_true]
      refine ⟨fun _=>⟨m,rfl,hkey,?_⟩,fun h=>absurd (Nat.zero_lt_succ _) h⟩
      rw [Instr.findNow,hs,beq_self_eq_true]
      simp
    · have e1:(j==k)=false:=by simpa using e
      have e2:(k==j)=false:=by simpa using fun h:k=j=>e h.symm
      rw [e1,cond_false,List.length_cons]
      obtain ⟨h1,h2⟩:=zi6 k r l (i+1) (by simpa using hl) (fun j' e' he'=>h (j'+1) e' (by simpa using he'))
      refine ⟨fun hlt=>?_,fun hlt=>?_⟩
      · obtain ⟨m',g1,g2,g3⟩:=h1 (by omega)
        refine ⟨m',by simpa using g1,g2,?_⟩
        rw [Instr.findNow,hs,e2]
        simp only [g3]
        congr 3
        omega
      · rw [Instr.findNow,hs,e2]
        exact h2 (by omega)
theorem za7 {γ:Nat→Value} {o:Store} {w:World} {O:Nat→Prop} {k:Kd} (hk:zhh k=true) {v:V} {y:IV} (hy:z45 o k v=some y) {x:Value} (hv:VRel γ o w O v x) (w':World) (O':Nat→Prop):Kd.Rel w' O' k y x:=by
  cases k <;> simp only [zhh] at hk <;> try (cases hk; done)
  all_goals
    cases v <;> simp only [z45] at hy <;> try (cases hy; done)
  · rename_i k k' n
    cases hkk:k==k' with
    | false=>rw [hkk] at hy; cases hy
    | true=>
      rw [hkk] at hy
      obtain rfl:=Option.some.inj hy
      obtain rfl:k=k':=by simpa using hkk
      simp only [VRel] at hv
      simp only [Kd.Rel,IV.toInt]
      exact hv
  · obtain rfl:=Option.some.inj hy
    simp only [VRel] at hv
    simp only [Kd.Rel,IV.toBool]
    exact hv
  · obtain rfl:=Option.some.inj hy
    simp only [VRel] at hv
    simp only [Kd.Rel,IV.toStr]
    exact hv
section
variable {w w':World} {O O':Nat→Prop} {vk:Kd} {es:List (Int × IV)} {ents:Array MapEntry}
theorem EntRel.find (h:EntRel w O vk es ents) (k:Int) :
    (z5w es k < es.length→∃ m,ents[z5w es k]?=some m∧m.key = .int .i64 k∧m.born=z5w es k∧Kd.Rel w O vk (zgz vk es k) m.val∧Instr.findNow (.int .i64) (.int .i64 k) ents.toList 0=some (some (z5w es k,m.val))) ∧
    (¬ z5w es k < es.length→zgz vk es k=z4d vk∧Instr.findNow (.int .i64) (.int .i64 k) ents.toList 0=some none):=by
  obtain ⟨h1,h2⟩:=zi6 k es ents.toList 0 (by simpa using h.1) (fun j e he=>by
    obtain ⟨v,g1,_⟩:=h.2 j e he
    exact ⟨_,by simpa using g1,rfl⟩)
  refine ⟨fun hlt=>?_,fun hlt=>⟨?_,h2 hlt⟩⟩
  · obtain ⟨m,g1,g2,g3⟩:=h1 hlt
    obtain ⟨v,q1,q2⟩:=h.2 (z5w es k) es[z5w es k] (List.getElem?_eq_getElem hlt)
    have g1':ents[z5w es k]?=some m:=by simpa using g1
    rw [g1'] at q1
    obtain rfl:=Option.some.inj q1
    refine ⟨_,g1',g2,rfl,?_,by simpa using g3⟩
    unfold zgz zp6
    rw [List.getElem?_eq_getElem hlt]
    exact q2.1
  · unfold zgz zp6
    rw [List.getElem?_eq_none (by omega)]
    rfl
theorem EntRel.set (h:EntRel w O vk es ents) (hk:Keep O w w') (hO:∀ b,b < w.heap.size→O' b→O b) {i:Nat} {x:IV} {u:Value} (hu:Kd.Rel w' O' vk x u) (f:MapEntry→MapEntry) (hf:∀ m,ents[i]?=some m→(f m).key=m.key∧(f m).val=u∧(f m).born=m.born) :
    EntRel w' O' vk (zjl es i x) (ents.modify i f):=by
  refine ⟨by rw [zaw,Array.size_modify]; exact h.1,fun j e he=>?_⟩
  rw [zih] at he
  cases hj:es[j]? with
  | none=>rw [hj] at he; cases he
  | some e0=>
    rw [hj] at he
    obtain ⟨v,g1,g2⟩:=h.2 j e0 hj
    simp only [Option.map_some,Option.some.injEq] at he
    rw [Array.getElem?_modify,g1]
    by_cases e:j=i
    · subst e
      rw [if_pos rfl] at he
      subst he
      obtain ⟨f1,f2,f3⟩:=hf _ g1
      refine ⟨u,?_,hu,g2.2⟩
      rw [if_pos rfl,Option.map_some]
      congr 1
      generalize f { key:=Value.int IntKind.i64 e0.fst,val:=v,born:=j }=m at f1 f2 f3
      obtain ⟨a,b,c⟩:=m
      simp only at f1 f2 f3
      rw [f1,f2,f3]
    · rw [if_neg e] at he
      subst he
      exact ⟨v,by rw [if_neg (fun h=>e h.symm)],KRel.mono hk hO g2⟩
theorem EntRel.same (h:EntRel w O vk es ents) (hk:Keep O w w') (hO:∀ b,b < w.heap.size→O' b→O b) {i:Nat} (f:MapEntry→MapEntry) (hf:∀ m,ents[i]?=some m→f m=m):EntRel w' O' vk es (ents.modify i f):=by
  refine ⟨by rw [Array.size_modify]; exact h.1,fun j e he=>?_⟩
  obtain ⟨v,g1,g2⟩:=h.2 j e he
  refine ⟨v,?_,KRel.mono hk hO g2⟩
  rw [Array.getElem?_modify,g1]
  by_cases e:i=j
  · subst e
    rw [if_pos rfl,Option.map_some,hf _ g1]
  · rw [if_neg e]
theorem EntRel.push (h:EntRel w O vk es ents) (hk:Keep O w w') (hO:∀ b,b < w.heap.size→O' b→O b) {k:Int} {x:IV} {u:Value} (hu:Kd.Rel w' O' vk x u) (hkb:IntKind.i64.min≤k∧k≤IntKind.i64.max):EntRel w' O' vk (es++[(k,x)]) (ents.push ⟨.int .i64 k,u,es.length⟩):=by
  refine ⟨by rw [Array.size_push,List.length_append,h.1]; rfl,fun j e he=>?_⟩
  by_cases hj:j < es.length
  · rw [List.getElem?_append_left hj] at he
    obtain ⟨v,g1,g2⟩:=h.2 j e he
    refine ⟨v,?_,KRel.mono hk hO g2⟩
    rw [Array.getElem?_push,if_neg (by rw [h.1]; omega)]
    exact g1
  · rw [List.getElem?_append_right (by omega)] at he
    have hj0:j - es.length=0:=by
      rcases Nat.eq_zero_or_pos (j - es.length) with e | e
      · exact e
      · rw [List.getElem?_eq_none (by simp only [List.length_singleton]; omega)] at he
        cases he
    rw [hj0] at he
    obtain rfl:(k,x)=e:=by simpa using he
    have e1:j=es.length:=by omega
    subst e1
    refine ⟨u,?_,hu,hkb⟩
    rw [Array.getElem?_push,if_pos h.1.symm]
end
section
variable {B:BT} {nt:Nat} {w0:World} {X:Zone} {γ:Nat→Value} {st st':St} {a:Act} {w:World} {P:Program} {E:Env}
theorem zax (hT:TiOK P B E) {t e:Nat} {k:Kd} (hd:(E.tyd t).d = .map e k):∃ kt i z,P.underlying t=some (.map kt e)∧P.underlying kt=some (.int .i64)∧P.info? e=some i∧i.zero=some z∧zgx k z:=by
  obtain ⟨d,h1,_,h2⟩:=(hT.desc (t:=t) (by rw [hd]; simp)).und
  rw [hd] at h2
  obtain ⟨kt,i,z,rfl,h3⟩:=h2
  exact ⟨kt,i,z,h1,h3⟩
theorem zeh {b:Nat} (o:Obj):Keep (fun x=>x=b) w { w with heap:=w.heap.setIfInBounds b o }:=
  ⟨rfl,rfl,rfl,by simp,fun j _ hj=>Array.getElem?_setIfInBounds_ne (fun h:b=j=>hj h.symm)⟩
theorem zjr (h:Rel B nt w0 X γ st a w) (o:Oper) (hd9:∀ d,o.dst=some d→d≠900000) {t:Nat} {r:Option Operand} (ho:o.op = .makeMap t r) {v:V} {us:List Upd}
    (he:(z0r E st.o (opd st) o.dst o.op).get=some (v,us)):OpWp P B nt w0 X a w o st v us:=by
  rw [ho] at he
  simp only [z0r] at he
  split at he
  · rename_i d e k hdst hd
    split at he
    · rename_i hk
      simp only [T.get,Option.some.injEq,Prod.mk.injEq] at he
      obtain ⟨rfl,rfl⟩:=he
      have hn:=Rel.new h [] d (hd9 d hdst) (.map k []) (.map (some w.heap.size)) (w':=w.alloc (.map #[] 0)) (Keep.alloc _ w _)
        (by
          intro b hb
          simp only [z04,Value.map.injEq,Option.some.injEq] at hb
          subst hb
          exact ⟨by simp,.inl (Nat.le_refl _)⟩)
        (by
          intro O' hO hcmp
          simp only [ObRel]
          exact ⟨hk,w.heap.size,#[],rfl,heap_alloc_new w _,rfl,fun i e he=>by simp at he⟩)
      refine OpWp.value (x:=.map (some w.heap.size)) (w':=w.alloc (.map #[] 0)) ?_ hn ?_
      · unfold execOp
        simp only [ho]
        rfl
      · simp only [St.ups,VRel,z03,if_true]
    · simp [T.get] at he
  · simp [T.get] at he
theorem zeb (h:Rel B nt w0 X γ st a w) {x:Operand} {z:Int} (hx:opd st x = .int .i64 z):a.eval x = .int .i64 z:=by
  have:=z0d h x
  rw [hx] at this
  simp only [VRel] at this
  exact this.1
theorem zia (h:Rel B nt w0 X γ st a w) {x:Operand} {z:Int} (hx:opd st x = .int .i64 z):IntKind.i64.min≤z∧z≤IntKind.i64.max:=by
  have:=z0d h x
  rw [hx] at this
  simp only [VRel] at this
  exact this.2
theorem zbk (h:Rel B nt w0 X γ st a w) {x:Operand} {n i c:Nat} (hx:opd st x = .ptr n i c) {vk:Kd} {es:List (Int × IV)} (ho:z01 st.o n=some (.map vk es)) :
    zhh vk=true∧∃ b ents,a.eval x = .map (some b)∧γ n = .map (some b)∧w.heap[b]?=some (.map ents es.length)∧EntRel w (z02 X γ st.o) vk es ents:=by
  have hv:=z0d h x
  rw [hx] at hv
  simp only [VRel,ho] at hv
  obtain ⟨h0,b,ents,hg,h1,h2⟩:=h.ob n _ ho
  exact ⟨h0,b,ents,by rw [hv,hg],hg,h1,h2⟩
theorem zgb (hT:TiOK P B E) (h:Rel B nt w0 X γ st a w) (o:Oper) {t:Nat} {m k x:Operand} (ho:o.op = .insert t m k x∨o.op = .mapUpdate t m k x) {v:V} {us:List Upd}
    (he:(z0r E st.o (opd st) o.dst o.op).get=some (v,us)):OpWp P B nt w0 X a w o st v us:=by
  have hev:(match opd st m,opd st k,(E.tyd t).d with
    | .ptr n _ _,.int .i64 z,.map _ _=>match z01 st.o n with
      | some (.map vk es)=>match z45 st.o vk (opd st x) with
        | some x=>T.ok .any [.set n (.map vk (z5r es z x))]
        | none=>.no
      | _=>.no
    | _,_,_=>.no).get=some (v,us):=by
    rcases ho with ho | ho <;> (rw [ho] at he; exact he)
  clear he
  split at hev
  · rename_i n i c z e k' hm hz hd
    split at hev
    · rename_i vk es hob
      split at hev
      · rename_i y hy
        simp only [T.get,Option.some.injEq,Prod.mk.injEq] at hev
        obtain ⟨rfl,rfl⟩:=hev
        obtain ⟨kt,_,_,hu,hku,_⟩:=zax hT hd
        obtain ⟨hk,b,ents,hmv,hg,hb,hE⟩:=zbk h hm hob
        have hzv:=zeb h hz
        have hkey:MapKept.IsKey (.int .i64) (.int .i64 z):=rfl
        have hxr:∀ w' O',Kd.Rel w' O' vk y (a.eval x):=fun w' O'=>za7 hk hy (z0d h x) w' O'
        obtain ⟨f1,f2⟩:=hE.find z
        have hex:∃ ents',(Instr.mapUpdate t (.map (some b)) (.int .i64 z) (a.eval x)).run P w = .ok () { w with heap:=w.heap.setIfInBounds b (.map ents' (z5r es z y).length) } ∧
            ∀ O':Nat→Prop,(∀ b,b < w.heap.size→O' b→z02 X γ st.o b)→Keep (z02 X γ st.o) w { w with heap:=w.heap.setIfInBounds b (.map ents' (z5r es z y).length) }→EntRel { w with heap:=w.heap.setIfInBounds b (.map ents' (z5r es z y).length) } O' vk (z5r es z y) ents':=by
          unfold z5r
          cases hlt:Nat.blt (z5w es z) es.length with
          | true=>
            obtain ⟨m0,g1,g2,g3,g4,g5⟩:=f1 (Nat.le_of_ble_eq_true hlt)
            refine ⟨ents.modify (z5w es z) fun e=>{ e with key:=.int .i64 z,val:=a.eval x },?_,fun O' hO hkp=>?_⟩
            · simp [Instr.mapUpdate,run_underlying hu,MapKept.run_getObj_map hb,MapKept.run_checkKey hku hkey,MapKept.run_findKey hku g5,g1,g2,MapKept.run_keyThatStays hkey,MapKept.run_setObj_map _ hb,Result.andThen,zaw]
            · exact hE.set hkp hO (hxr _ _) _ fun m1 hm1=>by
                rw [g1] at hm1
                obtain rfl:=Option.some.inj hm1
                exact ⟨g2.symm,rfl,rfl⟩
          | false=>
            obtain ⟨g1,g2⟩:=f2 (fun hh=>by
              have:Nat.blt (z5w es z) es.length=true:=Nat.ble_eq_true_of_le hh
              rw [hlt] at this
              cases this)
            refine ⟨ents.push ⟨.int .i64 z,a.eval x,es.length⟩,?_,fun O' hO hkp=>?_⟩
            · simp [Instr.mapUpdate,run_underlying hu,MapKept.run_getObj_map hb,MapKept.run_checkKey hku hkey,MapKept.run_findKey hku g2,MapKept.run_setObj_map _ hb,Result.andThen]
            · exact hE.push hkp hO (hxr _ _) (zia h hz)
        obtain ⟨ents',hrun,hent⟩:=hex
        have hkp:Keep (z04 (γ n) (.map vk es)) w { w with heap:=w.heap.setIfInBounds b (.map ents' (z5r es z y).length) }:=(zeh _).mono fun j _ hj=>by rw [hj]; exact hg
        refine OpWp.skip (w':={ w with heap:=w.heap.setIfInBounds b (.map ents' (z5r es z y).length) }) ?_ (Rel.set h (ob':=.map vk (z5r es z y)) hob rfl hkp (fun b hb=>hb) (fun hO hcmp=>?_))
        · rcases ho with ho | ho <;> (unfold execOp; simp only [ho,hmv,hzv,Sem.run_bind,hrun,Result.andThen_ok,Sem.run_pure])
        · simp only [ObRel]
          refine ⟨hk,b,ents',hg,(MapKept.heap_set hb).1,hent _ (fun b _ hb=>hO b hb) (hkp.mono fun j _ hj=>.inl ⟨n,_,hob,hj⟩)⟩
      · simp [T.get] at hev
    · simp [T.get] at hev
  · simp [T.get] at hev
theorem zce {w:World} {O:Nat→Prop}:∀ {k:Kd} {z:Value},zgx k z→Kd.Rel w O k (z4d k) z
  | .int k,z,h=>by
    simp only [zgx] at h
    subst h
    simp only [Kd.Rel,z4d,IV.toInt]
    cases k <;> decide
  | .bool,z,h=>by
    simp only [zgx] at h
    subst h
    simp only [Kd.Rel,z4d,IV.toBool]
  | .str,z,h=>by
    simp only [zgx] at h
    subst h
    simp only [Kd.Rel,z4d,IV.toStr]
    exact ⟨trivial,Nat.zero_le _⟩
  | .list _ _,z,h=>by simp only [zgx] at h
theorem zkw (hT:TiOK P B E) (h:Rel B nt w0 X γ st a w) (o:Oper) {t:Nat} {m k:Operand} {ok:Bool} (ho:o.op = .lookup t m k ok) {v:V} {us:List Upd}
    (he:(z0r E st.o (opd st) o.dst o.op).get=some (v,us)):OpWp P B nt w0 X a w o st v us:=by
  rw [ho] at he
  simp only [z0r] at he
  split at he
  · rename_i n i c z e vk' hm hz hd
    split at he
    · rename_i vk es hob
      obtain ⟨kt,zi,zv,hu,hku,hi,hzi,hzk⟩:=zax hT hd
      obtain ⟨hk,b,ents,hmv,hg,hb,hE⟩:=zbk h hm hob
      have hzv:=zeb h hz
      have hkey:MapKept.IsKey (.int .i64) (.int .i64 z):=rfl
      obtain ⟨f1,f2⟩:=hE.find z
      have key:zaq vk vk'=true→∃ u,(∀ ok,(Instr.lookup t (.map (some b)) (.int .i64 z) ok).run P w = .ok (if ok then .tuple #[u,.bool (Nat.blt (z5w es z) es.length)] else u) w)∧Kd.Rel w (z02 X γ st.o) vk (zgz vk es z) u:=by
        intro hkk
        obtain rfl:=z7o hkk
        cases hlt:Nat.blt (z5w es z) es.length with
        | true=>
          obtain ⟨m0,g1,g2,g3,g4,g5⟩:=f1 (Nat.le_of_ble_eq_true hlt)
          refine ⟨m0.val,fun ok=>?_,g4⟩
          cases ok <;> simp [Instr.lookup,run_underlying hu,MapKept.run_getObj_map hb,MapKept.run_checkKey hku hkey,MapKept.run_findKey hku g5,Result.andThen]
        | false=>
          obtain ⟨g1,g2⟩:=f2 (fun hh=>by
            have:Nat.blt (z5w es z) es.length=true:=Nat.ble_eq_true_of_le hh
            rw [hlt] at this
            cases this)
          refine ⟨zv,fun ok=>?_,by rw [g1]; exact zce hzk⟩
          cases ok <;> simp [Instr.lookup,run_underlying hu,MapKept.run_getObj_map hb,MapKept.run_checkKey hku hkey,MapKept.run_findKey hku g2,zeroValue,typeInfo,hi,hzi,Result.andThen]
      split at he
      · rename_i hkk
        simp only [T.get,Option.some.injEq,Prod.mk.injEq] at he
        obtain ⟨rfl,rfl⟩:=he
        obtain ⟨u,hrun,hur⟩:=key hkk
        refine OpWp.pure (x:=.tuple #[u,.bool (Nat.blt (z5w es z) es.length)]) h ?_ ?_
        · unfold execOp
          simp only [ho,hmv,hzv,Sem.run_bind,hrun,Result.andThen_ok,Sem.run_pure,if_true]
        · simp only [VRel]
          exact ⟨_,rfl,by simp only [VRels,VRel]; exact ⟨z6r hur,trivial,trivial⟩⟩
      · rename_i hkk
        simp only [T.get,Option.some.injEq,Prod.mk.injEq] at he
        obtain ⟨rfl,rfl⟩:=he
        obtain ⟨u,hrun,hur⟩:=key hkk
        refine OpWp.pure (x:=u) h ?_ (z6r hur)
        unfold execOp
        simp only [ho,hmv,hzv,Sem.run_bind,hrun,Result.andThen_ok,Sem.run_pure,Bool.false_eq_true,if_false]
      · simp [T.get] at he
    · simp [T.get] at he
  · simp [T.get] at he
theorem zhm (hT:TiOK P B E) (h:Rel B nt w0 X γ st a w) (o:Oper) {t:Nat} {m k:Operand} (ho:o.op = .mapEntry t m k) {v:V} {us:List Upd}
    (he:(z0r E st.o (opd st) o.dst o.op).get=some (v,us)):OpWp P B nt w0 X a w o st v us:=by
  rw [ho] at he
  simp only [z0r] at he
  split at he
  · rename_i n i c z e vk' hm hz hd
    split at he
    · rename_i vk es hob
      split at he
      · rename_i hkk
        obtain ⟨hsz,he⟩:=T.get_when he
        simp only [T.get,Option.some.injEq,Prod.mk.injEq] at he
        obtain ⟨rfl,rfl⟩:=he
        have hlen:es.length≤strMax:=of_decide_eq_true hsz
        obtain rfl:=z7o hkk
        obtain ⟨kt,zi,zv,hu,hku,hi,hzi,hzk⟩:=zax hT hd
        obtain ⟨hk,b,ents,hmv,hg,hb,hE⟩:=zbk h hm hob
        have hzv:=zeb h hz
        have hkey:MapKept.IsKey (.int .i64) (.int .i64 z):=rfl
        obtain ⟨f1,f2⟩:=hE.find z
        have hex:∃ ents' u,(Instr.mapEntry t (.map (some b)) (.int .i64 z)).run P w = .ok (.tuple #[u,.int .i64 ((z5w es z:Nat):Int)]) { w with heap:=w.heap.setIfInBounds b (.map ents' (zlj es z (z4d vk)).length) }∧Kd.Rel w (z02 X γ st.o) vk (zgz vk es z) u ∧
            (∀ O':Nat→Prop,(∀ b,b < w.heap.size→O' b→z02 X γ st.o b)→Keep (z02 X γ st.o) w { w with heap:=w.heap.setIfInBounds b (.map ents' (zlj es z (z4d vk)).length) }→EntRel { w with heap:=w.heap.setIfInBounds b (.map ents' (zlj es z (z4d vk)).length) } O' vk (zlj es z (z4d vk)) ents'):=by
          unfold zlj
          cases hlt:Nat.blt (z5w es z) es.length with
          | true=>
            obtain ⟨m0,g1,g2,g3,g4,g5⟩:=f1 (Nat.le_of_ble_eq_true hlt)
            refine ⟨ents.modify (z5w es z) fun e=>{ e with key:=.int .i64 z },m0.val,?_,g4,fun O' hO hkp=>?_⟩
            · simp [Instr.mapEntry,run_underlying hu,MapKept.run_getObj_map hb,MapKept.run_checkKey hku hkey,MapKept.run_findKey hku g5,g1,g2,g3,MapKept.run_keyThatStays hkey,MapKept.run_setObj_map _ hb,Result.andThen,goInt]
            · exact hE.same hkp hO _ fun m1 hm1=>by
                rw [g1] at hm1
                obtain rfl:=Option.some.inj hm1
                rw [← g2]
          | false=>
            obtain ⟨g1,g2⟩:=f2 (fun hh=>by
              have:Nat.blt (z5w es z) es.length=true:=Nat.ble_eq_true_of_le hh
              rw [hlt] at this
              cases this)
            have hix:z5w es z=es.length:=by
              have h1:=zhi z es
              have h2:¬ z5w es z < es.length:=fun hh=>by
                have:Nat.blt (z5w es z) es.length=true:=Nat.ble_eq_true_of_le hh
                rw [hlt] at this
                cases this
              omega
            refine ⟨ents.push ⟨.int .i64 z,zv,es.length⟩,zv,?_,by rw [g1]; exact zce hzk,fun O' hO hkp=>?_⟩
            · simp [Instr.mapEntry,run_underlying hu,MapKept.run_getObj_map hb,MapKept.run_checkKey hku hkey,MapKept.run_findKey hku g2,MapKept.run_setObj_map _ hb,zeroValue,typeInfo,hi,hzi,Result.andThen,goInt,hix]
            · exact hE.push hkp hO (zce hzk) (zia h hz)
        obtain ⟨ents',u,hrun,hur,hent⟩:=hex
        have hkp:Keep (z04 (γ n) (.map vk es)) w { w with heap:=w.heap.setIfInBounds b (.map ents' (zlj es z (z4d vk)).length) }:=(zeh _).mono fun j _ hj=>by rw [hj]; exact hg
        have hkO:Keep (z02 X γ st.o) w { w with heap:=w.heap.setIfInBounds b (.map ents' (zlj es z (z4d vk)).length) }:=hkp.mono fun j _ hj=>.inl ⟨n,_,hob,hj⟩
        have hR:=Rel.set h (ob':=.map vk (zlj es z (z4d vk))) hob rfl hkp (fun b hb=>hb) (fun hO hcmp=>by
          simp only [ObRel]
          exact ⟨hk,b,ents',hg,(MapKept.heap_set hb).1,hent _ (fun b _ hb=>hO b hb) hkO⟩)
        refine OpWp.value (x:=.tuple #[u,.int .i64 ((z5w es z:Nat):Int)]) (w':={ w with heap:=w.heap.setIfInBounds b (.map ents' (zlj es z (z4d vk)).length) }) ?_ hR ?_
        · unfold execOp
          simp only [ho,hmv,hzv,Sem.run_bind,hrun,Result.andThen_ok,Sem.run_pure]
        · simp only [St.ups,VRel]
          refine ⟨_,rfl,?_⟩
          simp only [VRels,VRel]
          have h1:=zhi z es
          have h2:strMax≤9223372036854775807:=by decide
          refine ⟨z6r (Kd.Rel.mono hkO (fun b' hb' hO'=>?_) hur),⟨trivial,?_,?_⟩,trivial⟩
          · rcases hO' with ⟨n',ob1,q1,q2⟩ | hO'
            · simp only [St.up,z00] at q1
              split at q1
              · rename_i e1
                subst e1
                obtain rfl:=Option.some.inj q1
                exact .inl ⟨n,_,hob,q2⟩
              · exact .inl ⟨n',ob1,q1,q2⟩
            · exact .inr hO'
          · show (-9223372036854775808:Int)≤_
            omega
          · show _≤(9223372036854775807:Int)
            omega
      · simp [T.get] at he
    · simp [T.get] at he
  · simp [T.get] at he
theorem z89:∀ (l:List MapEntry) (z:Nat) (j:Nat),(∀ (i:Nat) (m:MapEntry),l[i]?=some m→m.born=j+i)→z < l.length→l.findIdx? (fun e=>(e.born:Int)==((j+z:Nat):Int))=some z
  | m :: l,z,j,h,hz=>by
    have h0:=h 0 m rfl
    rw [List.findIdx?_cons]
    cases z with
    | zero=>simp [h0]
    | succ z=>
      have hne:((m.born:Int)==((j+(z+1):Nat):Int))=false:=by
        simp only [beq_eq_false_iff_ne,ne_eq]
        omega
      rw [hne]
      have ih:=z89 l z (j+1) (fun i m' hm'=>by rw [h (i+1) m' (by simpa using hm')]; omega) (by simpa using hz)
      rw [show j+(z+1)=j+1+z by omega,ih]
      rfl
theorem zeu (h:Rel B nt w0 X γ st a w) (o:Oper) {t:Nat} {m s x:Operand} (ho:o.op = .entryStore t m s x) {v:V} {us:List Upd}
    (he:(z0r E st.o (opd st) o.dst o.op).get=some (v,us)):OpWp P B nt w0 X a w o st v us:=by
  rw [ho] at he
  simp only [z0r] at he
  split at he
  · rename_i n i c z hm hz
    split at he
    · rename_i vk es hob
      split at he
      · rename_i y hy
        obtain ⟨hc,he⟩:=T.get_when he
        simp only [T.get,Option.some.injEq,Prod.mk.injEq] at he
        obtain ⟨rfl,rfl⟩:=he
        simp only [Bool.and_eq_true,decide_eq_true_eq] at hc
        obtain ⟨hk,b,ents,hmv,hg,hb,hE⟩:=zbk h hm hob
        have hzv:=zeb h hz
        have hzn:z=((0+z.toNat:Nat):Int):=by omega
        have hlt:z.toNat < es.length:=by omega
        have hfi:ents.findIdx? (fun e=>(e.born:Int)==z)=some z.toNat:=by
          rw [show ∀ (es:Array MapEntry) p,es.findIdx? p=es.toList.findIdx? p from fun es p=>by cases es; simp]
          have:=z89 ents.toList z.toNat 0 (fun i m hm=>by
            have hi:i < es.length:=by
              have:=(List.getElem?_eq_some_iff.1 hm).1
              simpa [hE.1] using this
            obtain ⟨v,q1,_⟩:=hE.2 i es[i] (List.getElem?_eq_getElem hi)
            have hm':ents[i]?=some m:=by simpa using hm
            rw [hm'] at q1
            obtain rfl:=Option.some.inj q1
            simp) (by simpa [hE.1] using hlt)
          rw [← hzn] at this
          exact this
        have hrun:(Instr.entryStore t (.map (some b)) (.int .i64 z) (a.eval x)).run P w = .ok () { w with heap:=w.heap.setIfInBounds b (.map (ents.modify z.toNat fun e=>{ e with val:=a.eval x }) es.length) }:=by
          simp [Instr.entryStore,MapKept.run_getObj_map hb,asInt,asIntOf,hfi,MapKept.run_setObj_map _ hb,Result.andThen]
        have hkp:Keep (z04 (γ n) (.map vk es)) w { w with heap:=w.heap.setIfInBounds b (.map (ents.modify z.toNat fun e=>{ e with val:=a.eval x }) es.length) }:=(zeh _).mono fun j _ hj=>by rw [hj]; exact hg
        refine OpWp.skip (w':={ w with heap:=w.heap.setIfInBounds b (.map (ents.modify z.toNat fun e=>{ e with val:=a.eval x }) es.length) }) ?_ (Rel.set h (ob':=.map vk (zjl es z.toNat y)) hob rfl hkp (fun b hb=>hb) (fun hO hcmp=>?_))
        · unfold execOp
          simp only [ho,hmv,hzv,Sem.run_bind,hrun,Result.andThen_ok,Sem.run_pure]
        · simp only [ObRel]
          refine ⟨hk,b,ents.modify z.toNat fun e=>{ e with val:=a.eval x },hg,by rw [zaw]; exact (MapKept.heap_set hb).1,hE.set (hkp.mono fun j _ hj=>.inl ⟨n,_,hob,hj⟩) (fun b _ hb=>hO b hb) (za7 hk hy (z0d h x) _ _) _ fun m1 hm1=>⟨rfl,rfl,rfl⟩⟩
      · simp [T.get] at he
    · simp [T.get] at he
  · simp [T.get] at he
theorem zml (hT:TiOK P B E) (h:Rel B nt w0 X γ st a w) (o:Oper) (hd9:∀ d,o.dst=some d→d≠900000) {t:Nat} {x:Operand} (ho:o.op = .range t x) {v:V} {us:List Upd}
    (he:(z0r E st.o (opd st) o.dst o.op).get=some (v,us)):OpWp P B nt w0 X a w o st v us:=by
  rw [ho] at he
  simp only [z0r] at he
  split at he
  · rename_i n i c d e k' hm hdst hd
    split at he
    · rename_i vk es hob
      simp only [T.get,Option.some.injEq,Prod.mk.injEq] at he
      obtain ⟨rfl,rfl⟩:=he
      obtain ⟨kt,_,_,hu,hku,_⟩:=zax hT hd
      obtain ⟨hk,b,ents,hmv,hg,hb,hE⟩:=zbk h hm hob
      have hbl:b < w.heap.size:=(Array.getElem?_eq_some_iff.1 hb).1
      have hent:∀ (j:Nat) (m:MapEntry),ents.toList[j]?=some m→j < es.length∧m.born=j:=fun j m hj=>by
        have hi:j < es.length:=by
          have:=(List.getElem?_eq_some_iff.1 hj).1
          simpa [hE.1] using this
        obtain ⟨v,q1,_⟩:=hE.2 j es[j] (List.getElem?_eq_getElem hi)
        have hj':ents[j]?=some m:=by simpa using hj
        rw [hj'] at q1
        obtain rfl:=Option.some.inj q1
        exact ⟨hi,rfl⟩
      have hleft:leftOf ents #[]=ents:=by
        unfold leftOf
        simp
      have hn:=Rel.new h [n] d (hd9 d hdst) (.iter vk none es) (.tuple #[.pointer (some ⟨w.heap.size,0,none⟩),.map (some b)]) (w':=w.alloc (.mapIter (some b) es.length #[] es.length)) (Keep.alloc _ w _)
        (by
          rintro b' ⟨r,m',hb',hb''⟩
          have h2:=congrArg Array.toList (Value.tuple.inj hb')
          simp only [List.cons.injEq,Value.pointer.injEq,Option.some.injEq,Addr.mk.injEq,and_true,Value.map.injEq] at h2
          obtain ⟨rfl,rfl⟩:=h2
          rcases hb'' with rfl | rfl
          · exact ⟨by simp,.inl (Nat.le_refl _)⟩
          · exact ⟨by simp; omega,.inr ⟨n,List.mem_singleton_self n,_,hob,hg⟩⟩)
        (by
          intro O' hO hcmp
          simp only [ObRel]
          refine ⟨hk,w.heap.size,b,es.length,#[],ents,es.length,rfl,heap_alloc_new w _,by rw [@heap_alloc_old w _ b hbl]; exact hb,Nat.le_refl _,fun x hx=>?_,?_,⟨by rw [hleft]; simpa using hE.1,fun j e he=>?_⟩,fun e he=>by cases he⟩
          · obtain ⟨j,hj⟩:=List.getElem?_of_mem hx
            obtain ⟨h1,h2⟩:=hent j x hj
            omega
          · rw [List.nodup_iff_pairwise_ne,List.pairwise_iff_getElem]
            intro j j' hj hj' hlt
            rw [List.getElem_map,List.getElem_map,(hent j _ (List.getElem?_eq_getElem (by simpa using hj))).2,(hent j' _ (List.getElem?_eq_getElem (by simpa using hj'))).2]
            omega
          · obtain ⟨v,q1,q2⟩:=hE.2 j e he
            rw [hleft]
            exact ⟨_,by simpa using q1,rfl,KRel.mono (Keep.alloc _ w _) hO q2⟩)
      refine OpWp.value (x:=.pointer (some ⟨w.heap.size,0,none⟩)) (w':=w.alloc (.mapIter (some b) es.length #[] es.length)) ?_ hn ?_
      · unfold execOp
        simp only [ho,hmv,Sem.run_bind,run_range_map w t kt e b ents es.length hu hb,Result.andThen_ok,Sem.run_pure]
      · simp only [St.ups,VRel,z03,if_true]
        exact ⟨w.heap.size,_,rfl,rfl⟩
    · simp [T.get] at he
  · simp [T.get] at he
theorem zib (h:Rel B nt w0 X γ st a w) {x:Operand} {n i c:Nat} (hx:opd st x = .ptr n i c) {vk:Kd} {last:Option (Int × IV)} {rest:List (Int × IV)} (ho:z01 st.o n=some (.iter vk last rest)) :
    zhh vk=true∧∃ r b since seen ents clock,a.eval x = .pointer (some ⟨r,0,none⟩)∧γ n = .tuple #[.pointer (some ⟨r,0,none⟩),.map (some b)]∧w.heap[r]?=some (.mapIter (some b) since seen clock)∧w.heap[b]?=some (.map ents clock)∧IterRel w (z02 X γ st.o) vk last rest since seen ents clock:=by
  have hv:=z0d h x
  rw [hx] at hv
  simp only [VRel,ho] at hv
  obtain ⟨h0,r,b,since,seen,ents,clock,hg,h1,h2,h3⟩:=h.ob n _ ho
  obtain ⟨r',y,hy,hv⟩:=hv
  rw [hg] at hy
  have h4:=congrArg Array.toList (Value.tuple.inj hy)
  simp only [List.cons.injEq,Value.pointer.injEq,Option.some.injEq,Addr.mk.injEq,and_true] at h4
  obtain ⟨rfl,_⟩:=h4
  exact ⟨h0,r,b,since,seen,ents,clock,hv,hg,h1,h2,h3⟩
theorem zmi (h:Rel B nt w0 X γ st a w) (o:Oper) {x:Operand} (ho:o.op = .entry x) {v:V} {us:List Upd}
    (he:(z0r E st.o (opd st) o.dst o.op).get=some (v,us)):OpWp P B nt w0 X a w o st v us:=by
  rw [ho] at he
  simp only [z0r] at he
  split at he
  · rename_i n i c hm
    split at he
    · rename_i vk e rest hob
      simp only [T.get,Option.some.injEq,Prod.mk.injEq] at he
      obtain ⟨rfl,rfl⟩:=he
      obtain ⟨hk,r,b,since,seen,ents,clock,hx,hg,hr,hb,h1,h2,h3,h4,h5⟩:=zib h hm hob
      obtain ⟨m,s0,q1,rfl,q3,q4⟩:=h5 e rfl
      refine OpWp.pure (x:=.tuple #[m.key,m.val]) h ?_ ?_
      · unfold execOp
        simp only [ho,hx,Sem.run_bind,run_entry_at w r b since s0 ents clock m hr hb q1 h3,Result.andThen_ok,Sem.run_pure]
      · simp only [VRel]
        refine ⟨_,rfl,?_⟩
        simp only [VRels,VRel,q3]
        exact ⟨⟨trivial,q4.2⟩,z6r q4.1,trivial⟩
    · simp [T.get] at he
  · simp [T.get] at he
end
open Go Go.RowKit
theorem zni {j:Nat}:∀ {l:List (Int × IV)},j < l.length→l[j]?=some (zk6 l j):=by
  induction j with
  | zero=>intro l h; cases l with
    | nil=>simp at h
    | cons x l=>rfl
  | succ j ih=>intro l h; cases l with
    | nil=>simp at h
    | cons x l=>rw [List.getElem?_cons_succ,zk6]; exact ih (by simpa using h)
theorem ze8:∀ (l:List (Int × IV)) (j:Nat),ze7 l j=l.eraseIdx j
  | [],j=>by simp [ze7]
  | x :: l,0=>by simp [ze7]
  | x :: l,j+1=>by rw [ze7,ze8 l j,List.eraseIdx_cons_succ]
theorem za4:∀ (l:List MapEntry) (j:Nat) (e:MapEntry),(l.map (·.born)).Nodup→l[j]?=some e→l.filter (fun x=>!(x.born==e.born))=l.eraseIdx j
  | [],j,e,_,h=>by simp at h
  | x :: l,0,e,hn,h=>by
    obtain rfl:x=e:=by simpa using h
    have hn':x.born ∉ l.map (·.born)∧(l.map (·.born)).Nodup:=List.nodup_cons.1 hn
    rw [List.filter_cons,beq_self_eq_true]
    simp only [Bool.not_true,Bool.false_eq_true,if_false,List.eraseIdx_cons_zero]
    rw [List.filter_eq_self]
    intro y hy
    have:y.born≠x.born:=fun e=>hn'.1 (List.mem_map.2 ⟨y,hy,e⟩)
    simpa using this
  | x :: l,j+1,e,hn,h=>by
    have hn':x.born ∉ l.map (·.born)∧(l.map (·.born)).Nodup:=List.nodup_cons.1 hn
    have he:l[j]?=some e:=by simpa using h
    have hne:(x.born==e.born)=false:=by
      have:x.born≠e.born:=fun e'=>hn'.1 (List.mem_map.2 ⟨e,List.mem_of_getElem? he,e'.symm⟩)
      simpa using this
    rw [List.filter_cons,hne]
    simp only [Bool.not_false,if_true,List.eraseIdx_cons_succ]
    rw [za4 l j e hn'.2 he]
theorem zda {ents:Array MapEntry} {seen:Array Nat} {j:Nat} {e:MapEntry} (hn:(ents.toList.map (·.born)).Nodup) (he:(leftOf ents seen).toList[j]?=some e) :
    (leftOf ents (seen.push e.born)).toList=(leftOf ents seen).toList.eraseIdx j:=by
  have hsub:((leftOf ents seen).toList.map (·.born)).Nodup:=by
    unfold leftOf
    rw [Array.toList_filter]
    exact hn.sublist ((List.filter_sublist).map _)
  rw [← za4 _ j e hsub he]
  unfold leftOf
  rw [Array.toList_filter,Array.toList_filter,List.filter_filter]
  congr 1
  funext x
  rw [contains_push]
  cases seen.contains x.born <;> cases x.born==e.born <;> rfl
section
variable {B:BT} {nt:Nat} {w0:World} {X:Zone} {γ:Nat→Value} {st st':St} {a:Act} {w:World} {P:Program} {E:Env}
theorem zno {n:Nat} {ob ob':Ob} (ho:z01 st.o n=some ob) (hb:∀ b,z04 (γ n) ob' b→z04 (γ n) ob b) (b:Nat) (h:z02 X γ ((n,some ob') :: st.o) b):z02 X γ st.o b:=by
  rcases h with ⟨m,ob1,q1,q2⟩ | h
  · rw [z00] at q1
    split at q1
    · rename_i e
      subst e
      obtain rfl:=Option.some.inj q1
      exact .inl ⟨n,ob,ho,hb b q2⟩
    · exact .inl ⟨m,ob1,q1,q2⟩
  · exact .inr h
theorem znl (h:Rel B nt w0 X γ st a w) (o:Oper) {x:Operand} (ho:o.op = .next x false) {n i c:Nat} (hm:opd st x = .ptr n i c) {vk:Kd} {last:Option (Int × IV)} {rest:List (Int × IV)} (hob:z01 st.o n=some (.iter vk last rest)) :
    (rest.length=0→OpWp P B nt w0 X a w o st (.tup [.bool false]) []) ∧
    (rest.length≠0→∃ j,j < rest.length∧OpWp P B nt w0 X a w o st (.tup [.bool true,.int .i64 (zk6 rest j).1,zij vk (zk6 rest j).2]) [.set n (.iter vk (some (zk6 rest j)) (ze7 rest j))]):=by
  obtain ⟨hk,r,b,since,seen,ents,clock,hx,hg,hr,hb,h1,h2,h3,h4,h5⟩:=zib h hm hob
  have hls:(leftOf ents seen).toList.length=(leftOf ents seen).size:=by simp
  rcases run_next_at (P:=P) w o.type r b since clock seen ents clock hr hb h2 h1 with ⟨q1,q2⟩ | ⟨e,q1,w1,q2,q3⟩
  · have h0:rest.length=0:=by rw [← h4.1,hls,q1]
    refine ⟨fun _=>?_,fun hne=>absurd h0 hne⟩
    refine OpWp.pure (x:=.tuple #[.bool false]) h ?_ ?_
    · unfold execOp
      simp only [ho,hx,Sem.run_bind,q2,Result.andThen_ok,Sem.run_pure]
    · simp only [VRel]
      exact ⟨_,rfl,by simp only [VRels,VRel]; exact ⟨trivial,trivial⟩⟩
  · obtain ⟨j,hj⟩:=List.getElem?_of_mem q1
    have hjl:j < rest.length:=by
      rw [← h4.1]
      exact (List.getElem?_eq_some_iff.1 hj).1
    refine ⟨fun h0=>by omega,fun _=>⟨j,hjl,?_⟩⟩
    obtain ⟨m,p1,p2,p3⟩:=h4.2 j (zk6 rest j) (zni hjl)
    rw [hj] at p1
    obtain rfl:=Option.some.inj p1
    have hw1:w1.heap=w.heap:=by rcases q2 with rfl | rfl <;> rfl
    have hk1:Keep (fun k=>k=r) w (ChangeMaps.setBlock w1 r (.mapIter (some b) since (seen.push e.born) clock)):=by
      have h6:Keep (fun k=>k=r) w w1:=by
        rcases q2 with rfl | rfl
        · exact Keep.refl _ _
        · exact Keep.drew _ _
      refine ⟨h6.os,h6.tape,h6.output,?_,fun k _ hne=>?_⟩
      · simp [ChangeMaps.setBlock,hw1]
      · simp only [ChangeMaps.setBlock,hw1]
        exact Array.getElem?_setIfInBounds_ne (fun h:r=k=>hne h.symm)
    have hkp:Keep (z04 (γ n) (.iter vk last rest)) w (ChangeMaps.setBlock w1 r (.mapIter (some b) since (seen.push e.born) clock)):=hk1.mono fun k _ hk=>⟨r,b,hg,.inl hk⟩
    have hkO:Keep (z02 X γ st.o) w (ChangeMaps.setBlock w1 r (.mapIter (some b) since (seen.push e.born) clock)):=hkp.mono fun k _ hk=>.inl ⟨n,_,hob,hk⟩
    have hrb:b≠r:=fun e'=>by
      rw [e',hr] at hb
      cases hb
    have hOw:=zno (X:=X) (γ:=γ) (st:=st) (n:=n) (ob':=.iter vk (some (zk6 rest j)) (ze7 rest j)) hob (fun b h=>h)
    have hR:=Rel.set h (ob':=.iter vk (some (zk6 rest j)) (ze7 rest j)) hob rfl hkp (fun b hb=>hb) (fun hO hcmp=>by
      simp only [ObRel]
      refine ⟨hk,r,b,since,seen.push e.born,ents,clock,hg,?_,?_,h1,h2,h3,⟨?_,fun i e' he'=>?_⟩,fun e' he'=>?_⟩
      · simp only [ChangeMaps.setBlock,hw1]
        exact (MapKept.heap_set hr).1
      · simp only [ChangeMaps.setBlock,hw1]
        rw [(MapKept.heap_set hr).2 b hrb]
        exact hb
      · rw [zda h3 hj,ze8,List.length_eraseIdx,List.length_eraseIdx,h4.1]
      · rw [zda h3 hj,List.getElem?_eraseIdx]
        rw [ze8,List.getElem?_eraseIdx] at he'
        split at he'
        · rename_i hlt
          obtain ⟨m,s1,s2,s3⟩:=h4.2 i e' he'
          exact ⟨m,by rw [if_pos hlt]; exact s1,s2,KRel.mono hkO (fun b _ hb=>hOw b hb) s3⟩
        · rename_i hlt
          obtain ⟨m,s1,s2,s3⟩:=h4.2 (i+1) e' he'
          exact ⟨m,by rw [if_neg hlt]; exact s1,s2,KRel.mono hkO (fun b _ hb=>hOw b hb) s3⟩
      · obtain rfl:=Option.some.inj he'
        exact ⟨e,seen,(mem_left q1).1,rfl,p2,KRel.mono hkO (fun b _ hb=>hOw b hb) p3⟩)
    refine OpWp.value (x:=.tuple #[.bool true,e.key,e.val]) ?_ hR ?_
    · unfold execOp
      simp only [ho,hx,Sem.run_bind,q3,Result.andThen_ok,Sem.run_pure]
    · simp only [St.ups,VRel]
      refine ⟨_,rfl,?_⟩
      simp only [VRels,VRel,p2]
      exact ⟨trivial,⟨trivial,p3.2⟩,z6r (KRel.mono hkO (fun b _ hb=>hOw b hb) p3).1,trivial⟩
end
open Go Go.RowKit
section
variable {B:BT} {nt:Nat} {w0:World} {X:Zone} {γ:Nat→Value} {st st':St} {a:Act} {w:World} {P:Program} {E:Env}
theorem zfi (h:Rel B nt w0 X γ st a w) (hg:GX B w0 X) {f:FuncId} {sp:z2a} (hS:Snd P B f (fun vs=>(sp vs).get)) {vs:List V} {xs:List Value} (hv:VRels γ st.o w (z02 X γ st.o) vs xs) {d:Nat} (hd9:d≠900000) {tks:List (List Kd)} {v:V} {us:List Upd} (he:(zfh st.o d tks sp vs).get=some (v,us)) :
    Does P f xs w fun e w'=>∃ x,e = .returned x∧∃ γ',Rel B nt w0 X γ' (st.ups us) a w'∧VRel γ' (st.ups us).o w' (z02 X γ' (st.ups us).o) v x:=by
  unfold zfh at he
  split at he
  · rename_i hl
    obtain ⟨r,out,hsp,he⟩:=R.toT_get he
    unfold z7z at he
    split at he
    · split at he
      · rename_i cs
        split at he
        · rename_i hc
          simp only [T.get,Option.some.injEq,Prod.mk.injEq] at he
          obtain ⟨rfl,rfl⟩:=he
          exact zkd h hg hS hv hl hsp d hd9 (Nat.le_of_ble_eq_true hc)
        · simp [T.get] at he
      · simp only [T.get,Option.some.injEq,Prod.mk.injEq] at he
        obtain ⟨rfl,rfl⟩:=he
        exact zlu h hg hS hv hl hsp d hd9
      · rename_i hnb hnv
        simp only [T.get,Option.some.injEq,Prod.mk.injEq] at he
        obtain ⟨rfl,rfl⟩:=he
        exact zj6 h hg hS hv hl hsp hnb hnv
    · simp [T.get] at he
  · rename_i n hl
    split at he
    · rename_i cs ho
      split at he
      · rename_i hib
        obtain ⟨r,outs,hsp,he⟩:=R.toT_get he
        unfold zfa at he
        split at he
        · split at he
          · rename_i hc
            simp only [T.get,Option.some.injEq,Prod.mk.injEq] at he
            obtain ⟨rfl,rfl⟩:=he
            simp only [Bool.and_eq_true,Bool.or_eq_true] at hc
            refine zlt h hg hS hv hl ho rfl hsp hib (z0f.1 hc.1) (hc.2.1.imp (fun h=>Nat.le_of_ble_eq_true h) (fun h=>Nat.le_of_ble_eq_true h)) (Nat.le_of_ble_eq_true hc.2.2)
          · simp [T.get] at he
        · simp [T.get] at he
      · simp [T.get] at he
    · rename_i s ho
      split at he
      · rename_i hib
        obtain ⟨r,outs,hsp,he⟩:=R.toT_get he
        unfold zf9 at he
        split at he
        · simp only [T.get,Option.some.injEq,Prod.mk.injEq] at he
          obtain ⟨rfl,rfl⟩:=he
          exact zls h hg hS hv hl ho hsp hib
        · simp [T.get] at he
      · simp [T.get] at he
    · simp [T.get] at he
  · obtain ⟨r,outs,hsp,he⟩:=R.toT_get he
    unfold zk8 at he
    split at he
    · simp only [T.get,Option.some.injEq,Prod.mk.injEq] at he
      obtain ⟨rfl,rfl⟩:=he
      simp only [St.ups]
      exact zke h hg hS hv hsp
    · simp [T.get] at he
def z77 (l:List IV):List Value:=l.map fun x=>Value.int .i64 x.toInt
def zoc:V→Value
  | .int k n=>.int k n
  | _=>undef
def zn0 (w:World) (v:Value):List V→List Value→Prop
  | [],[]=>True
  | [.clo f [.bor cs]],[y]=>∃ b c T,y = .func (.func f) #[] #[.pointer (some ⟨b,0,none⟩)]∧w.heap[b]?=some (.cells c T (0,0))∧c.toList=cs.map zoc∧v.ownBlock≠some b
  | _,_=>False
def zj2 (P:Program) (f:FuncId) (p:Ip):Prop:=
  ∀ (w:World) (v:Value) (l l':List IV) (rs:List V) (ys:List Value),w.ownsRow 0 p.e 1 v l.length (z77 l)→(∀ x∈l,IntKind.i64.min≤x.toInt∧x.toInt≤IntKind.i64.max)→l.length≤strMax →
    zn0 w v rs ys→p.g rs l=some l' →
    Does P f (v :: ys) w fun e w'=>∃ x,e = .returned x∧w.grownBy w' v.ownBlock∧(∀ x∈l',IntKind.i64.min≤x.toInt∧x.toInt≤IntKind.i64.max) ∧
      (p.ret=true→w'.ownsRow 0 p.e 1 x l'.length (z77 l')∧∀ b,x.ownBlock=some b→v.ownBlock=some b∨w.heap.size≤b) ∧
      (p.ret=false→w'.ownsRow 0 p.e 1 v l'.length (z77 l'))
theorem zj9 {w:World} {O:Nat→Prop} {l:List IV} {xs:List Value} (hl:xs.length=l.length*1)
    (h:∀ i y,l[i]?=some y→Kd.RelAll w O [.int .i64] (z13 false y) 0 (fun j u=>xs[i*1+j]?=some u)):xs=z77 l∧∀ x∈l,IntKind.i64.min≤x.toInt∧x.toInt≤IntKind.i64.max:=by
  have one:∀ (i:Nat) (y:IV),l[i]?=some y→xs[i]?=some (.int .i64 y.toInt)∧IntKind.i64.min≤y.toInt∧y.toInt≤IntKind.i64.max:=fun i y hy=>by
    have:=h i y hy
    simp only [Kd.RelAll,z13,and_true,Nat.mul_one,Nat.add_zero] at this
    obtain ⟨u,hu,hk⟩:=this
    simp only [Kd.Rel] at hk
    rw [hu,hk.1]
    exact ⟨rfl,hk.2⟩
  constructor
  · apply List.ext_getElem?
    intro i
    unfold z77
    rw [List.getElem?_map]
    cases hy:l[i]? with
    | none=>
      rw [List.getElem?_eq_none_iff] at hy
      rw [List.getElem?_eq_none (by omega)]
      rfl
    | some y=>rw [(one i y hy).1]; rfl
  · intro x hx
    obtain ⟨i,hi⟩:=List.getElem?_of_mem hx
    exact (one i x hi).2
theorem z9f {w:World} {O:Nat→Prop} {l:List IV} (h:∀ x∈l,IntKind.i64.min≤x.toInt∧x.toInt≤IntKind.i64.max) (i:Nat) (y:IV) (hy:l[i]?=some y) :
    Kd.RelAll w O [.int .i64] (z13 false y) 0 (fun j u=>(z77 l)[i*1+j]?=some u):=by
  simp only [Kd.RelAll,z13,and_true,Nat.mul_one,Nat.add_zero]
  refine ⟨.int .i64 y.toInt,?_,?_⟩
  · unfold z77
    rw [List.getElem?_map,hy]
    rfl
  · simp only [Kd.Rel]
    exact ⟨trivial,h y (List.mem_of_getElem? hy)⟩
theorem zbd {γ:Nat→Value} {o:Store} {w:World} {O:Nat→Prop}:∀ {cs:List V} {xs:List Value},zm9 cs=true→VRels γ o w O cs xs→xs=cs.map zoc
  | [],[],_,_=>rfl
  | [],_ :: _,_,h=>by simp only [VRels] at h
  | v :: cs,[],h,h'=>by simp only [VRels] at h'
  | v :: cs,x :: xs,h,h'=>by
    simp only [VRels] at h'
    unfold zm9 at h
    split at h
    · rename_i h0; cases h0
    · rename_i n r h0
      injection h0 with h1 h2
      subst h1 h2
      have h3:=h'.1
      simp only [VRel] at h3
      rw [List.map_cons,← zbd h h'.2,h3.1]
      rfl
    · cases h
theorem zis (h:Rel B nt w0 X γ st a w) {v:Value} (hv:∀ m cs b,z01 st.o m=some (.box cs)→z04 (γ m) (.box cs) b→v.ownBlock≠some b) {rest rs:List V} {ys:List Value} (hr:VRels γ st.o w (z02 X γ st.o) rest ys) (he:zbe st.o rest=some rs):zn0 w v rs ys:=by
  unfold zbe at he
  split at he
  · simp only [Option.some.injEq] at he
    subst he
    cases ys with
    | nil=>trivial
    | cons y ys=>simp only [VRels] at hr
  · rename_i f m i c
    split at he
    · rename_i cs hic ho
      split at he
      · rename_i hi
        simp only [Option.some.injEq] at he
        subst he
        simp only [Bool.and_eq_true] at hic
        obtain rfl:=z0f.1 hic.1
        obtain rfl:=z0f.1 hic.2
        match ys,hr with
        | [y],hr=>
          simp only [VRels,and_true] at hr
          simp only [VRel] at hr
          obtain ⟨cs',rfl,hc⟩:=hr
          obtain ⟨b,c,T,hg,hh,hcs⟩:=h.ob m _ ho
          have hc1:∃ x0,cs' = #[x0]∧x0 = .pointer (some ⟨b,0,none⟩):=by
            obtain ⟨l⟩:=cs'
            match l,hc with
            | [x0],hc=>
              simp only [VRels,and_true,VRel,ho] at hc
              obtain ⟨_,b',hb',rfl⟩:=hc
              rw [hg] at hb'
              simp only [Value.pointer.injEq,Option.some.injEq,Addr.mk.injEq,and_true] at hb'
              subst hb'
              exact ⟨_,rfl,rfl⟩
            | [],hc=>simp only [VRels] at hc
            | _ :: _ :: _,hc=>simp only [VRels,and_false] at hc
          obtain ⟨x0,rfl,rfl⟩:=hc1
          exact ⟨b,c,T,rfl,hh,zbd hi hcs,hv m cs b ho ⟨_,hg,rfl⟩⟩
        | [],hr=>simp only [VRels] at hr
        | _ :: _ :: _,hr=>simp only [VRels,and_false] at hr
      · cases he
    · cases he
  · cases he
theorem zof (h:Rel B nt w0 X γ st a w) {f:FuncId} {p:Ip} (hI:zj2 P f p) {vs:List V} {xs:List Value} (hv:VRels γ st.o w (z02 X γ st.o) vs xs) {d:Option Nat} (hd9:∀ d',d=some d'→d'≠900000) {v:V} {us:List Upd} (he:(ipT st.o d p vs).get=some (v,us)) :
    Does P f xs w fun e w'=>∃ x,e = .returned x∧∃ γ',Rel B nt w0 X γ' (st.ups us) a w'∧VRel γ' (st.ups us).o w' (z02 X γ' (st.ups us).o) v x:=by
  unfold ipT at he
  split at he
  · rename_i n lo hi rest
    cases xs with
    | nil=>simp only [VRels] at hv
    | cons sv ys=>
    simp only [VRels] at hv
    obtain ⟨hs,hrest⟩:=hv
    split at he
    · rename_i e l rs hob hra
      split at he
      · rename_i hc
        simp only [Bool.and_eq_true] at hc
        obtain ⟨hc1,hc3,hc4⟩:=hc
        have he2:=T.get_when he
        clear he
        obtain ⟨hc2,he⟩:=he2
        obtain rfl:=z0f.1 hc1
        obtain rfl:=z0f.1 hc2
        obtain rfl:=z0f.1 hc3
        have he6:p.e < 1000000:=Nat.le_of_ble_eq_true hc4
        simp only [VRel,hob] at hs
        obtain ⟨hlen,q,len,cap,q',hg,hvv,_,h2,h3,hm,_,h5⟩:=hs
        rw [h5 rfl,Nat.sub_zero,Nat.sub_zero] at hvv
        have hor:=h.ob n _ hob
        simp only [ObRel] at hor
        obtain ⟨hkp,hstr,xs,hx,hrx⟩:=hor
        have hx':=hx.plain he6
        have hlen':len=l.length:=by
          rcases hx'.2 with ⟨h6,h7⟩ | ⟨g,cap',cur,h6,_⟩
          · rw [hg] at h6; simp only [Value.slice.injEq] at h6; omega
          · rw [hg] at h6; simp only [Value.slice.injEq] at h6; exact h6.2.1
        subst hlen'
        have hsv:sv=γ n:=by rw [hvv,hg]
        subst hsv
        obtain ⟨rfl,hrng⟩:=zj9 hx.1 hrx
        split at he
        · rename_i l' hgl
          have hrok:=zis h (v:=γ n) (fun m cs b hm hb hne=>by
            have hnm:n≠m:=fun e=>by subst e; rw [hob] at hm; cases hm
            exact h.dis n m _ _ b hnm hob hm (by simp only [z04]; exact hne) hb) hrest hra
          have hdoes:=hI w (γ n) l l' rs ys hx' hrng hstr hrok hgl
          split at he
          · rename_i d' hret
            obtain ⟨hk,he⟩:=T.get_when he
            simp only [T.get,Option.some.injEq,Prod.mk.injEq] at he
            obtain ⟨rfl,rfl⟩:=he
            have hk:=Nat.le_of_ble_eq_true hk
            refine hdoes.mono ?_
            rintro e w' ⟨x,rfl,hgrow,hrng',hr1,_⟩
            obtain ⟨hown,hblk⟩:=hr1 hret
            refine ⟨x,rfl,fun m=>if d'=m then x else γ m,?_,?_⟩
            · refine Rel.new h [n] d' (hd9 d' rfl) (.row true p.e false [.int .i64] l') x (Keep.grown hgrow (fun g hg'=>⟨n,by simp,_,hob,hg'⟩)) (fun b hb=>⟨(hown.lt b hb).2,?_⟩) (fun O' hO hcmp=>?_)
              · rcases hblk b hb with h1 | h1
                · exact .inr ⟨n,by simp,_,hob,h1⟩
                · exact .inl h1
              · simp only [ObRel]
                exact ⟨by simp,by omega,z77 l',OwnRow.of hown he6,fun i y hy=>z9f hrng' i y hy⟩
            · simp only [St.ups,St.up,VRel,z00,if_true]
              refine ⟨Nat.le_refl _,?_⟩
              rcases hown.2 with ⟨h6,h7⟩ | ⟨g,cap',cur,h6,_,_,h8,h9,_⟩
              · refine ⟨none,0,0,none,h6,?_,Nat.zero_le _,by omega,Nat.le_refl _,by simp [maxLen],.inr rfl,fun _=>rfl⟩
                rw [h6,h7]
              · refine ⟨some ⟨g,0,none⟩,l'.length,cap',some ⟨g,0,none⟩,h6,by rw [h6]; simp,Nat.zero_le _,Nat.le_refl _,h8,h9,.inl ?_,fun _=>rfl⟩
                simp [Addr.add]
          · rename_i hret
            obtain ⟨hk,he⟩:=T.get_when he
            simp only [T.get,Option.some.injEq,Prod.mk.injEq] at he
            obtain ⟨rfl,rfl⟩:=he
            have hk:=z0f.1 hk
            refine hdoes.mono ?_
            rintro e w' ⟨x,rfl,hgrow,hrng',_,hr2⟩
            have hown:=hr2 hret
            refine ⟨x,rfl,γ,?_,by simp only [VRel]⟩
            refine Rel.set h (ob':=.row true p.e false [.int .i64] l') hob ⟨rfl,hk.symm⟩ (Keep.grown hgrow (fun g hg'=>hg')) (fun b hb=>hb) (fun hO hcmp=>?_)
            simp only [ObRel]
            exact ⟨by simp,by omega,z77 l',OwnRow.of hown he6,fun i y hy=>z9f hrng' i y hy⟩
          · simp [T.get] at he
        · simp [T.get] at he
      · simp [T.get] at he
    · simp [T.get] at he
  · rename_i rest
    cases xs with
    | nil=>simp only [VRels] at hv
    | cons sv ys=>
    simp only [VRels] at hv
    obtain ⟨hs,hrest⟩:=hv
    simp only [VRel] at hs
    subst hs
    split at he
    · rename_i rs hra
      split at he
      · rename_i hgl
        have hrok:=zis h (v:=.slice none 0 0) (fun m cs b _ _ hne=>by simp [Value.ownBlock] at hne) hrest hra
        have hdoes:=hI w (.slice none 0 0) [] [] rs ys (World.ownsRow_nil w 0 p.e _) (fun x hx=>by cases hx) (by simp) hrok hgl
        split at he
        · rename_i d' hret
          obtain ⟨hk,he⟩:=T.get_when he
          simp only [T.get,Option.some.injEq,Prod.mk.injEq] at he
          obtain ⟨rfl,rfl⟩:=he
          have he6:p.e < 1000000:=Nat.le_of_ble_eq_true hk
          refine hdoes.mono ?_
          rintro e w' ⟨x,rfl,hgrow,hrng',hr1,_⟩
          obtain ⟨hown,hblk⟩:=hr1 hret
          refine ⟨x,rfl,fun m=>if d'=m then x else γ m,?_,?_⟩
          · refine Rel.new h [] d' (hd9 d' rfl) (.row true p.e false [.int .i64] []) x (Keep.grown hgrow (fun g hg'=>by simp [Value.ownBlock] at hg')) (fun b hb=>⟨(hown.lt b hb).2,?_⟩) (fun O' hO hcmp=>?_)
            · rcases hblk b hb with h1 | h1
              · simp [Value.ownBlock] at h1
              · exact .inl h1
            · simp only [ObRel]
              exact ⟨by simp,by simp,z77 [],OwnRow.of hown he6,fun i y hy=>z9f hrng' i y hy⟩
          · simp only [St.ups,St.up,VRel,z00,if_true]
            refine ⟨Nat.le_refl _,?_⟩
            rcases hown.2 with ⟨h6,h7⟩ | ⟨g,cap',cur,h6,_,_,h8,h9,_⟩
            · refine ⟨none,0,0,none,h6,?_,Nat.zero_le _,by omega,Nat.le_refl _,by simp [maxLen],.inr rfl,fun _=>rfl⟩
              rw [h6]
            · refine ⟨some ⟨g,0,none⟩,0,cap',some ⟨g,0,none⟩,h6,by rw [h6]; simp,Nat.zero_le _,Nat.le_refl _,Nat.zero_le _,h9,.inl ?_,fun _=>rfl⟩
              simp [Addr.add]
        · rename_i hret
          simp only [T.get,Option.some.injEq,Prod.mk.injEq] at he
          obtain ⟨rfl,rfl⟩:=he
          refine hdoes.mono ?_
          rintro e w' ⟨x,rfl,hgrow,_,_,_⟩
          refine ⟨x,rfl,γ,Rel.world h (Keep.grown hgrow (fun g hg'=>by simp [Value.ownBlock] at hg')),by simp only [VRel]⟩
        · simp [T.get] at he
      · simp [T.get] at he
    · simp [T.get] at he
  · simp [T.get] at he
def SpOK (P:Program) (B:BT) (E:Env) (w0:World) (X:Zone):Prop:=GX B w0 X∧(∀ f sp,lk E.sp f=some sp→Snd P B f (fun vs=>(sp vs).get))∧∀ f p,lk E.ip f=some p→zj2 P f p
theorem SpOK.get (h:SpOK P B E w0 X) (f:FuncId):Snd P B f (fun vs=>(lkd (fun _=>R.no) E.sp f vs).get):=by
  rw [zdc]
  cases hf:lk E.sp f with
  | none=>
    intro w X γ vs xs r out hsp
    simp [R.get] at hsp
  | some sp=>exact h.2.1 f sp hf
theorem zay (h:Rel B nt w0 X γ st a w):∀ l:List Operand,VRels γ st.o w (z02 X γ st.o) (zdd (opd st) l) (l.map a.eval)
  | []=>by simp only [zdd,List.map_nil,VRels]
  | x :: r=>by
    simp only [zdd,List.map_cons,VRels]
    exact ⟨z0d h x,zay h r⟩
theorem zhk (o:Oper) {f:FuncId} {xs:List Value} {v:V} {us:List Upd} (hr:(execOp a.eval o).run P w=(callFunc f xs.toArray).run P w)
    (hd:Does P f xs w fun e w'=>∃ x,e = .returned x∧∃ γ',Rel B nt w0 X γ' (st.ups us) a w'∧VRel γ' (st.ups us).o w' (z02 X γ' (st.ups us).o) v x):OpWp P B nt w0 X a w o st v us:=by
  intro K Q hK
  unfold Oper.wp
  rw [hr]
  unfold Does at hd
  split at hd
  · rename_i g args w' hc
    rw [hc,Oper.upon_enter]
    refine hd.mono ?_
    rintro e w'' ⟨x,rfl,γ',h1,h2⟩
    exact hK γ' x w'' h1 h2
  · rename_i x w' hc
    rw [hc,Oper.upon_value]
    obtain ⟨x',he,γ',h1,h2⟩:=hd
    cases he
    exact hK γ' x w' h1 h2
  · rename_i row args w' hc
    rw [hc,Oper.upon_row]
    refine Rows.mono hd ?_
    rintro x w'' ⟨x',he,γ',h1,h2⟩
    cases he
    exact hK γ' x w'' h1 h2
  · exact hd.elim
theorem znj (hT:TiOK P B E) (hSp:SpOK P B E w0 X) (h:Rel B nt w0 X γ st a w) (o:Oper) (hd9:∀ d,o.dst=some d→d≠900000) {c:Call} (ho:o.op = .call c) {v:V} {us:List Upd}
    (he:(z0r E st.o (opd st) o.dst o.op).get=some (v,us)):OpWp P B nt w0 X a w o st v us:=by
  obtain ⟨callee,args,ats⟩:=c
  cases callee with
  | builtin b=>exact zjo hT h o hd9 ho he
  | invoke recv name=>
    rw [ho] at he
    simp only [z0r,z83] at he
    simp [T.get] at he
  | value x=>
    rw [ho] at he
    obtain ⟨args⟩:=args
    have clo:∀ (x:Operand),o.op = .call ⟨.value x,⟨args⟩,ats⟩→∀ d,o.dst=some d→(match opd st x with
        | .clo f caps=>match zb5 caps with
          | true=>zfh st.o d (ziz E ats.toList) (lkd (fun _=>R.no) E.sp f) (zdd (opd st) args++caps)
          | false=>.no
        | _=>.no).get=some (v,us)→OpWp P B nt w0 X a w o st v us:=by
      intro x ho d hd he
      split at he
      · rename_i f caps hclo
        split at he
        case h_2=>simp [T.get] at he
        have hx:=z0d h x
        rw [hclo] at hx
        simp only [VRel] at hx
        obtain ⟨cs,hx1,hx2⟩:=hx
        have hrel:=zfi h hSp.1 (hSp.get f) ((zay h args).append hx2) (hd9 d hd) he
        refine zhk o (xs:=args.map a.eval++cs.toList) ?_ hrel
        obtain ⟨dst,op,type,pos,after,guard⟩:=o
        simp only at ho
        subst ho
        have:execOp a.eval { dst,op:=.call { callee:=.value x,args:=⟨args⟩,argTypes:=ats },type,pos,after,guard }=(do let d ← Deferred.ofValue (a.eval x) ((⟨args⟩:Array Operand).map a.eval); invoke d.target d.args):=rfl
        rw [this,hx1]
        have hla:(args.map a.eval).toArray++cs=(args.map a.eval++cs.toList).toArray:=by
          apply Array.ext'
          simp
        simp [Deferred.ofValue,invoke,hla]
      · simp [T.get] at he
    cases x with
    | func f=>
      simp only [z0r,z83,zna] at he
      have hrun:∀ {f:Nat},o.op = .call ⟨.value (.func f),⟨args⟩,ats⟩→(execOp a.eval o).run P w=(callFunc f (args.map a.eval).toArray).run P w:=fun {f} ho=>by
        obtain ⟨dst,op,type,pos,after,guard⟩:=o
        simp only at ho
        subst ho
        have:execOp a.eval { dst,op:=.call { callee:=.value (.func f),args:=⟨args⟩,argTypes:=ats },type,pos,after,guard }=callFunc f (#[]++(⟨args⟩:Array Operand).map a.eval++#[]):=rfl
        rw [this]
        simp
      split at he
      · rename_i p hp
        exact zhk o (xs:=args.map a.eval) (hrun ho) (zof h (hSp.2.2 f p hp) (zay h args) hd9 he)
      · split at he
        · rename_i d hd
          exact zhk o (xs:=args.map a.eval) (hrun ho) (zfi h hSp.1 (hSp.get f) (zay h args) (hd9 d hd) he)
        · simp [T.get] at he
    | tmp t=>
      simp only [z0r,z83] at he
      cases hd:o.dst with
      | none=>rw [hd] at he; simp [T.get] at he
      | some d=>rw [hd] at he; exact clo _ ho d hd he
    | const t=>
      simp only [z0r,z83] at he
      cases hd:o.dst with
      | none=>rw [hd] at he; simp [T.get] at he
      | some d=>rw [hd] at he; exact clo _ ho d hd he
    | global t=>
      simp only [z0r,z83] at he
      cases hd:o.dst with
      | none=>rw [hd] at he; simp [T.get] at he
      | some d=>rw [hd] at he; exact clo _ ho d hd he
theorem zhj (hT:TiOK P B E) (h:Rel B nt w0 X γ st a w) (o:Oper) (hd9:∀ d,o.dst=some d→d≠900000) {s t:Nat} {x:Operand} (ho:o.op = .convert s t x) {v:V} {u:Upd} {us:List Upd}
    (he:(z0r E st.o (opd st) o.dst o.op).get=some (v,u :: us)):OpWp P B nt w0 X a w o st v (u :: us):=by
  have hx:=z0d h x
  rw [ho] at he
  simp only [z0r] at he
  split at he
  · split at he
    · simp [T.get] at he
    · simp [T.get] at he
  · rename_i b hop
    rw [hop] at hx
    simp only [VRel] at hx
    split at he
    · simp [T.get] at he
    · rename_i e k1 kss hd hks hkss
      split at he
      · rename_i d hdst hde hkse
        simp only [T.get,Option.some.injEq,Prod.mk.injEq,List.cons.injEq] at he
        obtain ⟨rfl,rfl,rfl⟩:=he
        have hu1:=z3k hT hd
        obtain ⟨d',hd1',_,_⟩:=(hT.kinds (t:=s) (by rw [hkss]; simp)).und
        obtain ⟨d'',hd1'',_,hd2''⟩:=(hT.kinds (t:=e) (by rw [hkse]; simp)).und
        rw [hde] at hd2''
        obtain rfl:=hd2''.1 _ hkse
        have hrun:(execOp a.eval o).run P w = .ok (.value (.slice (some ⟨w.heap.size,0,none⟩) b.size (grownCap w b.size 0 e))) (Lib.bytesWorld w e b):=by
          unfold execOp
          simp only [ho,hx.1,Sem.run_bind,Lib.run_convert_string_bytes w s t e b hd1' hu1 hd1'',Result.andThen_ok,Sem.run_pure]
        have hsm:=z8v
        have hcg:=grownCap_ge w b.size 0 e
        have hcm:grownCap w b.size 0 e≤maxLen:=grownCap_le_maxLen w b.size 0 e (Nat.le_trans hx.2 hsm)
        have hcs:(Lib.bytesCells w e b).size=grownCap w b.size 0 e:=by
          have:b.data.size=b.size:=rfl
          simp only [Lib.bytesCells,Array.size_append,Array.size_map,Array.size_replicate,this]
          omega
        have hkp:Keep (fun _=>False) w (Lib.bytesWorld w e b):=by
          refine ⟨?_,?_,?_,by rw [Lib.bytesWorld_size]; omega,fun j hj _=>Lib.bytesWorld_at_old w e b j hj⟩
          · simp [Lib.bytesWorld,World.freeze]; rfl
          · simp [Lib.bytesWorld,World.freeze]
          · simp [Lib.bytesWorld,World.freeze]; rfl
        have hn:=Rel.new h [] d (hd9 d hdst) (.row true (e+1000000) false [.int .u8] (b.data.toList.map fun b=>.int (b.toNat:Int))) (.slice (some ⟨w.heap.size,0,none⟩) b.size (grownCap w b.size 0 e)) (w':=Lib.bytesWorld w e b) (hkp.mono (fun _ _ h=>h.elim))
          (by
            intro b1 hb
            simp only [z04,Value.ownBlock,Option.some.injEq] at hb
            subst hb
            rw [Lib.bytesWorld_size]
            exact ⟨by omega,.inl (Nat.le_refl _)⟩)
          (by
            intro O' hO hcmp
            simp only [ObRel]
            have hln:(b.data.toList.map fun b=>IV.int (b.toNat:Int)).length=b.size:=by simp
            refine ⟨by simp,by rw [hln]; exact hx.2,b.data.toList.map fun b=>.int .u8 b.toNat,?_,fun i y hy=>?_⟩
            · rw [hln]
              refine ⟨by simp,.inr ⟨w.heap.size,grownCap w b.size 0 e,_,_,_,rfl,Lib.bytesWorld_at_new w e b,hcg,hcm,by rw [hcs]; simp,?_,.inr ⟨by omega,Nat.le_refl _⟩⟩⟩
              simp only [Lib.bytesCells,Array.toList_append,List.length_cons,List.length_nil]
              rw [List.take_append_of_le_length (by simp)]
              rw [List.take_of_length_le (by simp)]
              simp
            · rw [List.getElem?_map] at hy
              cases hbi:b.data.toList[i]? with
              | none=>rw [hbi] at hy; cases hy
              | some c=>
                rw [hbi] at hy
                simp only [Option.map_some,Option.some.injEq] at hy
                subst hy
                simp only [Kd.RelAll,z13,Kd.Rel,IV.toInt,List.length_cons,List.length_nil]
                refine ⟨⟨.int .u8 c.toNat,by simp [hbi],rfl,?_,?_⟩,trivial⟩
                · simp [IntKind.min,IntKind.signed]
                · have:=c.toNat_lt
                  simp [IntKind.max,IntKind.signed,IntKind.bits]
                  omega)
        refine OpWp.value hrun hn ?_
        simp only [St.ups,VRel,z03,if_true]
        refine ⟨by simp,some ⟨w.heap.size,0,none⟩,b.size,grownCap w b.size 0 e,some ⟨w.heap.size,0,none⟩,rfl,by simp,Nat.zero_le _,Nat.le_refl _,hcg,hcm,.inl ?_,fun _=>rfl⟩
        simp [Addr.add]
      · simp [T.get] at he
    · simp [T.get] at he
  · split at he
    · split at he
      · simp [T.get] at he
      · simp [T.get] at he
    · simp [T.get] at he
def BldOK (P:Program) (B:BT) (E:Env):Prop:=(E.tyd B.T).d = .bld→∃ i,P.info? B.T=some i∧i.zero=some (.agg #[.pointer none,.slice none 0 0])
theorem zmy (hT:TiOK P B E) (hE:∀ t,t∈E.eqs→EqSnd P t (E.tyd t).ks) (hSp:SpOK P B E w0 X) (hB:BldOK P B E) (h:Rel B nt w0 X γ st a w) (o:Oper) (hd9:∀ d,o.dst=some d→d≠900000) {v:V} {us:List Upd}
    (he:(z0r E st.o (opd st) o.dst o.op).get=some (v,us)):OpWp P B nt w0 X a w o st v us:=by
  cases ho:o.op with
  | move x=>exact zkx h o (.inl ho) he
  | assign x=>exact zkx h o (.inr ho) he
  | pick c x y=>exact znm h o ho he
  | alloc t=>exact zmg hT h o hd9 ho hB he
  | box t x=>exact zok h o hd9 ho he
  | build t parts=>exact zmh hT h o ho he
  | buildSlice t len parts=>exact zet hT h o hd9 ho he
  | load t x=>exact znk hT h o ho he
  | store t p x=>exact zmn hT h o ho he
  | nilCheck x=>exact zhn h o ho he
  | binOp op t x y t'=>exact zoj hT hE h o ho he
  | unOp op t x=>exact zp8 h o ho he
  | convert s t x=>
    cases us with
    | nil=>exact zjp hT h o ho he
    | cons u us=>exact zhj hT h o hd9 ho he
  | makeFunc f first caps=>exact zhl h o ho he
  | makeSlice t n m=>exact zgc hT h o hd9 ho he
  | slice t x lo hi mx=>exact zmm hT h o ho he
  | fieldAddr s x f=>exact zg9 hT h o ho he
  | field t x f=>exact zmj hT h o ho he
  | indexAddr t x ix=>exact zga hT h o ho he
  | index t x ix=>exact zmk hT h o ho he
  | extract x i=>exact zjq h o ho he
  | call c=>exact znj hT hSp h o hd9 ho he
  | makeMap t r=>exact zjr h o hd9 ho he
  | insert t m k x=>exact zgb hT h o (.inl ho) he
  | mapUpdate t m k x=>exact zgb hT h o (.inr ho) he
  | lookup t m k ok=>exact zkw hT h o ho he
  | mapEntry t m k=>exact zhm hT h o ho he
  | entryStore t m s x=>exact zeu h o ho he
  | range t x=>exact zml hT h o hd9 ho he
  | entry x=>exact zmi h o ho he
  | _=>rw [ho] at he; simp [z0r,T.get] at he
theorem zjz (hT:TiOK P B E) (hE:∀ t,t∈E.eqs→EqSnd P t (E.tyd t).ks) (hSp:SpOK P B E w0 X) (hB:BldOK P B E) (h:Rel B nt w0 X γ st a w) (o:Oper) (hd9:∀ d,o.dst=some d→d≠900000) {k:V→List Upd→Res} {r:V × List (List V)}
    (he:zjy E st.o (opd st) o.dst o.op k=some r):∃ v us,k v us=some r∧OpWp P B nt w0 X a w o st v us:=by
  unfold zjy at he
  split at he
  · rename_i x hop
    split at he
    · rename_i n i c hm
      split at he
      · rename_i vk last rest hob
        obtain ⟨h0,h1⟩:=znl (P:=P) h o hop hm hob
        split at he
        · rename_i hl
          exact ⟨_,_,he,h0 (z0f.1 hl)⟩
        · rename_i hl
          obtain ⟨j,hj,hw⟩:=h1 (z10.1 hl)
          exact ⟨_,_,zk9 he j hj,hw⟩
      · cases he
    · cases he
  · obtain ⟨v,us,h1,h2⟩:=T.run_some he
    exact ⟨v,us,h2,zmy hT hE hSp hB h o hd9 h1⟩
end
open Go Go.RowKit
theorem z6u:∀ {l:List V} {n:Nat},n∈z0q l→n∈z2e.go l
  | v :: r,n,h=>by
    simp only [z0q,List.mem_append] at h
    rcases h with h | h
    · cases v <;> simp only [z1v] at h <;> first | (cases h; done) | (simp only [z2e.go,List.mem_append]; exact .inl h)
    · cases v <;> simp only [z2e.go,List.mem_append] <;> exact .inr (z6u h)
def Agree (o o':Store) (l:List Nat):Prop:=∀ n∈l,z01 o' n=z01 o n
theorem Agree.left {o o':Store} {l l':List Nat} (h:Agree o o' (l++l')):Agree o o' l:=fun n hn=>h n (List.mem_append_left _ hn)
theorem Agree.right {o o':Store} {l l':List Nat} (h:Agree o o' (l++l')):Agree o o' l':=fun n hn=>h n (List.mem_append_right _ hn)
theorem za8 {o o':Store} {v:V} (h:Agree o o' (z1v v)):z3g o' v=z3g o v:=by
  cases v <;> simp only [z3g]
  all_goals rw [h _ (by simp [z1v])]
theorem zbo {o o':Store} {v:V} (h:Agree o o' (z1v v)):okV o' v=okV o v:=by
  cases v <;> simp only [okV] <;> exact za8 h
theorem z7s {o o':Store}:∀ {l:List V},Agree o o' (z0q l)→zes o' l=zes o l
  | [],_=>rfl
  | v :: r,h=>by simp only [zes,za8 h.left,z7s (l:=r) h.right]
theorem z88 {o o':Store} {v:V} (h:Agree o o' (z1v v)):z5b o' v=z5b o v:=by
  cases v <;> simp only [z5b]
  rw [h _ (by simp [z1v])]
theorem z8r {o o':Store} {v:V} (h:Agree o o' (z1v v)):z4c o' v=z4c o v:=by
  cases v <;> simp only [z4c]
  rw [h _ (by simp [z1v])]
theorem z4k {o o':Store} {k:Kd} {v:V} (h:Agree o o' (z1v v)):z45 o' k v=z45 o k v:=by
  cases k <;> cases v <;> simp only [z45]
  rw [h _ (by simp [z1v])]
theorem z2c {o o':Store}:∀ {ks:List Kd} {l:List V},Agree o o' (z0q l)→z18 o' ks l=z18 o ks l
  | [],[],_=>rfl
  | [],_ :: _,_=>rfl
  | _ :: _,[],_=>rfl
  | k :: ks,v :: r,h=>by simp only [z18,z4k h.left,z2c (l:=r) h.right]
theorem z1k {v:V} {n:Nat} (h:n∈z1v v):n∈z2e v:=by
  cases v <;> simp only [z1v] at h <;> first | exact h | cases h
theorem zfo {o o':Store} {ag:Bool} {ks:List Kd} {v:V} (h:Agree o o' (z2e v)):z65 o' ag ks v=z65 o ag ks v:=by
  cases ag with
  | false=>
    simp only [z65]
    rw [z2c (o:=o) (o':=o') (fun n hn=>h n (z1k (by simpa [z0q] using hn)))]
  | true=>
    cases v <;> simp only [z65]
    rw [z2c h]
theorem zac:∀ (a b:List V),z0q (a++b)=z0q a++z0q b
  | [],b=>rfl
  | v :: r,b=>by simp [z0q,zac r b]
theorem zgj {l:List V} {v:V} {n:Nat} (hv:v∈l) (hn:n∈z1v v):n∈z0q l:=by
  induction l with
  | nil=>cases hv
  | cons u r ih=>
    simp only [z0q,List.mem_append]
    rcases List.mem_cons.1 hv with h | h
    · subst h; exact .inl hn
    · exact .inr (ih h)
theorem zby {l l':List V} (h:∀ v∈l,v∈l') {n:Nat} (hn:n∈z0q l):n∈z0q l':=by
  induction l with
  | nil=>simp [z0q] at hn
  | cons u r ih=>
    simp only [z0q,List.mem_append] at hn
    rcases hn with hn | hn
    · exact zgj (h u (List.mem_cons_self ..)) hn
    · exact ih (fun v hv=>h v (List.mem_cons_of_mem _ hv)) hn
theorem z55 {o o':Store} {ag:Bool} {ks:List Kd} {sz:Nat}:∀ {n:Nat} {cs:List V},Agree o o' (z0q cs)→z84 ag ks o' cs sz n=z84 ag ks o cs sz n
  | 0,cs,_=>rfl
  | n+1,cs,h=>by
    simp only [z84]
    rw [z55 (n:=n) (cs:=z7k cs sz) (fun m hm=>h m (by rw [z38] at hm; exact zby (fun v hv=>List.mem_of_mem_drop hv) hm))]
    cases ag with
    | true=>
      rw [zfo]
      intro m hm
      simp only [z2e,z5m] at hm
      exact h m (zby (fun v hv=>List.mem_of_mem_take hv) hm)
    | false=>
      simp only [z65]
      rw [z2c (o:=o) (o':=o')]
      intro m hm
      rw [zbm] at hm
      cases hc:cs[0]? with
      | none=>rw [hc] at hm; simp [z0q,z1v] at hm
      | some u=>
        rw [hc] at hm
        simp only [Option.getD_some,z0q,List.append_nil] at hm
        exact h m (zgj (List.mem_of_getElem? hc) hm)
theorem z2j {l:List V} {n:Nat} (h:n∈z0c l):n∈z0q l:=by
  induction l with
  | nil=>simp [z0c] at h
  | cons v r ih=>
    simp only [z0q,List.mem_append]
    cases v <;> simp only [z0c,List.mem_cons] at h <;> first | exact .inr (ih h) | skip
    rcases h with h | h
    · exact .inl (by simp [z1v,h])
    · exact .inr (ih h)
theorem z2s {o o':Store}:∀ {l:List Nat},Agree o o' l→z06 o' l=z06 o l
  | [],_=>rfl
  | n :: r,h=>by
    simp only [z06]
    rw [h n (List.mem_cons_self ..),z2s (l:=r) (fun m hm=>h m (List.mem_cons_of_mem _ hm))]
theorem z7m {o o':Store} {place:Nat→Option (Nat × Nat)}:∀ {cs:List V} {l:List (Nat × V)},(∀ i v,(i,v)∈l→Agree o o' (z2e v))→z70 o' place cs l=z70 o place cs l
  | cs,[],_=>rfl
  | cs,(i,v) :: r,h=>by
    simp only [z70]
    have h1:okV o' v=okV o v:=zbo (fun n hn=>h i v (List.mem_cons_self ..) n (z1k hn))
    rw [h1]
    split
    · split
      · exact z7m (fun i v hv=>h i v (List.mem_cons_of_mem _ hv))
      · rfl
    · rfl
theorem z3w {o o':Store} {d e:Nat} {ag:Bool} {ks:List Kd} {bytes:Nat} {s:V} {l:List IV} (h:Agree o o' (z1v s)):z3n o' d e ag ks bytes s l=z3n o d e ag ks bytes s l:=by
  cases s <;> simp only [z3n]
  rw [h _ (by simp [z1v])]
theorem z57 {o:Store} {n m:Nat} {cs:List V}:∀ {l:List Nat},n∈l→z01 o n=some (.box cs)→m∈z0q cs→m∈zf6 o l
  | x :: r,hn,ho,hm=>by
    simp only [zf6]
    rcases List.mem_cons.1 hn with h | h
    · subst h
      rw [ho]
      exact List.mem_append_left _ hm
    · have:=z57 h ho hm
      split
      · exact List.mem_append_right _ this
      · exact this
theorem zdw {o o':Store} {d et:Nat} {e:TI} {tk:List Kd} {s x:V} (h:Agree o o' (z1v s)):z93 o' d et e tk s x=z93 o d et e tk s x:=by
  unfold z93
  simp only [z3w h]
theorem zdv {o o':Store} {d et:Nat} {e:TI} {s x:V} (h:Agree o o' (z1v s)) (h':Agree o o' (z1v x++zf6 o (z1v x))):z7g o' d et e s x=z7g o d et e s x:=by
  have gen:(match z5b o' x,z4c o' x with
      | some l,some (ag,ks)=>match zaq (.list e.agg e.ks) (.list ag ks) with
        | true=>z3n o' d et e.agg e.ks e.bytes s l
        | false=>.no
      | _,_=>.no)=(match z5b o x,z4c o x with
      | some l,some (ag,ks)=>match zaq (.list e.agg e.ks) (.list ag ks) with
        | true=>z3n o d et e.agg e.ks e.bytes s l
        | false=>.no
      | _,_=>.no):=by
    simp only [z88 h'.left,z8r h'.left,z3w h]
  cases x
  case bview n c cap sz len=>
    simp only [z7g]
    rw [h' n (by simp [z1v])]
    split
    · rename_i cs ho
      simp only [z3w h]
      split
      · congr 1
        funext m
        rw [z55 (o:=o) (o':=o')]
        intro k hk
        rw [z38] at hk
        exact h' k (List.mem_append_right _ (z57 (by simp [z1v]) ho (zby (fun v hv=>List.mem_of_mem_drop hv) hk)))
      · rfl
    · rfl
  case zs=>simp only [z7g,z3w h]
  all_goals exact gen
theorem z4q {o o':Store} {bs:List V} {tk:Option Kd} {v:V} (h:Agree o o' (z1v v)):z1w o' bs tk v=z1w o bs tk v:=by
  cases v <;> simp only [z1w]
  all_goals rw [h _ (by simp [z1v])]
theorem z9j {o o':Store} {bs:List V}:∀ {l:List V} {ks:List Kd},Agree o o' (z0q l)→zh0 (fun k v=>z30 (z1w o' bs k v)) ks l=zh0 (fun k v=>z30 (z1w o bs k v)) ks l
  | [],ks,_=>by cases ks <;> rfl
  | v :: l,[],h=>by simp only [zh0,z4q h.left,z9j (l:=l) h.right]
  | v :: l,k :: ks,h=>by simp only [zh0,z4q h.left,z9j (l:=l) h.right]
theorem z78 {o o':Store} {bs:List V} {tk:Option Kd}:∀ {l:List V},Agree o o' (z0q l)→l.map (z1w o' bs tk)=l.map (z1w o bs tk)
  | [],_=>rfl
  | v :: l,h=>by simp only [List.map_cons,z4q h.left,z78 (l:=l) h.right]
theorem z95 {o o':Store} {bs:List V} {ks:List Kd} {v:V} (h:Agree o o' (z2e v)):zcg o' bs ks v=zcg o bs ks v:=by
  by_cases ha:∃ l,v = .agg l
  · obtain ⟨l,rfl⟩:=ha
    simp only [zcg,z9j (o:=o) (o':=o') h]
  by_cases hc:∃ f l,v = .clo f l
  · obtain ⟨f,l,rfl⟩:=hc
    simp only [zcg,z78 (o:=o) (o':=o') (l:=l) (fun n hn=>h n (z6u hn))]
  have h1:∀ o,zcg o bs ks v=z1w o bs ks.head? v:=by
    intro o
    cases v <;> first | rfl | exact absurd ⟨_,rfl⟩ ha | exact absurd ⟨_,_,rfl⟩ hc
  rw [h1,h1]
  exact z4q (fun n hn=>h n (z1k hn))
theorem z7i {o o':Store} {bs:List V}:∀ {l:List V} {tks:List (List Kd)},Agree o o' (z16 l)→z1j o' bs tks l=z1j o bs tks l
  | [],tks,_=>by cases tks <;> rfl
  | v :: l,[],h=>by simp only [z1j,z95 h.left,z7i (l:=l) h.right]
  | v :: l,t :: ts,h=>by simp only [z1j,z95 h.left,z7i (l:=l) h.right]
theorem zh9 {o o':Store} {all:List Nat} {v:V} (h:Agree o o' (z1v v)):z0v o' all v=z0v o all v:=by
  cases v <;> simp only [z0v]
  rw [h _ (by simp [z1v])]
theorem z6a {o o':Store} {all:List Nat}:∀ {l:List V},Agree o o' (z0q l)→l.map (z0v o' all)=l.map (z0v o all)
  | [],_=>rfl
  | v :: l,h=>by simp only [List.map_cons,zh9 h.left,z6a (l:=l) h.right]
theorem za5 {o o':Store} {all:List Nat}:∀ {l:List V},Agree o o' (z0q l)→z14 o' all l=z14 o all l
  | [],_=>rfl
  | v :: l,h=>by
    have ih:=za5 (all:=all) (l:=l) h.right
    cases v <;> simp only [z14,ih]
    rw [h.left _ (by simp [z1v])]
theorem zaf {o o':Store} {all:List Nat}:∀ {l:List V},Agree o o' (z0q l)→z1h o' all l=z1h o all l
  | [],_=>rfl
  | v :: l,h=>by
    have ih:=zaf (all:=all) (l:=l) h.right
    cases v <;> simp only [z1h,ih]
    rw [h.left _ (by simp [z1v])]
theorem zk3 {v:V} {n:Nat} (h:n∈z5n v):n∈z2e v:=by
  cases v <;> simp only [z5n] at h <;> try (cases h; done)
  case row=>simpa [z2e,z1v] using h
  case agg=>exact z2j h
  case clo=>exact z6u (z2j h)
  case tup l=>
    simp only [z2e]
    induction l with
    | nil=>simp [z5n.go] at h
    | cons v r ih=>
      cases v <;> simp only [z5n.go,z2e.go,List.mem_cons,List.mem_append] at h ⊢ <;> first | exact .inr (ih h) | skip
      · rcases h with h | h
        · exact .inl (by simp [z1v,h])
        · exact .inr (ih h)
      · rcases h with h | h
        · exact .inl (z2j h)
        · exact .inr (ih h)
theorem z7w:∀ {l:List V} {n:Nat},n∈z0a l→n∈z16 l
  | v :: l,n,h=>by
    simp only [z0a,z16,List.mem_append] at h ⊢
    exact h.imp zk3 z7w
theorem z69:∀ {l:List V} {n:Nat},n∈z2x l→n∈z16 l
  | v :: l,n,h=>by
    simp only [z16,List.mem_append]
    cases v <;> simp only [z2x,List.mem_cons,List.mem_append] at h <;> first | exact .inr (z69 h) | skip
    · rcases h with h | h
      · exact .inl (by simp [z2e,z1v,h])
      · exact .inr (z69 h)
    · rename_i f caps
      rcases h with h | h
      · refine .inl ?_
        simp only [z2e]
        refine z6u ?_
        clear z69
        induction caps with
        | nil=>simp [z2x.lentC] at h
        | cons v r ih=>
          simp only [z0q,List.mem_append]
          cases v <;> simp only [z2x.lentC,List.mem_cons] at h <;> first | exact .inr (ih h) | skip
          rcases h with h | h
          · exact .inl (by simp [z1v,h])
          · exact .inr (ih h)
      · exact .inr (z69 h)
theorem zj8 {o o':Store} {v:V} (h:Agree o o' (z1v v)):zgy o' v=zgy o v:=by
  by_cases hp:∃ n i c,v = .ptr n i c
  · obtain ⟨n,i,c,rfl⟩:=hp
    simp only [zgy]
    rw [h _ (by simp [z1v])]
  · have h1:∀ o,zgy o v=z30 (z1w o [] none v):=by
      intro o
      cases v <;> first | rfl | exact absurd ⟨_,_,_,rfl⟩ hp
    rw [h1,h1,z4q h]
theorem z79 {o o':Store}:∀ {l:List V},Agree o o' (z0q l)→l.map (zgy o')=l.map (zgy o)
  | [],_=>rfl
  | v :: l,h=>by simp only [List.map_cons,zj8 h.left,z79 (l:=l) h.right]
theorem zcu {o o':Store} {ks:List Kd} {v:V} (h:Agree o o' (z2e v)):zh4 o' ks v=zh4 o ks v:=by
  by_cases hc:(∃ f l,v = .clo f l)∨(∃ n i c,v = .ptr n i c)
  · rcases hc with ⟨f,l,rfl⟩ | ⟨n,i,c,rfl⟩
    · simp only [zh4,z79 (o:=o) (o':=o') (l:=l) (fun n hn=>h n (z6u hn))]
    · rfl
  · have h1:∀ o,zh4 o ks v=zcg o [] ks v:=by
      intro o
      cases v <;> first | rfl | exact absurd (.inl ⟨_,_,rfl⟩) hc | exact absurd (.inr ⟨_,_,_,rfl⟩) hc
    rw [h1,h1,z95 h]
theorem z7h {o o':Store}:∀ {l:List V} {tks:List (List Kd)},Agree o o' (z16 l)→z4z o' tks l=z4z o tks l
  | [],tks,_=>by cases tks <;> rfl
  | v :: l,[],h=>by simp only [z4z,zcu h.left,z7h (l:=l) h.right]
  | v :: l,t :: ts,h=>by simp only [z4z,zcu h.left,z7h (l:=l) h.right]
theorem zb4 {o o':Store} {d:Nat} {tks:List (List Kd)} {sp:z2a} {vs:List V} (h:Agree o o' (z16 vs++zf6 o (z16 vs))):zfh o' d tks sp vs=zfh o d tks sp vs:=by
  have hA:∀ bs,z1j o' bs tks vs=z1j o bs tks vs:=fun bs=>z7i h.left
  have hF:∀ l,(∀ n∈l,n∈z16 vs++zf6 o (z16 vs))→z06 o' l=z06 o l:=fun l hl=>z2s (fun n hn=>h n (hl n hn))
  have hFv:z06 o' (z0a vs)=z06 o (z0a vs):=hF _ (fun n hn=>List.mem_append_left _ (z7w hn))
  have hF0:z06 o' []=z06 o []:=rfl
  have hPl:z7z o' d vs=z7z o d vs:=by
    funext v out
    unfold z7z
    split
    · split
      · rename_i cs
        cases z9z cs <;> simp only [hFv,hF0]
      · simp only [hFv]
      · cases z0w v <;> simp only [hFv,hF0]
    · rfl
  unfold zfh
  simp only [hA,hPl]
  split
  · rfl
  · rename_i n hl
    have hn:n∈z16 vs:=z69 (by rw [hl]; exact List.mem_cons_self ..)
    rw [h n (List.mem_append_left _ hn)]
    split
    · rename_i cs ho
      have hcs:Agree o o' (z0q cs):=fun m hm=>h m (List.mem_append_right _ (z57 hn ho hm))
      have hsh:∀ m∈z1h o (z0c cs++z0a vs) cs,m∈z16 vs++zf6 o (z16 vs):=by
        intro m hm
        obtain ⟨lo,hi,_,_,_,_,_,h1,_⟩:=z6w hm
        exact List.mem_append_right _ (z57 hn ho (z2j (z2z h1)))
      have hBx:zfa o' d n cs vs=zfa o d n cs vs:=by
        funext v outs
        unfold zfa
        rw [za5 hcs,zaf hcs]
        split
        · rename_i out
          have h1:z06 o' (z1h o (z0c cs++z0a vs) cs++z0a vs)=z06 o (z1h o (z0c cs++z0a vs) cs++z0a vs):=hF _ (fun m hm=>(List.mem_append.1 hm).elim (hsh m) (fun hm=>List.mem_append_left _ (z7w hm)))
          have h2:z06 o' (z1h o (z0c cs++z0a vs) cs++[])=z06 o (z1h o (z0c cs++z0a vs) cs++[]):=hF _ (fun m hm=>hsh m (by simpa using hm))
          cases (z0w v||z9z out) <;> simp only [h1,h2]
        · rfl
      rw [z6a hcs,hBx]
    · have hBd:zf9 o' n vs=zf9 o n vs:=by
        funext v outs
        unfold zf9
        split
        · cases z0w v <;> simp only [hFv,hF0]
        · rfl
      rw [hBd]
    · rfl
  · rw [z7h h.left]
theorem za6 {o o':Store} {l:List V} (h:Agree o o' (z16 l)):zbe o' l=zbe o l:=by
  unfold zbe
  split
  · rfl
  · rename_i f m i c
    rw [h m (by simp [z16,z2e,z2e.go,z1v])]
  · rfl
theorem zkp {o o':Store} {d:Option Nat} {p:Ip} {vs:List V} (h:Agree o o' (z16 vs)):ipT o' d p vs=ipT o d p vs:=by
  unfold ipT
  split
  · rename_i n lo hi rest
    rw [h n (by simp [z16,z2e,z1v]),za6 (fun k hk=>h k (by simp only [z16,List.mem_append]; exact .inr hk))]
  · rename_i rest
    rw [za6 (fun k hk=>h k (by simp only [z16,List.mem_append]; exact .inr hk))]
  · rfl
theorem zbx:∀ (cs:List V) (n:Nat) (vs:List V) {m:Nat},m∈z0q (z6t cs n vs)→m∈z0q cs∨m∈z0q vs
  | cs,n,[],m,h=>by cases cs <;> cases n <;> exact .inl h
  | [],n,v :: vs,m,h=>by cases n <;> simp [z6t,z0q] at h
  | c :: r,0,v :: vs,m,h=>by
    simp only [z6t,z0q,List.mem_append] at h ⊢
    rcases h with h | h
    · exact .inr (.inl h)
    · rcases zbx r 0 vs h with h | h
      · exact .inl (.inr h)
      · exact .inr (.inr h)
  | c :: r,n+1,v :: vs,m,h=>by
    simp only [z6t,z0q,List.mem_append] at h ⊢
    rcases h with h | h
    · exact .inl (.inl h)
    · rcases zbx r n (v :: vs) h with h | h
      · exact .inl (.inr h)
      · exact .inr (by simpa [z0q] using h)
theorem zcy {v:V} {m:Nat} (h:m∈z0q (cells v)):m∈z2e v:=by
  by_cases ha:∃ l,v = .agg l
  · obtain ⟨l,rfl⟩:=ha
    exact h
  · have:cells v=[v]:=by cases v <;> first | rfl | exact absurd ⟨_,rfl⟩ ha
    rw [this] at h
    exact z1k (by simpa [z0q] using h)
theorem z3y {l:List V} {v:V} {n:Nat} (hv:v∈l) (hn:n∈z2e v):n∈z16 l:=by
  induction l with
  | nil=>cases hv
  | cons u r ih=>
    simp only [z16,List.mem_append]
    rcases List.mem_cons.1 hv with h | h
    · subst h; exact .inl hn
    · exact .inr (ih h)
theorem zd6 {o:Store} {place:Nat→Option (Nat × Nat)}:∀ {l:List (Nat × V)} {cs cs':List V},z70 o place cs l=some cs'→∀ m∈z0q cs',m∈z0q cs∨∃ i v,(i,v)∈l∧m∈z2e v
  | [],cs,cs',h,m,hm=>by
    simp only [z70,Option.some.injEq] at h
    subst h
    exact .inl hm
  | (i,v) :: r,cs,cs',h,m,hm=>by
    simp only [z70] at h
    split at h
    · split at h
      · rcases zd6 h m hm with h1 | ⟨j,u,h1,h2⟩
        · rcases zbx _ _ _ h1 with h2 | h2
          · exact .inl h2
          · exact .inr ⟨i,v,List.mem_cons_self ..,zcy h2⟩
        · exact .inr ⟨j,u,List.mem_cons_of_mem _ h1,h2⟩
      · cases h
    · cases h
theorem zad {z:List V}:∀ {n m:Nat},m∈z0q (z4b z n)→m∈z0q z
  | 0,m,h=>by simp [z4b,z0q] at h
  | n+1,m,h=>by
    simp only [z4b,zac,List.mem_append] at h
    exact h.elim id (zad (n:=n))
theorem z9q (ρ:Operand→V):∀ {l:List (Nat × Operand)} {i:Nat} {v:V},(i,v)∈z3h ρ l→v∈(l.map (·.2)).map ρ
  | (j,x) :: r,i,v,h=>by
    simp only [z3h,List.mem_cons,Prod.mk.injEq] at h
    simp only [List.map_cons,List.mem_cons]
    rcases h with ⟨_,rfl⟩ | h
    · exact .inl rfl
    · exact .inr (z9q ρ h)
theorem zdl:∀ {l:List V} {n:Nat},n∈z16 l→∃ v∈l,n∈z2e v
  | v :: r,n,h=>by
    simp only [z16,List.mem_append] at h
    rcases h with h | h
    · exact ⟨v,List.mem_cons_self ..,h⟩
    · obtain ⟨u,h1,h2⟩:=zdl h
      exact ⟨u,List.mem_cons_of_mem _ h1,h2⟩
theorem ze6 {o:Store} {m:Nat}:∀ {l:List Nat},m∈zf6 o l→∃ n∈l,∃ cs,z01 o n=some (.box cs)∧m∈z0q cs
  | n :: r,h=>by
    simp only [zf6] at h
    split at h
    · rename_i cs ho
      rcases List.mem_append.1 h with h | h
      · exact ⟨n,List.mem_cons_self ..,cs,ho,h⟩
      · obtain ⟨k,h1,h2⟩:=ze6 h
        exact ⟨k,List.mem_cons_of_mem _ h1,h2⟩
    · obtain ⟨k,h1,h2⟩:=ze6 h
      exact ⟨k,List.mem_cons_of_mem _ h1,h2⟩
theorem zi3 {o:Store} {l l':List Nat} (hs:∀ k∈l,k∈l') {n:Nat} (h:n∈zf6 o l):n∈zf6 o l':=by
  obtain ⟨k,h1,cs,h2,h3⟩:=ze6 h
  exact z57 (hs k h1) h2 h3
theorem zkf {v:V} {n:Nat}:∀ {l:List V},zb5 l=true→v∈l→n∈z2e v→n∈z2e.go l
  | u :: r,hok,hv,hn=>by
    rcases List.mem_cons.1 hv with h | h
    · subst h
      cases v <;> simp only [zb5] at hok <;> first | (cases hok; done) | (simp only [z2e,z1v] at hn; simp only [z2e.go,z1v,List.mem_append]; first | exact .inl hn | (cases hn; done))
    · have hr:zb5 r=true:=by cases u <;> simp only [zb5] at hok <;> first | exact hok | (cases hok; done)
      have:=zkf hr h hn
      cases u <;> simp only [z2e.go,List.mem_append] <;> exact .inr this
theorem zd5 {E:Env} {o o':Store} {ρ:Operand→V} {d:Option Nat} {op:Op} (h:Agree o o' (reads E o ρ op)):z0r E o' ρ d op=z0r E o ρ d op:=by
  cases hq:zom op with
  | true=>cases op <;> first | rfl | cases hq
  | false=>
  unfold reads at h
  rw [hq] at h
  replace h:Agree o o' (ziq E o ρ op):=h
  unfold ziq at h
  have hz:=h.left.right
  have hd:=h.right
  have hv:=h.left.left
  clear h
  have one:∀ {x:Operand} {n:Nat},x∈op.operands.toList→n∈z2e (ρ x)→z01 o' n=z01 o n:=fun hx hn=>hv _ (z3y (List.mem_map_of_mem hx) hn)
  have two:∀ {x:Operand} {n:Nat} {cs:List V},x∈op.operands.toList→n∈z2e (ρ x)→z01 o n=some (.box cs)→Agree o o' (z0q cs):=fun hx hn ho m hm=>hd _ (z57 (z3y (List.mem_map_of_mem hx) hn) ho hm)
  cases op
  case box t x=>
    simp only [z0r]
    rw [zbo (fun n hn=>one (x:=x) (by simp [Op.operands]) (z1k hn))]
  case build t parts=>
    have hp:∀ i v,(i,v)∈z3h ρ parts.toList→Agree o o' (z2e v):=fun i v hm n hn=>hv _ (z3y (by have:=z9q ρ hm; simpa [Op.operands] using this) hn)
    simp only [z0r,z7m hp]
  case buildSlice t len parts=>
    have hp:∀ i v,(i,v)∈z3h ρ parts.toList→Agree o o' (z2e v):=fun i v hm n hn=>hv _ (z3y (by have:=z9q ρ hm; simpa [Op.operands] using this) hn)
    simp only [z0r]
    split
    · rename_i d e hd1
      simp only [zf5,hd1] at hz
      rw [z7m hp]
      split
      · rename_i cs hf
        have hcs:Agree o o' (z0q cs):=by
          intro m hm
          rcases zd6 hf m hm with h1 | ⟨i,v,h1,h2⟩
          · exact hz m (zad h1)
          · exact hp i v h1 m h2
        rw [z55 hcs,z2s (fun m hm=>hcs m (z2j hm))]
      · rfl
    · rfl
  case load t x=>
    simp only [z0r]
    split
    · rename_i n i c hx
      rw [one (x:=x) (by simp [Op.operands]) (by rw [hx]; simp [z2e,z1v])]
    · rfl
    · rfl
  case nilCheck x=>
    simp only [z0r]
    split
    · rename_i n i c hx
      rw [one (x:=x) (by simp [Op.operands]) (by rw [hx]; simp [z2e,z1v])]
    · rfl
  case fieldAddr s x f=>
    simp only [z0r]
    split
    · split
      · split
        · rename_i n i c hx
          rw [one (x:=x) (by simp [Op.operands]) (by rw [hx]; simp [z2e,z1v])]
        · rfl
        · rfl
      · rfl
    · rfl
  case binOp op t x y t'=>
    simp only [z0r]
    unfold zot
    split <;> try rfl
    rename_i n i c hx hy
    rw [one (x:=x) (by simp [Op.operands]) (by rw [hx]; simp [z2e,z1v])]
  case convert s t x=>
    simp only [z0r]
    split <;> try rfl
    rw [z88 (fun n hn=>one (x:=x) (by simp [Op.operands]) (z1k hn)),z8r (fun n hn=>one (x:=x) (by simp [Op.operands]) (z1k hn))]
  case slice t x lo hi mx=>
    simp only [z0r]
    split <;> try rfl
    · rename_i n a b hx
      rw [one (x:=x) (by simp [Op.operands]) (by rw [hx]; simp [z2e,z1v])]
    · rename_i n a c hx
      rw [one (x:=x) (by simp [Op.operands]) (by rw [hx]; simp [z2e,z1v])]
  case indexAddr t x ix=>
    simp only [z0r]
    split
    · split
      · rfl
      · rename_i n lo hi hx
        rw [one (x:=x) (by simp [Op.operands]) (by rw [hx]; simp [z2e,z1v])]
      · rename_i n c cap sz len hx
        rw [one (x:=x) (by simp [Op.operands]) (by rw [hx]; simp [z2e,z1v])]
      · rfl
    · split
      · rename_i n i0 c hx
        rw [one (x:=x) (by simp [Op.operands]) (by rw [hx]; simp [z2e,z1v])]
      · rfl
      · rfl
    · rfl
  case store t p x=>
    simp only [z0r]
    have hx:Agree o o' (z2e (ρ x)):=fun n hn=>one (x:=x) (by simp [Op.operands]) hn
    have hc:Agree o o' (z0q (cells (ρ x))):=fun n hn=>hx n (zcy hn)
    unfold z6h
    split
    · rename_i n i c hp
      rw [one (x:=p) (by simp [Op.operands]) (by rw [hp]; simp [z2e,z1v]),zbo (fun n hn=>hx n (z1k hn)),z7s hc,z2s (fun m hm=>hc m (z2j hm))]
      simp only [z2c hc]
    · rfl
  case makeSlice t n m=>
    simp only [z0r]
    split
    · rename_i d e k1 n1 k2 m1 hd1 _ _
      simp only [zf5,hd1] at hz
      rw [z55 hz]
      split
      · rw [z2s (fun m hm=>hz m (z2j hm))]
      · rfl
    · rfl
  case makeMap t r=>rfl
  case insert t m k x=>
    simp only [z0r]
    split <;> try rfl
    rename_i n i c z e k' hm _ _
    rw [one (x:=m) (by simp [Op.operands]) (by rw [hm]; simp [z2e,z1v])]
    simp only [z4k (fun n hn=>one (x:=x) (by simp [Op.operands]) (z1k hn))]
  case mapUpdate t m k x=>
    simp only [z0r]
    split <;> try rfl
    rename_i n i c z e k' hm _ _
    rw [one (x:=m) (by simp [Op.operands]) (by rw [hm]; simp [z2e,z1v])]
    simp only [z4k (fun n hn=>one (x:=x) (by simp [Op.operands]) (z1k hn))]
  case lookup t m k ok=>
    simp only [z0r]
    split <;> try rfl
    rename_i n i c z e k' hm _ _
    rw [one (x:=m) (by simp [Op.operands]) (by rw [hm]; simp [z2e,z1v])]
  case mapEntry t m k=>
    simp only [z0r]
    split <;> try rfl
    rename_i n i c z e k' hm _ _
    rw [one (x:=m) (by simp [Op.operands]) (by rw [hm]; simp [z2e,z1v])]
  case entryStore t m k x=>
    simp only [z0r]
    split <;> try rfl
    rename_i n i c z hm _
    rw [one (x:=m) (by simp [Op.operands]) (by rw [hm]; simp [z2e,z1v])]
    simp only [z4k (fun n hn=>one (x:=x) (by simp [Op.operands]) (z1k hn))]
  case range t x=>
    simp only [z0r]
    split <;> try rfl
    rename_i n i c d e k' hm _
    rw [one (x:=x) (by simp [Op.operands]) (by rw [hm]; simp [z2e,z1v])]
  case entry x=>
    simp only [z0r]
    split <;> try rfl
    rename_i n i c hm
    rw [one (x:=x) (by simp [Op.operands]) (by rw [hm]; simp [z2e,z1v])]
  case call c=>
    obtain ⟨callee,args,ats⟩:=c
    simp only [z0r,z83]
    have hmem:∀ {x:Operand},x∈args.toList→x∈(Op.call ⟨callee,args,ats⟩).operands.toList:=fun {x} hx=>by
      simp only [Op.operands,Call.operands,Array.toList_append,List.mem_append]
      exact .inr hx
    have harg:∀ {x:Operand},x∈args.toList→Agree o o' (z2e (ρ x)):=fun {x} hx n hn=>one (x:=x) (hmem hx) hn
    have hdp:∀ {x:Operand},x∈args.toList→Agree o o' (z1v (ρ x)++zf6 o (z1v (ρ x))):=fun {x} hx n hn=>by
      rcases List.mem_append.1 hn with hn | hn
      · exact harg hx n (z1k hn)
      · refine hd n (zi3 (fun k hk=>z3y (List.mem_map_of_mem (hmem hx)) (z1k hk)) hn)
    have hsub:∀ (l:List V),(∀ v∈l,∃ y∈(Op.call ⟨callee,args,ats⟩).operands.toList,∀ n∈z2e v,n∈z2e (ρ y))→Agree o o' (z16 l++zf6 o (z16 l)):=by
      intro l hl n hn
      have h1:∀ k∈z16 l,k∈z16 ((Op.call ⟨callee,args,ats⟩).operands.toList.map ρ):=by
        intro k hk
        obtain ⟨v,hv1,hv2⟩:=zdl hk
        obtain ⟨y,hy1,hy2⟩:=hl v hv1
        exact z3y (List.mem_map_of_mem hy1) (hy2 k hv2)
      rcases List.mem_append.1 hn with hn | hn
      · exact hv n (h1 n hn)
      · exact hd n (zi3 h1 hn)
    split
    · split
      · rename_i x t hx _
        have hxm:x∈args.toList:=by rw [hx]; simp
        have:=hdp hxm
        unfold zov
        split <;> try rfl
        · rename_i n lo hi hr
          rw [this.left n (by rw [hr]; simp [z1v])]
        · rename_i n c cap sz len hr
          rw [this.left n (by rw [hr]; simp [z1v])]
      · rfl
    · split
      · rename_i s x t t' hx _
        have hsm:s∈args.toList:=by rw [hx]; simp
        have hxm:x∈args.toList:=by rw [hx]; simp
        simp only [zdv (hdp hsm).left (hdp hxm),zdw (hdp hsm).left]
      · rfl
    · split
      · rename_i x y t t' hx _
        have hxm:x∈args.toList:=by rw [hx]; simp
        have hym:y∈args.toList:=by rw [hx]; simp
        unfold zly
        split
        · rename_i n c cap sz len n' c' cap' sz' len' h1 h2
          rw [(hdp hxm).left n (by rw [h1]; simp [z1v]),(hdp hym).left n' (by rw [h2]; simp [z1v])]
          split
          · rename_i cs cs' e ho ho' hde
            rw [z7s (o:=o) (o':=o') (l:=cs') (fun m hm=>(hdp hym).right m (z57 (by rw [h2]; simp [z1v]) ho' hm))]
          · rfl
        · rfl
      · rfl
    · rfl
    · rfl
    · rename_i f d hcal
      have hs:=hsub (args.toList.map ρ) (fun v hv=>by
        obtain ⟨y,hy,rfl⟩:=List.mem_map.1 hv
        exact ⟨y,hmem hy,fun n hn=>hn⟩)
      unfold zna
      rw [zbi]
      split
      · rw [zkp hs.left]
      · split
        · rw [zb4 hs]
        · rfl
    · split
      · rename_i f caps hx
        split
        · rename_i hok
          rw [zbi,zb4 (hsub _ (fun v hv=>by
            rcases List.mem_append.1 hv with hv | hv
            · obtain ⟨y,hy,rfl⟩:=List.mem_map.1 hv
              exact ⟨y,hmem hy,fun n hn=>hn⟩
            · refine ⟨_,by simp only [Op.operands,Call.operands,Array.toList_append,List.mem_append]; exact .inl (List.mem_cons_self ..),fun n hn=>?_⟩
              rw [hx]
              simp only [z2e]
              exact zkf hok hv hn))]
        · rfl
      · rfl
    · rfl
  case makeFunc f a b=>cases f <;> rfl
  all_goals rfl
open Go Go.RowKit
theorem z6d {ρ ρ':Operand→V}:∀ {l:List (Nat × Operand)},(∀ x∈l.map (·.2),ρ x=ρ' x)→z3h ρ l=z3h ρ' l
  | [],_=>rfl
  | (i,x) :: r,h=>by
    simp only [z3h,h x (by simp),z6d (l:=r) (fun y hy=>h y (List.mem_cons_of_mem _ hy))]
theorem z9k {ρ ρ':Operand→V}:∀ {l:List Operand},(∀ x∈l,ρ x=ρ' x)→zdd ρ l=zdd ρ' l
  | [],_=>rfl
  | x :: r,h=>by simp only [zdd,h x (List.mem_cons_self ..),z9k (l:=r) (fun y hy=>h y (List.mem_cons_of_mem _ hy))]
theorem za9 {ρ ρ':Operand→V} {x:Option Operand} (h:∀ y∈x.toArray.toList,ρ y=ρ' y):x.map ρ=x.map ρ':=by
  cases x with
  | none=>rfl
  | some x=>simp only [Option.map_some,h x (by simp)]
theorem zje {E:Env} {o:Store} {ρ ρ':Operand→V} {d:Option Nat} {op:Op} (h:∀ x∈op.operands.toList,ρ x=ρ' x):z0r E o ρ d op=z0r E o ρ' d op:=by
  cases op
  case build t ps=>simp only [z0r,z6d (l:=ps.toList) (fun x hx=>h x (by simpa [Op.operands] using hx))]
  case buildSlice t n ps=>simp only [z0r,z6d (l:=ps.toList) (fun x hx=>h x (by simpa [Op.operands] using hx))]
  case makeFunc f first caps=>
    cases f <;> simp only [z0r]
    rw [z9k (l:=caps.toList) (fun x hx=>h x (by simp only [Op.operands,Array.toList_append,List.mem_append]; exact .inr hx))]
  case slice t x lo hi mx=>
    have h1:ρ x=ρ' x:=h x (by simp [Op.operands])
    have h2:lo.map ρ=lo.map ρ':=za9 (fun y hy=>h y (by simp only [Op.operands,Array.toList_append,List.mem_append]; exact .inl (.inl (.inr hy))))
    have h3:hi.map ρ=hi.map ρ':=za9 (fun y hy=>h y (by simp only [Op.operands,Array.toList_append,List.mem_append]; exact .inl (.inr hy)))
    simp only [z0r,h1,h2,h3]
  case call c=>
    obtain ⟨callee,args,ats⟩:=c
    have ha:∀ x∈args.toList,ρ x=ρ' x:=fun x hx=>h x (by simp only [Op.operands,Call.operands,Array.toList_append,List.mem_append]; exact .inr hx)
    have hm:zdd ρ args.toList=zdd ρ' args.toList:=z9k ha
    simp only [z0r,z83]
    split
    · split
      · rename_i x t hx _
        rw [ha x (by rw [hx]; simp)]
      · rfl
    · split
      · rename_i s x t t' hx _
        rw [ha s (by rw [hx]; simp),ha x (by rw [hx]; simp)]
      · rfl
    · split
      · rename_i x y t t' hx _
        rw [ha x (by rw [hx]; simp),ha y (by rw [hx]; simp)]
      · rfl
    · simp only [hm]
    · simp only [hm]
    · simp only [hm]
    · rename_i x _ _
      have hxx:ρ x=ρ' x:=h x (by simp [Op.operands,Call.operands])
      simp only [hm,hxx]
    · rfl
  all_goals first
    | rfl
    | (simp only [Op.operands] at h; simp only [z0r]; simp (config:={decide:=false}) only [List.mem_cons,List.not_mem_nil,or_false,forall_eq_or_imp,forall_eq] at h; simp only [h])
structure SEq (s s':St):Prop where
  t:∀ i,s.get i=s'.get i
  o:∀ n,z01 s.o n=z01 s'.o n
theorem SEq.refl (s:St):SEq s s:=⟨fun _=>rfl,fun _=>rfl⟩
theorem SEq.symm {s s':St} (h:SEq s s'):SEq s' s:=⟨fun i=>(h.t i).symm,fun n=>(h.o n).symm⟩
theorem SEq.trans {a b c:St} (h:SEq a b) (k:SEq b c):SEq a c:=⟨fun i=>(h.t i).trans (k.t i),fun n=>(h.o n).trans (k.o n)⟩
theorem SEq.opd {s s':St} (h:SEq s s'):opd s=opd s':=by
  funext x
  cases x <;> simp only [FM.opd,h.t]
theorem SEq.put {s s':St} (h:SEq s s') (d:Option Nat) (v:V):SEq (s.put d v) (s'.put d v):=by
  cases d with
  | none=>exact h
  | some d=>exact ⟨fun i=>by simp only [St.put,St.get,z39]; split <;> first | rfl | exact h.t i,h.o⟩
theorem znf (s:St) (d:Nat) (v:V) (i:Nat):(s.put (some d) v).get i=if d=i then v else s.get i:=by simp only [St.put,St.get,z39]
theorem SEq.up {s s':St} (h:SEq s s') (u:Upd):SEq (s.up u) (s'.up u):=by
  cases u with
  | new n ob=>exact ⟨fun i=>by rw [z4r,z4r,h.t],fun m=>by rw [z03,z03,h.o]⟩
  | set n ob=>exact ⟨h.t,fun m=>by simp only [St.up,z00,h.o]⟩
  | kill n=>exact ⟨h.t,fun m=>by simp only [St.up,z00,h.o]⟩
theorem SEq.ups:∀ {us:List Upd} {s s':St},SEq s s'→SEq (s.ups us) (s'.ups us)
  | [],_,_,h=>h
  | u :: r,_,_,h=>SEq.ups (us:=r) (h.up u)
theorem SEq.lit {s:St} {j:Nat} {b:Bool} (h:s.get j = .bool b):SEq s (zie s j b):=
  ⟨fun i=>by
    simp only [zie,St.get,z39]
    split
    · rename_i e; subst e; exact h
    · rfl,fun _=>rfl⟩
theorem z6x:∀ {us:List Upd} {o o':Store},(∀ n,z01 o n=z01 o' n)→∀ n,z01 (zcr us o) n=z01 (zcr us o') n
  | [],_,_,h=>h
  | .set m ob :: r,o,o',h=>z6x (us:=r) (fun n=>by rw [z00,z00,h])
  | .new m ob :: r,o,o',h=>z6x (us:=r) (fun n=>by rw [z00,z00,h])
  | .kill m :: r,o,o',h=>z6x (us:=r) (fun n=>by rw [z00,z00,h])
theorem z4m:∀ {us:List Upd} {o:Store} {n:Nat},n ∉ z1u us→z01 (zcr us o) n=z01 o n
  | [],_,_,_=>rfl
  | .set m ob :: r,o,n,h=>by
    simp only [z1u,List.mem_cons,not_or] at h
    rw [zcr,z4m h.2,z00,if_neg (fun e=>h.1 e.symm)]
  | .new m ob :: r,o,n,h=>by
    simp only [z1u,List.mem_cons,not_or] at h
    rw [zcr,z4m h.2,z00,if_neg (fun e=>h.1 e.symm)]
  | .kill m :: r,o,n,h=>by
    simp only [z1u,List.mem_cons,not_or] at h
    rw [zcr,z4m h.2,z00,if_neg (fun e=>h.1 e.symm)]
theorem zhu:∀ {us:List Upd} {o o':Store} {n:Nat},n∈z1u us→z01 (zcr us o) n=z01 (zcr us o') n
  | [],_,_,_,h=>by simp [z1u] at h
  | u :: r,o,o',n,h=>by
    by_cases hr:n∈z1u r
    · cases u <;> simp only [zcr] <;> exact zhu hr
    · cases u <;> simp only [z1u,List.mem_cons,hr,or_false] at h <;> subst h <;> simp only [zcr] <;> rw [z4m hr,z4m hr,z00,z00,if_pos rfl,if_pos rfl]
theorem SEq.apD {s s':St} (h:SEq s s') (x:Dn):SEq (apD s x) (apD s' x):=⟨(h.put x.dst x.v).t,z6x h.o⟩
theorem SEq.apDs:∀ {l:List Dn} {s s':St},SEq s s'→SEq (apDs s l) (apDs s' l)
  | [],_,_,h=>h
  | x :: r,_,_,h=>SEq.apDs (l:=r) (h.apD x)
theorem z7e:∀ (l l':List Dn) (s:St),apDs s (l++l')=apDs (apDs s l) l'
  | [],_,_=>rfl
  | x :: r,l',s=>z7e r l' (apD s x)
theorem zkr {n:Nat} {v:V} (hc:zcz v=true) (hn:n ∉ z1v v):z0k.leaf n v=v:=by
  cases v <;> simp only [zcz] at hc <;> first | (cases hc; done) | rfl | skip
  · simp only [z1v,List.mem_singleton] at hn
    simp only [z0k.leaf,z10.2 (fun e=>hn e.symm)]
  · simp only [z1v,List.mem_singleton] at hn
    simp only [z0k.leaf,z10.2 (fun e=>hn e.symm)]
theorem z8d {n:Nat}:∀ {l:List V},z99 l=true→n ∉ z0q l→l.map (z0k.leaf n)=l
  | [],_,_=>rfl
  | v :: r,hc,hn=>by
    simp only [z99] at hc
    split at hc
    · rename_i h1
      simp only [z0q,List.mem_append,not_or] at hn
      simp only [List.map_cons,zkr h1 hn.1,z8d hc hn.2]
    · cases hc
theorem z9h {n:Nat}:∀ {l:List V},z64.go l=true→n ∉ z2e.go l→l.map (z0k.leaf2 n)=l
  | [],_,_=>rfl
  | v :: r,hc,hn=>by
    by_cases ha:∃ l,v = .agg l
    · obtain ⟨l,rfl⟩:=ha
      simp only [z64.go] at hc
      split at hc
      · rename_i h1
        simp only [z2e.go,List.mem_append,not_or] at hn
        simp only [List.map_cons,z0k.leaf2,z8d h1 hn.1,z9h hc hn.2]
      · cases hc
    · have h0:z0k.leaf2 n v=z0k.leaf n v:=by cases v <;> first | rfl | exact absurd ⟨_,rfl⟩ ha
      have h1:zcz v=true∧z64.go r=true:=by
        cases v <;> simp only [z64.go,zcz] at hc ⊢ <;> first | (simp at hc; done) | (simpa using hc) | (cases hc; done) | exact absurd ⟨_,rfl⟩ ha
      have h2:n ∉ z1v v∧n ∉ z2e.go r:=by
        cases v <;> simp only [z2e.go,List.mem_append,not_or] at hn <;> first | exact hn | exact absurd ⟨_,rfl⟩ ha
      simp only [List.map_cons,h0,zkr h1.1 h2.1,z9h h1.2 h2.2]
theorem ziu {n:Nat} {v:V} (hc:z64 v=true) (hn:n ∉ z2e v):z0k n v=v:=by
  cases v <;> simp only [z64] at hc <;> first | rfl | skip
  case row a b c=>simp only [z2e,z1v,List.mem_singleton] at hn; simp only [z0k,z10.2 (fun e=>hn e.symm)]
  case ptr a b c=>simp only [z2e,z1v,List.mem_singleton] at hn; simp only [z0k,z10.2 (fun e=>hn e.symm)]
  case bview a b c d e=>simp only [z2e,z1v,List.mem_singleton] at hn; simp only [z0k,z10.2 (fun e=>hn e.symm)]
  case agg l=>simp only [z0k,z8d hc hn]
  case tup l=>simp only [z0k,z9h hc hn]
  case clo f l=>
    have:n ∉ z0q l:=fun h=>hn (z6u h)
    simp only [z0k,z8d hc this]
theorem zgo {n:Nat}:∀ {l:List V},ze4 l=true→n ∉ z16 l→l.map (z0k n)=l
  | [],_,_=>rfl
  | v :: r,hc,hn=>by
    simp only [ze4] at hc
    split at hc
    · rename_i h1
      simp only [z16,List.mem_append,not_or] at hn
      simp only [List.map_cons,ziu h1 hn.1,zgo hc hn.2]
    · cases hc
theorem z8o {n:Nat} {ob:Ob} (hc:zhb ob=true) (hn:n ∉ zgk ob):z17 n (some ob)=some ob:=by
  cases ob with
  | box cs=>simp only [z17,zgo hc hn]
  | row _ _ _ _ _=>rfl
  | bld _=>rfl
  | map _ _=>rfl
  | iter _ _ _=>rfl
theorem zik {p:Nat→Bool} {n:Nat} (hp:p n=true) (v:V):z0k.leaf n (z0t.leaf p v)=z0t.leaf p v:=by
  cases v <;> simp only [z0t.leaf] <;> first | rfl | skip
  all_goals
    rename_i m _ _
    cases hm:p m with
    | true=>rfl
    | false=>
      simp only [z0k.leaf]
      rw [z10.2 (fun e=>by subst e; rw [hp] at hm; cases hm)]
theorem z6s {p:Nat→Bool} {n:Nat} (hp:p n=true):∀ (l:List V),(z0t.go p l).map (z0k.leaf n)=z0t.go p l
  | []=>rfl
  | v :: r=>by simp only [z0t.go,List.map_cons,zik hp,z6s hp r]
theorem zl1 {p:Nat→Bool} {n:Nat} (hp:p n=true) (v:V):z0k.leaf2 n (z0t.leaf2 p v)=z0t.leaf2 p v:=by
  by_cases ha:∃ l,v = .agg l
  · obtain ⟨l,rfl⟩:=ha
    simp only [z0t.leaf2,z0k.leaf2,z6s hp]
  · have h0:z0t.leaf2 p v=z0t.leaf p v:=by cases v <;> first | rfl | exact absurd ⟨_,rfl⟩ ha
    rw [h0]
    have:=zik hp v
    cases hx:z0t.leaf p v <;> rw [hx] at this <;> first | exact this | skip
    exfalso
    cases v <;> simp only [z0t.leaf] at hx <;> try (cases hx; done)
    all_goals (split at hx <;> cases hx)
theorem zbs {p:Nat→Bool} {n:Nat} (hp:p n=true):∀ (l:List V),(z0t.go2 p l).map (z0k.leaf2 n)=z0t.go2 p l
  | []=>rfl
  | v :: r=>by simp only [z0t.go2,List.map_cons,zl1 hp,zbs hp r]
theorem zge {p:Nat→Bool} {n:Nat} (hp:p n=true) (v:V):z0k n (z0t p v)=z0t p v:=by
  have key:∀ m,p m=false→Nat.beq m n=false:=fun m hm=>z10.2 (fun e=>by subst e; rw [hp] at hm; cases hm)
  cases v <;> simp only [z0t] <;> try rfl
  case row m _ _=>cases hm:p m <;> simp only [z0k,key m,hm]
  case ptr m _ _=>cases hm:p m <;> simp only [z0k,key m,hm]
  case bview m _ _ _ _=>cases hm:p m <;> simp only [z0k,key m,hm]
  case agg l=>simp only [z0k,z6s hp]
  case tup l=>simp only [z0k,zbs hp]
  case clo f l=>simp only [z0k,z6s hp]
theorem zej (f:V→V):∀ l,z1t.mapV f l=l.map f
  | []=>rfl
  | v :: r=>by simp only [z1t.mapV,List.map_cons,zej f r]
theorem zjt {p:Nat→Bool} {n:Nat} (hp:p n=true) (x:Option Ob):z17 n (z1t p x)=z1t p x:=by
  match x with
  | none=>rfl
  | some (.row _ _ _ _ _)=>rfl
  | some (.bld _)=>rfl
  | some (.map _ _)=>rfl
  | some (.iter _ _ _)=>rfl
  | some (.box cs)=>
    simp only [z1t,z17,zej,List.map_map]
    congr 2
    exact List.map_congr_left (fun v _=>zge hp v)
structure Fr (n:Nat) (s:St):Prop where
  t:∀ i,z0k n (s.get i)=s.get i
  o:∀ m,z17 n (z01 s.o m)=z01 s.o m
theorem Fr.congr {n:Nat} {s s':St} (h:Fr n s) (e:SEq s s'):Fr n s':=⟨fun i=>by rw [← e.t]; exact h.t i,fun m=>by rw [← e.o]; exact h.o m⟩
theorem z8f {n:Nat} {l:List Nat}:zek n l=false↔n ∉ l:=by
  rw [← z8e]; simp
theorem z6j:∀ {l l':List Nat},zlz l l'=true↔∀ n∈l,n ∉ l'
  | [],l'=>by simp [zlz]
  | m :: r,l'=>by
    simp only [zlz]
    cases hb:zek m l' with
    | true=>simp [z8e.1 hb]
    | false=>simp [z8f.1 hb,z6j (l:=r)]
theorem zf4:∀ {us:List Upd} {s:St},(∀ n∈zar us,Fr n s)→zk7 us=true→SEq (s.ups us) ⟨s.t,zcr us s.o⟩
  | [],s,_,_=>SEq.refl s
  | .kill m :: r,s,hf,ho=>by
    simp only [St.ups,zcr]
    exact zf4 (us:=r) (s:=s.up (.kill m)) (fun n hn=>⟨(hf n hn).t,fun k=>by
      simp only [St.up,z00]
      split
      · rfl
      · exact (hf n hn).o k⟩) ho
  | .set m ob :: r,s,hf,ho=>by
    simp only [zk7,Bool.and_eq_true] at ho
    simp only [St.ups,zcr]
    exact zf4 (us:=r) (s:=s.up (.set m ob)) (fun n hn=>⟨(hf n hn).t,fun k=>by
      simp only [St.up,z00]
      split
      · exact z8o ho.1 (z6j.1 ho.2.1 n hn)
      · exact (hf n hn).o k⟩) ho.2.2
  | .new m ob :: r,s,hf,ho=>by
    simp only [zk7,Bool.and_eq_true] at ho
    simp only [St.ups,zcr]
    have hm:Fr m s:=hf m (by simp [zar])
    have e:SEq (s.up (.new m ob)) (s.up (.set m ob)):=⟨fun i=>by rw [z4r,hm.t]; rfl,fun k=>by rw [z03,hm.o]; simp only [St.up,z00]⟩
    refine (e.ups (us:=r)).trans ?_
    exact zf4 (us:=r) (s:=s.up (.set m ob)) (fun n hn=>⟨(hf n (by simp [zar,hn])).t,fun k=>by
      simp only [St.up,z00]
      split
      · exact z8o ho.1 (z6j.1 ho.2.1 n hn)
      · exact (hf n (by simp [zar,hn])).o k⟩) ho.2.2
open Go Go.RowKit
def CmpP (p:Nat→Bool) (γ:Nat→Value) (o:Store) (γ':Nat→Value) (o':Store):Prop:=
  ∀ n ob',p n=false→z01 o' n=some ob'→γ' n=γ n∧∃ ob,z01 o n=some ob∧ob.fits ob'
section
variable {γ γ':Nat→Value} {o o':Store} {w:World} {O:Nat→Prop} {p:Nat→Bool}
theorem CmpP.but (hc:CmpP p γ o γ' o') {n:Nat} (hn:p n=false) {v:V} (hv:v = .any∨(∃ lo hi,v = .row n lo hi)∨(∃ i c,v = .ptr n i c)∨∃ c cap sz len,v = .bview n c cap sz len) {x:Value} (h:VRel γ o w O v x):VRel γ' o' w O v x:=by
  let f:Nat→Value:=fun m=>if m=n then γ' n else γ m
  rcases hv with rfl | ⟨lo,hi,rfl⟩ | ⟨i,c,rfl⟩ | ⟨c,cap,sz,len,rfl⟩
  · simp only [VRel]
  · simp only [VRel] at h ⊢
    cases h':z01 o' n with
    | none=>trivial
    | some ob'=>
      obtain ⟨hg,ob,ho,hf⟩:=hc n ob' hn h'
      rw [ho] at h
      rw [hg]
      cases ob <;> cases ob' <;> simp only [Ob.fits] at hf <;> try trivial
      obtain ⟨rfl,hl⟩:=hf
      exact ⟨by rw [← hl]; exact h.1,h.2⟩
  · simp only [VRel] at h ⊢
    cases h':z01 o' n with
    | none=>trivial
    | some ob'=>
      obtain ⟨hg,ob,ho,hf⟩:=hc n ob' hn h'
      rw [ho] at h
      rw [hg]
      cases ob <;> cases ob' <;> simp only [Ob.fits] at hf
      · exact h
      · obtain ⟨rfl,hl⟩:=hf
        exact ⟨by rw [← hl]; exact h.1,h.2⟩
      · exact h
      · exact h
      · exact h
  · simp only [VRel] at h ⊢
    cases h':z01 o' n with
    | none=>trivial
    | some ob'=>
      obtain ⟨hg,ob,ho,hf⟩:=hc n ob' hn h'
      rw [ho] at h
      rw [hg]
      cases ob <;> cases ob' <;> simp only [Ob.fits] at hf <;> try trivial
      exact ⟨h.1,h.2.1,by rw [← hf]; exact h.2.2.1,h.2.2.2⟩
theorem zgd (hc:CmpP p γ o γ' o') {v:V} {x:Value} (h:VRel γ o w O v x):VRel γ' o' w O (z0t.leaf p v) x:=by
  cases v <;> simp only [z0t.leaf]
  case row n lo hi=>
    cases hb:p n with
    | true=>simp only [VRel]
    | false=>exact hc.but hb (.inr (.inl ⟨_,_,rfl⟩)) h
  case ptr n i c=>
    cases hb:p n with
    | true=>simp only [VRel]
    | false=>exact hc.but hb (.inr (.inr (.inl ⟨_,_,rfl⟩))) h
  all_goals first
    | (simp only [VRel] at h ⊢; exact h)
    | simp only [VRel]
theorem z5h (hc:CmpP p γ o γ' o'):∀ {l:List V} {xs:List Value},VRels γ o w O l xs→VRels γ' o' w O (z0t.go p l) xs
  | [],[],_=>by simp only [z0t.go,VRels]
  | [],_ :: _,h=>by simp only [VRels] at h
  | _ :: _,[],h=>by simp only [VRels] at h
  | v :: vs,x :: xs,h=>by
    simp only [VRels,z0t.go] at h ⊢
    exact ⟨zgd hc h.1,z5h hc h.2⟩
theorem zjs (hc:CmpP p γ o γ' o') {v:V} {x:Value} (h:VRel γ o w O v x):VRel γ' o' w O (z0t.leaf2 p v) x:=by
  cases v <;> simp only [z0t.leaf2] <;> try exact zgd hc h
  simp only [VRel] at h ⊢
  obtain ⟨cs,hx,hr⟩:=h
  exact ⟨cs,hx,z5h hc hr⟩
theorem zaa (hc:CmpP p γ o γ' o'):∀ {l:List V} {xs:List Value},VRels γ o w O l xs→VRels γ' o' w O (z0t.go2 p l) xs
  | [],[],_=>by simp only [z0t.go2,VRels]
  | [],_ :: _,h=>by simp only [VRels] at h
  | _ :: _,[],h=>by simp only [VRels] at h
  | v :: vs,x :: xs,h=>by
    simp only [VRels,z0t.go2] at h ⊢
    exact ⟨zjs hc h.1,zaa hc h.2⟩
theorem zdg (hc:CmpP p γ o γ' o') {v:V} {x:Value} (h:VRel γ o w O v x):VRel γ' o' w O (z0t p v) x:=by
  cases v <;> simp only [z0t]
  case row n lo hi=>
    cases hb:p n with
    | true=>simp only [VRel]
    | false=>exact hc.but hb (.inr (.inl ⟨_,_,rfl⟩)) h
  case ptr n i c=>
    cases hb:p n with
    | true=>simp only [VRel]
    | false=>exact hc.but hb (.inr (.inr (.inl ⟨_,_,rfl⟩))) h
  case bview n c cap sz len=>
    cases hb:p n with
    | true=>simp only [VRel]
    | false=>exact hc.but hb (.inr (.inr (.inr ⟨_,_,_,_,rfl⟩))) h
  case agg l=>
    simp only [VRel] at h ⊢
    obtain ⟨cs,hx,hr⟩:=h
    exact ⟨cs,hx,z5h hc hr⟩
  case tup l=>
    simp only [VRel] at h ⊢
    obtain ⟨cs,hx,hr⟩:=h
    exact ⟨cs,hx,zaa hc hr⟩
  case clo f l=>
    simp only [VRel] at h ⊢
    obtain ⟨cs,hx,hr⟩:=h
    exact ⟨cs,hx,z5h hc hr⟩
  all_goals (simp only [VRel] at h ⊢; try exact h)
theorem zbt (hc:CmpP p γ o γ' o'):∀ {l:List V} {xs:List Value},VRels γ o w O l xs→VRels γ' o' w O (l.map (z0t p)) xs
  | [],[],_=>by simp only [List.map_nil,VRels]
  | [],_ :: _,h=>by simp only [VRels] at h
  | _ :: _,[],h=>by simp only [VRels] at h
  | v :: vs,x :: xs,h=>by
    simp only [VRels,List.map_cons] at h ⊢
    exact ⟨zdg hc h.1,zbt hc h.2⟩
end
theorem z9a (p:Nat→Bool):∀ (o:Store) (n:Nat),z01 (zd0 p o) n=match p n with | true=>none | false=>z1t p (z01 o n)
  | [],n=>by simp only [zd0,z01,lkd]; cases p n <;> rfl
  | (m,x) :: r,n=>by
    simp only [zd0]
    by_cases e:m=n
    · subst e
      cases hp:p m <;> simp only [z00,if_true]
    · cases hp:p m <;> simp only [z00,if_neg e,z9a p r n]
theorem zgn {p:Nat→Bool} {x:Option Ob} {ob:Ob} (h:z1t p x=some ob):∃ ob0,x=some ob0∧z1t p (some ob0)=some ob:=by
  cases x with
  | none=>simp [z1t] at h
  | some ob0=>exact ⟨ob0,rfl,h⟩
theorem z3j {p:Nat→Bool} {ob0 ob:Ob} (h:z1t p (some ob0)=some ob):ob0.fits ob∧∀ g b,z04 g ob b↔z04 g ob0 b:=by
  cases ob0 <;> simp only [z1t,Option.some.injEq] at h <;> subst h
  · exact ⟨by simp [Ob.fits,zej],fun _ _=>Iff.rfl⟩
  · exact ⟨⟨rfl,rfl⟩,fun _ _=>Iff.rfl⟩
  · exact ⟨trivial,fun _ _=>Iff.rfl⟩
  · exact ⟨rfl,fun _ _=>Iff.rfl⟩
  · exact ⟨rfl,fun _ _=>Iff.rfl⟩
section
variable {B:BT} {nt:Nat} {w0:World} {X:Zone} {γ:Nat→Value} {st st':St} {a:Act} {w:World} {P:Program} {E:Env}
theorem Rel.less (h:Rel B nt w0 X γ st a w) {st':St} (ht:∀ i,st'.get i=st.get i∨st'.get i = .any) (ho:∀ n ob,z01 st'.o n=some ob→z01 st.o n=some ob):Rel B nt w0 X γ st' a w:=by
  have hP:∀ b,z0h γ st'.o b→z0h γ st.o b:=fun b ⟨n,ob,h1,h2⟩=>⟨n,ob,ho n ob h1,h2⟩
  have hO:∀ b,b < w.heap.size→z02 X γ st'.o b→z02 X γ st.o b:=fun b _ hb=>hb.imp_left (hP b)
  have hc:Cmp γ st.o γ st'.o:=fun n ob hn=>⟨rfl,ob,ho n ob hn,ob.fits_refl⟩
  refine ⟨h.sz,h.df,fun i=>?_,fun n ob hn=>(h.ob n ob (ho n ob hn)).later (fun _ _=>rfl) (Keep.refl _ w) hO hc,fun b hb=>h.lt b (hP b hb),fun n m ob ob' b hne h1 h2=>h.dis n m ob ob' b hne (ho n ob h1) (ho m ob' h2),h.keep,fun b hb=>h.nr b (hP b hb),h.fl,fun p hp ob h1=>h.pn p hp ob (ho _ ob h1)⟩
  rcases ht i with h1 | h1
  · rw [h1]
    exact VRel.mono (Keep.refl _ w) hO (VRel.cmp hc (h.tm i))
  · rw [h1]
    simp only [VRel]
theorem Rel.lit (h:Rel B nt w0 X γ st a w) {i:Nat} {v:V} (hv:st.get i=v):Rel B nt w0 X γ ⟨(i,v) :: st.t,st.o⟩ a w:=by
  refine h.less (fun j=>?_) (fun _ _ h=>h)
  simp only [St.get,z39]
  by_cases e:i=j
  · subst e
    simp only [if_true]
    exact .inl hv.symm
  · simp only [if_neg e]
    exact .inl trivial
theorem z87:∀ (ops:List Oper) (j d:Nat),zai ops j=some d→(ops[j]?).bind (·.dst)=some d
  | [],j,d,h=>by simp [zai] at h
  | o :: r,0,d,h=>by simpa [zai] using h
  | o :: r,j+1,d,h=>by simpa [zai] using z87 r j d (by simpa [zai] using h)
theorem zi1 (h:Rel B nt w0 X γ st a w) {i:Nat} {c:Bool} (hv:st.get i = .bool c):a.tmps[i]?=some (.bool c):=by
  have:=h.tm i
  rw [hv] at this
  simp only [VRel,Array.getD_eq_getD_getElem?] at this
  cases ht:a.tmps[i]? with
  | none=>rw [ht] at this; simp [undef] at this
  | some u=>rw [ht] at this; simp only [Option.getD_some] at this; rw [this]
theorem zgu (h:Rel B nt w0 X γ st a w) {i:Nat} (hv:st.get i = .tup []):a.tmps[i]?=none∨a.tmps[i]?=some (.tuple #[]):=by
  have:=h.tm i
  rw [hv] at this
  simp only [VRel,Array.getD_eq_getD_getElem?] at this
  obtain ⟨cs,h1,h2⟩:=this
  cases hl:cs.toList with
  | nil=>
    have e:cs = #[]:=by simpa using hl
    rw [e] at h1
    cases ht:a.tmps[i]? with
    | none=>exact .inl rfl
    | some u=>rw [ht] at h1; simp only [Option.getD_some] at h1; rw [h1]; exact .inr rfl
  | cons x l=>rw [hl] at h2; simp only [VRels] at h2
theorem Rel.clear (h:Rel B nt w0 X γ st a w) (ds:List Nat):Rel B nt w0 X γ (z4g ds st) a w:=by
  have hget:∀ n ob,z01 (z4g ds st).o n=some ob→zap ds n=false∧∃ ob0,z01 st.o n=some ob0∧z1t (zap ds) (some ob0)=some ob:=by
    intro n ob hn
    simp only [z4g,z9a] at hn
    split at hn
    · cases hn
    · rename_i hp
      exact ⟨hp,zgn hn⟩
  have hP:∀ b,z0h γ (z4g ds st).o b→z0h γ st.o b:=by
    rintro b ⟨n,ob,h1,h2⟩
    obtain ⟨_,ob0,h3,h4⟩:=hget n ob h1
    exact ⟨n,ob0,h3,((z3j h4).2 _ _).1 h2⟩
  have hO:∀ b,b < w.heap.size→z02 X γ (z4g ds st).o b→z02 X γ st.o b:=fun b _ hb=>hb.imp_left (hP b)
  have hc:CmpP (zap ds) γ st.o γ (z4g ds st).o:=by
    intro n ob' _ hn
    obtain ⟨_,ob0,h3,h4⟩:=hget n ob' hn
    exact ⟨rfl,ob0,h3,(z3j h4).1⟩
  refine ⟨h.sz,h.df,fun i=>?_,fun n ob hn=>?_,fun b hb=>h.lt b (hP b hb),fun n m ob ob' b hne h1 h2 hb1 hb2=>?_,h.keep,fun b hb=>h.nr b (hP b hb),h.fl,fun p hp ob h1=>?_⟩
  · have:(z4g ds st).get i=z0t (zap ds) (st.get i):=by
      simp only [z4g,St.get]
      exact z4t _ _ rfl _ _
    rw [this]
    exact VRel.mono (Keep.refl _ w) hO (zdg hc (h.tm i))
  · obtain ⟨_,ob0,h3,h4⟩:=hget n ob hn
    have hor:=h.ob n ob0 h3
    cases ob0 with
    | box l=>
      simp only [z1t,Option.some.injEq] at h4
      subst h4
      simp only [ObRel] at hor ⊢
      obtain ⟨b,c,T,hg,hh,hr⟩:=hor
      rw [zej]
      exact ⟨b,c,T,hg,hh,VRels.mono (Keep.refl _ w) hO (zbt hc hr)⟩
    | row own e ag ks l=>
      simp only [z1t,Option.some.injEq] at h4
      subst h4
      exact hor.later (fun _ _=>rfl) (Keep.refl _ w) hO (fun m ob1 hm=>by
        obtain ⟨_,ob0,h5,h6⟩:=hget m ob1 hm
        exact ⟨rfl,ob0,h5,(z3j h6).1⟩)
    | bld s=>
      simp only [z1t,Option.some.injEq] at h4
      subst h4
      simpa only [ObRel] using hor
    | map vk es=>
      simp only [z1t,Option.some.injEq] at h4
      subst h4
      simp only [ObRel] at hor ⊢
      obtain ⟨h0,b,ents,hg,q1,q2⟩:=hor
      exact ⟨h0,b,ents,hg,q1,EntRel.mono (Keep.refl _ w) hO q2⟩
    | iter vk last rest=>
      simp only [z1t,Option.some.injEq] at h4
      subst h4
      simp only [ObRel] at hor ⊢
      obtain ⟨h0,r,b,since,seen,ents,clock,hg,q1,q2,q3⟩:=hor
      exact ⟨h0,r,b,since,seen,ents,clock,hg,q1,q2,IterRel.mono (Keep.refl _ w) hO q3⟩
  · obtain ⟨_,ob0,h3,h4⟩:=hget n ob h1
    obtain ⟨_,ob1,h5,h6⟩:=hget m ob' h2
    exact h.dis n m ob0 ob1 b hne h3 h5 (((z3j h4).2 _ _).1 hb1) (((z3j h6).2 _ _).1 hb2)
  · obtain ⟨_,ob0,h3,_⟩:=hget _ ob h1
    exact h.pn p hp ob0 h3
theorem Rel.seq (h:Rel B nt w0 X γ st a w) (e:SEq st st'):Rel B nt w0 X γ st' a w:=
  h.less (fun i=>.inl (e.t i).symm) (fun n ob hn=>by rw [e.o]; exact hn)
end
theorem zlx {ds:List Nat} {n:Nat} (hn:zap ds n=true) (s:St):Fr n (z4g ds s):=by
  refine ⟨fun i=>?_,fun m=>?_⟩
  · have:(z4g ds s).get i=z0t (zap ds) (s.get i):=by
      simp only [z4g,St.get]
      exact z4t _ _ rfl _ _
    rw [this]
    exact zge hn _
  · simp only [z4g,z9a]
    split
    · rfl
    · exact zjt hn _
def StepOK (E:Env) (all:List Oper) (o:Oper) (s:St) (D:Dn):Prop:=
  zbn E o.dst=true∧D.dst=o.dst∧D.tm=z74 all o ∧
  match o.guard with
  | none=>(z0r E s.o (opd s) o.dst o.op).get=some (D.v,D.us)∧D.rd=reads E s.o (opd s) o.op
  | some (j,b)=>(∃ dj c,zai all j=some dj∧s.get dj = .bool c ∧
      ((c=b∧(z0r E s.o (opd s) o.dst o.op).get=some (D.v,D.us)∧D.rd=reads E s.o (opd s) o.op)∨(c≠b∧D.v = .tup []∧D.us=[]))) ∨
      (∃ dj,zai all j=some dj∧s.get dj = .tup []∧D.v = .tup []∧D.us=[])
def Steps (E:Env) (all:List Oper):List Oper→St→List Dn→Prop
  | [],_,[]=>True
  | o :: r,s,D :: Ds=>StepOK E all o s D∧Steps E all r (apD s D) Ds
  | _,_,_=>False
theorem StepOK.congr {E:Env} {all:List Oper} {o:Oper} {s s':St} {D:Dn} (h:StepOK E all o s D) (e:SEq s s'):StepOK E all o s' D:=by
  have hag:∀ (ρ:Operand→V) d op,z0r E s'.o ρ d op=z0r E s.o ρ d op:=fun ρ d op=>zd5 (fun n _=>(e.o n).symm)
  have hdp:∀ l,zf6 s'.o l=zf6 s.o l:=by
    intro l
    induction l with
    | nil=>rfl
    | cons n r ih=>simp only [zf6,ih,e.o]
  have hrd:∀ (ρ:Operand→V) op,reads E s'.o ρ op=reads E s.o ρ op:=fun ρ op=>by unfold reads ziq; rw [hdp]
  unfold StepOK at h ⊢
  refine ⟨h.1,h.2.1,h.2.2.1,?_⟩
  have h3:=h.2.2.2
  rw [← e.opd]
  simp only [hag,hrd]
  split at h3
  · exact h3
  · rcases h3 with ⟨dj,c,h4,h5,h6⟩ | ⟨dj,h4,h5,h6⟩
    · exact .inl ⟨dj,c,h4,by rw [← e.t]; exact h5,h6⟩
    · exact .inr ⟨dj,h4,by rw [← e.t]; exact h5,h6⟩
theorem Steps.congr {E:Env} {all:List Oper}:∀ {l:List Oper} {s s':St} {Ds:List Dn},Steps E all l s Ds→SEq s s'→Steps E all l s' Ds
  | [],_,_,[],_,_=>trivial
  | [],_,_,_ :: _,h,_=>by simp [Steps] at h
  | _ :: _,_,_,[],h,_=>by simp [Steps] at h
  | o :: r,s,s',D :: Ds,h,e=>by
    simp only [Steps] at h ⊢
    exact ⟨h.1.congr e,Steps.congr h.2 (e.apD D)⟩
theorem zfr {E:Env} {all:List Oper} {res:V × List (List V)}:∀ (l:List Oper) {s:St} {acc:List Dn} {k:List Dn→St→Res},evD E all l s acc k=some res →
    ∃ Ds s',Steps E all l s Ds∧SEq s' (apDs s Ds)∧k (Ds.reverse++acc) s'=some res
  | [],s,acc,k,h=>⟨[],s,trivial,SEq.refl s,by simpa [evD] using h⟩
  | o :: r,s,acc,k,h=>by
    simp only [evD] at h
    have hd:zbn E o.dst=true:=by
      cases hd:zbn E o.dst with
      | true=>rfl
      | false=>rw [hd] at h; cases h
    rw [hd] at h
    simp only at h
    have fin:∀ (s1:St) (D:Dn),SEq s s1→StepOK E all o s1 D→evD E all r (apD s1 D) (D :: acc) k=some res →
        ∃ Ds s',Steps E all (o :: r) s Ds∧SEq s' (apDs s Ds)∧k (Ds.reverse++acc) s'=some res:=by
      intro s1 D e hs he
      obtain ⟨Ds,s',h1,h2,h3⟩:=zfr r he
      refine ⟨D :: Ds,s',⟨hs.congr e.symm,h1.congr (e.symm.apD D)⟩,h2.trans ((e.symm.apD D).apDs),?_⟩
      simpa using h3
    split at h
    · rename_i hg
      obtain ⟨v,us,h1,h2⟩:=T.run_some h
      exact fin s _ (SEq.refl s) ⟨hd,rfl,rfl,by rw [hg]; exact ⟨h1,rfl⟩⟩ h2
    · rename_i j b hg
      split at h
      · rename_i dj hdj
        split at h
        · rename_i c hc
          have hl:∀ c',(zie s dj c').get dj = .bool c':=fun c'=>by simp [zie,St.get,z39]
          cases c with
          | true=>
            have e:=SEq.lit hc
            cases b with
            | true=>
              simp only at h
              obtain ⟨v,us,h1,h2⟩:=T.run_some h
              exact fin _ _ e ⟨hd,rfl,rfl,by rw [hg]; exact .inl ⟨dj,true,hdj,hl _,.inl ⟨rfl,h1,rfl⟩⟩⟩ h2
            | false=>exact fin _ _ e ⟨hd,rfl,rfl,by rw [hg]; exact .inl ⟨dj,true,hdj,hl _,.inr ⟨by simp,rfl,rfl⟩⟩⟩ h
          | false=>
            have e:=SEq.lit hc
            cases b with
            | false=>
              simp only at h
              obtain ⟨v,us,h1,h2⟩:=T.run_some h
              exact fin _ _ e ⟨hd,rfl,rfl,by rw [hg]; exact .inl ⟨dj,false,hdj,hl _,.inl ⟨rfl,h1,rfl⟩⟩⟩ h2
            | true=>exact fin _ _ e ⟨hd,rfl,rfl,by rw [hg]; exact .inl ⟨dj,false,hdj,hl _,.inr ⟨by simp,rfl,rfl⟩⟩⟩ h
        · rename_i hc
          exact fin _ _ (SEq.refl s) ⟨hd,rfl,rfl,by rw [hg]; exact .inr ⟨dj,hdj,hc,rfl,rfl⟩⟩ h
        · cases h
      · cases h
theorem Steps.length {E:Env} {all:List Oper}:∀ {l:List Oper} {s:St} {Ds:List Dn},Steps E all l s Ds→Ds.length=l.length
  | [],_,[],_=>rfl
  | [],_,_ :: _,h=>by simp [Steps] at h
  | _ :: _,_,[],h=>by simp [Steps] at h
  | _ :: _,_,_ :: _,h=>by simp only [List.length_cons,Steps.length h.2]
theorem Steps.get {E:Env} {all:List Oper}:∀ {l:List Oper} {s:St} {Ds:List Dn} {i:Nat} {o:Oper} {D:Dn},Steps E all l s Ds→l[i]?=some o→Ds[i]?=some D→StepOK E all o (apDs s (Ds.take i)) D
  | [],_,_,_,_,_,_,h,_=>by simp at h
  | _ :: _,_,[],_,_,_,_,_,h=>by simp at h
  | o :: r,s,D :: Ds,0,_,_,h,h1,h2=>by
    simp only [List.getElem?_cons_zero,Option.some.injEq] at h1 h2
    subst h1; subst h2
    exact h.1
  | o :: r,s,D :: Ds,i+1,_,_,h,h1,h2=>by
    simp only [List.getElem?_cons_succ] at h1 h2
    simp only [List.take_succ_cons,apDs]
    exact Steps.get h.2 h1 h2
def sel (L:Nat→Bool):Nat→List Dn→List Dn
  | _,[]=>[]
  | i,D :: r=>match L i with | true=>D :: sel L (i+1) r | false=>sel L (i+1) r
theorem z4v {L L':Nat→Bool}:∀ (l:List Dn) (i:Nat),(∀ j,i≤j→j < i+l.length→L j=L' j)→sel L i l=sel L' i l
  | [],_,_=>rfl
  | D :: r,i,h=>by
    simp only [sel]
    rw [h i (Nat.le_refl i) (by simp),z4v r (i+1) (fun j h1 h2=>h j (by omega) (by simp only [List.length_cons]; omega))]
theorem z8q:∀ (l:List Dn) (i:Nat),sel (fun _=>false) i l=[]
  | [],_=>rfl
  | D :: r,i=>by simp only [sel,z8q r]
theorem zl8:∀ (l:List Dn) (i:Nat),sel (fun _=>true) i l=l
  | [],_=>rfl
  | D :: r,i=>by simp only [sel,zl8 r]
theorem zn1 (k:Nat):∀ (l:List Dn) (i:Nat),sel (fun j=>decide (j < i+k)) i l=l.take k
  | [],i=>by simp [sel]
  | D :: r,i=>by
    cases k with
    | zero=>
      rw [z4v (L':=fun _=>false) _ _ (fun j h1 h2=>by simp; omega),z8q]
      rfl
    | succ k=>
      simp only [sel]
      rw [show decide (i < i+(k+1))=true by simp]
      simp only [List.take_succ_cons,List.cons.injEq,true_and]
      have:=zn1 k r (i+1)
      rw [show i+(k+1)=i+1+k by omega]
      exact this
theorem z5k {L L':Nat→Bool} {n:Nat}:∀ (l:List Dn) (i:Nat) {s s':St},z01 s.o n=z01 s'.o n→(∀ j D,l[j]?=some D→n∈z1u D.us→L (i+j)=L' (i+j))→z01 (apDs s (sel L i l)).o n=z01 (apDs s' (sel L' i l)).o n
  | [],_,_,_,h,_=>h
  | D :: r,i,s,s',h,hl=>by
    have hr:∀ j E,r[j]?=some E→n∈z1u E.us→L (i+1+j)=L' (i+1+j):=fun j E hj hn=>by
      have:=hl (j+1) E (by simpa using hj) hn
      rwa [show i+(j+1)=i+1+j by omega] at this
    have one:∀ {s:St},n ∉ z1u D.us→z01 (apD s D).o n=z01 s.o n:=fun h=>z4m h
    by_cases hn:n∈z1u D.us
    · have h0:=hl 0 D rfl hn
      simp only [Nat.add_zero] at h0
      simp only [sel,h0]
      cases L' i with
      | true=>exact z5k r (i+1) (zhu hn) hr
      | false=>exact z5k r (i+1) h hr
    · simp only [sel]
      cases L i <;> cases L' i <;> simp only [apDs]
      · exact z5k r (i+1) h hr
      · exact z5k r (i+1) (h.trans (one hn).symm) hr
      · exact z5k r (i+1) ((one hn).trans h) hr
      · exact z5k r (i+1) ((one hn).trans (h.trans (one hn).symm)) hr
theorem z41 (s:St) (D:Dn) (t:Nat):(apD s D).get t=if D.dst=some t then D.v else s.get t:=by
  unfold apD
  cases hd:D.dst with
  | none=>simp [St.put,St.get]
  | some d=>
    have:=znf s d D.v t
    simp only [Option.some.injEq]
    exact this
theorem z5j {L L':Nat→Bool} {t:Nat}:∀ (l:List Dn) (i:Nat) {s s':St},s.get t=s'.get t→(∀ j D,l[j]?=some D→D.dst=some t→L (i+j)=L' (i+j))→(apDs s (sel L i l)).get t=(apDs s' (sel L' i l)).get t
  | [],_,_,_,h,_=>h
  | D :: r,i,s,s',h,hl=>by
    have hr:∀ j E,r[j]?=some E→E.dst=some t→L (i+1+j)=L' (i+1+j):=fun j E hj hn=>by
      have:=hl (j+1) E (by simpa using hj) hn
      rwa [show i+(j+1)=i+1+j by omega] at this
    by_cases hn:D.dst=some t
    · have h0:=hl 0 D rfl hn
      simp only [Nat.add_zero] at h0
      simp only [sel,h0]
      cases L' i with
      | true=>exact z5j r (i+1) (by rw [z41,z41,if_pos hn,if_pos hn]) hr
      | false=>exact z5j r (i+1) h hr
    · simp only [sel]
      cases L i <;> cases L' i <;> simp only [apDs]
      · exact z5j r (i+1) h hr
      · exact z5j r (i+1) (by rw [z41,if_neg hn]; exact h) hr
      · exact z5j r (i+1) (by rw [z41,if_neg hn]; exact h) hr
      · exact z5j r (i+1) (by rw [z41,z41,if_neg hn,if_neg hn]; exact h) hr
theorem zl9 {L:Nat→Bool} {n:Nat}:∀ (l:List Dn) (i:Nat) {s:St},Fr n s→(∀ j D,l[j]?=some D→L (i+j)=true→z64 D.v=true∧n ∉ z2e D.v∧∀ u∈D.us,∀ m ob,(u = .new m ob∨u = .set m ob)→z17 n (some ob)=some ob)→Fr n (apDs s (sel L i l))
  | [],_,_,h,_=>h
  | D :: r,i,s,h,hl=>by
    have hr:∀ j E,r[j]?=some E→L (i+1+j)=true→z64 E.v=true∧n ∉ z2e E.v∧∀ u∈E.us,∀ m ob,(u = .new m ob∨u = .set m ob)→z17 n (some ob)=some ob:=fun j E hj hn=>by
      refine hl (j+1) E (by simpa using hj) ?_
      rwa [show i+(j+1)=i+1+j by omega]
    simp only [sel]
    cases hL:L i with
    | false=>exact zl9 r (i+1) h hr
    | true=>
      refine zl9 r (i+1) ?_ hr
      obtain ⟨h1,h2,h3⟩:=hl 0 D rfl hL
      refine ⟨fun t=>?_,?_⟩
      · rw [z41]
        split
        · exact ziu h1 h2
        · exact h.t t
      · have key:∀ (us:List Upd) (o:Store),(∀ u∈us,∀ m ob,(u = .new m ob∨u = .set m ob)→z17 n (some ob)=some ob)→(∀ m,z17 n (z01 o m)=z01 o m)→∀ m,z17 n (z01 (zcr us o) m)=z01 (zcr us o) m:=by
          intro us
          induction us with
          | nil=>intro o _ h; exact h
          | cons u us ih=>
            intro o hu ho
            have hu':=fun u' hu'=>hu u' (List.mem_cons_of_mem _ hu')
            cases u with
            | kill k=>exact ih _ hu' (fun m=>by rw [z00]; split <;> first | rfl | exact ho m)
            | set k ob=>exact ih _ hu' (fun m=>by rw [z00]; split <;> first | exact hu _ (List.mem_cons_self ..) k ob (.inr rfl) | exact ho m)
            | new k ob=>exact ih _ hu' (fun m=>by rw [z00]; split <;> first | exact hu _ (List.mem_cons_self ..) k ob (.inl rfl) | exact ho m)
        exact key D.us s.o h3 h.o
theorem zc6 {L:Nat→Bool}:∀ (l l':List Dn) (i:Nat),sel L i (l++l')=sel L i l++sel L (i+l.length) l'
  | [],l',i=>by simp [sel]
  | D :: r,l',i=>by
    simp only [List.cons_append,sel,List.length_cons]
    rw [show i+(r.length+1)=i+1+r.length by omega]
    cases L i <;> simp [zc6 r l' (i+1)]
open Go Go.RowKit
theorem z9n:∀ (l:List (List Nat)) (i:Nat),z91 l i=(l[i]?).getD []
  | [],i=>by simp [z91]
  | x :: r,0=>rfl
  | x :: r,i+1=>by simp only [z91,z9n r i,List.getElem?_cons_succ]
theorem z6p {acc:List (List Nat)} {j:Nat}:∀ {es:List Edge},j∈zab acc es→∃ e∈es,Region.binds .any e=true∧(j=e.on∨j∈z91 acc e.on)
  | [],h=>by simp [zab] at h
  | e :: r,h=>by
    simp only [zab] at h
    split at h
    · rename_i hb
      simp only [List.mem_cons,List.mem_append] at h
      rcases h with h | h | h
      · exact ⟨e,List.mem_cons_self ..,hb,.inl h⟩
      · exact ⟨e,List.mem_cons_self ..,hb,.inr h⟩
      · obtain ⟨e',h1,h2⟩:=z6p h
        exact ⟨e',List.mem_cons_of_mem _ h1,h2⟩
    · obtain ⟨e',h1,h2⟩:=z6p h
      exact ⟨e',List.mem_cons_of_mem _ h1,h2⟩
def zmf (acc:List Nat):List Nat→List Nat
  | []=>acc
  | n :: r=>match zek n acc with
    | true=>zmf acc r
    | false=>zmf (n :: acc) r
theorem z7p (k:List Nat→List (List Nat)):∀ (l acc:List Nat),zoi acc l k=k (zmf acc l)
  | [],_=>rfl
  | n :: r,acc=>by
    simp only [zoi,zmf]
    cases zek n acc with
    | true=>exact z7p k r acc
    | false=>exact z7p k r (n :: acc)
theorem zen {j:Nat}:∀ {l acc:List Nat},j∈zmf acc l→j∈acc∨j∈l
  | [],_,h=>.inl h
  | n :: r,acc,h=>by
    simp only [zmf] at h
    cases hb:zek n acc with
    | true=>
      rw [hb] at h
      exact (zen h).imp_right (List.mem_cons_of_mem _)
    | false=>
      rw [hb] at h
      rcases zen h with h1 | h1
      · rcases List.mem_cons.1 h1 with rfl | h1
        · exact .inr (List.mem_cons_self ..)
        · exact .inl h1
      · exact .inr (List.mem_cons_of_mem _ h1)
theorem zku {j:Nat} {l:List Nat} (h:j∈zmf [] l):j∈l:=(zen h).resolve_left (by simp)
theorem z7v:∀ (l:List Oper) (acc:List (List Nat)) (i:Nat),i < acc.length→z91 (z1c acc l) i=z91 acc i
  | [],_,_,_=>rfl
  | o :: r,acc,i,h=>by
    simp only [z1c,z7p]
    rw [z7v r _ i (by simp; omega),z9n,z9n,List.getElem?_append_left h]
theorem z7u:∀ (l:List Oper) (acc:List (List Nat)) (i:Nat) (o:Oper),l[i]?=some o →
    ∃ acc',acc'.length=acc.length+i∧z91 (z1c acc l) (acc.length+i)=zmf [] (zab acc' o.after.toList)∧∀ k,k < acc'.length→z91 acc' k=z91 (z1c acc l) k
  | [],_,_,_,h=>by simp at h
  | o :: r,acc,0,o',h=>by
    simp only [List.getElem?_cons_zero,Option.some.injEq] at h
    subst h
    refine ⟨acc,rfl,?_,fun k hk=>?_⟩
    · simp only [z1c,z7p,Nat.add_zero]
      rw [z7v r _ acc.length (by simp),z9n]
      simp
    · simp only [z1c,z7p]
      rw [z7v r _ k (by simp; omega),z9n,z9n,List.getElem?_append_left hk]
  | o :: r,acc,i+1,o',h=>by
    simp only [List.getElem?_cons_succ] at h
    obtain ⟨acc',h1,h2,h3⟩:=z7u r (acc++[zmf [] (zab acc o.after.toList)]) i o' h
    simp only [List.length_append,List.length_cons,List.length_nil] at h1 h2
    refine ⟨acc',by omega,?_,fun k hk=>by rw [z1c,z7p]; exact h3 k hk⟩
    rw [show acc.length+(i+1)=acc.length+(0+1)+i by omega,z1c,z7p]
    exact h2
theorem z5a:∀ {l:List Oper} {k i:Nat} {o:Oper} {e:Edge},z58 k l=true→l[i]?=some o→e∈o.after.toList→Region.binds .any e=true→e.on < k+i
  | [],_,_,_,_,_,h,_,_=>by simp at h
  | o :: r,k,0,o',e,hu,h,he,hb=>by
    simp only [List.getElem?_cons_zero,Option.some.injEq] at h
    subst h
    simp only [z58,Bool.and_eq_true] at hu
    have key:∀ (es:List Edge),z58.go k es=true→e∈es→e.on < k:=by
      intro es
      induction es with
      | nil=>intro _ h; cases h
      | cons x es ih=>
        intro hg hm
        simp only [z58.go] at hg
        rcases List.mem_cons.1 hm with h1 | h1
        · subst h1
          rw [hb] at hg
          simp only [Bool.and_eq_true] at hg
          exact Nat.le_of_ble_eq_true hg.1
        · split at hg
          · simp only [Bool.and_eq_true] at hg
            exact ih hg.2 h1
          · exact ih hg h1
    exact key _ hu.1 he
  | o :: r,k,i+1,o',e,hu,h,he,hb=>by
    simp only [List.getElem?_cons_succ] at h
    simp only [z58,Bool.and_eq_true] at hu
    have:=z5a hu.2 h he hb
    omega
section
variable {ops:List Oper}
def zmu (ops:List Oper) (L:Nat→Bool):Prop:=∀ i o,ops[i]?=some o→L i=true→∀ e∈o.after.toList,Region.binds .any e=true→L e.on=true
theorem zim (hu:z58 0 ops=true):∀ (i:Nat) {o:Oper},ops[i]?=some o→∀ j∈z91 (z1c [] ops) i,j < i:=by
  intro i
  induction i using Nat.strongRecOn with
  | _ i ih=>
    intro o ho j hj
    obtain ⟨acc',h1,h2,h3⟩:=z7u ops [] i o ho
    simp only [List.length_nil,Nat.zero_add] at h1 h2
    rw [h2] at hj
    obtain ⟨e,he,hb,h4⟩:=z6p (zku hj)
    have hlt:=z5a hu ho he hb
    rw [Nat.zero_add] at hlt
    rcases h4 with h4 | h4
    · omega
    · have hk:e.on < acc'.length:=by omega
      rw [h3 _ hk] at h4
      have hlen:i < ops.length:=(List.getElem?_eq_some_iff.1 ho).1
      have:=ih e.on hlt (o:=ops[e.on]'(by omega)) (by simp [Nat.lt_trans hlt hlen]) j h4
      omega
theorem zbu {L:Nat→Bool} (hu:z58 0 ops=true) (hL:zmu ops L):∀ (i:Nat) {o:Oper},ops[i]?=some o→(∀ e∈o.after.toList,Region.binds .any e=true→L e.on=true)→∀ j∈z91 (z1c [] ops) i,L j=true:=by
  intro i
  induction i using Nat.strongRecOn with
  | _ i ih=>
    intro o ho hr j hj
    obtain ⟨acc',h1,h2,h3⟩:=z7u ops [] i o ho
    simp only [List.length_nil,Nat.zero_add] at h1 h2
    rw [h2] at hj
    obtain ⟨e,he,hb,h4⟩:=z6p (zku hj)
    have hlt:=z5a hu ho he hb
    rw [Nat.zero_add] at hlt
    rcases h4 with h4 | h4
    · subst h4
      exact hr e he hb
    · have hk:e.on < acc'.length:=by omega
      rw [h3 _ hk] at h4
      have hlen:i < ops.length:=(List.getElem?_eq_some_iff.1 ho).1
      have hg:ops[e.on]?=some (ops[e.on]'(by omega)):=by simp [Nat.lt_trans hlt hlen]
      exact ih e.on hlt hg (hL e.on _ hg (hr e he hb)) j h4
end
theorem zkz {d:Option Nat} {l:List Nat} (h:zol d l=false):∀ t,d=some t→t ∉ l:=by
  rintro t rfl
  exact z8f.1 h
theorem zky {d e:Option Nat} (h:znn d e=false):∀ t,d=some t→e≠some t:=by
  rintro t rfl h'
  subst h'
  simp only [znn] at h
  exact z10.1 h rfl
theorem zdj {ps:List (List Nat)} {pi:List Nat} {i:Nat} {x:Dn}:∀ {l:List Dn} {k j:Nat} {y:Dn},zdi ps pi i x k l=true→l[j]?=some y→i≠k+j→zgf pi (z91 ps (k+j)) i (k+j) x y=true
  | [],_,_,_,_,h,_=>by simp at h
  | z :: r,k,0,y,h,hy,hne=>by
    simp only [List.getElem?_cons_zero,Option.some.injEq] at hy
    subst hy
    simp only [zdi,Bool.and_eq_true,Bool.or_eq_true] at h
    rcases h.1 with h1 | h1
    · exact absurd (z0f.1 h1) hne
    · exact h1
  | z :: r,k,j+1,y,h,hy,hne=>by
    simp only [List.getElem?_cons_succ] at hy
    simp only [zdi,Bool.and_eq_true] at h
    have:=zdj (k:=k+1) h.2 hy (by omega)
    rw [show k+(j+1)=k+1+j by omega]
    exact this
theorem zdh {ps:List (List Nat)} {all:List Dn}:∀ {l:List Dn} {k i:Nat} {x:Dn},zgg ps all k l=true→l[i]?=some x→zdi ps (z91 ps (k+i)) (k+i) x 0 all=true
  | [],_,_,_,_,h=>by simp at h
  | z :: r,k,0,x,h,hx=>by
    simp only [List.getElem?_cons_zero,Option.some.injEq] at hx
    subst hx
    simp only [zgg,Bool.and_eq_true] at h
    exact h.1
  | z :: r,k,i+1,x,h,hx=>by
    simp only [List.getElem?_cons_succ] at hx
    simp only [zgg,Bool.and_eq_true] at h
    have:=zdh (k:=k+1) h.2 hx
    rw [show k+(i+1)=k+1+i by omega]
    exact this
theorem zcs {ds:List Nat}:∀ {l:List Nat},zhv ds l=true→∀ n∈l,zap ds n=true
  | [],_,n,h=>by cases h
  | m :: r,h,n,hn=>by
    simp only [zhv,Bool.and_eq_true] at h
    rcases List.mem_cons.1 hn with e | e
    · subst e; exact h.1
    · exact zcs h.2 n e
theorem zbp {ds:List Nat}:∀ {l:List Dn} {i:Nat} {x:Dn},zkv ds l=true→l[i]?=some x→z64 x.v=true∧zk7 x.us=true∧∀ n∈zar x.us,zap ds n=true
  | [],_,_,_,h=>by simp at h
  | z :: r,0,x,h,hx=>by
    simp only [List.getElem?_cons_zero,Option.some.injEq] at hx
    subst hx
    simp only [zkv,Bool.and_eq_true] at h
    exact ⟨h.1,h.2.1,zcs h.2.2.1⟩
  | z :: r,i+1,x,h,hx=>by
    simp only [List.getElem?_cons_succ] at hx
    simp only [zkv,Bool.and_eq_true] at h
    exact zbp h.2.2.2 hx
theorem zj0 {n:Nat}:∀ {us:List Upd},zk7 us=true→n ∉ zmx us→∀ u∈us,∀ m ob,(u = .new m ob∨u = .set m ob)→z17 n (some ob)=some ob
  | [],_,_,u,hu,_,_,_=>by cases hu
  | u :: r,ho,hn,u',hu',m,ob,he=>by
    have h1:zk7 r=true∧n ∉ zmx r∧(∀ m ob,(u = .new m ob∨u = .set m ob)→z17 n (some ob)=some ob):=by
      cases u with
      | kill k=>exact ⟨ho,hn,fun m ob h=>by rcases h with h | h <;> cases h⟩
      | set k ob'=>
        simp only [zk7,Bool.and_eq_true] at ho
        simp only [zmx,List.mem_append,not_or] at hn
        refine ⟨ho.2.2,hn.2,fun m ob h=>?_⟩
        rcases h with h | h <;> cases h
        exact z8o ho.1 hn.1
      | new k ob'=>
        simp only [zk7,Bool.and_eq_true] at ho
        simp only [zmx,List.mem_append,not_or] at hn
        refine ⟨ho.2.2,hn.2,fun m ob h=>?_⟩
        rcases h with h | h <;> cases h
        exact z8o ho.1 hn.1
    rcases List.mem_cons.1 hu' with h | h
    · subst h
      exact h1.2.2 m ob he
    · exact zj0 h1.1 h1.2.1 u' h m ob he
theorem z9t {t:Nat}:∀ {l:List Operand},Operand.tmp t∈l→t∈zcb l
  | x :: r,h=>by
    rcases List.mem_cons.1 h with h1 | h1
    · subst h1; exact List.mem_cons_self ..
    · cases x <;> simp only [zcb,List.mem_cons] <;> first | exact .inr (z9t h1) | exact z9t h1
theorem zfl {α:Type} {p q:α→Bool}:∀ {l:List α},(∀ x∈l,q x=true→p x=true)→(∃ x∈l,p x=true∧q x=false)→l.countP q < l.countP p
  | [],_,⟨_,h,_⟩=>by cases h
  | y :: r,h,⟨x,hx,h1,h2⟩=>by
    have hr:r.countP q≤r.countP p:=by
      clear hx
      have h':∀ x∈r,q x=true→p x=true:=fun x hx=>h x (List.mem_cons_of_mem _ hx)
      exact List.countP_mono_left h'
    rcases List.mem_cons.1 hx with e | e
    · subst e
      rw [List.countP_cons_of_pos h1,List.countP_cons_of_neg (by simp [h2])]
      omega
    · have:=zfl (l:=r) (fun x hx=>h x (List.mem_cons_of_mem _ hx)) ⟨x,e,h1,h2⟩
      by_cases hq:q y=true
      · rw [List.countP_cons_of_pos (h y (List.mem_cons_self ..) hq),List.countP_cons_of_pos hq]
        omega
      · rw [List.countP_cons_of_neg hq]
        by_cases hp:p y=true
        · rw [List.countP_cons_of_pos hp]; omega
        · rw [List.countP_cons_of_neg hp]; omega
section
variable {B:BT} {nt:Nat} {w0:World} {X:Zone} {γ:Nat→Value} {st st':St} {a:Act} {w:World} {P:Program} {E:Env}
variable (hT:TiOK P B E) (hE:∀ t,t∈E.eqs→EqSnd P t (E.tyd t).ks) (hSp:SpOK P B E w0 X) (hB:BldOK P B E) (hnt:E.nt=nt) (hn9:nt≤900000)
include hT hE hSp hB hnt hn9
theorem zm0 {Q:Exit→Act→World→Prop} {ops:Array Oper} {s0:St} {Ds:List Dn} (hs:Steps E ops.toList ops.toList s0 Ds) (hfree:zne ops.toList Ds=true)
    (hfr:∀ n,zap (zb8 ops.toList) n=true→Fr n s0) (hQ:∀ γ' a' w',Rel B nt w0 X γ' (apDs s0 Ds) a' w'→Q .normal a' w') :
    ∀ (fuel:Nat) (listed:Array Bool) {γ:Nat→Value} {a:Act} {w:World},listed.size=ops.size→zmu ops.toList (fun i=>listed.getD i false) →
      (List.range ops.size).countP (fun i=>!listed.getD i false)≤fuel→Rel B nt w0 X γ (apDs s0 (sel (fun i=>listed.getD i false) 0 Ds)) a w→wpAny P .any ops Q fuel listed a w:=by
  have hlen:Ds.length=ops.size:=by simpa using hs.length
  simp only [zne,Bool.and_eq_true] at hfree
  obtain ⟨hup,hone,hpairs⟩:=hfree
  have hgd:∀ (listed:Array Bool) (i:Nat),listed.size=ops.size→i < ops.size→listed.getD i true=listed.getD i false:=fun listed i h1 h2=>by
    simp [Array.getD,h1,h2]
  have hready:∀ (listed:Array Bool) (i:Nat),listed.size=ops.size→(i∈Region.ready .any ops listed↔∃ o,ops.toList[i]?=some o∧listed.getD i false=false∧∀ e∈o.after.toList,Region.binds .any e=true→listed.getD e.on false=true):=by
    intro listed i hsz
    simp only [Region.ready,List.mem_filter,List.mem_range,Bool.and_eq_true,Bool.not_eq_true']
    constructor
    · rintro ⟨h1,h2,h3⟩
      refine ⟨ops[i],by simp [h1],by rw [← hgd listed i hsz h1]; exact h2,fun e he hb=>?_⟩
      simp only [Array.getElem?_eq_getElem h1,Option.map_some,Option.getD_some,Array.all_eq_true_iff_forall_mem,Bool.or_eq_true,Bool.not_eq_true'] at h3
      rcases h3 e (by simpa using he) with h4 | h4
      · rw [hb] at h4; cases h4
      · exact h4
    · rintro ⟨o,ho,h2,h3⟩
      obtain ⟨h1,rfl⟩:=List.getElem?_eq_some_iff.1 ho
      simp only [Array.length_toList] at h1
      refine ⟨h1,by rw [hgd listed i hsz h1]; exact h2,?_⟩
      simp only [Array.getElem?_eq_getElem h1,Option.map_some,Option.getD_some,Array.all_eq_true_iff_forall_mem,Bool.or_eq_true,Bool.not_eq_true']
      intro e he
      cases hb:Region.binds .any e with
      | false=>exact .inl rfl
      | true=>exact .inr (h3 e (by simpa using he) hb)
  have hend:∀ (listed:Array Bool) {γ:Nat→Value} {a:Act} {w:World},(∀ i,i < ops.size→listed.getD i false=true)→Rel B nt w0 X γ (apDs s0 (sel (fun i=>listed.getD i false) 0 Ds)) a w→Q .normal a w:=by
    intro listed γ a w hall h
    rw [z4v (L':=fun _=>true) _ _ (fun j _ h2=>hall j (by omega)),zl8] at h
    exact hQ γ a w h
  have hnil:∀ (listed:Array Bool),listed.size=ops.size→Region.ready .any ops listed=[]→∀ i,i < ops.size→listed.getD i false=true:=by
    intro listed hsz hr i
    induction i using Nat.strongRecOn with
    | _ i ih=>
      intro hi
      cases hL:listed.getD i false with
      | true=>rfl
      | false=>
        exfalso
        have hm:i∈Region.ready .any ops listed:=by
          refine (hready listed i hsz).2 ⟨ops[i],by simp [hi],hL,fun e he hb=>?_⟩
          have:=z5a (i:=i) hup (by simp [hi]:ops.toList[i]?=some ops[i]) he hb
          exact ih e.on (by omega) (by omega)
        rw [hr] at hm
        cases hm
  intro fuel
  induction fuel with
  | zero=>
    intro listed γ a w hsz hcl hcount h
    have hall:∀ i,i < ops.size→listed.getD i false=true:=by
      intro i hi
      have h0:(List.range ops.size).countP (fun i=>!listed.getD i false)=0:=by omega
      have:=(List.countP_eq_zero.1 h0) i (List.mem_range.2 hi)
      simpa using this
    refine ⟨?_,hend listed hall h⟩
    refine List.eq_nil_iff_forall_not_mem.2 (fun i hi=>?_)
    obtain ⟨o,ho,h2,_⟩:=(hready listed i hsz).1 hi
    have h1:i < ops.size:=by simpa using (List.getElem?_eq_some_iff.1 ho).1
    rw [hall i h1] at h2
    cases h2
  | succ fuel ih=>
    intro listed γ a w hsz hcl hcount h
    refine ⟨fun hr=>hend listed (hnil listed hsz hr) h,fun i hi=>?_⟩
    obtain ⟨o,ho,hLi,hedges⟩:=(hready listed i hsz).1 hi
    have hi':i < ops.size:=by simpa using (List.getElem?_eq_some_iff.1 ho).1
    have hoi:ops[i]?=some o:=by simpa using ho
    obtain ⟨D,hD⟩:∃ D,Ds[i]?=some D:=⟨Ds[i]'(by omega),by simp [hlen,hi']⟩
    generalize hLdef:(fun i=>listed.getD i false)=L at *
    have hL:∀ j,listed.getD j false=L j:=fun j=>congrFun hLdef j
    simp only [hL] at hLi hedges
    have hin:∀ j∈z91 (z1c [] ops.toList) i,L j=true:=zbu hup hcl i ho hedges
    have hout:∀ j D',Ds[j]?=some D'→L j=true→i ∉ z91 (z1c [] ops.toList) j:=by
      intro j D' hj hLj hm
      have hj':j < ops.size:=by have:=(List.getElem?_eq_some_iff.1 hj).1; omega
      have hoj:ops.toList[j]?=some ops[j]:=by simp [hj']
      have:=zbu hup hcl j hoj (hcl j _ hoj hLj) i hm
      rw [hLi] at this
      cases this
    have hlt:∀ j,j∈z91 (z1c [] ops.toList) i→j < i:=zim hup i ho
    have hltj:∀ j D',Ds[j]?=some D'→i∈z91 (z1c [] ops.toList) j→i < j:=by
      intro j D' hj hm
      have hj':j < ops.size:=by have:=(List.getElem?_eq_some_iff.1 hj).1; omega
      exact zim hup j (by simp [hj']:ops.toList[j]?=some ops[j]) i hm
    have hpair:∀ j D',Ds[j]?=some D'→i≠j→zgf (z91 (z1c [] ops.toList) i) (z91 (z1c [] ops.toList) j) i j D D'=true:=by
      intro j D' hj hne
      have h1:=zdh (k:=0) hpairs hD
      rw [Nat.zero_add] at h1
      have h2:=zdj (k:=0) h1 hj (by omega)
      rwa [Nat.zero_add] at h2
    have hunord:∀ j D',Ds[j]?=some D'→i≠j→i ∉ z91 (z1c [] ops.toList) j→j ∉ z91 (z1c [] ops.toList) i →
        (∀ t,D'.dst=some t→t ∉ D.tm)∧(∀ t,D.dst=some t→D'.dst≠some t)∧(∀ n∈z1u D'.us,n ∉ D.rd)∧(∀ n∈z1u D.us,n ∉ z1u D'.us):=by
      intro j D' hj hne h1 h2
      have hp:=hpair j D' hj hne
      simp only [zgf,z8f.2 h1,z8f.2 h2,Bool.and_eq_true,Bool.not_eq_true'] at hp
      exact ⟨zkz hp.2.1,zky hp.2.2.1,z6j.1 hp.2.2.2.1,z6j.1 hp.2.2.2.2⟩
    have hdiff:∀ j D',Ds[j]?=some D'→L j≠decide (j < i)→i≠j∧i ∉ z91 (z1c [] ops.toList) j∧j ∉ z91 (z1c [] ops.toList) i:=by
      intro j D' hj hne
      cases hLj:L j with
      | true=>
        rw [hLj] at hne
        have hji:¬ j < i:=fun h=>hne (by simp [h])
        have hij:i≠j:=fun e=>by subst e; rw [hLi] at hLj; cases hLj
        exact ⟨hij,hout j D' hj hLj,fun hm=>hji (hlt j hm)⟩
      | false=>
        rw [hLj] at hne
        have hji:j < i:=by
          rcases Nat.lt_or_ge j i with h | h
          · exact h
          · exact absurd (by simp; omega) hne
        refine ⟨by omega,fun hm=>?_,fun hm=>?_⟩
        · have:=hltj j D' hj hm; omega
        · have:=hin j hm; rw [hLj] at this; cases this
    have hstep:=Steps.get hs ho hD
    have htake:apDs s0 (Ds.take i)=apDs s0 (sel (fun j=>decide (j < i)) 0 Ds):=by
      have:=zn1 i Ds 0
      rw [Nat.zero_add] at this
      rw [this]
    rw [htake] at hstep
    have hobj:∀ n∈D.rd,z01 (apDs s0 (sel L 0 Ds)).o n=z01 (apDs s0 (sel (fun j=>decide (j < i)) 0 Ds)).o n:=by
      intro n hn
      refine z5k Ds 0 rfl (fun j D' hj hnm=>?_)
      rw [Nat.zero_add]
      refine Decidable.byContradiction (fun hne=>?_)
      obtain ⟨h1,h2,h3⟩:=hdiff j D' hj hne
      exact (hunord j D' hj h1 h2 h3).2.2.1 n hnm hn
    have htm:∀ t∈D.tm,(apDs s0 (sel L 0 Ds)).get t=(apDs s0 (sel (fun j=>decide (j < i)) 0 Ds)).get t:=by
      intro t ht
      refine z5j Ds 0 rfl (fun j D' hj hnm=>?_)
      rw [Nat.zero_add]
      refine Decidable.byContradiction (fun hne=>?_)
      obtain ⟨h1,h2,h3⟩:=hdiff j D' hj hne
      exact (hunord j D' hj h1 h2 h3).1 t hnm ht
    have hafter:SEq (apD (apDs s0 (sel L 0 Ds)) D) (apDs s0 (sel (fun j=>(listed.setIfInBounds i true).getD j false) 0 Ds)):=by
      have hset:∀ j,(listed.setIfInBounds i true).getD j false=(L j||Nat.beq j i):=by
        intro j
        rw [← hL j]
        simp only [Array.getD_eq_getD_getElem?,Array.getElem?_setIfInBounds,hsz]
        by_cases e:i=j
        · subst e
          simp [hi',Nat.beq_refl]
        · rw [if_neg e,z10.2 (fun h=>e h.symm),Bool.or_false]
      rw [show (fun j=>(listed.setIfInBounds i true).getD j false)=(fun j=>L j||Nat.beq j i) from funext hset]
      have hsplit:Ds=Ds.take i++D :: Ds.drop (i+1):=by
        have hi2:i < Ds.length:=by omega
        have h1:Ds[i]=D:=by have:=List.getElem?_eq_some_iff.1 hD; exact this.2
        rw [← h1]
        simp
      have hlate:∀ j D',(Ds.drop (i+1))[j]?=some D'→L (i+1+j)=true→(∀ t,D.dst=some t→D'.dst≠some t)∧∀ n∈z1u D.us,n ∉ z1u D'.us:=by
        intro j D' hj hLj
        have hj':Ds[i+1+j]?=some D':=by rw [← hj,List.getElem?_drop]
        have h2:=hout _ D' hj' hLj
        have h3:i+1+j ∉ z91 (z1c [] ops.toList) i:=fun hm=>by have:=hlt _ hm; omega
        exact ⟨(hunord _ D' hj' (by omega) h2 h3).2.1,(hunord _ D' hj' (by omega) h2 h3).2.2.2⟩
      have hli:(Ds.take i).length=i:=by simp; omega
      have hR:∀ s,apDs s (sel (fun j=>L j||Nat.beq j i) 0 Ds)=apDs (apD (apDs s (sel L 0 (Ds.take i))) D) (sel L (i+1) (Ds.drop (i+1))):=by
        intro s
        rw [show sel (fun j=>L j||Nat.beq j i) 0 Ds=sel (fun j=>L j||Nat.beq j i) 0 (Ds.take i++D :: Ds.drop (i+1)) by rw [← hsplit]]
        rw [zc6,z7e,hli,Nat.zero_add]
        simp only [sel,Nat.beq_refl,Bool.or_true,apDs]
        rw [z4v (L':=L) (Ds.take i) 0 (fun j _ h2=>by rw [z10.2 (by omega),Bool.or_false]),z4v (L':=L) (Ds.drop (i+1)) (i+1) (fun j h1 _=>by rw [z10.2 (by omega),Bool.or_false])]
      have hLs:∀ s,apDs s (sel L 0 Ds)=apDs (apDs s (sel L 0 (Ds.take i))) (sel L (i+1) (Ds.drop (i+1))):=by
        intro s
        rw [show sel L 0 Ds=sel L 0 (Ds.take i++D :: Ds.drop (i+1)) by rw [← hsplit]]
        rw [zc6,z7e,hli,Nat.zero_add]
        simp only [sel,hLi]
      rw [hR,hLs]
      generalize apDs s0 (sel L 0 (Ds.take i))=s1
      refine ⟨fun t=>?_,fun n=>?_⟩
      · by_cases e:D.dst=some t
        · rw [z41,if_pos e]
          have:(apDs (apD s1 D) (sel L (i+1) (Ds.drop (i+1)))).get t=(apDs (apD s1 D) (sel (fun _=>false) (i+1) (Ds.drop (i+1)))).get t:=by
            refine z5j _ _ rfl (fun j D' hj hd=>?_)
            cases hLj:L (i+1+j) with
            | false=>rfl
            | true=>exact absurd hd ((hlate j D' hj hLj).1 t e)
          rw [this,z8q]
          simp only [apDs]
          rw [z41,if_pos e]
        · rw [z41,if_neg e]
          exact z5j _ _ (by rw [z41,if_neg e]) (fun _ _ _ _=>rfl)
      · by_cases e:n∈z1u D.us
        · have:z01 (apDs (apD s1 D) (sel L (i+1) (Ds.drop (i+1)))).o n=z01 (apDs (apD s1 D) (sel (fun _=>false) (i+1) (Ds.drop (i+1)))).o n:=by
            refine z5k _ _ rfl (fun j D' hj hd=>?_)
            cases hLj:L (i+1+j) with
            | false=>rfl
            | true=>exact absurd hd ((hlate j D' hj hLj).2 n e)
          rw [this,z8q]
          exact zhu e
        · have h1:z01 (apD (apDs s1 (sel L (i+1) (Ds.drop (i+1)))) D).o n=z01 (apDs s1 (sel L (i+1) (Ds.drop (i+1)))).o n:=z4m e
          rw [h1]
          exact z5k _ _ (z4m e).symm (fun _ _ _ _=>rfl)
    have hnext:∀ γ' a' w',Rel B nt w0 X γ' (apD (apDs s0 (sel L 0 Ds)) D) a' w'→wpAny P .any ops Q fuel (listed.setIfInBounds i true) a' w':=by
      intro γ' a' w' h'
      have hset:∀ j,(listed.setIfInBounds i true).getD j false=(L j||Nat.beq j i):=by
        intro j
        rw [← hL j]
        simp only [Array.getD_eq_getD_getElem?,Array.getElem?_setIfInBounds,hsz]
        by_cases e:i=j
        · subst e
          simp [hi',Nat.beq_refl]
        · rw [if_neg e,z10.2 (fun h=>e h.symm),Bool.or_false]
      refine ih (listed.setIfInBounds i true) (by simpa using hsz) ?_ ?_ (h'.seq hafter)
      · intro j o' ho' hLj e he hb
        simp only [hset] at hLj ⊢
        by_cases e':j=i
        · subst e'
          rw [ho] at ho'
          simp only [Option.some.injEq] at ho'
          subst ho'
          rw [hedges e he hb]
          rfl
        · rw [z10.2 e',Bool.or_false] at hLj
          rw [hcl j o' ho' hLj e he hb]
          rfl
      · have:(List.range ops.size).countP (fun j=>!(listed.setIfInBounds i true).getD j false) < (List.range ops.size).countP (fun j=>!listed.getD j false):=by
          refine zfl (fun j _ hj=>?_) ⟨i,List.mem_range.2 hi',by rw [hL,hLi]; rfl,by rw [hset,Nat.beq_refl,Bool.or_true]; rfl⟩
          rw [hset] at hj
          rw [hL]
          cases hLj:L j <;> simp_all
        simp only [hL] at this hcount
        omega
    obtain ⟨hok,hdst,htms,hguard⟩:=hstep
    have hclean:=zbp hone hD
    have run:(z0r E (apDs s0 (sel (fun j=>decide (j < i)) 0 Ds)).o (opd (apDs s0 (sel (fun j=>decide (j < i)) 0 Ds))) o.dst o.op).get=some (D.v,D.us)→D.rd=reads E (apDs s0 (sel (fun j=>decide (j < i)) 0 Ds)).o (opd (apDs s0 (sel (fun j=>decide (j < i)) 0 Ds))) o.op →
        (∀ x∈o.op.operands.toList,∀ t,x = .tmp t→t∈D.tm)→o.wp P a w (wpAny P .any ops Q fuel (listed.setIfInBounds i true)) Q:=by
      intro he hrd htmo
      have h1:z0r E (apDs s0 (sel L 0 Ds)).o (opd (apDs s0 (sel L 0 Ds))) o.dst o.op=z0r E (apDs s0 (sel (fun j=>decide (j < i)) 0 Ds)).o (opd (apDs s0 (sel (fun j=>decide (j < i)) 0 Ds))) o.dst o.op:=by
        rw [zje (ρ:=opd (apDs s0 (sel L 0 Ds))) (ρ':=opd (apDs s0 (sel (fun j=>decide (j < i)) 0 Ds))) (fun x hx=>?_)]
        · exact zd5 (fun n hn=>hobj n (by rw [hrd]; exact hn))
        · cases x with
          | tmp t=>exact htm t (htmo _ hx t rfl)
          | _=>rfl
      rw [← h1] at he
      have hn9':∀ d,o.dst=some d→d≠900000:=fun d hdd e=>by
        subst e
        rw [hdd] at hok
        simp only [zbn] at hok
        have h8:900000+1≤E.nt:=Nat.le_of_ble_eq_true hok
        omega
      refine zmy hT hE hSp hB h o hn9' he _ _ (fun γ' x w' h3 h4=>hnext γ' _ w' ?_)
      refine (h3.put hnt hok h4).seq ?_
      have hfr':∀ n∈zar D.us,Fr n (apDs s0 (sel L 0 Ds)):=by
        intro n hn
        refine zl9 Ds 0 (hfr n (hclean.2.2 n hn)) (fun j D' hj hLj=>?_)
        rw [Nat.zero_add] at hLj
        have hne:i≠j:=fun e=>by subst e; rw [hLi] at hLj; cases hLj
        have hp:=hpair j D' hj hne
        simp only [zgf,z8f.2 (hout j D' hj hLj),Bool.and_eq_true] at hp
        have hdj:=z6j.1 hp.1 n hn
        simp only [List.mem_append,not_or] at hdj
        have hc':=zbp hone hj
        exact ⟨hc'.1,hdj.1,zj0 hc'.2.1 hdj.2⟩
      have:=(zf4 hfr' hclean.2.1).put o.dst D.v
      refine this.trans ?_
      rw [← hdst]
      cases hdd:D.dst <;> exact ⟨fun t=>by simp only [apD,hdd,St.put]; try rfl,fun n=>by simp only [apD,St.put]⟩
    unfold wpOp
    rw [hoi]
    simp only
    have htmo:∀ x∈o.op.operands.toList,∀ t,x = .tmp t→t∈D.tm:=by
      rintro x hx t rfl
      have:=z9t hx
      rw [htms]
      unfold z74
      split
      · split
        · exact List.mem_cons_of_mem _ this
        · exact this
      · exact this
    split at hguard
    · rename_i hg
      rw [if_pos (by simp [Region.wanted,hg])]
      exact .inl (run hguard.1 hguard.2 htmo)
    · rename_i j b hg
      have skip:D.v = .tup []→D.us=[]→Region.wanted o (yielded ops a.tmps)=false→(if Region.wanted o (yielded ops a.tmps)=true then o.wp P a w (wpAny P .any ops Q fuel (listed.setIfInBounds i true)) Q∨(o.asks P a w∧LetsOut Q) else wpAny P .any ops Q fuel (listed.setIfInBounds i true) (a.put o.dst undef) w):=by
        intro h1 h2 h3
        rw [if_neg (by rw [h3]; simp)]
        refine hnext γ _ w ?_
        refine (h.put hnt hok (v:=.tup []) (x:=undef) (by simp only [VRel]; exact ⟨#[],rfl,by simp only [VRels]⟩)).seq ?_
        rw [← hdst,← h1]
        cases hdd:D.dst <;> exact ⟨fun t=>by simp only [apD,hdd,St.put]; try rfl,fun n=>by simp only [apD,St.put,h2,zcr]⟩
      have hdjm0:∀ dj,zai ops.toList j=some dj→dj∈D.tm:=by
        intro dj hdj
        rw [htms]
        unfold z74
        rw [hg]
        simp only [hdj]
        exact List.mem_cons_self ..
      rcases hguard with ⟨dj,c,hdj,hc,hcase⟩ | ⟨dj,hdj,hc,h1,h2⟩
      case inr=>
        rw [← htm dj (hdjm0 dj hdj)] at hc
        have hy:yielded ops a.tmps j=none:=by
          unfold yielded
          rw [show ops[j]?=ops.toList[j]? by simp,z87 _ _ _ hdj]
          rcases zgu h hc with h0 | h0 <;> simp [h0]
        exact skip h1 h2 (by simp [Region.wanted,hg,hy])
      have hdjm:dj∈D.tm:=by
        rw [htms]
        unfold z74
        rw [hg]
        simp only [hdj]
        exact List.mem_cons_self ..
      rw [← htm dj hdjm] at hc
      have hy:yielded ops a.tmps j=some c:=by
        unfold yielded
        rw [show ops[j]?=ops.toList[j]? by simp,z87 _ _ _ hdj]
        simp [zi1 h hc]
      rcases hcase with ⟨rfl,h1,h2⟩ | ⟨hne,h1,h2⟩
      · rw [if_pos (by simp [Region.wanted,hg,hy])]
        exact .inl (run h1 h2 htmo)
      · exact skip h1 h2 (by simp [Region.wanted,hg,hy,hne])
theorem zjd {Q:Exit→Act→World→Prop} (hm:P.follows .mixedOrders=true) {r:V × List (List V)} {id:Nat} {ops:Array Oper} {k:St→Res} {γ:Nat→Value} {st:St} {a:Act} {w:World}
    (he:zkj E ops.toList st k=some r) (h:Rel B nt w0 X γ st a w) (hk:∀ γ' st' a' w',Rel B nt w0 X γ' st' a' w'→k st'=some r→Q .normal a' w'):(Code.region id ops true).wp P Q a w:=by
  refine wp_region_any hm ?_
  unfold zkj at he
  obtain ⟨Ds,s',h1,h2,h3⟩:=zfr ops.toList he
  split at h3
  · rename_i hf
    simp only [List.append_nil,List.reverse_reverse] at hf
    have h0:Rel B nt w0 X γ (z4g (zb8 ops.toList) st) a { w with drawn:=w.drawn+1 }:=(h.clear (zb8 ops.toList)).world (Keep.drew _ w)
    refine zm0 hT hE hSp hB hnt hn9 h1 hf (fun n hn=>zlx hn st) (fun γ' a' w' h'=>hk γ' s' a' w' (h'.seq h2.symm) h3) ops.size (Array.replicate ops.size false) (by simp) ?_ ?_ (γ:=γ) ?_
    · intro i o ho hL
      have hi:i < ops.size:=by simpa using (List.getElem?_eq_some_iff.1 ho).1
      simp [Array.getD,hi] at hL
    · refine Nat.le_trans (List.countP_le_length) ?_
      simp
    · rw [z4v (L':=fun _=>false) _ _ (fun j _ _=>by simp [Array.getD]),z8q]
      exact h0
  · cases h3
end
end Go.FM
