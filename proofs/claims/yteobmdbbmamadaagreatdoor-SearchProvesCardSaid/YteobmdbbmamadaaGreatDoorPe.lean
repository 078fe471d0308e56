/-
  A small machine that reads a function of the program and reckons what a call of it comes to; what Go's library on the road comes to; the functions of the program, one by one. No conditions beyond each specification's own. (check's FUNCTIONS COME TO WHAT IS SAID (1): Sums, shown, Pro, NORMAL FORMS: what the functions' runs come to (written by a, slices.Clone OF A PROOF's STEPS: a fresh row with the same: , and so on.)
-/
import Derived.Test.YteobmdbbmamadaaGreatDoorPd
import Derived.Test.YteobmdbbmamadaaGreatDoorPc
import Derived.Lib.AppendIntMem
import Derived.Deep.LoopGhost
import Derived.Lib.Walk
import Derived.Lib.SliceRun
import Derived.Shelf.Vars
import Derived.Lib.LaidU8
import Derived.Lib.LaidTab
import Derived.Carry
import Derived.Test.YteobmdbbmamadaaGreatDoorPb
import Derived.ChangeArms
import Derived.OpenShut
import Derived.Lib.ItoaMem
import Derived.Test.YteobmdbbmamadaaGreatDoorRows
import Derived.ProofKit
import Derived.LaidMore
import Derived.LaidHandle
import Derived.Deep.DeepHandedRow
import Derived.Stop.Joined
import Derived.Test.YteobmdbbmamadaaGreatDoorTie
import Derived.Test.YteobmdbbmamadaaGreatDoorCards
import Derived.SevenTiedAt
import Derived.Deep.DeepWitnessRowRef

namespace Go.FM
open Go Go.Proofs
theorem y49 (N:Nat) (ts:List IV) (b:Bx) (k:Int) (hts:ts.length≤8) (hT:∀ t∈ts,z6v (z97 t) 4=true) (hb:z4y b=true):∀ (m i n:Nat) (lo hi:Int),i+m=ts.length→m < n→(-2147483648*(i+1)≤lo∧lo≤2147483648*(i+1))→(-2147483648*(i+1)≤hi∧hi≤2147483648*(i+1)) →
    lpE (z0f N) (z0l z0w [1,1,1,0,1,0,0]) ⟨[1,5,6,7,8,9,40,41,42],[5],[]⟩ n ⟨[(1,(.int .i64 k)),(5,(.ptr 5 0 0)),(6,(.int .i64 0)),(7,(.int .i64 0)),(8,(.int .i64 lo)),(9,(.int .i64 hi)),(40,(.list true z30 ts)),(41,(.int .i64 (ic ts.length))),(42,(.int .i64 (i:Int)))],[(5,(some (.box (Bx.cs b))))]⟩ (z08 0 (kSq (z0f N) (z0l z0w [1,1,1,1]) (z2w (z0f N) none [(ResultVar.tmp 6),(ResultVar.tmp 7)] [[(.int .i64)],[(.int .i64)]]))) =
      some (.tup [.int .i64 (zrg (fun l=>tLo l b) k (ts.drop i) lo),.int .i64 (zrg (fun l=>tHi l b) k (ts.drop i) hi)],[])
  | m,i,0,_,_,_,h,_,_=>absurd h (by omega)
  | 0,i,n+1,lo,hi,hd,_,_,_=>by
    have hlt:i=ts.length:=by omega
    subst hlt
    rw [z0b,zht,zcy (Nat.le_refl _),z03,List.drop_length]
    exact zng N b _ _ _ _ _ _ _ _
  | m+1,i,n+1,lo,hi,hd,hn,h1,h2=>by
    have hlt:i < ts.length:=by omega
    have ei:IntKind.wrap IntKind.i64 ((i:Int)+1)=((i+1:Nat):Int):=z68 (by omega)
    rw [z0b,zht,ei,zb1 hlt,z01,zjz,Bool.and_self,z01,zc7 hlt,List.drop_eq_getElem_cons hlt,zrg,zrg]
    obtain ⟨q1,q2⟩:=yin (z97 ts[i]) b
    have q1:=z4m q1
    have q2:=z4m q2
    have hti:z6v (IV.toList (IV.cell ts[i] 1)) 4=true:=hT _ (List.getElem_mem hlt)
    cases ((ts[i].cell 0).toInt==k) with
    | true=>
      rw [z01,z01,z01,hti,hb,Bool.and_self,z01]
      have ew:IntKind.wrap IntKind.i64 (lo+tLo (z97 ts[i]) b)=lo+tLo (z97 ts[i]) b:=z12 (by omega) (by omega)
      have ew2:IntKind.wrap IntKind.i64 (hi+tHi (z97 ts[i]) b)=hi+tHi (z97 ts[i]) b:=z12 (by omega) (by omega)
      have ih:=y49 N ts b k hts hT hb m (i+1) n (lo+tLo (z97 ts[i]) b) (hi+tHi (z97 ts[i]) b) (by omega) (by omega) (by omega) (by omega)
      rw [← ew,← ew2] at ih
      refine Eq.trans ih ?_
      rw [ew,ew2]
    | false=>
      rw [z03,z03,z03]
      exact y49 N ts b k hts hT hb m (i+1) n lo hi (by omega) (by omega) (by omega) (by omega)
set_option maxRecDepth 100000 in
theorem ztn:z3n PR B0 44 z9w:=by
  refine z0o [(43,z1t),(69,zad),(39,z1u)] [(5,⟨[1,5,6,7,8,9,40,41,42],[5],[]⟩)] z9w [[.int .i64],[.int .i64]] Tryz.func44 y11 ⟨z5j,ztk,z65,trivial⟩ ?_
  intro vs r hwf h
  unfold z9w at h
  split at h
  · rename_i m k b
    replace h:=z32 h
    obtain ⟨m,rfl,h⟩:=h
    replace h:=z2b h
    obtain ⟨b,rfl,h⟩:=h
    cases hg:(b.emp||z4y b) with
    | false=>rw [hg] at h; simp [R.get] at h
    | true=>
    rw [hg,R.get_br,z01,R.get_ok] at h
    refine ⟨10,?_⟩
    rw [← h]
    refine (zyt 10 m k b).trans ?_
    unfold sLo sHi sOK
    cases hm:z1s m with
    | false=>rfl
    | true=>
      rw [Bool.not_true,z03]
      cases h0:decide (k < 0) with
      | true=>
        have:zai m k=false:=by unfold zai; rw [decide_eq_false (show ¬ 0≤k by have:=of_decide_eq_true h0; omega)]; rfl
        rw [this]
        rfl
      | false=>
        rw [z03]
        cases h1:decide (k≥m.c) with
        | true=>
          have:zai m k=false:=by unfold zai; rw [decide_eq_false (show ¬ k < m.c by have:=of_decide_eq_true h1; omega),Bool.and_false]
          rw [this]
          rfl
        | false=>
          have hc:zai m k=true:=by unfold zai; rw [decide_eq_true (show 0≤k by have:=of_decide_eq_false h0; omega),decide_eq_true (show k < m.c by have:=of_decide_eq_false h1; omega)]; rfl
          rw [z03,hc]
          cases he:b.emp with
          | true=>rfl
          | false=>
            rw [he,Bool.false_or] at hg
            have hb:=zz2 hm k
            have run:=y49 10 m.ts b k (z1m hm).2.2.1 (fun t ht=>zno hm ht) hg m.ts.length 0 10 (zb2 m k) (zb2 m k) (by omega) (by have:=(z1m hm).2.2.1; omega) (by omega) (by omega)
            rw [z03]
            rcases zs1 hm hc with rfl | rfl | rfl <;> exact run
  · simp [R.get] at h
theorem zr8 (N:Nat) (m:Md) (q:Qy) (b:Bx) (hb:(b.emp||z4y b)=true):∀ (d i n:Nat),((i+d:Nat):Int)=m.c→d < n→m.c < 1000 →
    lpE (z1f N) (z0l z1v [1,1,1,0,1,0,1,1,1,0,0,1,0,0]) ⟨[3,4,5,6,7,42,43],[3,4,5],[]⟩ n ⟨[(3,(.ptr 3 0 0)),(4,(.ptr 4 0 0)),(5,(.ptr 5 0 0)),(6,(.bool false)),(7,(.int .i64 (sLo m q.c b))),(42,(.int .i64 m.c)),(43,(.int .i64 (i:Int)))],[(3,(some (.box (Md.cs m)))),(4,(some (.box (Qy.cs q)))),(5,(some (.box (Bx.cs b))))]⟩ (z08 1 (kSq (z1f N) (z0l z1v [1,1,1,0,1,0,1,1,1,0,1]) (z08 0 (kSq (z1f N) (z0l z1v [1,1,1,1]) (z2w (z1f N) none [(ResultVar.tmp 6)] [[.bool]])))))=some (.bool (y50 m q b d i),[])
  | d,i,0,_,h,_=>absurd h (by omega)
  | 0,i,n+1,hd,_,_=>by
    rw [z0b,zga,decide_eq_false (show ¬ (i:Int) < m.c by omega),z03]
    exact zkq N m q b _ _ _ _
  | d+1,i,n+1,hd,hn,hc=>by
    have ei:IntKind.wrap IntKind.i64 ((i:Int)+1)=((i+1:Nat):Int):=z68 (by omega)
    rw [z0b,zga,ei,decide_eq_true (show (i:Int) < m.c by omega),z01,hb,z01,y50]
    have en:((i:Int) != q.c)=!((i:Int)==q.c):=rfl
    rw [en]
    cases ((i:Int)==q.c) with
    | true=>
      rw [Bool.not_true,z03,Bool.false_and,z03]
      exact zr8 N m q b hb d (i+1) n (by omega) (by omega) hc
    | false=>
      rw [Bool.not_false,z01,Bool.true_and]
      cases decide (sHi m (i:Int) b≥sLo m q.c b) with
      | true=>
        rw [z01,z01]
        exact zm3 N m q b _ _ _ _
      | false=>
        rw [z03,z03]
        exact zr8 N m q b hb d (i+1) n (by omega) (by omega) hc
set_option maxRecDepth 100000 in
theorem zsb:z3n PR B0 23 z93:=by
  refine z0o [(43,z1t),(44,z9w)] [(9,⟨[3,4,5,6,7,42,43],[3,4,5],[]⟩)] z93 [[.bool]] Tryz.func23 zy5 ⟨z5j,ztn,trivial⟩ ?_
  intro vs r hwf h
  unfold z93 at h
  split at h
  · rename_i m q b
    replace h:=z32 h
    obtain ⟨m,rfl,h⟩:=h
    replace h:=z2r h
    obtain ⟨q,rfl,h⟩:=h
    replace h:=z2b h
    obtain ⟨b,rfl,h⟩:=h
    cases hg:(z1q m q&&(b.emp||z4y b)) with
    | false=>rw [hg] at h; simp [R.get] at h
    | true=>
    rw [hg,R.get_br,z01,R.get_ok] at h
    rw [Bool.and_eq_true] at hg
    obtain ⟨hr,hb⟩:=hg
    have hb':b.emp=true∨b.good:=by
      rw [Bool.or_eq_true] at hb
      exact hb.imp id zee.1
    refine ⟨1000,?_⟩
    rw [← h,← y2w hr hb']
    refine (zu2 1000 m q b).trans ?_
    obtain ⟨hm,_,_,_,hk⟩:=z9a hr
    unfold yak
    cases he:b.emp with
    | true=>rfl
    | false=>
      have hgd:z4y b=true:=by rw [he,Bool.false_or] at hb; exact hb
      rw [z03,z03,hgd,Bool.false_or,z01]
      rcases zhx hk with ⟨e,_⟩ | ⟨e,h2,_⟩ | ⟨e,hf,_⟩
      · rw [e]
        show cond (decide (q.lo≤sLo m q.c b)) (some (V.bool (decide (sHi m q.c b≤q.hi)),[])) (some (V.bool false,[]))=some (V.bool (decide (q.lo≤sLo m q.c b)&&decide (sHi m q.c b≤q.hi)),[])
        cases decide (q.lo≤sLo m q.c b) <;> rfl
      · rw [e]
        have hc:=(z1m hm).2.1
        exact zr8 1000 m q b (by rw [he,hgd]; rfl) m.c.toNat 0 1000 (by omega) (by omega) (by omega)
      · rw [e]
        have hp:=zt1 hm e hf
        have hg2:z4y (zzf q b)=true:=zee.2 (zos (zee.1 hgd) ((zee.1 hgd) 4 (by omega)) (by rcases z7i hp with e | e | e | e <;> rw [e] <;> decide))
        have fin:(cond (decide ((b.g q.ft.toNat).lo≥b.s4.hi)) (some (V.bool true,[])) (cond ((zzf q b).emp||z4y (zzf q b)) (cond q.fl (some (V.bool (decide (sHi m q.c (zzf q b)≤sLo m q.c b)),[])) (some (V.bool (decide (sLo m q.c (zzf q b)≥sHi m q.c b)),[]))) none):Res) =
            some (V.bool (cond (decide ((b.g q.ft.toNat).lo≥b.s4.hi)) true (cond q.fl (decide (sHi m q.c (zzf q b)≤sLo m q.c b)) (decide (sLo m q.c (zzf q b)≥sHi m q.c b)))),[]):=by
          rw [hg2,Bool.or_true,z01]
          cases decide ((b.g q.ft.toNat).lo≥b.s4.hi) <;> cases q.fl <;> rfl
        refine Eq.trans ?_ fin
        unfold zzf
        rcases z7i hp with e | e | e | e <;> rw [e] <;> rfl
  · simp [R.get] at h
theorem zv2 (N:Nat) (m:Md) (q:Qy) (hr:z1q m q=true) (l:List IV) (hl:l.length < 100000) (hg:∀ y∈l,(bxI y).good):∀ (d i n:Nat),i+d=l.length→d < n →
    lpE (z0v N) (z0l z1a [1,1,1,0,1,0,1,0,1,0,1,0,0]) ⟨[3,4,6,9,29,30,31],[3,4],[]⟩ n ⟨[(3,(.ptr 3 0 0)),(4,(.ptr 4 0 0)),(6,(.bool false)),(9,(.bool true)),(29,(.list true z6l l)),(30,(.int .i64 (ic l.length))),(31,(.int .i64 (i:Int)))],[(3,(some (.box (Md.cs m)))),(4,(some (.box (Qy.cs q))))]⟩ (z08 1 (kSq (z0v N) (z0l z1a [1,1,1,0,1,0,1,0,1,1]) (z08 0 (kSq (z0v N) (z0l z1a [1,1,1,1]) (z2w (z0v N) none [(ResultVar.tmp 6)] [[.bool]]))))) =
      some (.bool ((l.drop i).all fun x=>z1r m q (bxI x)),[])
  | d,i,0,_,h=>absurd h (by omega)
  | 0,i,n+1,hd,_=>by
    rw [z0b,z98,zcy (by omega),z03,List.drop_of_length_le (by omega)]
    exact zc8 N m q _ _ l _ _
  | d+1,i,n+1,hd,hn=>by
    have hi:i < l.length:=by omega
    have hgi:=hg _ (List.getElem_mem hi)
    rw [z0b,z98,zb1 hi,z01,zjz,Bool.and_self,z01,z68 (by omega),zc7 hi,List.drop_eq_getElem_cons hi,List.all_cons,hr,zee.2 hgi,Bool.or_true,Bool.and_self,z01]
    cases z1r m q (bxI l[i]) with
    | false=>
      rw [Bool.not_false,z01]
      exact zjx N m q _ _ l _ _
    | true=>
      rw [Bool.not_true,z03,Bool.true_and]
      exact zv2 N m q hr l hl hg d (i+1) n (by omega) (by omega)
theorem yg7 {b:Bx} {l outs:List IV} (h:psF b l=some outs):outs.length≤65536:=by
  have key:∀ {l:List IV} {st lo:List IV × List IV},zqc l st=some lo→lo.2.length≤st.2.length+l.length:=by
    intro l
    induction l with
    | nil=>intro st lo h; obtain rfl:=Option.some.inj h; exact Nat.le_refl _
    | cons x l ih=>
      intro st lo h
      rw [zqc] at h
      cases h1:zdv st x with
      | none=>rw [h1] at h; cases h
      | some s1=>
        rw [h1] at h
        have:=ih h
        have h2:s1.2.length≤st.2.length+1:=by
          unfold zdv at h1
          cases hs:z62 x with
          | true=>rw [hs] at h1; obtain rfl:=Option.some.inj h1; simp
          | false=>
            rw [hs,z03] at h1
            cases hc:(decide (zbk x < ((z2k st.1).g (z0t x).toNat).lo)||decide (zbk x≥((z2k st.1).g (z0t x).toNat).hi)) with
            | true=>rw [hc] at h1; cases h1
            | false=>rw [hc] at h1; obtain rfl:=Option.some.inj h1; exact Nat.le_succ _
        simp only [List.length_cons]
        omega
  unfold psF at h
  cases hd:decide (zdx l > 0) with
  | false=>rw [hd,z03] at h; cases h
  | true=>
    rw [hd,z01] at h
    have hl:l.length≤65536:=by
      have:=of_decide_eq_true hd
      unfold zdx at this
      by_cases hc:ic l.length > 65536
      · rw [decide_eq_true hc,z01] at this; omega
      · simp only [ic] at hc; omega
    cases hp:zqc l ([b.I],[]) with
    | none=>rw [hp] at h; cases h
    | some lo=>
      rw [hp] at h
      obtain rfl:=Option.some.inj h
      have:=key hp
      simp only [List.length_nil] at this
      show lo.2.length≤65536
      omega
set_option maxRecDepth 100000 in
theorem zpi:z3n PR B0 8 z7h:=by
  refine z0o [(24,zhq),(23,z93),(22,zag),(25,z4u),(20,z2t),(21,z5n)] [(8,⟨[3,4,6,9,29,30,31],[3,4],[]⟩)] z7h [[.bool]] Tryz.func8 ztv ⟨y4y,zsb,ztt,zg5,z8w,zh4,trivial⟩ ?_
  intro vs r hwf h
  unfold z7h at h
  split at h
  · rename_i m q v
    replace h:=z32 h
    obtain ⟨m,rfl,h⟩:=h
    replace h:=z2r h
    obtain ⟨q,rfl,h⟩:=h
    replace h:=yb9 h
    obtain ⟨v,rfl,h⟩:=h
    rw [R.get_ok] at h
    refine ⟨70000,?_⟩
    rw [← h]
    refine (zr4 70000 m q v).trans ?_
    unfold zdj
    cases hr:z1q m q with
    | false=>rfl
    | true=>
      rw [Bool.not_true,z03,Bool.true_and]
      cases v.kind==1 with
      | true=>
        rw [z01,z01]
        cases hp:psF (z33 q) v.proof with
        | none=>
          show cond false _ _=_
          rw [z03,z0b,z98]
          exact zc8 70000 m q _ _ [] _ _
        | some l=>
          show cond true _ _=_
          rw [z01]
          have hl:=yg7 hp
          have:=zv2 70000 m q hr l (by omega) (ycm (znj hr) hp) l.length 0 70000 (by omega) (by omega)
          rw [List.drop_zero] at this
          exact this
      | false=>
        rw [z03,z03]
        cases v.kind==2 with
        | false=>rfl
        | true=>
          rw [z01,z01]
          show cond ((z33 q).has v.p v.twin) (some (V.bool (z2l m q v.p v.twin),[])) (some (V.bool false,[]))=some (V.bool ((z33 q).has v.p v.twin&&z2l m q v.p v.twin),[])
          cases (z33 q).has v.p v.twin <;> rfl
  · simp [R.get] at h
open Go Go.Proofs
def y23 (N:Nat):Env:=mkE [(20,z2t),(21,z5n)] [] 26 N
theorem zy1 (N:Nat) (m:Md) (q:Qy):z16 (y23 N) zof [.tmp 4] [[.list false []]] [(Md.V m),(Qy.V q)] =
 (cond (!z1q m q)
 (some ((.bor (zdq m q [.zs,.zs,(.int .i64 4),.zs,(.int .i64 0),(.int .i64 0),(.int .i64 0),(.int .i64 0),(.int .i64 0),(.int .i64 0),(.int .i64 0)])),[]))
 (some ((.bor (zdq m q [(.vec 36 true z6l [(Bx.I (z33 q))]),.zs,(.int .i64 0),.zs,(.int .i64 0),(.int .i64 0),(.int .i64 0),(.int .i64 0),(.int .i64 0),(.int .i64 0),(.int .i64 0)])),[]))):=by kernel_rfl
def z40 (N:Nat):Env:=mkE [(38,z2f)] [] 22 N
theorem zce (N:Nat) (m:Md) (q:Qy) (left:List IV) (proof:List IV) (k:Int) (w0:Int) (w1:Int) (w2:Int) (w3:Int) (tw:Int) (vs:Int) (sp:Int):z16 (z40 N) z2s [.cell 2 45] [[.int .i64,.list true [.bool,.int .i64,.int .i64],.int .i64,.int .i64,.int .i64,.int .i64,.int .i64,.int .i64]] [(.bor (zdq m q [.vec 36 true z6l left,.vec 83 true z0q proof,.int .i64 k,.zs,.int .i64 w0,.int .i64 w1,.int .i64 w2,.int .i64 w3,.int .i64 tw,.int .i64 vs,.int .i64 sp]))] =
 (cond (k==0)
 (some ((.agg [(.int .i64 3),(.list true z0q []),(.int .i64 w0),(.int .i64 w1),(.int .i64 w2),(.int .i64 w3),(.int .i64 tw),(.int .i64 sp)]),[(zdq m q [(.vec 36 true z6l (List.take (List.length left) left)),(.vec 83 true z0q (List.take (List.length proof) proof)),(.int .i64 k),.zs,(.int .i64 w0),(.int .i64 w1),(.int .i64 w2),(.int .i64 w3),(.int .i64 tw),(.int .i64 vs),(.int .i64 sp)])]))
 (some ((.agg [(.int .i64 k),(.list true z0q []),(.int .i64 w0),(.int .i64 w1),(.int .i64 w2),(.int .i64 w3),(.int .i64 tw),(.int .i64 sp)]),[(zdq m q [(.vec 36 true z6l (List.take (List.length left) left)),(.vec 83 true z0q (List.take (List.length proof) proof)),(.int .i64 k),.zs,(.int .i64 w0),(.int .i64 w1),(.int .i64 w2),(.int .i64 w3),(.int .i64 tw),(.int .i64 vs),(.int .i64 sp)])]))):=by kernel_rfl
theorem zci (N:Nat) (m:Md) (q:Qy) (left:List IV) (k:Int) (w0:Int) (w1:Int) (w2:Int) (w3:Int) (tw:Int) (vs:Int) (sp:Int):z16 (z40 N) z2s [.cell 2 45] [[.int .i64,.list true [.bool,.int .i64,.int .i64],.int .i64,.int .i64,.int .i64,.int .i64,.int .i64,.int .i64]] [(.bor (zdq m q [.vec 36 true z6l left,.zs,.int .i64 k,.zs,.int .i64 w0,.int .i64 w1,.int .i64 w2,.int .i64 w3,.int .i64 tw,.int .i64 vs,.int .i64 sp]))] =
 (cond (k==0)
 (some ((.agg [(.int .i64 3),(.list true z0q []),(.int .i64 w0),(.int .i64 w1),(.int .i64 w2),(.int .i64 w3),(.int .i64 tw),(.int .i64 sp)]),[(zdq m q [(.vec 36 true z6l (List.take (List.length left) left)),.zs,(.int .i64 k),.zs,(.int .i64 w0),(.int .i64 w1),(.int .i64 w2),(.int .i64 w3),(.int .i64 tw),(.int .i64 vs),(.int .i64 sp)])]))
 (some ((.agg [(.int .i64 k),(.list true z0q []),(.int .i64 w0),(.int .i64 w1),(.int .i64 w2),(.int .i64 w3),(.int .i64 tw),(.int .i64 sp)]),[(zdq m q [(.vec 36 true z6l (List.take (List.length left) left)),.zs,(.int .i64 k),.zs,(.int .i64 w0),(.int .i64 w1),(.int .i64 w2),(.int .i64 w3),(.int .i64 tw),(.int .i64 vs),(.int .i64 sp)])]))):=by kernel_rfl
theorem zc9 (N:Nat) (m:Md) (q:Qy) (left:List IV) (proof:List IV) (vp:List IV) (k:Int) (w0:Int) (w1:Int) (w2:Int) (w3:Int) (tw:Int) (vs:Int) (sp:Int):z16 (z40 N) z2s [.cell 2 45] [[.int .i64,.list true [.bool,.int .i64,.int .i64],.int .i64,.int .i64,.int .i64,.int .i64,.int .i64,.int .i64]] [(.bor (zdq m q [.vec 36 true z6l left,.list true z0q proof,.int .i64 k,.list true z0q vp,.int .i64 w0,.int .i64 w1,.int .i64 w2,.int .i64 w3,.int .i64 tw,.int .i64 vs,.int .i64 sp]))] =
 (cond (k==0)
 (cond (Nat.ble (List.length vp) 100000)
 (some ((.agg [(.int .i64 3),(.list true z0q (List.drop 0 (List.take (List.length vp) vp))),(.int .i64 w0),(.int .i64 w1),(.int .i64 w2),(.int .i64 w3),(.int .i64 tw),(.int .i64 sp)]),[(zdq m q [(.vec 36 true z6l (List.take (List.length left) left)),(.list true z0q proof),(.int .i64 k),(.list true z0q vp),(.int .i64 w0),(.int .i64 w1),(.int .i64 w2),(.int .i64 w3),(.int .i64 tw),(.int .i64 vs),(.int .i64 sp)])]))
 none)
 (cond (Nat.ble (List.length vp) 100000)
 (some ((.agg [(.int .i64 k),(.list true z0q (List.drop 0 (List.take (List.length vp) vp))),(.int .i64 w0),(.int .i64 w1),(.int .i64 w2),(.int .i64 w3),(.int .i64 tw),(.int .i64 sp)]),[(zdq m q [(.vec 36 true z6l (List.take (List.length left) left)),(.list true z0q proof),(.int .i64 k),(.list true z0q vp),(.int .i64 w0),(.int .i64 w1),(.int .i64 w2),(.int .i64 w3),(.int .i64 tw),(.int .i64 vs),(.int .i64 sp)])]))
 none)):=by kernel_rfl
theorem zcf (N:Nat) (m:Md) (q:Qy) (k:Int) (w0:Int) (w1:Int) (w2:Int) (w3:Int) (tw:Int) (vs:Int) (sp:Int):z16 (z40 N) z2s [.cell 2 45] [[.int .i64,.list true [.bool,.int .i64,.int .i64],.int .i64,.int .i64,.int .i64,.int .i64,.int .i64,.int .i64]] [(.bor (zdq m q [.zs,.zs,.int .i64 k,.zs,.int .i64 w0,.int .i64 w1,.int .i64 w2,.int .i64 w3,.int .i64 tw,.int .i64 vs,.int .i64 sp]))] =
 (cond (k==0)
 (some ((.agg [(.int .i64 3),(.list true z0q []),(.int .i64 w0),(.int .i64 w1),(.int .i64 w2),(.int .i64 w3),(.int .i64 tw),(.int .i64 sp)]),[(zdq m q [.zs,.zs,(.int .i64 k),.zs,(.int .i64 w0),(.int .i64 w1),(.int .i64 w2),(.int .i64 w3),(.int .i64 tw),(.int .i64 vs),(.int .i64 sp)])]))
 (some ((.agg [(.int .i64 k),(.list true z0q []),(.int .i64 w0),(.int .i64 w1),(.int .i64 w2),(.int .i64 w3),(.int .i64 tw),(.int .i64 sp)]),[(zdq m q [.zs,.zs,(.int .i64 k),.zs,(.int .i64 w0),(.int .i64 w1),(.int .i64 w2),(.int .i64 w3),(.int .i64 tw),(.int .i64 vs),(.int .i64 sp)])]))):=by kernel_rfl
def z4z (N:Nat):Env:=mkE [(37,z69),(34,z8b),(35,z8o),(36,zah),(25,z4u)] [] 165 N
theorem z8q (N:Nat) (m:Md) (q:Qy) (left:List IV) (proof:List IV) (k:Int) (w0:Int) (w1:Int) (w2:Int) (w3:Int) (tw:Int) (vs:Int) (sp:Int):z16 (z4z N) z3r [.tmp 2] [[.bool]] [(.bor (zdq m q [.vec 36 true z6l left,.vec 83 true z0q proof,.int .i64 k,.zs,.int .i64 w0,.int .i64 w1,.int .i64 w2,.int .i64 w3,.int .i64 tw,.int .i64 vs,.int .i64 sp]))] =
 (cond (k != 0)
 (some ((.bool false),[(zdq m q [(.vec 36 true z6l (List.take (List.length left) left)),(.vec 83 true z0q (List.take (List.length proof) proof)),(.int .i64 k),.zs,(.int .i64 w0),(.int .i64 w1),(.int .i64 w2),(.int .i64 w3),(.int .i64 tw),(.int .i64 vs),(.int .i64 sp)])]))
 (cond (decide (sp≥Qy.bu q))
 (some ((.bool false),[(zdq m q [(.vec 36 true z6l (List.take (List.length left) left)),(.vec 83 true z0q (List.take (List.length proof) proof)),(.int .i64 k),.zs,(.int .i64 w0),(.int .i64 w1),(.int .i64 w2),(.int .i64 w3),(.int .i64 tw),(.int .i64 vs),(.int .i64 sp)])]))
 (cond (decide (0≤IntKind.wrap IntKind.i64 (ic (List.length left - 0) - 1))&&decide (IntKind.wrap IntKind.i64 (ic (List.length left - 0) - 1) < ic (List.length left - 0)))
 (cond (decide (0≤IntKind.wrap IntKind.i64 (ic (List.length left - 0) - 1))&&decide (IntKind.wrap IntKind.i64 (ic (List.length left - 0) - 1)≤ic (List.length left - 0)))
 (cond (z1r m q (bxI (List.getD left (0+Int.toNat (IntKind.wrap IntKind.i64 (ic (List.length left - 0) - 1))) default)))
 (cond (decide ((List.length proof+1)*24≤z0d))
 (cond (ic (0+Int.toNat (IntKind.wrap IntKind.i64 (ic (List.length left - 0) - 1)) - 0)==0)
 (some ((.bool true),[(zdq m q [(.vec 36 true z6l (List.take (0+Int.toNat (IntKind.wrap IntKind.i64 (ic (List.length left - 0) - 1))) left)),(.list true z0q (List.drop 0 (List.take (List.length proof+1) (List.take (List.length proof) proof++[IV.agg [IV.bool true,IV.int 0,IV.int 0]])))),(.int .i64 1),(.list true z0q (List.drop 0 (List.take (List.length proof+1) (List.take (List.length proof) proof++[IV.agg [IV.bool true,IV.int 0,IV.int 0]])))),(.int .i64 0),(.int .i64 0),(.int .i64 0),(.int .i64 0),(.int .i64 0),(.int .i64 0),(.int .i64 (IntKind.wrap IntKind.i64 (sp+1)))])]))
 (some ((.bool true),[(zdq m q [(.vec 36 true z6l (List.take (0+Int.toNat (IntKind.wrap IntKind.i64 (ic (List.length left - 0) - 1))) left)),(.vec 83 true z0q (List.take (List.length proof+1) (List.take (List.length proof) proof++[IV.agg [IV.bool true,IV.int 0,IV.int 0]]))),(.int .i64 k),.zs,(.int .i64 w0),(.int .i64 w1),(.int .i64 w2),(.int .i64 w3),(.int .i64 tw),(.int .i64 vs),(.int .i64 (IntKind.wrap IntKind.i64 (sp+1)))])])))
 none)
 (cond (z2l m q (Bx.low (bxI (List.getD left (0+Int.toNat (IntKind.wrap IntKind.i64 (ic (List.length left - 0) - 1))) default))) (Sp.hi (Bx.s4 (bxI (List.getD left (0+Int.toNat (IntKind.wrap IntKind.i64 (ic (List.length left - 0) - 1))) default)))))
 (some ((.bool true),[(zdq m q [(.vec 36 true z6l (List.take (0+Int.toNat (IntKind.wrap IntKind.i64 (ic (List.length left - 0) - 1))) left)),(.vec 83 true z0q (List.take (List.length proof) proof)),(.int .i64 2),.zs,(.int .i64 (Pt.p0 (Bx.low (bxI (List.getD left (0+Int.toNat (IntKind.wrap IntKind.i64 (ic (List.length left - 0) - 1))) default))))),(.int .i64 (Pt.p1 (Bx.low (bxI (List.getD left (0+Int.toNat (IntKind.wrap IntKind.i64 (ic (List.length left - 0) - 1))) default))))),(.int .i64 (Pt.p2 (Bx.low (bxI (List.getD left (0+Int.toNat (IntKind.wrap IntKind.i64 (ic (List.length left - 0) - 1))) default))))),(.int .i64 (Pt.p3 (Bx.low (bxI (List.getD left (0+Int.toNat (IntKind.wrap IntKind.i64 (ic (List.length left - 0) - 1))) default))))),(.int .i64 (Sp.hi (Bx.s4 (bxI (List.getD left (0+Int.toNat (IntKind.wrap IntKind.i64 (ic (List.length left - 0) - 1))) default))))),(.int .i64 0),(.int .i64 (IntKind.wrap IntKind.i64 (sp+1)))])]))
 (cond (z1s m)
 (cond (!Option.isSome (z1b m q (bxI (List.getD left (0+Int.toNat (IntKind.wrap IntKind.i64 (ic (List.length left - 0) - 1))) default))))
 (some ((.bool true),[(zdq m q [(.vec 36 true z6l (List.take (0+Int.toNat (IntKind.wrap IntKind.i64 (ic (List.length left - 0) - 1))) left)),(.vec 83 true z0q (List.take (List.length proof) proof)),(.int .i64 3),.zs,(.int .i64 0),(.int .i64 0),(.int .i64 0),(.int .i64 0),(.int .i64 0),(.int .i64 0),(.int .i64 (IntKind.wrap IntKind.i64 (sp+1)))])]))
 (cond (znf (spI (z1b m q (bxI (List.getD left (0+Int.toNat (IntKind.wrap IntKind.i64 (ic (List.length left - 0) - 1))) default)))))
 (cond (decide ((0+Int.toNat (IntKind.wrap IntKind.i64 (ic (List.length left - 0) - 1))+2)*80≤z0d))
 (cond (decide ((List.length proof+1)*24≤z0d))
 (some ((.bool true),[(zdq m q [(.vec 36 true z6l (List.take (0+Int.toNat (IntKind.wrap IntKind.i64 (ic (List.length left - 0) - 1))+2) (List.take (0+Int.toNat (IntKind.wrap IntKind.i64 (ic (List.length left - 0) - 1))) left++[(Bx.I (Bx.cutH (bxI (List.getD left (0+Int.toNat (IntKind.wrap IntKind.i64 (ic (List.length left - 0) - 1))) default)) (spI (z1b m q (bxI (List.getD left (0+Int.toNat (IntKind.wrap IntKind.i64 (ic (List.length left - 0) - 1))) default)))) (zr2 (z1b m q (bxI (List.getD left (0+Int.toNat (IntKind.wrap IntKind.i64 (ic (List.length left - 0) - 1))) default)))))),(Bx.I (Bx.cutL (bxI (List.getD left (0+Int.toNat (IntKind.wrap IntKind.i64 (ic (List.length left - 0) - 1))) default)) (spI (z1b m q (bxI (List.getD left (0+Int.toNat (IntKind.wrap IntKind.i64 (ic (List.length left - 0) - 1))) default)))) (zr2 (z1b m q (bxI (List.getD left (0+Int.toNat (IntKind.wrap IntKind.i64 (ic (List.length left - 0) - 1))) default))))))]))),(.vec 83 true z0q (List.take (List.length proof+1) (List.take (List.length proof) proof++[IV.agg [IV.bool false,IV.int (spI (z1b m q (bxI (List.getD left (0+Int.toNat (IntKind.wrap IntKind.i64 (ic (List.length left - 0) - 1))) default)))),IV.int (zr2 (z1b m q (bxI (List.getD left (0+Int.toNat (IntKind.wrap IntKind.i64 (ic (List.length left - 0) - 1))) default))))]]))),(.int .i64 k),.zs,(.int .i64 w0),(.int .i64 w1),(.int .i64 w2),(.int .i64 w3),(.int .i64 tw),(.int .i64 vs),(.int .i64 (IntKind.wrap IntKind.i64 (sp+1)))])]))
 none)
 none)
 none))
 none)))
 none)
 none))):=by kernel_rfl
theorem z8g (N:Nat) (m:Md) (q:Qy) (left:List IV) (k:Int) (w0:Int) (w1:Int) (w2:Int) (w3:Int) (tw:Int) (vs:Int) (sp:Int):z16 (z4z N) z3r [.tmp 2] [[.bool]] [(.bor (zdq m q [.vec 36 true z6l left,.zs,.int .i64 k,.zs,.int .i64 w0,.int .i64 w1,.int .i64 w2,.int .i64 w3,.int .i64 tw,.int .i64 vs,.int .i64 sp]))] =
 (cond (k != 0)
 (some ((.bool false),[(zdq m q [(.vec 36 true z6l (List.take (List.length left) left)),.zs,(.int .i64 k),.zs,(.int .i64 w0),(.int .i64 w1),(.int .i64 w2),(.int .i64 w3),(.int .i64 tw),(.int .i64 vs),(.int .i64 sp)])]))
 (cond (decide (sp≥Qy.bu q))
 (some ((.bool false),[(zdq m q [(.vec 36 true z6l (List.take (List.length left) left)),.zs,(.int .i64 k),.zs,(.int .i64 w0),(.int .i64 w1),(.int .i64 w2),(.int .i64 w3),(.int .i64 tw),(.int .i64 vs),(.int .i64 sp)])]))
 (cond (decide (0≤IntKind.wrap IntKind.i64 (ic (List.length left - 0) - 1))&&decide (IntKind.wrap IntKind.i64 (ic (List.length left - 0) - 1) < ic (List.length left - 0)))
 (cond (decide (0≤IntKind.wrap IntKind.i64 (ic (List.length left - 0) - 1))&&decide (IntKind.wrap IntKind.i64 (ic (List.length left - 0) - 1)≤ic (List.length left - 0)))
 (cond (z1r m q (bxI (List.getD left (0+Int.toNat (IntKind.wrap IntKind.i64 (ic (List.length left - 0) - 1))) default)))
 (cond (ic (0+Int.toNat (IntKind.wrap IntKind.i64 (ic (List.length left - 0) - 1)) - 0)==0)
 (some ((.bool true),[(zdq m q [(.vec 36 true z6l (List.take (0+Int.toNat (IntKind.wrap IntKind.i64 (ic (List.length left - 0) - 1))) left)),(.list true z0q [(IV.agg [IV.bool true,IV.int 0,IV.int 0])]),(.int .i64 1),(.list true z0q [(IV.agg [IV.bool true,IV.int 0,IV.int 0])]),(.int .i64 0),(.int .i64 0),(.int .i64 0),(.int .i64 0),(.int .i64 0),(.int .i64 0),(.int .i64 (IntKind.wrap IntKind.i64 (sp+1)))])]))
 (some ((.bool true),[(zdq m q [(.vec 36 true z6l (List.take (0+Int.toNat (IntKind.wrap IntKind.i64 (ic (List.length left - 0) - 1))) left)),(.vec 83 true z0q [(IV.agg [IV.bool true,IV.int 0,IV.int 0])]),(.int .i64 k),.zs,(.int .i64 w0),(.int .i64 w1),(.int .i64 w2),(.int .i64 w3),(.int .i64 tw),(.int .i64 vs),(.int .i64 (IntKind.wrap IntKind.i64 (sp+1)))])])))
 (cond (z2l m q (Bx.low (bxI (List.getD left (0+Int.toNat (IntKind.wrap IntKind.i64 (ic (List.length left - 0) - 1))) default))) (Sp.hi (Bx.s4 (bxI (List.getD left (0+Int.toNat (IntKind.wrap IntKind.i64 (ic (List.length left - 0) - 1))) default)))))
 (some ((.bool true),[(zdq m q [(.vec 36 true z6l (List.take (0+Int.toNat (IntKind.wrap IntKind.i64 (ic (List.length left - 0) - 1))) left)),.zs,(.int .i64 2),.zs,(.int .i64 (Pt.p0 (Bx.low (bxI (List.getD left (0+Int.toNat (IntKind.wrap IntKind.i64 (ic (List.length left - 0) - 1))) default))))),(.int .i64 (Pt.p1 (Bx.low (bxI (List.getD left (0+Int.toNat (IntKind.wrap IntKind.i64 (ic (List.length left - 0) - 1))) default))))),(.int .i64 (Pt.p2 (Bx.low (bxI (List.getD left (0+Int.toNat (IntKind.wrap IntKind.i64 (ic (List.length left - 0) - 1))) default))))),(.int .i64 (Pt.p3 (Bx.low (bxI (List.getD left (0+Int.toNat (IntKind.wrap IntKind.i64 (ic (List.length left - 0) - 1))) default))))),(.int .i64 (Sp.hi (Bx.s4 (bxI (List.getD left (0+Int.toNat (IntKind.wrap IntKind.i64 (ic (List.length left - 0) - 1))) default))))),(.int .i64 0),(.int .i64 (IntKind.wrap IntKind.i64 (sp+1)))])]))
 (cond (z1s m)
 (cond (!Option.isSome (z1b m q (bxI (List.getD left (0+Int.toNat (IntKind.wrap IntKind.i64 (ic (List.length left - 0) - 1))) default))))
 (some ((.bool true),[(zdq m q [(.vec 36 true z6l (List.take (0+Int.toNat (IntKind.wrap IntKind.i64 (ic (List.length left - 0) - 1))) left)),.zs,(.int .i64 3),.zs,(.int .i64 0),(.int .i64 0),(.int .i64 0),(.int .i64 0),(.int .i64 0),(.int .i64 0),(.int .i64 (IntKind.wrap IntKind.i64 (sp+1)))])]))
 (cond (znf (spI (z1b m q (bxI (List.getD left (0+Int.toNat (IntKind.wrap IntKind.i64 (ic (List.length left - 0) - 1))) default)))))
 (cond (decide ((0+Int.toNat (IntKind.wrap IntKind.i64 (ic (List.length left - 0) - 1))+2)*80≤z0d))
 (some ((.bool true),[(zdq m q [(.vec 36 true z6l (List.take (0+Int.toNat (IntKind.wrap IntKind.i64 (ic (List.length left - 0) - 1))+2) (List.take (0+Int.toNat (IntKind.wrap IntKind.i64 (ic (List.length left - 0) - 1))) left++[(Bx.I (Bx.cutH (bxI (List.getD left (0+Int.toNat (IntKind.wrap IntKind.i64 (ic (List.length left - 0) - 1))) default)) (spI (z1b m q (bxI (List.getD left (0+Int.toNat (IntKind.wrap IntKind.i64 (ic (List.length left - 0) - 1))) default)))) (zr2 (z1b m q (bxI (List.getD left (0+Int.toNat (IntKind.wrap IntKind.i64 (ic (List.length left - 0) - 1))) default)))))),(Bx.I (Bx.cutL (bxI (List.getD left (0+Int.toNat (IntKind.wrap IntKind.i64 (ic (List.length left - 0) - 1))) default)) (spI (z1b m q (bxI (List.getD left (0+Int.toNat (IntKind.wrap IntKind.i64 (ic (List.length left - 0) - 1))) default)))) (zr2 (z1b m q (bxI (List.getD left (0+Int.toNat (IntKind.wrap IntKind.i64 (ic (List.length left - 0) - 1))) default))))))]))),(.vec 83 true z0q [(IV.agg [IV.bool false,IV.int (spI (z1b m q (bxI (List.getD left (0+Int.toNat (IntKind.wrap IntKind.i64 (ic (List.length left - 0) - 1))) default)))),IV.int (zr2 (z1b m q (bxI (List.getD left (0+Int.toNat (IntKind.wrap IntKind.i64 (ic (List.length left - 0) - 1))) default))))])]),(.int .i64 k),.zs,(.int .i64 w0),(.int .i64 w1),(.int .i64 w2),(.int .i64 w3),(.int .i64 tw),(.int .i64 vs),(.int .i64 (IntKind.wrap IntKind.i64 (sp+1)))])]))
 none)
 none))
 none)))
 none)
 none))):=by kernel_rfl
theorem zei (N:Nat) (m:Md) (q:Qy) (left:List IV) (proof:List IV) (vp:List IV) (k:Int) (w0:Int) (w1:Int) (w2:Int) (w3:Int) (tw:Int) (vs:Int) (sp:Int):z16 (z4z N) z3r [.tmp 2] [[.bool]] [(.bor (zdq m q [.vec 36 true z6l left,.list true z0q proof,.int .i64 k,.list true z0q vp,.int .i64 w0,.int .i64 w1,.int .i64 w2,.int .i64 w3,.int .i64 tw,.int .i64 vs,.int .i64 sp]))] =
 (cond (k != 0)
 (some ((.bool false),[(zdq m q [(.vec 36 true z6l (List.take (List.length left) left)),(.list true z0q proof),(.int .i64 k),(.list true z0q vp),(.int .i64 w0),(.int .i64 w1),(.int .i64 w2),(.int .i64 w3),(.int .i64 tw),(.int .i64 vs),(.int .i64 sp)])]))
 (cond (decide (sp≥Qy.bu q))
 (some ((.bool false),[(zdq m q [(.vec 36 true z6l (List.take (List.length left) left)),(.list true z0q proof),(.int .i64 k),(.list true z0q vp),(.int .i64 w0),(.int .i64 w1),(.int .i64 w2),(.int .i64 w3),(.int .i64 tw),(.int .i64 vs),(.int .i64 sp)])]))
 (cond (decide (0≤IntKind.wrap IntKind.i64 (ic (List.length left - 0) - 1))&&decide (IntKind.wrap IntKind.i64 (ic (List.length left - 0) - 1) < ic (List.length left - 0)))
 (cond (decide (0≤IntKind.wrap IntKind.i64 (ic (List.length left - 0) - 1))&&decide (IntKind.wrap IntKind.i64 (ic (List.length left - 0) - 1)≤ic (List.length left - 0)))
 (cond (z1r m q (bxI (List.getD left (0+Int.toNat (IntKind.wrap IntKind.i64 (ic (List.length left - 0) - 1))) default)))
 none
 (cond (z2l m q (Bx.low (bxI (List.getD left (0+Int.toNat (IntKind.wrap IntKind.i64 (ic (List.length left - 0) - 1))) default))) (Sp.hi (Bx.s4 (bxI (List.getD left (0+Int.toNat (IntKind.wrap IntKind.i64 (ic (List.length left - 0) - 1))) default)))))
 (some ((.bool true),[(zdq m q [(.vec 36 true z6l (List.take (0+Int.toNat (IntKind.wrap IntKind.i64 (ic (List.length left - 0) - 1))) left)),(.list true z0q proof),(.int .i64 2),.zs,(.int .i64 (Pt.p0 (Bx.low (bxI (List.getD left (0+Int.toNat (IntKind.wrap IntKind.i64 (ic (List.length left - 0) - 1))) default))))),(.int .i64 (Pt.p1 (Bx.low (bxI (List.getD left (0+Int.toNat (IntKind.wrap IntKind.i64 (ic (List.length left - 0) - 1))) default))))),(.int .i64 (Pt.p2 (Bx.low (bxI (List.getD left (0+Int.toNat (IntKind.wrap IntKind.i64 (ic (List.length left - 0) - 1))) default))))),(.int .i64 (Pt.p3 (Bx.low (bxI (List.getD left (0+Int.toNat (IntKind.wrap IntKind.i64 (ic (List.length left - 0) - 1))) default))))),(.int .i64 (Sp.hi (Bx.s4 (bxI (List.getD left (0+Int.toNat (IntKind.wrap IntKind.i64 (ic (List.length left - 0) - 1))) default))))),(.int .i64 0),(.int .i64 (IntKind.wrap IntKind.i64 (sp+1)))])]))
 (cond (z1s m)
 (cond (!Option.isSome (z1b m q (bxI (List.getD left (0+Int.toNat (IntKind.wrap IntKind.i64 (ic (List.length left - 0) - 1))) default))))
 (some ((.bool true),[(zdq m q [(.vec 36 true z6l (List.take (0+Int.toNat (IntKind.wrap IntKind.i64 (ic (List.length left - 0) - 1))) left)),(.list true z0q proof),(.int .i64 3),.zs,(.int .i64 0),(.int .i64 0),(.int .i64 0),(.int .i64 0),(.int .i64 0),(.int .i64 0),(.int .i64 (IntKind.wrap IntKind.i64 (sp+1)))])]))
 (cond (znf (spI (z1b m q (bxI (List.getD left (0+Int.toNat (IntKind.wrap IntKind.i64 (ic (List.length left - 0) - 1))) default)))))
 (cond (decide ((0+Int.toNat (IntKind.wrap IntKind.i64 (ic (List.length left - 0) - 1))+2)*80≤z0d)) none none)
 none))
 none)))
 none)
 none))):=by kernel_rfl
theorem zf8 (N:Nat) (m:Md) (q:Qy) (k:Int) (w0:Int) (w1:Int) (w2:Int) (w3:Int) (tw:Int) (vs:Int) (sp:Int):z16 (z4z N) z3r [.tmp 2] [[.bool]] [(.bor (zdq m q [.zs,.zs,.int .i64 k,.zs,.int .i64 w0,.int .i64 w1,.int .i64 w2,.int .i64 w3,.int .i64 tw,.int .i64 vs,.int .i64 sp]))] =
 (cond (k != 0)
 (some ((.bool false),[(zdq m q [.zs,.zs,(.int .i64 k),.zs,(.int .i64 w0),(.int .i64 w1),(.int .i64 w2),(.int .i64 w3),(.int .i64 tw),(.int .i64 vs),(.int .i64 sp)])]))
 (cond (decide (sp≥Qy.bu q))
 (some ((.bool false),[(zdq m q [.zs,.zs,(.int .i64 k),.zs,(.int .i64 w0),(.int .i64 w1),(.int .i64 w2),(.int .i64 w3),(.int .i64 tw),(.int .i64 vs),(.int .i64 sp)])]))
 none)):=by kernel_rfl
open Go Go.Proofs Go.RowKit Go.Sort Go.Lib
theorem yb6:(PR.info? 83).map (fun i=>(i.zero,i.size,i.bytes))=some (some (.agg #[.bool false,.int .i64 0,.int .i64 0]),3,24):=by kernel_rfl
set_option maxHeartbeats 4000000 in
set_option maxRecDepth 100000 in
theorem y7h (b:Addr) (n c:Nat) (news:List Value) (w:World) (hl:news.length=n*3) (hn:n≤maxLen) (hbig:n*24≤140737488355328)
    (hc:∀ j u,news[j]?=some u→w.cell? (b.add j)=some u) (h1:∀ u∈news,u.oneCell'=true) :
    Calls Tryz.prog 38 #[.slice (some b) n c] w fun e w'=>∃ v',e = .returned v'∧w'.ownsRow w.heap.size 83 3 v' n news∧Below w.heap.size w w':=by
  obtain ⟨i0,hi,hz0,hz1,hz2⟩:∃ i,PR.info? 83=some i∧i.zero=some (.agg #[.bool false,.int .i64 0,.int .i64 0])∧i.size=3∧i.bytes=24:=by
    have h:=yb6
    rw [Option.map_eq_some_iff] at h
    obtain ⟨i,hi,he⟩:=h
    simp only [Prod.mk.injEq] at he
    exact ⟨i,hi,he⟩
  have qS:∀ (w:World) (a:Option Addr) (n c n' c':Nat),(binOp .eql 41 (.slice a n c) (.slice none n' c')).run Tryz.prog w = .ok (.bool a.isNone) w:=fun w a n c n' c'=>Lib.run_eql_slice_nil w _ _ a n c n' c' Tryz.underlying41
  have A:Aside (∀ j u,news[j]?=some u→w.cell? (b.add j)=some u):=hc
  clear hc
  go_enter Tryz.func38,Tryz.ntmps38
  go_wp2_with (at_builtin; refine wpList_append_own _ rfl _ _ 41 rfl w.heap.size 83 i0 (.agg #[.bool false,.int .i64 0,.int .i64 0]) 3 24 Tryz.underlying41 hi hz0 hz1 hz2 rfl (by decide) _ _ _ rfl (World.ownsRow_made w #[] 0 (Nat.le_refl _) (Nat.zero_le _) (by simp)) b n c news rfl ?qc1 ?qc2 ?qc3 ?qc4 ?qc5 ?qc6 ?_)
  case qc1=>exact hl
  case qc2=>
    intro j u hj
    exact Lib.cell?_alloc_some _ (A.out j u hj)
  case qc3=>exact h1
  case qc4=>rw [Nat.zero_add]; exact hn
  case qc5=>rw [Nat.zero_add]; exact hbig
  case qc6=>simp
  intro v' w1 hown hgrow hnil
  go_wp2
  go_ret
  refine ⟨v',rfl,by simpa using hown,?_⟩
  exact ((Below.refl _ w).alloc (Nat.le_refl _) _).grown hgrow (by simp) (by intro k hk; simp [Value.ownBlock] at hk; omega)
set_option maxHeartbeats 1000000 in
set_option maxRecDepth 100000 in
theorem zuj (n c:Nat) (w:World):Calls Tryz.prog 38 #[.slice none n c] w fun e w'=>e = .returned (.slice none 0 0)∧w'=w:=by
  have qS:∀ (w:World) (a:Option Addr) (n c n' c':Nat),(binOp .eql 41 (.slice a n c) (.slice none n' c')).run Tryz.prog w = .ok (.bool a.isNone) w:=fun w a n c n' c'=>Lib.run_eql_slice_nil w _ _ a n c n' c' Tryz.underlying41
  go_enter Tryz.func38,Tryz.ntmps38
  go_wp2
  go_ret
  exact ⟨rfl,rfl⟩
def zg3 (y:IV):Nat→Value
  | 0=>.bool (z62 y)
  | 1=>.int .i64 (z0t y)
  | _=>.int .i64 (zbk y)
def zbq (l:List IV):List Value:=l.flatMap fun y=>[zg3 y 0,zg3 y 1,zg3 y 2]
theorem zk7:∀ l:List IV,(zbq l).length=l.length*3
  | []=>rfl
  | y :: r=>by
    have:=zk7 r
    unfold zbq at this ⊢
    rw [List.flatMap_cons,List.length_append,this,List.length_cons]
    simp
    omega
theorem zih:∀ (l:List IV) (j:Nat) (u:Value),(zbq l)[j]?=some u→∃ i y k,j=i*3+k∧k < 3∧l[i]?=some y∧u=zg3 y k
  | [],j,u,h=>by simp [zbq] at h
  | y :: r,j,u,h=>by
    have e:zbq (y :: r)=[zg3 y 0,zg3 y 1,zg3 y 2]++zbq r:=by unfold zbq; rw [List.flatMap_cons]
    rw [e] at h
    match j,h with
    | 0,h=>exact ⟨0,y,0,rfl,by omega,rfl,by simpa using h.symm⟩
    | 1,h=>exact ⟨0,y,1,rfl,by omega,rfl,by simpa using h.symm⟩
    | 2,h=>exact ⟨0,y,2,rfl,by omega,rfl,by simpa using h.symm⟩
    | j+3,h=>
      obtain ⟨i,z,k,rfl,hk,hi,hu⟩:=zih r j u (by simpa using h)
      exact ⟨i+1,z,k,by omega,hk,by simpa using hi,hu⟩
theorem y54 (l:List IV) (i:Nat) (y:IV) (hy:l[i]?=some y) (k:Nat) (hk:k < 3):(zbq l)[i*3+k]?=some (zg3 y k):=by
  have hi:i < l.length:=(List.getElem?_eq_some_iff.1 hy).1
  have hlt:i*3+k < (zbq l).length:=by rw [zk7]; omega
  obtain ⟨i',y',k',h1,h2,h3,h4⟩:=zih l (i*3+k) _ (List.getElem?_eq_getElem hlt)
  obtain rfl:i'=i:=by omega
  obtain rfl:k'=k:=by omega
  rw [hy] at h3
  simp only [Option.some.injEq] at h3
  subst h3
  rw [List.getElem?_eq_getElem hlt,h4]
set_option maxRecDepth 100000 in
theorem z9d:z3n PR B0 38 z2f:=by
  intro w X γ vs xs r out hsp hg hx hR hV
  unfold z2f at hsp
  simp only at hsp
  split at hsp
  · rename_i l
    cases hc:Nat.ble l.length 100000 with
    | false=>rw [hc] at hsp; simp [R.get] at hsp
    | true=>
      rw [hc] at hsp
      have hc:=Nat.le_of_ble_eq_true hc
      simp only [R.get,Option.some.injEq,Prod.mk.injEq] at hsp
      obtain ⟨rfl,rfl⟩:=hsp
      obtain ⟨x0,rfl⟩:∃ x0,xs=[x0]:=by
        have:=hV.length
        simp at this
        match xs,this with
        | [a],_=>exact ⟨a,rfl⟩
      simp only [List.map_cons,List.map_nil,z95,VRels,VRel,and_true] at hV
      simp only [Kd.Rel,IV.toList] at hV
      obtain ⟨p,c,rfl,hc1,hc2,hc3,hcell⟩:=hV
      have key:∀ i y,l[i]?=some y→∃ b o,p=some ⟨b,o,none⟩∧(∀ k,k < 3→w.cell? ⟨b,o+i*3+k,none⟩=some (zg3 y k))∧(IntKind.i64.min≤z0t y∧z0t y≤IntKind.i64.max)∧(IntKind.i64.min≤zbk y∧zbk y≤IntKind.i64.max):=fun i y hy=>by
        obtain ⟨b,o,rfl,_,_,hr⟩:=hcell i y hy
        simp only [Kd.RelAll,and_true,List.length_cons,List.length_nil,Nat.zero_add,Nat.add_zero] at hr
        obtain ⟨⟨u0,a0,b0⟩,⟨u1,a1,b1⟩,⟨u2,a2,b2⟩⟩:=hr
        simp only [Kd.Rel,z2x] at b0 b1 b2
        refine ⟨b,o,rfl,fun k hk=>?_,b1.2,b2.2⟩
        match k,hk with
        | 0,_=>rw [b0] at a0; exact a0
        | 1,_=>rw [b1.1] at a1; exact a1
        | 2,_=>rw [b2.1] at a2; exact a2
      have hel:∀ (w':World) (O:Nat→Prop) i y,l[i]?=some y→Kd.RelAll w' O z0q (z2x true y) 0 (fun j u=>(zbq l)[i*z0q.length+j]?=some u):=fun w' O i y hy=>by
        obtain ⟨_,_,_,_,k1,k2⟩:=key i y hy
        simp only [Kd.RelAll,List.length_cons,List.length_nil,Nat.zero_add,Nat.add_zero,and_true]
        have g:=y54 l i y hy
        refine ⟨⟨_,g 0 (by omega),?_⟩,⟨_,g 1 (by omega),?_⟩,⟨_,g 2 (by omega),?_⟩⟩
        · simp only [Kd.Rel,z2x,zg3,z62]
        · simp only [Kd.Rel,z2x,zg3,z0t]; exact ⟨trivial,k1⟩
        · simp only [Kd.Rel,z2x,zg3,zbk]; exact ⟨trivial,k2⟩
      refine ybn hR rfl (by decide) (by decide) hc3 (Does.of_calls Tryz.func38 (by kernel_rfl) (by kernel_rfl) ?_)
      cases p with
      | none=>
        have h0:l=[]:=by
          cases l with
          | nil=>rfl
          | cons y r=>
            obtain ⟨b,o,hp,_⟩:=key 0 y rfl
            cases hp
        subst h0
        refine (zuj _ c w).mono ?_
        rintro e w' ⟨rfl,rfl⟩
        exact ⟨_,[],rfl,Keep.refl _ _,⟨rfl,.inl ⟨rfl,rfl⟩⟩,hel _⟩
      | some a=>
        refine (y7h a l.length c (zbq l) w (zk7 l) (by unfold maxLen; omega) (by omega) (fun j u hj=>?_) (fun u hu=>?_)).mono ?_
        · obtain ⟨i,y,k,rfl,hk,hi,rfl⟩:=zih l j u hj
          obtain ⟨b,o,hp,hu,_⟩:=key i y hi
          simp only [Option.some.injEq] at hp
          subst hp
          rw [Addr.add_lit,← Nat.add_assoc]
          exact hu k hk
        · obtain ⟨j,hj⟩:=List.getElem?_of_mem hu
          obtain ⟨i,y,k,_,hk,_,rfl⟩:=zih l j u hj
          match k,hk with
          | 0,_=>rfl
          | 1,_=>rfl
          | 2,_=>rfl
        · rintro e w' ⟨v',rfl,hown,hw⟩
          exact ⟨v',_,rfl,Keep.below hw,hown,hel _⟩
  · simp [R.get] at hsp
open Go Go.Proofs
set_option maxRecDepth 100000
theorem ygv {l:List V} {m:Md} (h:mdOf? l=some m):l=m.cs:=by
  unfold mdOf? at h
  split at h
  · simp only [Option.some.injEq] at h
    subst h
    rfl
  · cases h
theorem yew {l:List V} {q:Qy} (h:qyOf? l=some q):l=q.cs:=by
  unfold qyOf? at h
  split at h
  · simp only [Option.some.injEq] at h
    subst h
    rfl
  · cases h
theorem yf9 {l r:List V} {m:Md} {q:Qy} (h:seOf? l=some (m,q,r)):l=zdq m q r:=by
  unfold seOf? at h
  split at h
  · rename_i m' q' h1 h2
    simp only [Option.some.injEq,Prod.mk.injEq] at h
    obtain ⟨rfl,rfl,rfl⟩:=h
    unfold zdq
    rw [← ygv h1,← yew h2,List.take_append_drop,List.take_append_drop]
  · cases h
def yji (t:Nat) (s:Sr):Prop:=t≤3∧(t=3→s.left=[])∧(t=1∨t=3→s.proof=[])∧(t≠2→s.v.proof=[])
theorem yho {r:List V} {t:Nat} {s:Sr} (h:srT? r=some (t,s)) (m:Md) (q:Qy):zdq m q r=srV t m q s∧yji t s:=by
  unfold srT? at h
  split at h
  case h_5=>cases h
  all_goals
    simp only [Option.some.injEq,Prod.mk.injEq] at h
    obtain ⟨rfl,rfl⟩:=h
    refine ⟨rfl,by omega,?_,?_,?_⟩ <;> intro h <;> first | rfl | (exfalso; omega)
theorem zw1 {v:V} {k:Nat→Md→Qy→Sr→R} {z:V × List (List V)} (h:(y5y v k).get=some z):∃ t m q s,v = .bor (srV t m q s)∧yji t s∧(k t m q s).get=some z:=by
  unfold y5y at h
  split at h
  · rename_i l
    split at h
    · rename_i m q r hl
      split at h
      · rename_i t s hr
        obtain ⟨e,hw⟩:=yho hr m q
        exact ⟨t,m,q,s,by rw [yf9 hl,e],hw,h⟩
      · simp [R.get] at h
    · simp [R.get] at h
  · simp [R.get] at h
set_option maxRecDepth 100000 in
theorem zur:z3n PR B0 17 za0:=by
  refine z0o [(20,z2t),(21,z5n)] [] za0 [[.list false []]] Tryz.func17 y0c ⟨z8w,zh4,trivial⟩ ?_
  intro vs r hwf h
  unfold za0 at h
  split at h
  · rename_i m q
    replace h:=z32 h
    obtain ⟨m,rfl,h⟩:=h
    replace h:=z2r h
    obtain ⟨q,rfl,h⟩:=h
    refine ⟨0,(zy1 0 m q).trans ?_⟩
    cases hr:z1q m q with
    | true=>rw [hr,R.get_br,z01,R.get_ok] at h; exact h
    | false=>rw [hr,R.get_br,z03,R.get_ok] at h; exact h
  · simp [R.get] at h
set_option maxRecDepth 100000 in
theorem zdk:z3n PR B0 19 z2v:=by
  refine z0o [(38,z2f)] [] z2v [[.int .i64,.list true [.bool,.int .i64,.int .i64],.int .i64,.int .i64,.int .i64,.int .i64,.int .i64,.int .i64]] Tryz.func19 zfp ⟨z9d,trivial⟩ ?_
  intro vs r hwf h
  unfold z2v at h
  split at h
  · replace h:=zw1 h
    obtain ⟨t,m,q,s,rfl,hw,h⟩:=h
    cases hg:Nat.ble s.v.proof.length 100000 with
    | false=>rw [hg] at h; simp [R.get] at h
    | true=>
      rw [hg,R.get_br,z01,R.get_ok] at h
      refine ⟨0,?_⟩
      rw [← h]
      obtain ⟨left,proof,⟨k,vp,a,b,c,d,tw,vs⟩,sp⟩:=s
      replace hg:Nat.ble vp.length 100000=true:=hg
      match t,hw with
      | 0,hw=>
        obtain rfl:vp=[]:=hw.2.2.2 (by omega)
        refine (zce 0 m q left proof k a b c d tw vs sp).trans ?_
        rw [List.take_length,List.take_length]
        unfold zir
        cases (k==0) <;> rfl
      | 1,hw=>
        obtain rfl:vp=[]:=hw.2.2.2 (by omega)
        refine (zci 0 m q left k a b c d tw vs sp).trans ?_
        rw [List.take_length]
        unfold zir
        cases (k==0) <;> rfl
      | 2,_=>
        refine (zc9 0 m q left proof vp k a b c d tw vs sp).trans ?_
        rw [List.take_length,hg,z01,z01,List.drop_zero,List.take_length]
        unfold zir
        cases (k==0) <;> rfl
      | 3,hw=>
        obtain rfl:vp=[]:=hw.2.2.2 (by omega)
        refine (zcf 0 m q k a b c d tw vs sp).trans ?_
        unfold zir
        cases (k==0) <;> rfl
      | t+4,hw=>exact absurd hw.1 (by omega)
  · simp [R.get] at h
theorem yef (m:Md) (q:Qy) (b:Bx):∀ (d i:Nat),i+d=5→(spR m q b d i).isSome=true→znf (spI (spR m q b d i))=true
  | 0,i,_,h=>by rw [spR] at h; cases h
  | d+1,i,hd,h=>by
    rw [spR] at h ⊢
    cases hc:decide ((z35 m q b i).length > 0) with
    | true=>
      rw [z01]
      show znf (i:Int)=true
      unfold znf
      rw [decide_eq_true (show (0:Int)≤(i:Int) by omega),decide_eq_true (show (i:Int) < 5 by omega)]
      rfl
    | false=>
      rw [hc,z03] at h
      rw [z03]
      exact yef m q b d (i+1) (by omega) h
set_option maxRecDepth 100000 in
theorem zgi:z3n PR B0 18 z3p:=by
  refine z0o [(37,z69),(34,z8b),(35,z8o),(36,zah),(25,z4u)] [] z3p [[.bool]] Tryz.func18 ziu ⟨zes,zs5,zs6,ztj,zg5,trivial⟩ ?_
  intro vs r hwf h
  unfold z3p at h
  split at h
  · replace h:=zw1 h
    obtain ⟨t,m,q,s,rfl,hw,h⟩:=h
    refine ⟨0,?_⟩
    obtain ⟨left,proof,⟨k,vp,a,b,c,d,tw,vs⟩,sp⟩:=s
    cases ho:zdt q ⟨left,proof,⟨k,vp,a,b,c,d,tw,vs⟩,sp⟩ with
    | true=>
      rw [ho,R.get_br,z01,R.get_ok] at h
      rw [← h]
      have hk:(k != 0)=true∨(k != 0)=false∧decide (sp≥q.bu)=true:=by
        unfold zdt at ho
        have e:(k != 0)=!(k==0):=rfl
        rw [e]
        cases hk:(k==0) with
        | false=>exact .inl rfl
        | true=>
          replace ho:(!(k==0)||decide (sp≥q.bu))=true:=ho
          rw [hk,Bool.not_true,Bool.false_or] at ho
          exact .inr ⟨rfl,ho⟩
      match t,hw with
      | 0,hw=>
        refine (z8q 0 m q left proof k a b c d tw vs sp).trans ?_
        rcases hk with hk | ⟨hk,hs⟩
        · rw [hk,z01,List.take_length,List.take_length]; rfl
        · rw [hk,z03,hs,z01,List.take_length,List.take_length]; rfl
      | 1,hw=>
        refine (z8g 0 m q left k a b c d tw vs sp).trans ?_
        rcases hk with hk | ⟨hk,hs⟩
        · rw [hk,z01,List.take_length]; rfl
        · rw [hk,z03,hs,z01,List.take_length]; rfl
      | 2,hw=>
        refine (zei 0 m q left proof vp k a b c d tw vs sp).trans ?_
        rcases hk with hk | ⟨hk,hs⟩
        · rw [hk,z01,List.take_length]; rfl
        · rw [hk,z03,hs,z01,List.take_length]; rfl
      | 3,hw=>
        refine (zf8 0 m q k a b c d tw vs sp).trans ?_
        rcases hk with hk | ⟨hk,hs⟩
        · rw [hk,z01]; rfl
        · rw [hk,z03,hs,z01]; rfl
      | t+4,hw=>exact absurd hw.1 (by omega)
    | false=>
      rw [ho,R.get_br,z03] at h
      unfold zdt at ho
      replace ho:(!(k==0)||decide (sp≥q.bu))=false:=ho
      rw [Bool.or_eq_false_iff] at ho
      have hk:(k != 0)=false:=ho.1
      have hsp:decide (sp≥q.bu)=false:=ho.2
      cases hg:(Nat.ble t 1&&(z1q m q&&(decide (0≤sp)&&(Nat.blt 0 left.length&&(Nat.ble left.length 100000&&Nat.ble proof.length 100000))))) with
      | false=>
        replace h:(R.br (Nat.ble t 1&&(z1q m q&&(decide (0≤sp)&&(Nat.blt 0 left.length&&(Nat.ble left.length 100000&&Nat.ble proof.length 100000))))) _ R.no).get=some r:=h
        rw [hg] at h
        simp [R.get] at h
      | true=>
        replace h:(R.br (Nat.ble t 1&&(z1q m q&&(decide (0≤sp)&&(Nat.blt 0 left.length&&(Nat.ble left.length 100000&&Nat.ble proof.length 100000))))) _ R.no).get=some r:=h
        rw [hg,R.get_br,z01] at h
        have hst:some (.bool true,[srV (ycr m q t ⟨left,proof,⟨k,vp,a,b,c,d,tw,vs⟩,sp⟩) m q (z5a m q ⟨left,proof,⟨k,vp,a,b,c,d,tw,vs⟩,sp⟩)])=some r:=by
          rw [← h]
          unfold ycr
          simp only [R.get_br,R.get_ok]
          cases z1r m q (z2k left) with
          | true=>cases (ic (left.length - 1)==0) <;> rfl
          | false=>
            cases z2l m q (z2k left).low (z2k left).s4.hi with
            | true=>rfl
            | false=>cases (z1b m q (z2k left)).isSome <;> rfl
        rw [← hst]
        simp only [Bool.and_eq_true] at hg
        obtain ⟨ht,hr,h0,hl,hl5,hp5⟩:=hg
        obtain ⟨hm,_,⟨_,hbu⟩,_,_⟩:=z61 hr
        have h0:=of_decide_eq_true h0
        have hs1:=of_decide_eq_false hsp
        have hl:0 < left.length:=Nat.le_of_ble_eq_true hl
        have hl5:=Nat.le_of_ble_eq_true hl5
        have hp5:=Nat.le_of_ble_eq_true hp5
        have esp:IntKind.wrap IntKind.i64 (sp+1)=sp+1:=z12 (by omega) (by omega)
        have etop:IntKind.wrap IntKind.i64 (ic (left.length - 0) - 1)=((left.length - 1:Nat):Int):=by
          rw [z12 (by simp only [ic]; omega) (by simp only [ic]; omega)]
          simp only [ic]
          omega
        have ed:(decide (0≤((left.length - 1:Nat):Int))&&decide (((left.length - 1:Nat):Int) < ic (left.length - 0)))=true:=by
          rw [decide_eq_true (by omega),decide_eq_true (by simp only [ic]; omega)]
          rfl
        have ee:(decide (0≤((left.length - 1:Nat):Int))&&decide (((left.length - 1:Nat):Int)≤ic (left.length - 0)))=true:=by
          rw [decide_eq_true (by omega),decide_eq_true (by simp only [ic]; omega)]
          rfl
        have epop:left.take (left.length - 1+2)=left.take (left.length - 1+2):=rfl
        have hlen:(zdr left).length=left.length - 1:=by unfold zdr; rw [List.length_take]; omega
        have htk:∀ (x y:IV),List.take (left.length - 1+2) (List.take (left.length - 1) left++[x,y])=zdr left++[x,y]:=fun x y=>List.take_of_length_le (by rw [List.length_append]; unfold zdr at hlen; rw [hlen]; simp)
        have hb80:decide ((left.length - 1+2)*80≤z0d)=true:=decide_eq_true (by unfold z0d; omega)
        have hin:=yef m q (z2k left) 5 0 rfl
        replace hin:(z1b m q (z2k left)).isSome=true→znf (spI (z1b m q (z2k left)))=true:=hin
        match t,ht,hw with
        | 0,_,_=>
          have hb24:decide ((proof.length+1)*24≤z0d)=true:=decide_eq_true (by unfold z0d; omega)
          have htp:∀ x:IV,List.take (proof.length+1) (proof++[x])=proof++[x]:=fun x=>List.take_of_length_le (by rw [List.length_append]; simp)
          refine (z8q 0 m q left proof k a b c d tw vs sp).trans ?_
          rw [hk,z03,hsp,z03,etop,ed,z01,ee,z01,esp,Int.toNat_natCast]
          simp only [Nat.zero_add,Nat.sub_zero,List.take_length]
          rw [hb24,hb80,hm]
          unfold z5a ycr
          show cond (z1r m q (z2k left)) _ (cond (z2l m q (z2k left).low (z2k left).s4.hi) _ _)=_
          cases z1r m q (z2k left) with
          | true=>
            simp only [htp,List.drop_zero]
            rw [z01,z01]
            show cond (ic (left.length - 1)==0) _ _=_
            cases (ic (left.length - 1)==0) <;> rfl
          | false=>
            rw [z03]
            cases z2l m q (z2k left).low (z2k left).s4.hi with
            | true=>rfl
            | false=>
              rw [z03,z01]
              show cond (!(z1b m q (z2k left)).isSome) _ (cond (znf (spI (z1b m q (z2k left)))) _ _)=_
              cases hs:(z1b m q (z2k left)).isSome with
              | false=>rfl
              | true=>
                rw [Bool.not_true,z03,hin hs,z01,z01,z01]
                simp only [htp,htk]
                rfl
        | 1,_,hw=>
          obtain rfl:proof=[]:=hw.2.2.1 (.inl rfl)
          refine (z8g 0 m q left k a b c d tw vs sp).trans ?_
          rw [hk,z03,hsp,z03,etop,ed,z01,ee,z01,esp,Int.toNat_natCast]
          simp only [Nat.zero_add,Nat.sub_zero]
          rw [hb80,hm]
          unfold z5a ycr
          show cond (z1r m q (z2k left)) _ (cond (z2l m q (z2k left).low (z2k left).s4.hi) _ _)=_
          cases z1r m q (z2k left) with
          | true=>
            rw [z01]
            show cond (ic (left.length - 1)==0) _ _=_
            cases (ic (left.length - 1)==0) <;> rfl
          | false=>
            rw [z03]
            cases z2l m q (z2k left).low (z2k left).s4.hi with
            | true=>rfl
            | false=>
              rw [z03,z01]
              show cond (!(z1b m q (z2k left)).isSome) _ (cond (znf (spI (z1b m q (z2k left)))) _ _)=_
              cases hs:(z1b m q (z2k left)).isSome with
              | false=>rfl
              | true=>
                rw [Bool.not_true,z03,hin hs,z01,z01]
                simp only [htk]
                rfl
        | t+2,ht,_=>exact absurd (Nat.le_of_ble_eq_true ht) (by omega)
  · simp [R.get] at h
open Go Go.Proofs
def z5c (N:Nat):Env:=mkE [(17,za0),(18,z3p),(19,z2v)] [(2,⟨[4,5],[4,8,500,501],[⟨.cell 8 23,500,36,true,z6l⟩,⟨.cell 8 24,501,83,true,z0q⟩]⟩)] 13 N
open Go Go.Proofs
set_option maxRecDepth 100000
abbrev kpR:KP:=⟨[4,5],[4,8,500,501],[⟨.cell 8 23,500,36,true,z6l⟩,⟨.cell 8 24,501,83,true,z0q⟩]⟩
def yjj (sh:Bool) (s:Sr):List V:=match sh with
  | false=>.row 500 0 s.left.length :: .row 501 0 s.proof.length :: vdT s.v .zs s.spent
  | true=>.row 500 0 s.left.length :: ycq s.proof :: vdT s.v (ycq s.v.proof) s.spent
def yjn (sh:Bool) (s:Sr):Option Ob:=match sh with
  | false=>some (.row true 83 true z0q s.proof)
  | true=>none
def zk3 (m:Md) (q:Qy) (sh:Bool) (s:Sr):St:=
  ⟨[(4,.ptr 4 0 0),(5,.ptr 8 0 0)],[(4,some (.box [.int .i64 0,.zs,.int .i64 0,.int .i64 0,.int .i64 0,.int .i64 0,.int .i64 0,.int .i64 0])),(8,some (.box (zdq m q (yjj sh s)))),(500,some (.row true 36 true z6l s.left)),(501,yjn sh s)]⟩
def tkS (s:Sr):Sr:=⟨s.left.take s.left.length,s.proof.take s.proof.length,⟨s.v.kind,[],s.v.w0,s.v.w1,s.v.w2,s.v.w3,s.v.twin,s.v.spent⟩,s.spent⟩
def yhh (s:Sr):Sr:=⟨s.left.take s.left.length,s.proof,s.v,s.spent⟩
theorem y0i {s:Sr} (h:s.v.proof=[]):tkS s=s:=by
  obtain ⟨left,proof,⟨k,vp,a,b,c,d,tw,vs⟩,sp⟩:=s
  obtain rfl:vp=[]:=h
  unfold tkS
  simp only [List.take_length]
theorem y9i (s:Sr):yhh s=s:=by
  obtain ⟨left,proof,v,sp⟩:=s
  unfold yhh
  simp only [List.take_length]
def okS (m:Md) (q:Qy) (s:Sr):Bool:=z1q m q&&(decide (0≤s.spent)&&(Nat.blt 0 s.left.length&&(Nat.ble s.left.length 100000&&Nat.ble s.proof.length 100000)))
noncomputable abbrev yh5 (N:Nat):Out→St→Res:=z08 0 (kSq (z5c N) (z0l z5g [1,1,1]) (z2w (z5c N) none [.cell 4 45] [[.int .i64,.list true z0q,.int .i64,.int .i64,.int .i64,.int .i64,.int .i64,.int .i64]]))
set_option maxRecDepth 100000 in
theorem zzd (N:Nat) (m:Md) (q:Qy):z16 (z5c N) z5g [.cell 4 45] [[.int .i64,.list true [.bool,.int .i64,.int .i64],.int .i64,.int .i64,.int .i64,.int .i64,.int .i64,.int .i64]] [m.V,q.V] =
 cond (z1q m q) (lpE (z5c N) (z0l z5g [1,1,0,0,0]) kpR N (zk3 m q false ⟨[(z33 q).I],[],Vd.none,0⟩) (yh5 N))
 (lpE (z5c N) (z0l z5g [1,1,0,0,0]) kpR N (zk3 m q false ⟨[],[],⟨4,[],0,0,0,0,0,0⟩,0⟩) (yh5 N)):=by kernel_rfl
set_option maxRecDepth 100000 in
theorem znh (N:Nat) (m:Md) (q:Qy) (s:Sr) (again:St→Res) (k:Out→St→Res):rnd (z5c N) (z0l z5g [1,1,0,0,0]) (zk3 m q false s) (z57 again kpR k) =
 cond (zdt q (tkS s)) (k (.exit 0) (zk3 m q false (tkS s)))
 (cond (okS m q (tkS s))
 (cond (z1r m q (z2k (tkS s).left)) (cond (ic ((tkS s).left.length - 1)==0) (again (zk3 m q true (z5a m q (tkS s)))) (again (zk3 m q false (z5a m q (tkS s)))))
 (cond (z2l m q (z2k (tkS s).left).low (z2k (tkS s).left).s4.hi) (again (zk3 m q false (z5a m q (tkS s))))
 (cond (z1b m q (z2k (tkS s).left)).isSome (again (zk3 m q false (z5a m q (tkS s)))) (again (zk3 m q false (z5a m q (tkS s))))))) none):=by kernel_rfl
set_option maxRecDepth 100000 in
theorem zwm (N:Nat) (m:Md) (q:Qy) (s:Sr) (again:St→Res) (k:Out→St→Res):rnd (z5c N) (z0l z5g [1,1,0,0,0]) (zk3 m q true s) (z57 again kpR k) =
 cond (zdt q (yhh s)) (k (.exit 0) (zk3 m q true (yhh s))) none:=by kernel_rfl
set_option maxRecDepth 100000 in
theorem zvx (N:Nat) (m:Md) (q:Qy) (s:Sr):yh5 N (.exit 0) (zk3 m q false s)=some ((zir (tkS s)).V,[]):=by kernel_rfl
set_option maxRecDepth 100000 in
theorem zz1 (N:Nat) (m:Md) (q:Qy) (s:Sr):yh5 N (.exit 0) (zk3 m q true s)=cond (Nat.ble s.v.proof.length 100000) (some ((zir (yhh s)).V,[])) none:=by kernel_rfl
structure SrInv (q:Qy) (sh:Bool) (s:Sr):Prop where
  sp0:0≤s.spent
  sp1:s.spent≤max 0 q.bu
  left:(s.left.length:Int)≤s.spent+1
  proof:(s.proof.length:Int)≤s.spent
  vp:(s.v.proof.length:Int)≤s.spent
  own:sh=false→s.v.proof=[]
  open_:s.v.kind=0→0 < s.left.length
  shut:sh=true→s.v.kind≠0
theorem yd4 (l:List IV):(zdr l).length=l.length - 1:=by
  unfold zdr
  rw [List.length_take]
  omega
theorem SrInv.step {m:Md} {q:Qy} {s:Sr} (h:SrInv q false s) (ho:zdt q s=false) :
    SrInv q (z1r m q (z2k s.left)&&(ic (s.left.length - 1)==0)) (z5a m q s)∧(z5a m q s).spent=s.spent+1:=by
  unfold zdt at ho
  rw [Bool.or_eq_false_iff] at ho
  have hk:s.v.kind=0:=by simpa using ho.1
  have hs:=of_decide_eq_false ho.2
  have h1:=h.sp0
  have h2:=h.left
  have h3:=h.proof
  have h4:=h.vp
  have h5:=h.own rfl
  have h6:=h.open_ hk
  have hp:=yd4 s.left
  have h5':s.v.proof.length=0:=by rw [h5]; rfl
  unfold z5a
  cases z1r m q (z2k s.left) with
  | true=>
    rw [z01]
    cases he:(ic (s.left.length - 1)==0) with
    | true=>
      refine ⟨⟨?_,?_,?_,?_,?_,fun h=>(by cases h),fun h=>(by cases h),fun _=>(show (1:Int)≠0 by decide)⟩,rfl⟩ <;> simp only [cond_true,List.length_append,List.length_singleton] <;> omega
    | false=>
      have hne:s.left.length - 1≠0:=by simpa [ic] using he
      refine ⟨⟨?_,?_,?_,?_,?_,fun _=>h5,fun _=>?_,fun h=>(by cases h)⟩,rfl⟩ <;> simp only [cond_false,List.length_append,List.length_singleton] <;> omega
  | false=>
    rw [z03,Bool.false_and]
    cases z2l m q (z2k s.left).low (z2k s.left).s4.hi with
    | true=>refine ⟨⟨?_,?_,?_,?_,?_,fun _=>rfl,fun h=>(by cases h),fun h=>(by cases h)⟩,rfl⟩ <;> simp only [cond_true,List.length_nil] <;> omega
    | false=>
      rw [z03]
      cases (z1b m q (z2k s.left)).isSome with
      | true=>refine ⟨⟨?_,?_,?_,?_,?_,fun _=>h5,fun _=>?_,fun h=>(by cases h)⟩,rfl⟩ <;> simp only [cond_true,List.length_append,List.length_singleton,List.length_cons,List.length_nil] <;> omega
      | false=>refine ⟨⟨?_,?_,?_,?_,?_,fun _=>rfl,fun h=>(by cases h),fun h=>(by cases h)⟩,rfl⟩ <;> simp only [cond_false,List.length_nil] <;> omega
theorem yh9 {m:Md} {q:Qy} {s:Sr} (hr:z1q m q=true) (h:SrInv q false s) (hk:s.v.kind=0):okS m q s=true:=by
  have hb:=(z61 hr).2.2.1
  have h1:=h.sp0
  have h2:=h.left
  have h3:=h.proof
  have h6:=h.open_ hk
  have h7:=h.sp1
  unfold okS
  rw [hr,decide_eq_true h1,Nat.ble_eq_true_of_le (show s.left.length≤100000 by omega),Nat.ble_eq_true_of_le (show s.proof.length≤100000 by omega)]
  have:Nat.blt 0 s.left.length=true:=Nat.ble_eq_true_of_le h6
  rw [this]
  rfl
theorem yac (N:Nat) (m:Md) (q:Qy) (hr:z1q m q=true) (K:Out→St→Res):∀ (d n:Nat) (sh:Bool) (s:Sr),SrInv q sh s→q.bu < s.spent+d→d < n →
    ∃ sh',SrInv q sh' (y39 m q d s)∧lpE (z5c N) (z0l z5g [1,1,0,0,0]) kpR n (zk3 m q sh s) K=K (.exit 0) (zk3 m q sh' (y39 m q d s))
  | d,0,sh,s,_,_,h=>absurd h (by omega)
  | 0,n+1,sh,s,hi,hd,_=>by
    have h1:=hi.sp1
    have h2:=hi.sp0
    have h3:=(z61 hr).2.2.1
    omega
  | d+1,n+1,sh,s,hi,hd,hn=>by
    rw [y39]
    cases ho:zdt q s with
    | true=>
      rw [z01]
      refine ⟨sh,hi,?_⟩
      cases sh with
      | false=>rw [z0b,znh,y0i (hi.own rfl),ho,z01]
      | true=>rw [z0b,zwm,y9i,ho,z01]
    | false=>
      rw [z03]
      cases sh with
      | true=>
        unfold zdt at ho
        rw [Bool.or_eq_false_iff] at ho
        have:=hi.shut rfl
        simp at ho
        exact absurd ho.1 this
      | false=>
        obtain ⟨hi',hs'⟩:=hi.step (m:=m) ho
        have hk:s.v.kind=0:=by
          unfold zdt at ho
          rw [Bool.or_eq_false_iff] at ho
          simpa using ho.1
        obtain ⟨sh',hi2,hrun⟩:=yac N m q hr K d n _ (z5a m q s) hi' (by rw [hs']; omega) (by omega)
        refine ⟨sh',hi2,?_⟩
        rw [← hrun,z0b,znh,y0i (hi.own rfl),ho,z03,yh9 hr hi hk,z01]
        cases z1r m q (z2k s.left) with
        | true=>
          rw [z01,Bool.true_and]
          cases (ic (s.left.length - 1)==0) <;> rfl
        | false=>
          rw [z03,Bool.false_and]
          cases z2l m q (z2k s.left).low (z2k s.left).s4.hi with
          | true=>rfl
          | false=>cases (z1b m q (z2k s.left)).isSome <;> rfl
theorem ygl {m:Md} {q:Qy} (hr:z1q m q=true):SrInv q false ⟨[(z33 q).I],[],Vd.none,0⟩:=
  ⟨Int.le_refl _,by have:=(z61 hr).2.2.1; show (0:Int)≤_; omega,by simp,by simp,by simp [Vd.none],fun _=>rfl,fun _=>by simp,fun h=>by cases h⟩
set_option maxRecDepth 100000 in
theorem ziw:z3n PR B0 7 z6b:=by
  refine z0o [(17,za0),(18,z3p),(19,z2v)] [(2,⟨[4,5],[4,8,500,501],[⟨.cell 8 23,500,36,true,z6l⟩,⟨.cell 8 24,501,83,true,z0q⟩]⟩)] z6b [[.int .i64,.list true [.bool,.int .i64,.int .i64],.int .i64,.int .i64,.int .i64,.int .i64,.int .i64,.int .i64]] Tryz.func7 y1z ⟨zur,zgi,zdk,trivial⟩ ?_
  intro vs r hwf h
  unfold z6b at h
  split at h
  · rename_i m q
    replace h:=z32 h
    obtain ⟨m,rfl,h⟩:=h
    replace h:=z2r h
    obtain ⟨q,rfl,h⟩:=h
    rw [R.get_ok] at h
    refine ⟨70000,?_⟩
    rw [← h]
    refine (zzd 70000 m q).trans ?_
    unfold z6y yej
    cases hr:z1q m q with
    | true=>
      have hb:=(z61 hr).2.2.1
      rw [z01,z01]
      obtain ⟨sh',hi,hrun⟩:=yac 70000 m q hr (yh5 70000) (q.bu.toNat+1) 70000 false _ (ygl hr) (by show q.bu < 0+_; omega) (by omega)
      rw [hrun]
      generalize y39 m q (q.bu.toNat+1) _=s at hi ⊢
      cases sh' with
      | false=>rw [zvx,y0i (hi.own rfl)]
      | true=>
        have h1:=hi.vp
        have h2:=hi.sp1
        rw [zz1,y9i,Nat.ble_eq_true_of_le (show s.v.proof.length≤100000 by omega),z01]
    | false=>
      rw [z03,z03]
      have e:zdt q ⟨[],[],⟨4,[],0,0,0,0,0,0⟩,0⟩=true:=rfl
      rw [z0b,znh,y0i rfl,e,z01,zvx,y0i rfl,y39,e,z01]
  · simp [R.get] at h
open Go Go.Proofs
def zn8 (N:Nat):Env:=mkE [(33,z3o)] [] 14 N
theorem zky (N:Nat):z16 (zn8 N) zdz [.cell 0 31] [[.int .i64,.int .i64,.int .i64,.int .i64,.int .i64,.list true [.int .i64,.list false [.int .u64]]]] [] =
 (some ((.agg [(.int .i64 1),(.int .i64 1),(.int .i64 3),(.int .i64 0),(.int .i64 0),(.list true z30 [(IV.agg [IV.int 0,IV.list [IV.int (za8 false 0 0 5 1 2),IV.int (za8 true 10 0 0 0 0),IV.int (za8 true 20 0 0 0 0)]])])]),[])):=by kernel_rfl
def z0u (N:Nat):Env:=mkE [] [(4,⟨[0,1,4,5],[],[]⟩)] 26 N
theorem zdf (N:Nat) (a:List IV) (b:List IV):z16 (z0u N) z18 [.tmp 4] [[.bool]] [(.list true [.bool,.int .i64,.int .i64] a),(.list true [.bool,.int .i64,.int .i64] b)] =
 (cond (ic (List.length a) != ic (List.length b))
 (some ((.bool false),[]))
 (lpE (z0u N) (z0l z18 [1,1,0,1,0,0]) ⟨[0,1,4,5],[],[]⟩ N ⟨[(0,(.list true z0q a)),(1,(.list true z0q b)),(4,(.bool false)),(5,(.int .i64 0))],[]⟩ (z08 0 (kSq (z0u N) (z0l z18 [1,1,1]) (z2w (z0u N) none [(ResultVar.tmp 4)] [[.bool]]))))):=by kernel_rfl
theorem z6j (N:Nat) (l0:List IV) (l1:List IV) (b4:Bool) (x5:Int) (again:St→Res) (k:Out→St→Res):rnd (z0u N) (z0l z18 [1,1,0,1,0,0])
 ⟨[(0,(.list true z0q l0)),(1,(.list true z0q l1)),(4,(.bool b4)),(5,(.int .i64 x5))],[]⟩
 (z57 again ⟨[0,1,4,5],[],[]⟩ k) =
 (cond (decide (x5 < ic (List.length l0)))
 (cond (decide (0≤x5)&&decide (x5 < ic (List.length l0)))
 (cond (decide (0≤x5)&&decide (x5 < ic (List.length l1)))
 (cond (! (IV.toBool (IV.cell (List.getD l0 (Int.toNat x5) default) 0)==IV.toBool (IV.cell (List.getD l1 (Int.toNat x5) default) 0)&&(IV.toInt (IV.cell (List.getD l0 (Int.toNat x5) default) 1)==IV.toInt (IV.cell (List.getD l1 (Int.toNat x5) default) 1)&&(IV.toInt (IV.cell (List.getD l0 (Int.toNat x5) default) 2)==IV.toInt (IV.cell (List.getD l1 (Int.toNat x5) default) 2)&&true))))
 (k .ret ⟨[(0,(.list true z0q l0)),(1,(.list true z0q l1)),(4,(.bool false)),(5,(.int .i64 x5))],[]⟩)
 (again ⟨[(0,(.list true z0q l0)),(1,(.list true z0q l1)),(4,(.bool b4)),(5,(.int .i64 (IntKind.wrap IntKind.i64 (x5+1))))],[]⟩))
 none)
 none)
 (k (.exit 0) ⟨[(0,(.list true z0q l0)),(1,(.list true z0q l1)),(4,(.bool b4)),(5,(.int .i64 x5))],[]⟩)):=by kernel_rfl
theorem zax (N:Nat) (l0:List IV) (l1:List IV) (b4:Bool) (x5:Int):(z08 0 (kSq (z0u N) (z0l z18 [1,1,1]) (z2w (z0u N) none [(ResultVar.tmp 4)] [[.bool]]))) (.exit 0)
 ⟨[(0,(.list true z0q l0)),(1,(.list true z0q l1)),(4,(.bool b4)),(5,(.int .i64 x5))],[]⟩ =
 (some ((.bool true),[])):=by kernel_rfl
theorem zas (N:Nat) (l0:List IV) (l1:List IV) (b4:Bool) (x5:Int):(z08 0 (kSq (z0u N) (z0l z18 [1,1,1]) (z2w (z0u N) none [(ResultVar.tmp 4)] [[.bool]]))) .ret
 ⟨[(0,(.list true z0q l0)),(1,(.list true z0q l1)),(4,(.bool b4)),(5,(.int .i64 x5))],[]⟩ =
 (some ((.bool b4),[])):=by kernel_rfl
def zit (N:Nat):Env:=mkE [(31,z2j)] [] 38 N
theorem zh2 (N:Nat) (a:Vd) (b:Vd):z16 (zit N) zb0 [.tmp 4] [[.bool]] [(Vd.V a),(Vd.V b)] =
 (cond (Vd.kind a==Vd.kind b)
 (cond (z4i (Vd.proof a) (Vd.proof b))
 (cond (Vd.w0 a==Vd.w0 b&&(Vd.w1 a==Vd.w1 b&&(Vd.w2 a==Vd.w2 b&&(Vd.w3 a==Vd.w3 b&&true))))
 (cond (Vd.twin a==Vd.twin b) (some ((.bool (Vd.spent a==Vd.spent b)),[])) (some ((.bool false),[])))
 (some ((.bool false),[])))
 (some ((.bool false),[])))
 (some ((.bool false),[]))):=by kernel_rfl
def zf6 (N:Nat):Env:=mkE [(32,z56),(7,z6b)] [] 60 N
theorem ze3 (N:Nat):z16 (zf6 N) z8x [.tmp 0] [[.bool]] [] =
 (some ((.bool true),[])):=by kernel_rfl
open Go Go.Proofs
set_option maxRecDepth 100000 in
theorem zjk:z3n PR B0 32 z56:=by
  refine z0o [(33,z3o)] [] z56 [[.int .i64,.int .i64,.int .i64,.int .i64,.int .i64,.list true [.int .i64,.list false [.int .u64]]]] Tryz.func32 zm6 ⟨zd2,trivial⟩ ?_
  intro vs r hwf h
  unfold z56 at h
  split at h
  · skip
    rw [R.get_ok] at h
    refine ⟨0,(zky 0).trans ?_⟩
    rw [← h]
    rfl
  · simp [R.get] at h
set_option maxRecDepth 100000 in
theorem zdl:z3n PR B0 13 z2u:=by
  refine z0o [(32,z56),(7,z6b)] [] z2u [[.bool]] Tryz.func13 zev ⟨zjk,ziw,trivial⟩ ?_
  intro vs r hwf h
  unfold z2u at h
  split at h
  · skip
    rw [R.get_ok] at h
    refine ⟨0,(ze3 0).trans ?_⟩
    rw [← h]
  · simp [R.get] at h
open Go Go.Proofs
def z47 (N:Nat):Env:=mkE [] [(4,⟨[2,13,14,15],[],[]⟩)] 37 N
theorem zwn (N:Nat) (l:List IV):z16 (z47 N) z5h [.tmp 2] [[.bool]] [(.list true [.bool,.int .i64,.int .i64] l)] =
 (cond (decide (ic (List.length l) < 1))
 (some ((.bool false),[]))
 (cond (decide (ic (List.length l) > 65536))
 (some ((.bool false),[]))
 (lpE (z47 N) (z0l z5h [1,1,0,1,0,0]) ⟨[2,13,14,15],[],[]⟩ N ⟨[(2,(.bool false)),(13,(.list true [.bool,(.int .i64),(.int .i64)] l)),(14,(.int .i64 (ic (List.length l)))),(15,(.int .i64 0))],[]⟩ (z08 0 (kSq (z47 N) (z0l z5h [1,1,1]) (z2w (z47 N) none [(ResultVar.tmp 2)] [[.bool]])))))):=by kernel_rfl
theorem zho (N:Nat) (b2:Bool) (l13:List IV) (x14:Int) (x15:Int) (again:St→Res) (k:Out→St→Res):rnd (z47 N) (z0l z5h [1,1,0,1,0,0])
 ⟨[(2,(.bool b2)),(13,(.list true [.bool,(.int .i64),(.int .i64)] l13)),(14,(.int .i64 x14)),(15,(.int .i64 x15))],[]⟩
 (z57 again ⟨[2,13,14,15],[],[]⟩ k) =
 (cond (decide (x15 < x14))
 (cond (decide (0≤x15)&&decide (x15 < ic (List.length l13)))
 (cond (IV.toBool (IV.cell (List.getD l13 (Int.toNat x15) default) 0))
 (cond (! (IV.toBool (IV.cell (List.getD l13 (Int.toNat x15) default) 0)==true&&(IV.toInt (IV.cell (List.getD l13 (Int.toNat x15) default) 1)==0&&(IV.toInt (IV.cell (List.getD l13 (Int.toNat x15) default) 2)==0&&true))))
 (k .ret ⟨[(2,(.bool false)),(13,(.list true [.bool,(.int .i64),(.int .i64)] l13)),(14,(.int .i64 x14)),(15,(.int .i64 x15))],[]⟩)
 (cond (decide (IV.toInt (IV.cell (List.getD l13 (Int.toNat x15) default) 1) < 0))
 (k .ret ⟨[(2,(.bool false)),(13,(.list true [.bool,(.int .i64),(.int .i64)] l13)),(14,(.int .i64 x14)),(15,(.int .i64 x15))],[]⟩)
 (cond (decide (IV.toInt (IV.cell (List.getD l13 (Int.toNat x15) default) 1) > 4))
 (k .ret ⟨[(2,(.bool false)),(13,(.list true [.bool,(.int .i64),(.int .i64)] l13)),(14,(.int .i64 x14)),(15,(.int .i64 x15))],[]⟩)
 (again ⟨[(2,(.bool b2)),(13,(.list true [.bool,(.int .i64),(.int .i64)] l13)),(14,(.int .i64 x14)),(15,(.int .i64 (IntKind.wrap IntKind.i64 (x15+1))))],[]⟩))))
 (cond (decide (IV.toInt (IV.cell (List.getD l13 (Int.toNat x15) default) 1) < 0))
 (k .ret ⟨[(2,(.bool false)),(13,(.list true [.bool,(.int .i64),(.int .i64)] l13)),(14,(.int .i64 x14)),(15,(.int .i64 x15))],[]⟩)
 (cond (decide (IV.toInt (IV.cell (List.getD l13 (Int.toNat x15) default) 1) > 4))
 (k .ret ⟨[(2,(.bool false)),(13,(.list true [.bool,(.int .i64),(.int .i64)] l13)),(14,(.int .i64 x14)),(15,(.int .i64 x15))],[]⟩)
 (again ⟨[(2,(.bool b2)),(13,(.list true [.bool,(.int .i64),(.int .i64)] l13)),(14,(.int .i64 x14)),(15,(.int .i64 (IntKind.wrap IntKind.i64 (x15+1))))],[]⟩))))
 none)
 (k (.exit 0) ⟨[(2,(.bool b2)),(13,(.list true [.bool,(.int .i64),(.int .i64)] l13)),(14,(.int .i64 x14)),(15,(.int .i64 x15))],[]⟩)):=by kernel_rfl
theorem zna (N:Nat) (b2:Bool) (l13:List IV) (x14:Int) (x15:Int):(z08 0 (kSq (z47 N) (z0l z5h [1,1,1]) (z2w (z47 N) none [(ResultVar.tmp 2)] [[.bool]]))) (.exit 0)
 ⟨[(2,(.bool b2)),(13,(.list true [.bool,(.int .i64),(.int .i64)] l13)),(14,(.int .i64 x14)),(15,(.int .i64 x15))],[]⟩ =
 (some ((.bool true),[])):=by kernel_rfl
theorem zmj (N:Nat) (b2:Bool) (l13:List IV) (x14:Int) (x15:Int):(z08 0 (kSq (z47 N) (z0l z5h [1,1,1]) (z2w (z47 N) none [(ResultVar.tmp 2)] [[.bool]]))) .ret
 ⟨[(2,(.bool b2)),(13,(.list true [.bool,(.int .i64),(.int .i64)] l13)),(14,(.int .i64 x14)),(15,(.int .i64 x15))],[]⟩ =
 (some ((.bool b2),[])):=by kernel_rfl
def y1o (N:Nat):Env:=mkE [(52,z9v)] [] 47 N
theorem zyh (N:Nat) (v_Kind:Int) (v_Proof:List IV) (v_Witness_0:Int) (v_Witness_1:Int) (v_Witness_2:Int) (v_Witness_3:Int) (v_Twin:Int) (v_Spent:Int):z16 (y1o N) zo1 [.tmp 2] [[.bool]] [(.agg [(.int .i64 v_Kind),(.list true [.bool,.int .i64,.int .i64] v_Proof),(.int .i64 v_Witness_0),(.int .i64 v_Witness_1),(.int .i64 v_Witness_2),(.int .i64 v_Witness_3),(.int .i64 v_Twin),(.int .i64 v_Spent)])] =
 (cond (decide (v_Spent < 0))
 (some ((.bool false),[]))
 (cond (decide (v_Spent > 65536))
 (some ((.bool false),[]))
 (cond (v_Witness_0==0&&(v_Witness_1==0&&(v_Witness_2==0&&(v_Witness_3==0&&true))))
 (cond (v_Kind==1)
 (cond (v_Twin==0) (some ((.bool (zg8 v_Proof)),[])) (some ((.bool false),[])))
 (cond (v_Kind==2)
 (some ((.bool (ic (List.length v_Proof)==0)),[]))
 (cond (v_Kind==3)
 (cond (v_Twin==0) (some ((.bool (ic (List.length v_Proof)==0)),[])) (some ((.bool false),[])))
 (cond (v_Kind==4) (cond (v_Twin==0) (some ((.bool (ic (List.length v_Proof)==0)),[])) (some ((.bool false),[]))) (some ((.bool false),[]))))))
 (cond (v_Kind==1)
 (some ((.bool false),[]))
 (cond (v_Kind==2)
 (some ((.bool (ic (List.length v_Proof)==0)),[]))
 (cond (v_Kind==3) (some ((.bool false),[])) (cond (v_Kind==4) (some ((.bool false),[])) (some ((.bool false),[]))))))))):=by kernel_rfl
def z63 (N:Nat):Env:=mkE [(55,z9i),(54,z2q),(53,z2d)] [(2,⟨[0,11,12,13],[900000],[]⟩)] 26 N
theorem zzp (N:Nat) (b:ByteArray) (word:ByteArray) (l:List IV):z16 (z63 N) z7w [] [] [(.bor [.bld b]),(.str word),(.list false [.int .i64] l)] =
 (cond (decide (ByteArray.size b+ByteArray.size word≤strMax))
 (lpE (z63 N) (z0l z7w [1,0,1,0,0]) ⟨[0,11,12,13],[900000],[]⟩ N ⟨[(0,(.ptr 900000 0 0)),(11,(.list false [(.int .i64)] l)),(12,(.int .i64 (ic (List.length l)))),(13,(.int .i64 0))],[(900000,(some (.bld (b++word))))]⟩ (z08 0 (kSq (z63 N) (z0l z7w [1,1]) (z2w (z63 N) (some [(.bld b)]) [] []))))
 none):=by kernel_rfl
theorem zj9 (N:Nat) (l11:List IV) (x12:Int) (x13:Int) (so900000:ByteArray) (again:St→Res) (k:Out→St→Res):rnd (z63 N) (z0l z7w [1,0,1,0,0])
 ⟨[(0,(.ptr 900000 0 0)),(11,(.list false [(.int .i64)] l11)),(12,(.int .i64 x12)),(13,(.int .i64 x13))],[(900000,(some (.bld so900000)))]⟩
 (z57 again ⟨[0,11,12,13],[900000],[]⟩ k) =
 (cond (decide (x13 < x12))
 (cond (decide (0≤x13)&&decide (x13 < ic (List.length l11)))
 (cond (decide (ByteArray.size so900000+1≤strMax))
 (cond (decide (ByteArray.size (ByteArray.push so900000 (zgd 32))+ByteArray.size (zyz (IV.toInt (List.getD l11 (Int.toNat x13) default)))≤strMax))
 (again ⟨[(0,(.ptr 900000 0 0)),(11,(.list false [(.int .i64)] l11)),(12,(.int .i64 x12)),(13,(.int .i64 (IntKind.wrap IntKind.i64 (x13+1))))],[(900000,(some (.bld (ByteArray.push so900000 (zgd 32)++zyz (IV.toInt (List.getD l11 (Int.toNat x13) default))))))]⟩)
 none)
 none)
 none)
 (k (.exit 0) ⟨[(0,(.ptr 900000 0 0)),(11,(.list false [(.int .i64)] l11)),(12,(.int .i64 x12)),(13,(.int .i64 x13))],[(900000,(some (.bld so900000)))]⟩)):=by kernel_rfl
theorem zpb (N:Nat) (b:ByteArray) (l11:List IV) (x12:Int) (x13:Int) (so900000:ByteArray):(z08 0 (kSq (z63 N) (z0l z7w [1,1]) (z2w (z63 N) (some [(.bld b)]) [] []))) (.exit 0)
 ⟨[(0,(.ptr 900000 0 0)),(11,(.list false [(.int .i64)] l11)),(12,(.int .i64 x12)),(13,(.int .i64 x13))],[(900000,(some (.bld so900000)))]⟩ =
 (cond (decide (ByteArray.size so900000+1≤strMax)) (some ((.tup []),[[(.bld (ByteArray.push so900000 (zgd 10)))]])) none):=by kernel_rfl
def zxi (N:Nat):Env:=mkE [(73,z9p)] [] 20 N
theorem zth (N:Nat) (l:List IV) (i:Int):z16 (zxi N) zli [.tmp 4] [[.int .i64]] [(.list false [.str] l),(.int .i64 i)] =
 (cond (decide (i≥ic (List.length l)))
 (some ((.int .i64 0),[]))
 (cond (decide (0≤i)&&decide (i < ic (List.length l))) (some ((.int .i64 (zlj (IV.toStr (List.getD l (Int.toNat i) default)))),[])) none)):=by kernel_rfl
open Go Go.Proofs
theorem y0o (N:Nat) (l:List IV) (K:Out→St→Res) (hl:l.length≤65536)
    (hx:∀ b2 x14 x15,K (.exit 0) ⟨[(2,(.bool b2)),(13,(.list true [.bool,(.int .i64),(.int .i64)] l)),(14,(.int .i64 x14)),(15,(.int .i64 x15))],[]⟩=some (.bool true,[]))
    (hr:∀ b2 x14 x15,K .ret ⟨[(2,(.bool b2)),(13,(.list true [.bool,(.int .i64),(.int .i64)] l)),(14,(.int .i64 x14)),(15,(.int .i64 x15))],[]⟩=some (.bool b2,[])) :
    ∀ (d i n:Nat),i+d=l.length→d < n→lpE (z47 N) (z0l z5h [1,1,0,1,0,0]) ⟨[2,13,14,15],[],[]⟩ n ⟨[(2,(.bool false)),(13,(.list true [.bool,(.int .i64),(.int .i64)] l)),(14,(.int .i64 (ic l.length))),(15,(.int .i64 (i:Int)))],[]⟩ K=some (.bool ((l.drop i).all zg1),[])
  | 0,i,n+1,hd,_=>by
    rw [z0b,zho]
    rw [zcy (by omega),List.drop_of_length_le (by omega)]
    simp only [cond_false,List.all_nil]
    exact hx ..
  | d+1,i,n+1,hd,hn=>by
    rw [z0b,zho]
    have hi:i < l.length:=by omega
    rw [zb1 hi,zjz,z68 (by omega),zc7 hi,List.drop_eq_getElem_cons hi,List.all_cons]
    generalize l[i]=x
    have ih:=y0o N l K hl hx hr d (i+1) n (by omega) (by omega)
    rw [ih]
    generalize (List.drop (i+1) l).all zg1=rest
    unfold zg1 z62 z0t zbk
    simp only [cond_true,Bool.and_true,yeb,zuv,zyq]
    cases hs:IV.toBool (IV.cell x 0) <;> cases hp0:decide (IV.toInt (IV.cell x 1) < 0) <;> cases hp4:decide (4 < IV.toInt (IV.cell x 1)) <;> cases hz:decide (IV.toInt (IV.cell x 1)=0) <;> cases ha:decide (IV.toInt (IV.cell x 2)=0) <;>
      (simp only [cond_true,cond_false,Bool.not_true,Bool.not_false,Bool.and_true,Bool.and_false,Bool.true_and,Bool.false_and,beq_self_eq_true,hr]
       try rfl)
  | 0,_,0,_,h=>by omega
  | _+1,_,0,_,h=>by omega
set_option maxRecDepth 100000 in
theorem zud:z3n PR B0 52 z9v:=by
  refine z0o [] [(4,⟨[2,13,14,15],[],[]⟩)] z9v [[.bool]] Tryz.func52 zzo trivial ?_
  intro vs r hwf h
  unfold z9v at h
  split at h
  · rename_i l
    refine ⟨l.length+1,?_⟩
    rw [← h]
    refine (zwn (l.length+1) l).trans ?_
    simp only [R.get_ok]
    unfold zg8
    by_cases h1:l.length < 1
    · have e1:decide (ic l.length < 1)=true:=decide_eq_true (by show ((l.length:Nat):Int) < 1; omega)
      have e2:decide (1≤l.length)=false:=decide_eq_false (by omega)
      rw [e1,e2]; rfl
    · have e1:decide (ic l.length < 1)=false:=decide_eq_false (by show ¬ ((l.length:Nat):Int) < 1; omega)
      have e2:decide (1≤l.length)=true:=decide_eq_true (by omega)
      rw [e1,e2]
      simp only [cond_false,Bool.true_and]
      by_cases h3:l.length≤65536
      · have e3:decide (ic l.length > 65536)=false:=decide_eq_false (by show ¬ ((l.length:Nat):Int) > 65536; omega)
        have e4:decide (l.length≤65536)=true:=decide_eq_true h3
        rw [e3,e4]
        simp only [cond_false,Bool.true_and]
        have:=y0o (l.length+1) l _ h3 (fun b2 x14 x15=>zna (l.length+1) b2 l x14 x15) (fun b2 x14 x15=>zmj (l.length+1) b2 l x14 x15) l.length 0 (l.length+1) (by omega) (by omega)
        rw [List.drop_zero] at this
        exact this
      · have e3:decide (ic l.length > 65536)=true:=decide_eq_true (by show ((l.length:Nat):Int) > 65536; omega)
        have e4:decide (l.length≤65536)=false:=decide_eq_false h3
        rw [e3,e4]; rfl
  · simp [R.get] at h
theorem yc6 (l:List IV):(ic l.length==0)=l.isEmpty:=by
  cases l with
  | nil=>rfl
  | cons a l=>
    simp only [ic,List.isEmpty_cons,List.length_cons]
    rw [beq_eq_false_iff_ne]
    omega
set_option maxRecDepth 100000 in
theorem zu6:z3n PR B0 28 zam:=by
  refine z0o [(52,z9v)] [] zam [[.bool]] Tryz.func28 y16 ⟨zud,trivial⟩ ?_
  intro vs r hwf h
  unfold zam at h
  split at h
  · rename_i k p a b c d t s
    refine ⟨0,?_⟩
    rw [← h]
    refine (zyh 0 k p a b c d t s).trans ?_
    simp only [R.get_ok,yc6]
    unfold Vd.right Vd.bare
    simp only [yeb,zuv,Bool.and_true]
    generalize zg8 p=sp
    generalize p.isEmpty=pe
    cases decide (s < 0) <;> cases decide (65536 < s) <;> simp only [cond_true,cond_false,Bool.not_true,Bool.not_false,Bool.true_and,Bool.false_and]
    by_cases k1:k=1
    · subst k1
      cases a==0 <;> cases b==0 <;> cases c==0 <;> cases d==0 <;> cases t==0 <;> cases sp <;> cases pe <;> rfl
    by_cases k2:k=2
    · subst k2
      cases a==0 <;> cases b==0 <;> cases c==0 <;> cases d==0 <;> cases t==0 <;> cases sp <;> cases pe <;> rfl
    by_cases k3:k=3
    · subst k3
      cases a==0 <;> cases b==0 <;> cases c==0 <;> cases d==0 <;> cases t==0 <;> cases sp <;> cases pe <;> rfl
    by_cases k4:k=4
    · subst k4
      cases a==0 <;> cases b==0 <;> cases c==0 <;> cases d==0 <;> cases t==0 <;> cases sp <;> cases pe <;> rfl
    simp only [beq_eq_false_iff_ne.2 k1,beq_eq_false_iff_ne.2 k2,beq_eq_false_iff_ne.2 k3,beq_eq_false_iff_ne.2 k4,cond_false,Bool.false_and,Bool.or_false,Bool.cond_self]
  · simp [R.get] at h
theorem zia:∀ (l:List IV) (s:ByteArray),s.size≤(zk1 s l).size
  | [],s=>Nat.le_refl _
  | x :: l,s=>by
    simp only [zk1]
    refine Nat.le_trans ?_ (zia l _)
    simp only [ByteArray.size_append,ByteArray.size_push]
    omega
theorem y6o (N:Nat) (l:List IV) (K:Out→St→Res) (hl:l.length≤strMax) (z:Res)
    (hx:∀ s x12 x13,s=zk1 s []→K (.exit 0) ⟨[(0,(.ptr 900000 0 0)),(11,(.list false [(.int .i64)] l)),(12,(.int .i64 x12)),(13,(.int .i64 x13))],[(900000,(some (.bld s)))]⟩=cond (decide (s.size+1≤strMax)) (some (.tup [],[[.bld (s.push (zgd 10))]])) none) :
    ∀ (d i n:Nat) (s:ByteArray),i+d=l.length→d < n→(zk1 s (l.drop i)).size≤strMax→lpE (z63 N) (z0l z7w [1,0,1,0,0]) ⟨[0,11,12,13],[900000],[]⟩ n ⟨[(0,(.ptr 900000 0 0)),(11,(.list false [(.int .i64)] l)),(12,(.int .i64 (ic l.length))),(13,(.int .i64 (i:Int)))],[(900000,(some (.bld s)))]⟩ K =
      cond (decide ((zk1 s (l.drop i)).size+1≤strMax)) (some (.tup [],[[.bld ((zk1 s (l.drop i)).push (zgd 10))]])) none
  | 0,i,n+1,s,hd,_,_=>by
    rw [z0b,zj9,zcy (by omega),List.drop_of_length_le (by omega)]
    simp only [cond_false,zk1]
    exact hx s _ _ rfl
  | d+1,i,n+1,s,hd,hn,hs=>by
    have hi:i < l.length:=by omega
    unfold strMax at hl
    rw [z0b,zj9,zb1 hi,zjz,z68 (by omega),zc7 hi]
    rw [List.drop_eq_getElem_cons hi] at hs ⊢
    simp only [zk1] at hs ⊢
    have e32:zgd 32=32:=rfl
    rw [e32]
    have hsz:=zia (l.drop (i+1)) (s.push 32++zyz l[i].toInt)
    have h1:decide (s.size+1≤strMax)=true:=decide_eq_true (by
      simp only [ByteArray.size_append,ByteArray.size_push] at hsz
      omega)
    have h2:decide ((s.push 32).size+(zyz l[i].toInt).size≤strMax)=true:=decide_eq_true (by
      simp only [ByteArray.size_append] at hsz
      omega)
    rw [h1,h2]
    simp only [cond_true,Bool.and_true]
    exact y6o N l K (by unfold strMax; omega) z hx d (i+1) n _ (by omega) (by omega) hs
  | 0,_,0,_,_,h,_=>by omega
  | _+1,_,0,_,_,h,_=>by omega
set_option maxRecDepth 100000 in
theorem zyy:z3n PR B0 29 zbo:=by
  refine z0o [(55,z9i),(54,z2q),(53,z2d)] [(2,⟨[0,11,12,13],[900000],[]⟩)] zbo [] Tryz.func29 y4h ⟨zp1,zay,z99,trivial⟩ ?_
  intro vs r hwf h
  unfold zbo at h
  split at h
  · rename_i s w l
    refine ⟨l.length+1,?_⟩
    rw [← h]
    refine (zzp (l.length+1) s w l).trans ?_
    simp only [R.get_br,R.get_ok,R.get_no]
    have hwf:=hwf (by simp [zhk,z5m])
    simp only [ycp,wfV,wfLs,wfL] at hwf
    rw [R.get_br,R.get_ok,R.get_no] at h
    cases hc:decide ((z2o s w l).size≤strMax) with
    | false=>rw [hc] at h; cases h
    | true=>
      have hle:=of_decide_eq_true hc
      unfold z2o at hle ⊢
      rw [ByteArray.size_push] at hle
      have h1:=zia l (s++w)
      have e1:decide (s.size+w.size≤strMax)=true:=decide_eq_true (by rw [ByteArray.size_append] at h1; omega)
      rw [e1]
      simp only [cond_true]
      have:=y6o (l.length+1) l _ hwf.2.2.1.1 none (fun s' x12 x13 _=>zpb (l.length+1) s l x12 x13 s') l.length 0 (l.length+1) (s++w) (by omega) (by omega) (by rw [List.drop_zero]; omega)
      rw [List.drop_zero] at this
      refine this.trans ?_
      rw [decide_eq_true hle]
      rfl
  · simp [R.get] at h
set_option maxRecDepth 100000 in
theorem zqb:z3n PR B0 51 z8u:=by
  refine z0o [(73,z9p)] [] z8u [[.int .i64]] Tryz.func51 zz0 ⟨zp9,trivial⟩ ?_
  intro vs r hwf h
  unfold z8u at h
  split at h
  · rename_i l i
    refine ⟨0,?_⟩
    rw [← h]
    refine (zth 0 l i).trans ?_
    simp only [R.get_br,R.get_ok,R.get_no]
    unfold z1j
    rw [R.get_br,R.get_ok,R.get_no] at h
    cases hc:decide (0≤i) with
    | false=>rw [hc] at h; cases h
    | true=>
      have h0:=of_decide_eq_true hc
      simp only [cond_true,Bool.true_and]
      have e:decide (i≥ic l.length)=decide (ic l.length≤i):=rfl
      rw [e]
      cases h2:decide (ic l.length≤i) with
      | true=>rfl
      | false=>
        have h3:=of_decide_eq_false h2
        rw [decide_eq_true (show i < ic l.length by omega)]
        rfl
  · simp [R.get] at h
open Go Go.Proofs
def z0m (N:Nat):Env:=mkE [(51,z8u),(49,zb4),(50,z8y)] [(7,⟨[2,4,7],[2,7,51],[⟨.cell 7 1,51,83,true,[.bool,.int .i64,.int .i64]⟩]⟩),(16,⟨[2,6,7,66],[2,7],[]⟩)] 87 N
theorem zzs (N:Nat) (s:ByteArray):z16 (z0m N) z0y [.cell 2 45] [[.int .i64,.list true [.bool,.int .i64,.int .i64],.int .i64,.int .i64,.int .i64,.int .i64,.int .i64,.int .i64]] [(.str s)] =
 (cond (decide (ByteArray.size s < 4294967281))
 (cond (decide (ByteArray.size (cutL s {data:=#[10]}) < 4294967281)&&decide (1≤ByteArray.size {data:=#[32]}))
 (cond (decide (0≤0)&&decide (0 < ic (List.length (List.map IV.str (z4k (cutL s {data:=#[10]}) {data:=#[32]})))))
 (cond (ByteArray.toList (IV.toStr (List.getD (List.map IV.str (z4k (cutL s {data:=#[10]}) {data:=#[32]})) (Int.toNat 0) default))==ByteArray.toList {data:=#[104,111,108,100,115]})
 (lpE (z0m N) (z0l z0y [1,1,1,1,0,1,0,1,0,1,0,0]) ⟨[2,4,7],[2,7,51],[⟨(.cell 7 1),51,83,true,z0q⟩]⟩ N ⟨[(2,(.ptr 2 0 0)),(4,(.str (y0s s {data:=#[10]}))),(7,(.ptr 7 0 0))],[(2,(some (.box [(.int .i64 0),.zs,(.int .i64 0),(.int .i64 0),(.int .i64 0),(.int .i64 0),(.int .i64 0),(.int .i64 0)]))),(7,(some (.box [(.int .i64 1),(.row 51 0 0),(.int .i64 0),(.int .i64 0),(.int .i64 0),(.int .i64 0),(.int .i64 0),(.int .i64 (z1j (List.map IV.str (z4k (cutL s {data:=#[10]}) {data:=#[32]})) 1))]))),(51,(some (.row true 83 true z0q [])))]⟩ (z08 1 (z08 0 (kSq (z0m N) (z0l z0y [1,1,1,1,1]) (z2w (z0m N) none [(ResultVar.cell 2 45)] [[(.int .i64),(.list true z0q),(.int .i64),(.int .i64),(.int .i64),(.int .i64),(.int .i64),(.int .i64)]])))))
 (cond (ByteArray.toList (IV.toStr (List.getD (List.map IV.str (z4k (cutL s {data:=#[10]}) {data:=#[32]})) (Int.toNat 0) default))==ByteArray.toList {data:=#[102,97,105,108,115]})
 (lpE (z0m N) (z0l z0y [1,1,1,1,0,1,0,1,1,1,0,1,0,1,0,0]) ⟨[2,6,7,66],[2,7],[]⟩ N ⟨[(2,(.ptr 2 0 0)),(6,(.list false [.str] (List.map IV.str (z4k (cutL s {data:=#[10]}) {data:=#[32]})))),(7,(.ptr 7 0 0)),(66,(.int .i64 0))],[(2,(some (.box [(.int .i64 0),.zs,(.int .i64 0),(.int .i64 0),(.int .i64 0),(.int .i64 0),(.int .i64 0),(.int .i64 0)]))),(7,(some (.box [(.int .i64 2),.zs,(.int .i64 0),(.int .i64 0),(.int .i64 0),(.int .i64 0),(.int .i64 0),(.int .i64 (z1j (List.map IV.str (z4k (cutL s {data:=#[10]}) {data:=#[32]})) 1))])))]⟩ (z08 3 (kSq (z0m N) (z0l z0y [1,1,1,1,0,1,0,1,1,1,0,1,1]) (z08 0 (kSq (z0m N) (z0l z0y [1,1,1,1,1]) (z2w (z0m N) none [(ResultVar.cell 2 45)] [[(.int .i64),(.list true z0q),(.int .i64),(.int .i64),(.int .i64),(.int .i64),(.int .i64),(.int .i64)]]))))))
 (cond (ByteArray.toList (IV.toStr (List.getD (List.map IV.str (z4k (cutL s {data:=#[10]}) {data:=#[32]})) (Int.toNat 0) default))==ByteArray.toList {data:=#[117,110,107,110,111,119,110]})
 (some ((.agg [(.int .i64 3),(.list true z0q []),(.int .i64 0),(.int .i64 0),(.int .i64 0),(.int .i64 0),(.int .i64 0),(.int .i64 (z1j (List.map IV.str (z4k (cutL s {data:=#[10]}) {data:=#[32]})) 1))]),[]))
 (cond (ByteArray.toList (IV.toStr (List.getD (List.map IV.str (z4k (cutL s {data:=#[10]}) {data:=#[32]})) (Int.toNat 0) default))==ByteArray.toList {data:=#[119,114,111,110,103]})
 (some ((.agg [(.int .i64 4),(.list true z0q []),(.int .i64 0),(.int .i64 0),(.int .i64 0),(.int .i64 0),(.int .i64 0),(.int .i64 (z1j (List.map IV.str (z4k (cutL s {data:=#[10]}) {data:=#[32]})) 1))]),[]))
 (some ((.agg [(.int .i64 0),(.list true z0q []),(.int .i64 0),(.int .i64 0),(.int .i64 0),(.int .i64 0),(.int .i64 0),(.int .i64 (z1j (List.map IV.str (z4k (cutL s {data:=#[10]}) {data:=#[32]})) 1))]),[]))))))
 none)
 none)
 none):=by kernel_rfl
theorem zuq (N:Nat) (s4:ByteArray) (xo2_0:Int) (xo2_2:Int) (xo2_3:Int) (xo2_4:Int) (xo2_5:Int) (xo2_6:Int) (xo2_7:Int) (xo7_0:Int) (no7_1:Nat) (xo7_2:Int) (xo7_3:Int) (xo7_4:Int) (xo7_5:Int) (xo7_6:Int) (xo7_7:Int) (lo51:List IV) (again:St→Res) (k:Out→St→Res):rnd (z0m N) (z0l z0y [1,1,1,1,0,1,0,1,0,1,0,0])
 ⟨[(2,(.ptr 2 0 0)),(4,(.str s4)),(7,(.ptr 7 0 0))],[(2,(some (.box [(.int .i64 xo2_0),.zs,(.int .i64 xo2_2),(.int .i64 xo2_3),(.int .i64 xo2_4),(.int .i64 xo2_5),(.int .i64 xo2_6),(.int .i64 xo2_7)]))),(7,(some (.box [(.int .i64 xo7_0),(.row 51 0 no7_1),(.int .i64 xo7_2),(.int .i64 xo7_3),(.int .i64 xo7_4),(.int .i64 xo7_5),(.int .i64 xo7_6),(.int .i64 xo7_7)]))),(51,(some (.row true 83 true z0q lo51)))]⟩
 (z57 again ⟨[2,4,7],[2,7,51],[⟨(.cell 7 1),51,83,true,z0q⟩]⟩ k) =
 (cond (!ByteArray.toList s4==ByteArray.toList {data:=#[]})
 (cond (decide (ic (no7_1 - 0)≤65536))
 (cond (decide (ByteArray.size s4 < 4294967281))
 (cond (decide (ByteArray.size (cutL s4 {data:=#[10]}) < 4294967281)&&decide (1≤ByteArray.size {data:=#[32]}))
 (cond (decide (0≤0)&&decide (0 < ic (List.length (List.map IV.str (z4k (cutL s4 {data:=#[10]}) {data:=#[32]})))))
 (cond (ByteArray.toList (IV.toStr (List.getD (List.map IV.str (z4k (cutL s4 {data:=#[10]}) {data:=#[32]})) (Int.toNat 0) default))==ByteArray.toList {data:=#[115,117,109]})
 (cond (decide ((no7_1+1)*24≤z0d))
 (again ⟨[(2,(.ptr 2 0 0)),(4,(.str (y0s s4 {data:=#[10]}))),(7,(.ptr 7 0 0))],[(2,(some (.box [(.int .i64 xo2_0),.zs,(.int .i64 xo2_2),(.int .i64 xo2_3),(.int .i64 xo2_4),(.int .i64 xo2_5),(.int .i64 xo2_6),(.int .i64 xo2_7)]))),(7,(some (.box [(.int .i64 xo7_0),(.row 51 0 (no7_1+1)),(.int .i64 xo7_2),(.int .i64 xo7_3),(.int .i64 xo7_4),(.int .i64 xo7_5),(.int .i64 xo7_6),(.int .i64 xo7_7)]))),(51,(some (.row true 83 true z0q (List.take no7_1 lo51++[IV.agg [IV.bool true,IV.int 0,IV.int 0]]))))]⟩)
 none)
 (cond (decide ((no7_1+1)*24≤z0d))
 (again ⟨[(2,(.ptr 2 0 0)),(4,(.str (y0s s4 {data:=#[10]}))),(7,(.ptr 7 0 0))],[(2,(some (.box [(.int .i64 xo2_0),.zs,(.int .i64 xo2_2),(.int .i64 xo2_3),(.int .i64 xo2_4),(.int .i64 xo2_5),(.int .i64 xo2_6),(.int .i64 xo2_7)]))),(7,(some (.box [(.int .i64 xo7_0),(.row 51 0 (no7_1+1)),(.int .i64 xo7_2),(.int .i64 xo7_3),(.int .i64 xo7_4),(.int .i64 xo7_5),(.int .i64 xo7_6),(.int .i64 xo7_7)]))),(51,(some (.row true 83 true z0q (List.take no7_1 lo51++[IV.agg [IV.bool false,IV.int (z1j (List.map IV.str (z4k (cutL s4 {data:=#[10]}) {data:=#[32]})) 1),IV.int (z1j (List.map IV.str (z4k (cutL s4 {data:=#[10]}) {data:=#[32]})) 2)]]))))]⟩)
 none))
 none)
 none)
 none)
 (k (.exit 1) ⟨[(2,(.ptr 2 0 0)),(4,(.str s4)),(7,(.ptr 7 0 0))],[(2,(some (.box [(.int .i64 xo2_0),.zs,(.int .i64 xo2_2),(.int .i64 xo2_3),(.int .i64 xo2_4),(.int .i64 xo2_5),(.int .i64 xo2_6),(.int .i64 xo2_7)]))),(7,(some (.box [(.int .i64 xo7_0),(.row 51 0 no7_1),(.int .i64 xo7_2),(.int .i64 xo7_3),(.int .i64 xo7_4),(.int .i64 xo7_5),(.int .i64 xo7_6),(.int .i64 xo7_7)]))),(51,(some (.row true 83 true z0q lo51)))]⟩))
 (k (.exit 1) ⟨[(2,(.ptr 2 0 0)),(4,(.str s4)),(7,(.ptr 7 0 0))],[(2,(some (.box [(.int .i64 xo2_0),.zs,(.int .i64 xo2_2),(.int .i64 xo2_3),(.int .i64 xo2_4),(.int .i64 xo2_5),(.int .i64 xo2_6),(.int .i64 xo2_7)]))),(7,(some (.box [(.int .i64 xo7_0),(.row 51 0 no7_1),(.int .i64 xo7_2),(.int .i64 xo7_3),(.int .i64 xo7_4),(.int .i64 xo7_5),(.int .i64 xo7_6),(.int .i64 xo7_7)]))),(51,(some (.row true 83 true z0q lo51)))]⟩)):=by kernel_rfl
theorem z70 (N:Nat) (l6:List IV) (x66:Int) (xo2_0:Int) (xo2_2:Int) (xo2_3:Int) (xo2_4:Int) (xo2_5:Int) (xo2_6:Int) (xo2_7:Int) (xo7_0:Int) (xo7_2:Int) (xo7_3:Int) (xo7_4:Int) (xo7_5:Int) (xo7_6:Int) (xo7_7:Int) (again:St→Res) (k:Out→St→Res):rnd (z0m N) (z0l z0y [1,1,1,1,0,1,0,1,1,1,0,1,0,1,0,0])
 ⟨[(2,(.ptr 2 0 0)),(6,(.list false [.str] l6)),(7,(.ptr 7 0 0)),(66,(.int .i64 x66))],[(2,(some (.box [(.int .i64 xo2_0),.zs,(.int .i64 xo2_2),(.int .i64 xo2_3),(.int .i64 xo2_4),(.int .i64 xo2_5),(.int .i64 xo2_6),(.int .i64 xo2_7)]))),(7,(some (.box [(.int .i64 xo7_0),.zs,(.int .i64 xo7_2),(.int .i64 xo7_3),(.int .i64 xo7_4),(.int .i64 xo7_5),(.int .i64 xo7_6),(.int .i64 xo7_7)])))]⟩
 (z57 again ⟨[2,6,7,66],[2,7],[]⟩ k) =
 (cond (decide (x66 < 4))
 (cond (decide (0≤IntKind.wrap IntKind.i64 (2+x66)))
 (cond (decide (x66=ic 0))
 (again ⟨[(2,(.ptr 2 0 0)),(6,(.list false [.str] l6)),(7,(.ptr 7 0 0)),(66,(.int .i64 (IntKind.wrap IntKind.i64 (x66+1))))],[(2,(some (.box [(.int .i64 xo2_0),.zs,(.int .i64 xo2_2),(.int .i64 xo2_3),(.int .i64 xo2_4),(.int .i64 xo2_5),(.int .i64 xo2_6),(.int .i64 xo2_7)]))),(7,(some (.box [(.int .i64 xo7_0),.zs,(.int .i64 (z1j l6 (IntKind.wrap IntKind.i64 (2+x66)))),(.int .i64 xo7_3),(.int .i64 xo7_4),(.int .i64 xo7_5),(.int .i64 xo7_6),(.int .i64 xo7_7)])))]⟩)
 (cond (decide (x66=ic 1))
 (again ⟨[(2,(.ptr 2 0 0)),(6,(.list false [.str] l6)),(7,(.ptr 7 0 0)),(66,(.int .i64 (IntKind.wrap IntKind.i64 (x66+1))))],[(2,(some (.box [(.int .i64 xo2_0),.zs,(.int .i64 xo2_2),(.int .i64 xo2_3),(.int .i64 xo2_4),(.int .i64 xo2_5),(.int .i64 xo2_6),(.int .i64 xo2_7)]))),(7,(some (.box [(.int .i64 xo7_0),.zs,(.int .i64 xo7_2),(.int .i64 (z1j l6 (IntKind.wrap IntKind.i64 (2+x66)))),(.int .i64 xo7_4),(.int .i64 xo7_5),(.int .i64 xo7_6),(.int .i64 xo7_7)])))]⟩)
 (cond (decide (x66=ic 2))
 (again ⟨[(2,(.ptr 2 0 0)),(6,(.list false [.str] l6)),(7,(.ptr 7 0 0)),(66,(.int .i64 (IntKind.wrap IntKind.i64 (x66+1))))],[(2,(some (.box [(.int .i64 xo2_0),.zs,(.int .i64 xo2_2),(.int .i64 xo2_3),(.int .i64 xo2_4),(.int .i64 xo2_5),(.int .i64 xo2_6),(.int .i64 xo2_7)]))),(7,(some (.box [(.int .i64 xo7_0),.zs,(.int .i64 xo7_2),(.int .i64 xo7_3),(.int .i64 (z1j l6 (IntKind.wrap IntKind.i64 (2+x66)))),(.int .i64 xo7_5),(.int .i64 xo7_6),(.int .i64 xo7_7)])))]⟩)
 (cond (decide (x66=ic 3))
 (again ⟨[(2,(.ptr 2 0 0)),(6,(.list false [.str] l6)),(7,(.ptr 7 0 0)),(66,(.int .i64 (IntKind.wrap IntKind.i64 (x66+1))))],[(2,(some (.box [(.int .i64 xo2_0),.zs,(.int .i64 xo2_2),(.int .i64 xo2_3),(.int .i64 xo2_4),(.int .i64 xo2_5),(.int .i64 xo2_6),(.int .i64 xo2_7)]))),(7,(some (.box [(.int .i64 xo7_0),.zs,(.int .i64 xo7_2),(.int .i64 xo7_3),(.int .i64 xo7_4),(.int .i64 (z1j l6 (IntKind.wrap IntKind.i64 (2+x66)))),(.int .i64 xo7_6),(.int .i64 xo7_7)])))]⟩)
 none))))
 none)
 (k (.exit 3) ⟨[(2,(.ptr 2 0 0)),(6,(.list false [.str] l6)),(7,(.ptr 7 0 0)),(66,(.int .i64 x66))],[(2,(some (.box [(.int .i64 xo2_0),.zs,(.int .i64 xo2_2),(.int .i64 xo2_3),(.int .i64 xo2_4),(.int .i64 xo2_5),(.int .i64 xo2_6),(.int .i64 xo2_7)]))),(7,(some (.box [(.int .i64 xo7_0),.zs,(.int .i64 xo7_2),(.int .i64 xo7_3),(.int .i64 xo7_4),(.int .i64 xo7_5),(.int .i64 xo7_6),(.int .i64 xo7_7)])))]⟩)):=by kernel_rfl
theorem zox (N:Nat) (s4:ByteArray) (xo2_0:Int) (xo2_2:Int) (xo2_3:Int) (xo2_4:Int) (xo2_5:Int) (xo2_6:Int) (xo2_7:Int) (xo7_0:Int) (no7_1:Nat) (xo7_2:Int) (xo7_3:Int) (xo7_4:Int) (xo7_5:Int) (xo7_6:Int) (xo7_7:Int) (lo51:List IV):(z08 1 (z08 0 (kSq (z0m N) (z0l z0y [1,1,1,1,1]) (z2w (z0m N) none [(ResultVar.cell 2 45)] [[(.int .i64),(.list true z0q),(.int .i64),(.int .i64),(.int .i64),(.int .i64),(.int .i64),(.int .i64)]])))) (.exit 1)
 ⟨[(2,(.ptr 2 0 0)),(4,(.str s4)),(7,(.ptr 7 0 0))],[(2,(some (.box [(.int .i64 xo2_0),.zs,(.int .i64 xo2_2),(.int .i64 xo2_3),(.int .i64 xo2_4),(.int .i64 xo2_5),(.int .i64 xo2_6),(.int .i64 xo2_7)]))),(7,(some (.box [(.int .i64 xo7_0),(.row 51 0 no7_1),(.int .i64 xo7_2),(.int .i64 xo7_3),(.int .i64 xo7_4),(.int .i64 xo7_5),(.int .i64 xo7_6),(.int .i64 xo7_7)]))),(51,(some (.row true 83 true z0q lo51)))]⟩ =
 (some ((.agg [(.int .i64 xo7_0),(.list true z0q (List.drop 0 (List.take no7_1 lo51))),(.int .i64 xo7_2),(.int .i64 xo7_3),(.int .i64 xo7_4),(.int .i64 xo7_5),(.int .i64 xo7_6),(.int .i64 xo7_7)]),[])):=by kernel_rfl
theorem zp0 (N:Nat) (l6:List IV) (x66:Int) (xo2_0:Int) (xo2_2:Int) (xo2_3:Int) (xo2_4:Int) (xo2_5:Int) (xo2_6:Int) (xo2_7:Int) (xo7_0:Int) (xo7_2:Int) (xo7_3:Int) (xo7_4:Int) (xo7_5:Int) (xo7_6:Int) (xo7_7:Int):(z08 3 (kSq (z0m N) (z0l z0y [1,1,1,1,0,1,0,1,1,1,0,1,1]) (z08 0 (kSq (z0m N) (z0l z0y [1,1,1,1,1]) (z2w (z0m N) none [(ResultVar.cell 2 45)] [[(.int .i64),(.list true z0q),(.int .i64),(.int .i64),(.int .i64),(.int .i64),(.int .i64),(.int .i64)]]))))) (.exit 3)
 ⟨[(2,(.ptr 2 0 0)),(6,(.list false [.str] l6)),(7,(.ptr 7 0 0)),(66,(.int .i64 x66))],[(2,(some (.box [(.int .i64 xo2_0),.zs,(.int .i64 xo2_2),(.int .i64 xo2_3),(.int .i64 xo2_4),(.int .i64 xo2_5),(.int .i64 xo2_6),(.int .i64 xo2_7)]))),(7,(some (.box [(.int .i64 xo7_0),.zs,(.int .i64 xo7_2),(.int .i64 xo7_3),(.int .i64 xo7_4),(.int .i64 xo7_5),(.int .i64 xo7_6),(.int .i64 xo7_7)])))]⟩ =
 (some ((.agg [(.int .i64 xo7_0),(.list true z0q []),(.int .i64 xo7_2),(.int .i64 xo7_3),(.int .i64 xo7_4),(.int .i64 xo7_5),(.int .i64 (z1j l6 6)),(.int .i64 xo7_7)]),[])):=by kernel_rfl
def z5e (N:Nat):Env:=mkE [(28,zam),(29,zbo),(30,z3h)] [(9,⟨[2,3,25,26,27],[3],[]⟩)] 61 N
theorem zwe (N:Nat) (v:Vd):z16 (z5e N) z6f [.tmp 2] [[.str]] [(Vd.V v)] =
 (cond (!Vd.right v)
 (some ((.str ({data:=#[]})),[]))
 (cond (Vd.kind v==1)
 (cond (decide (ByteArray.size (z2o ByteArray.empty {data:=#[104,111,108,100,115]} [IV.int (Vd.spent v),IV.int (ic (List.length (Vd.proof v)))])≤strMax))
 (lpE (z5e N) (z0l z6f [1,1,1,0,1,0,1,0,1,1,0,0]) ⟨[2,3,25,26,27],[3],[]⟩ N ⟨[(2,(.str ({data:=#[]}))),(3,(.ptr 3 0 0)),(25,(.list true z0q (Vd.proof v))),(26,(.int .i64 (ic (List.length (Vd.proof v))))),(27,(.int .i64 0))],[(3,(some (.bld (z2o ByteArray.empty {data:=#[104,111,108,100,115]} [IV.int (Vd.spent v),IV.int (ic (List.length (Vd.proof v)))]))))]⟩ (z08 1 (z08 0 (kSq (z5e N) (z0l z6f [1,1,1,1]) (z2w (z5e N) none [(ResultVar.tmp 2)] [[.str]])))))
 none)
 (cond (Vd.kind v==2)
 (cond (decide (ByteArray.size (z2o ByteArray.empty {data:=#[102,97,105,108,115]} (List.drop 0 (List.take (1+4+1) (List.take (1+4) (List.take 1 [IV.int (Vd.spent v)]++[IV.int (Vd.w0 v),IV.int (Vd.w1 v),IV.int (Vd.w2 v),IV.int (Vd.w3 v)])++[IV.int (Vd.twin v)]))))≤strMax))
 (some ((.str (z2o ByteArray.empty {data:=#[102,97,105,108,115]} (List.drop 0 (List.take (1+4+1) (List.take (1+4) (List.take 1 [IV.int (Vd.spent v)]++[IV.int (Vd.w0 v),IV.int (Vd.w1 v),IV.int (Vd.w2 v),IV.int (Vd.w3 v)])++[IV.int (Vd.twin v)]))))),[]))
 none)
 (cond (Vd.kind v==3)
 (cond (decide (ByteArray.size (z2o ByteArray.empty {data:=#[117,110,107,110,111,119,110]} [IV.int (Vd.spent v)])≤strMax))
 (some ((.str (z2o ByteArray.empty {data:=#[117,110,107,110,111,119,110]} [IV.int (Vd.spent v)])),[]))
 none)
 (cond (decide (ByteArray.size (z2o ByteArray.empty {data:=#[119,114,111,110,103]} [IV.int (Vd.spent v)])≤strMax))
 (some ((.str (z2o ByteArray.empty {data:=#[119,114,111,110,103]} [IV.int (Vd.spent v)])),[]))
 none))))):=by kernel_rfl
theorem zhi (N:Nat) (s2:ByteArray) (l25:List IV) (x26:Int) (x27:Int) (so3:ByteArray) (again:St→Res) (k:Out→St→Res):rnd (z5e N) (z0l z6f [1,1,1,0,1,0,1,0,1,1,0,0])
 ⟨[(2,(.str s2)),(3,(.ptr 3 0 0)),(25,(.list true z0q l25)),(26,(.int .i64 x26)),(27,(.int .i64 x27))],[(3,(some (.bld so3)))]⟩
 (z57 again ⟨[2,3,25,26,27],[3],[]⟩ k) =
 (cond (decide (x27 < x26))
 (cond (decide (0≤x27)&&decide (x27 < ic (List.length l25)))
 (cond (IV.toBool (IV.cell (List.getD l25 (Int.toNat x27) default) 0))
 (cond (decide (ByteArray.size (z2o so3 {data:=#[115,117,109]} [])≤strMax))
 (again ⟨[(2,(.str s2)),(3,(.ptr 3 0 0)),(25,(.list true z0q l25)),(26,(.int .i64 x26)),(27,(.int .i64 (IntKind.wrap IntKind.i64 (x27+1))))],[(3,(some (.bld (z2o so3 {data:=#[115,117,109]} []))))]⟩)
 none)
 (cond (decide (ByteArray.size (z2o so3 {data:=#[99,117,116]} [IV.int (IV.toInt (IV.cell (List.getD l25 (Int.toNat x27) default) 1)),IV.int (IV.toInt (IV.cell (List.getD l25 (Int.toNat x27) default) 2))])≤strMax))
 (again ⟨[(2,(.str s2)),(3,(.ptr 3 0 0)),(25,(.list true z0q l25)),(26,(.int .i64 x26)),(27,(.int .i64 (IntKind.wrap IntKind.i64 (x27+1))))],[(3,(some (.bld (z2o so3 {data:=#[99,117,116]} [IV.int (IV.toInt (IV.cell (List.getD l25 (Int.toNat x27) default) 1)),IV.int (IV.toInt (IV.cell (List.getD l25 (Int.toNat x27) default) 2))]))))]⟩)
 none))
 none)
 (k (.exit 1) ⟨[(2,(.str s2)),(3,(.ptr 3 0 0)),(25,(.list true z0q l25)),(26,(.int .i64 x26)),(27,(.int .i64 x27))],[(3,(some (.bld so3)))]⟩)):=by kernel_rfl
theorem zmo (N:Nat) (s2:ByteArray) (l25:List IV) (x26:Int) (x27:Int) (so3:ByteArray):(z08 1 (z08 0 (kSq (z5e N) (z0l z6f [1,1,1,1]) (z2w (z5e N) none [(ResultVar.tmp 2)] [[.str]])))) (.exit 1)
 ⟨[(2,(.str s2)),(3,(.ptr 3 0 0)),(25,(.list true z0q l25)),(26,(.int .i64 x26)),(27,(.int .i64 x27))],[(3,(some (.bld so3)))]⟩ =
 (some ((.str so3),[])):=by kernel_rfl
def y03 (N:Nat):Env:=mkE [(11,z67),(27,zbp)] [] 17 N
theorem zz6 (N:Nat) (s:ByteArray):z16 (y03 N) zor [.cell 2 45,.tmp 3] [[.int .i64,.list true [.bool,.int .i64,.int .i64],.int .i64,.int .i64,.int .i64,.int .i64,.int .i64,.int .i64],[.bool]] [(.str s)] =
 (cond (decide (ByteArray.size s < 4294967281))
 (cond (ByteArray.toList s==ByteArray.toList {data:=#[]})
 (some ((.tup [(.agg [(.int .i64 0),(.list true z0q []),(.int .i64 0),(.int .i64 0),(.int .i64 0),(.int .i64 0),(.int .i64 0),(.int .i64 0)]),(.bool false)]),[]))
 (cond (decide (ByteArray.size (z0r (z91 s))≤strMax))
 (cond (!ByteArray.toList (z0r (z91 s))==ByteArray.toList s)
 (some ((.tup [(.agg [(.int .i64 0),(.list true z0q []),(.int .i64 0),(.int .i64 0),(.int .i64 0),(.int .i64 0),(.int .i64 0),(.int .i64 0)]),(.bool false)]),[]))
 (some ((.tup [(Vd.V (z91 s)),(.bool true)]),[])))
 none))
 none):=by kernel_rfl
open Go Go.Proofs
theorem ybt (s sep:ByteArray) (h:1≤sep.size):0 < ((z4k s sep).map IV.str).length:=by
  rw [List.length_map]
  unfold z4k
  rw [Lib.splitB_all sep h 0 _ s rfl]
  omega
theorem zv8 (s:ByteArray):decide (0 < ic (List.length (List.map IV.str (z4k s ygx))))=true:=decide_eq_true (by
  have:=ybt s ygx (by decide)
  simp only [ic]
  omega)
theorem zvd {s sep:ByteArray} (h:s.size < 4294967281):decide (ByteArray.size (cutL s sep) < 4294967281)=true:=decide_eq_true (by
  have:=(zrv s sep).1
  omega)
theorem yfg {s:ByteArray} (h:(s.toList==z2g.toList)=false):(y0s s y2b).size < s.size:=by
  have h0:0 < s.size:=by
    rcases Nat.eq_zero_or_pos s.size with e | e
    · exfalso
      have:s=z2g:=ByteArray.ext (Array.eq_empty_of_size_eq_zero e)
      rw [this] at h
      simp at h
    · exact e
  have h0:0 < s.data.toList.length:=h0
  show (Lib.cut s.data.toList y2b.data.toList).2.1.toArray.size < s.data.toList.length
  rw [List.size_toArray]
  unfold Lib.cut
  split
  · have e1:(y2b.data.toList).length=1:=rfl
    rw [List.length_drop,e1]
    omega
  · exact h0
theorem dsp:decide (1≤ByteArray.size ygx)=true:=rfl
theorem y5h (N:Nat) (a0 a2 a3 a4 a5 a6 a7 b0 b2 b3 b4 b5 b6 b7:Int) (K:Out→St→Res)
    (hx:∀ s (p:List IV),K (.exit 1) ⟨[(2,(.ptr 2 0 0)),(4,(.str s)),(7,(.ptr 7 0 0))],[(2,(some (.box [(.int .i64 a0),.zs,(.int .i64 a2),(.int .i64 a3),(.int .i64 a4),(.int .i64 a5),(.int .i64 a6),(.int .i64 a7)]))),(7,(some (.box [(.int .i64 b0),(.row 51 0 p.length),(.int .i64 b2),(.int .i64 b3),(.int .i64 b4),(.int .i64 b5),(.int .i64 b6),(.int .i64 b7)]))),(51,(some (.row true 83 true z0q p)))]⟩=some ((.agg [(.int .i64 b0),(.list true z0q (List.drop 0 (List.take p.length p))),(.int .i64 b2),(.int .i64 b3),(.int .i64 b4),(.int .i64 b5),(.int .i64 b6),(.int .i64 b7)]),[])) :
    ∀ (m n:Nat) (s:ByteArray) (p:List IV),s.size < m→m≤n→s.size < 4294967281 →
      lpE (z0m N) (z0l z0y [1,1,1,1,0,1,0,1,0,1,0,0]) ⟨[2,4,7],[2,7,51],[⟨(.cell 7 1),51,83,true,z0q⟩]⟩ n ⟨[(2,(.ptr 2 0 0)),(4,(.str s)),(7,(.ptr 7 0 0))],[(2,(some (.box [(.int .i64 a0),.zs,(.int .i64 a2),(.int .i64 a3),(.int .i64 a4),(.int .i64 a5),(.int .i64 a6),(.int .i64 a7)]))),(7,(some (.box [(.int .i64 b0),(.row 51 0 p.length),(.int .i64 b2),(.int .i64 b3),(.int .i64 b4),(.int .i64 b5),(.int .i64 b6),(.int .i64 b7)]))),(51,(some (.row true 83 true z0q p)))]⟩ K =
      some ((.agg [(.int .i64 b0),(.list true z0q (z92 m s p)),(.int .i64 b2),(.int .i64 b3),(.int .i64 b4),(.int .i64 b5),(.int .i64 b6),(.int .i64 b7)]),[])
  | m+1,n+1,s,p,hm,hn,hs=>by
    rw [z0b,zuq]
    have ep:List.drop 0 (List.take p.length p)=p:=by rw [List.drop_zero,List.take_length]
    have e65:decide (ic (p.length - 0)≤65536)=decide (p.length≤65536):=by
      rw [Bool.eq_iff_iff]
      simp only [decide_eq_true_eq,ic]
      omega
    unfold z92
    rw [e65]
    cases h1:(s.toList==z2g.toList) with
    | true=>
      simp only [Bool.not_true,z03,Bool.false_and]
      refine (hx s p).trans ?_
      rw [ep]
    | false=>
      simp only [Bool.not_false,z01,Bool.true_and]
      cases h2:decide (p.length≤65536) with
      | false=>
        simp only [z03]
        refine (hx s p).trans ?_
        rw [ep]
      | true=>
        have h2:=of_decide_eq_true h2
        simp only [z01]
        have hlt:=yfg h1
        rw [decide_eq_true hs,zvd hs,dsp,zv8]
        simp only [Nat.le_refl,decide_true,Bool.and_true,z01]
        rw [decide_eq_true (show (p.length+1)*24≤z0d by unfold z0d; omega)]
        simp only [z01]
        have el:∀ x:IV,p.length+1=(p++[x]).length:=fun x=>by
          rw [List.length_append]; rfl
        have ih:=fun x:IV=>y5h N a0 a2 a3 a4 a5 a6 a7 b0 b2 b3 b4 b5 b6 b7 K hx m n (y0s s y2b) (p++[x]) (by omega) (by omega) (by omega)
        unfold zii zcu
        have ez:Int.toNat 0=0:=rfl
        rw [ez]
        unfold z5d
        cases h3:(ByteArray.toList (IV.toStr (List.getD (List.map IV.str (z4k (cutL s y2b) ygx)) 0 default))==ByteArray.toList zup) with
        | true=>
          simp only [z01]
          rw [List.take_length,el]
          exact ih _
        | false=>
          simp only [z03]
          rw [List.take_length,el]
          exact ih _
  | 0,_,_,_,h,_,_=>by omega
  | _+1,0,_,_,_,h,_=>by omega
theorem yed {a b c:Int} (h:IntKind.wrap .i64 (a+b)=c):IntKind.wrap .i64 (a+b)=c:=h
theorem yez (N n:Nat) (l:List IV) (x w0 w1 w2 w3:Int) (K:Out→St→Res):lpE (z0m N) (z0l z0y [1,1,1,1,0,1,0,1,1,1,0,1,0,1,0,0]) ⟨[2,6,7,66],[2,7],[]⟩ (n+1) ⟨[(2,(.ptr 2 0 0)),(6,(.list false [.str] l)),(7,(.ptr 7 0 0)),(66,(.int .i64 0))],[(2,(some (.box [(.int .i64 0),.zs,(.int .i64 0),(.int .i64 0),(.int .i64 0),(.int .i64 0),(.int .i64 0),(.int .i64 0)]))),(7,(some (.box [(.int .i64 2),.zs,(.int .i64 w0),(.int .i64 w1),(.int .i64 w2),(.int .i64 w3),(.int .i64 0),(.int .i64 x)])))]⟩ K =
    lpE (z0m N) (z0l z0y [1,1,1,1,0,1,0,1,1,1,0,1,0,1,0,0]) ⟨[2,6,7,66],[2,7],[]⟩ n ⟨[(2,(.ptr 2 0 0)),(6,(.list false [.str] l)),(7,(.ptr 7 0 0)),(66,(.int .i64 1))],[(2,(some (.box [(.int .i64 0),.zs,(.int .i64 0),(.int .i64 0),(.int .i64 0),(.int .i64 0),(.int .i64 0),(.int .i64 0)]))),(7,(some (.box [(.int .i64 2),.zs,(.int .i64 (z1j l 2)),(.int .i64 w1),(.int .i64 w2),(.int .i64 w3),(.int .i64 0),(.int .i64 x)])))]⟩ K:=by
  rw [z0b,z70,yed (a:=2) (b:=0) (c:=2) rfl,yed (a:=0) (b:=1) (c:=1) rfl]
  simp only [show decide ((0:Int) < 4)=true from rfl,show decide ((0:Int)≤2)=true from rfl,show decide ((0:Int)=ic 0)=true from rfl,z01]
theorem ygj (N n:Nat) (l:List IV) (x w0 w1 w2 w3:Int) (K:Out→St→Res):lpE (z0m N) (z0l z0y [1,1,1,1,0,1,0,1,1,1,0,1,0,1,0,0]) ⟨[2,6,7,66],[2,7],[]⟩ (n+1) ⟨[(2,(.ptr 2 0 0)),(6,(.list false [.str] l)),(7,(.ptr 7 0 0)),(66,(.int .i64 1))],[(2,(some (.box [(.int .i64 0),.zs,(.int .i64 0),(.int .i64 0),(.int .i64 0),(.int .i64 0),(.int .i64 0),(.int .i64 0)]))),(7,(some (.box [(.int .i64 2),.zs,(.int .i64 w0),(.int .i64 w1),(.int .i64 w2),(.int .i64 w3),(.int .i64 0),(.int .i64 x)])))]⟩ K =
    lpE (z0m N) (z0l z0y [1,1,1,1,0,1,0,1,1,1,0,1,0,1,0,0]) ⟨[2,6,7,66],[2,7],[]⟩ n ⟨[(2,(.ptr 2 0 0)),(6,(.list false [.str] l)),(7,(.ptr 7 0 0)),(66,(.int .i64 2))],[(2,(some (.box [(.int .i64 0),.zs,(.int .i64 0),(.int .i64 0),(.int .i64 0),(.int .i64 0),(.int .i64 0),(.int .i64 0)]))),(7,(some (.box [(.int .i64 2),.zs,(.int .i64 w0),(.int .i64 (z1j l 3)),(.int .i64 w2),(.int .i64 w3),(.int .i64 0),(.int .i64 x)])))]⟩ K:=by
  rw [z0b,z70,yed (a:=2) (b:=1) (c:=3) rfl,yed (a:=1) (b:=1) (c:=2) rfl]
  simp only [show decide ((1:Int) < 4)=true from rfl,show decide ((0:Int)≤3)=true from rfl,show decide ((1:Int)=ic 0)=false from rfl,show decide ((1:Int)=ic 1)=true from rfl,z01,z03]
theorem yfr (N n:Nat) (l:List IV) (x w0 w1 w2 w3:Int) (K:Out→St→Res):lpE (z0m N) (z0l z0y [1,1,1,1,0,1,0,1,1,1,0,1,0,1,0,0]) ⟨[2,6,7,66],[2,7],[]⟩ (n+1) ⟨[(2,(.ptr 2 0 0)),(6,(.list false [.str] l)),(7,(.ptr 7 0 0)),(66,(.int .i64 2))],[(2,(some (.box [(.int .i64 0),.zs,(.int .i64 0),(.int .i64 0),(.int .i64 0),(.int .i64 0),(.int .i64 0),(.int .i64 0)]))),(7,(some (.box [(.int .i64 2),.zs,(.int .i64 w0),(.int .i64 w1),(.int .i64 w2),(.int .i64 w3),(.int .i64 0),(.int .i64 x)])))]⟩ K =
    lpE (z0m N) (z0l z0y [1,1,1,1,0,1,0,1,1,1,0,1,0,1,0,0]) ⟨[2,6,7,66],[2,7],[]⟩ n ⟨[(2,(.ptr 2 0 0)),(6,(.list false [.str] l)),(7,(.ptr 7 0 0)),(66,(.int .i64 3))],[(2,(some (.box [(.int .i64 0),.zs,(.int .i64 0),(.int .i64 0),(.int .i64 0),(.int .i64 0),(.int .i64 0),(.int .i64 0)]))),(7,(some (.box [(.int .i64 2),.zs,(.int .i64 w0),(.int .i64 w1),(.int .i64 (z1j l 4)),(.int .i64 w3),(.int .i64 0),(.int .i64 x)])))]⟩ K:=by
  rw [z0b,z70,yed (a:=2) (b:=2) (c:=4) rfl,yed (a:=2) (b:=1) (c:=3) rfl]
  simp only [show decide ((2:Int) < 4)=true from rfl,show decide ((0:Int)≤4)=true from rfl,show decide ((2:Int)=ic 0)=false from rfl,show decide ((2:Int)=ic 1)=false from rfl,show decide ((2:Int)=ic 2)=true from rfl,z01,z03]
theorem yfu (N n:Nat) (l:List IV) (x w0 w1 w2 w3:Int) (K:Out→St→Res):lpE (z0m N) (z0l z0y [1,1,1,1,0,1,0,1,1,1,0,1,0,1,0,0]) ⟨[2,6,7,66],[2,7],[]⟩ (n+1) ⟨[(2,(.ptr 2 0 0)),(6,(.list false [.str] l)),(7,(.ptr 7 0 0)),(66,(.int .i64 3))],[(2,(some (.box [(.int .i64 0),.zs,(.int .i64 0),(.int .i64 0),(.int .i64 0),(.int .i64 0),(.int .i64 0),(.int .i64 0)]))),(7,(some (.box [(.int .i64 2),.zs,(.int .i64 w0),(.int .i64 w1),(.int .i64 w2),(.int .i64 w3),(.int .i64 0),(.int .i64 x)])))]⟩ K =
    lpE (z0m N) (z0l z0y [1,1,1,1,0,1,0,1,1,1,0,1,0,1,0,0]) ⟨[2,6,7,66],[2,7],[]⟩ n ⟨[(2,(.ptr 2 0 0)),(6,(.list false [.str] l)),(7,(.ptr 7 0 0)),(66,(.int .i64 4))],[(2,(some (.box [(.int .i64 0),.zs,(.int .i64 0),(.int .i64 0),(.int .i64 0),(.int .i64 0),(.int .i64 0),(.int .i64 0)]))),(7,(some (.box [(.int .i64 2),.zs,(.int .i64 w0),(.int .i64 w1),(.int .i64 w2),(.int .i64 (z1j l 5)),(.int .i64 0),(.int .i64 x)])))]⟩ K:=by
  rw [z0b,z70,yed (a:=2) (b:=3) (c:=5) rfl,yed (a:=3) (b:=1) (c:=4) rfl]
  simp only [show decide ((3:Int) < 4)=true from rfl,show decide ((0:Int)≤5)=true from rfl,show decide ((3:Int)=ic 0)=false from rfl,show decide ((3:Int)=ic 1)=false from rfl,show decide ((3:Int)=ic 2)=false from rfl,show decide ((3:Int)=ic 3)=true from rfl,z01,z03]
theorem yg1 (N n:Nat) (l:List IV) (x w0 w1 w2 w3:Int):lpE (z0m N) (z0l z0y [1,1,1,1,0,1,0,1,1,1,0,1,0,1,0,0]) ⟨[2,6,7,66],[2,7],[]⟩ (n+1) ⟨[(2,(.ptr 2 0 0)),(6,(.list false [.str] l)),(7,(.ptr 7 0 0)),(66,(.int .i64 4))],[(2,(some (.box [(.int .i64 0),.zs,(.int .i64 0),(.int .i64 0),(.int .i64 0),(.int .i64 0),(.int .i64 0),(.int .i64 0)]))),(7,(some (.box [(.int .i64 2),.zs,(.int .i64 w0),(.int .i64 w1),(.int .i64 w2),(.int .i64 w3),(.int .i64 0),(.int .i64 x)])))]⟩ (z08 3 (kSq (z0m N) (z0l z0y [1,1,1,1,0,1,0,1,1,1,0,1,1]) (z08 0 (kSq (z0m N) (z0l z0y [1,1,1,1,1]) (z2w (z0m N) none [(ResultVar.cell 2 45)] [[(.int .i64),(.list true z0q),(.int .i64),(.int .i64),(.int .i64),(.int .i64),(.int .i64),(.int .i64)]]))))) =
    some ((.agg [(.int .i64 2),(.list true z0q []),(.int .i64 w0),(.int .i64 w1),(.int .i64 w2),(.int .i64 w3),(.int .i64 (z1j l 6)),(.int .i64 x)]),[]):=by
  rw [z0b,z70]
  simp only [show decide ((4:Int) < 4)=false from rfl,z03]
  exact zp0 N _ _ _ _ _ _ _ _ _ _ _ _ _ _ _ _
theorem y85 (N n:Nat) (l:List IV) (x:Int):lpE (z0m N) (z0l z0y [1,1,1,1,0,1,0,1,1,1,0,1,0,1,0,0]) ⟨[2,6,7,66],[2,7],[]⟩ (n+1+1+1+1+1) ⟨[(2,(.ptr 2 0 0)),(6,(.list false [.str] l)),(7,(.ptr 7 0 0)),(66,(.int .i64 0))],[(2,(some (.box [(.int .i64 0),.zs,(.int .i64 0),(.int .i64 0),(.int .i64 0),(.int .i64 0),(.int .i64 0),(.int .i64 0)]))),(7,(some (.box [(.int .i64 2),.zs,(.int .i64 0),(.int .i64 0),(.int .i64 0),(.int .i64 0),(.int .i64 0),(.int .i64 x)])))]⟩ (z08 3 (kSq (z0m N) (z0l z0y [1,1,1,1,0,1,0,1,1,1,0,1,1]) (z08 0 (kSq (z0m N) (z0l z0y [1,1,1,1,1]) (z2w (z0m N) none [(ResultVar.cell 2 45)] [[(.int .i64),(.list true z0q),(.int .i64),(.int .i64),(.int .i64),(.int .i64),(.int .i64),(.int .i64)]]))))) =
    some ((.agg [(.int .i64 2),(.list true z0q []),(.int .i64 (z1j l 2)),(.int .i64 (z1j l 3)),(.int .i64 (z1j l 4)),(.int .i64 (z1j l 5)),(.int .i64 (z1j l 6)),(.int .i64 x)]),[]):=
  (yez N (n+1+1+1+1) l x 0 0 0 0 _).trans ((ygj N (n+1+1+1) l x _ 0 0 0 _).trans ((yfr N (n+1+1) l x _ _ 0 0 _).trans ((yfu N (n+1) l x _ _ _ 0 _).trans (yg1 N n l x _ _ _ _))))
set_option maxRecDepth 100000 in
theorem zxx:z3n PR B0 27 zbp:=by
  refine z0o [(51,z8u),(49,zb4),(50,z8y)] [(7,⟨[2,4,7],[2,7,51],[⟨.cell 7 1,51,83,true,[.bool,.int .i64,.int .i64]⟩]⟩),(16,⟨[2,6,7,66],[2,7],[]⟩)] zbp [[.int .i64,.list true [.bool,.int .i64,.int .i64],.int .i64,.int .i64,.int .i64,.int .i64,.int .i64,.int .i64]] Tryz.func27 y4f ⟨zqb,zpy,zn4,trivial⟩ ?_
  intro vs r hwf h
  unfold zbp at h
  split at h
  · rename_i s
    refine ⟨s.size+1+1+1+1+1+1,?_⟩
    rw [← h]
    refine (zzs (s.size+1+1+1+1+1+1) s).trans ?_
    simp only [R.get_br,R.get_ok,R.get_no]
    cases hs:decide (s.size < 4294967281) with
    | false=>rfl
    | true=>
      have hs:=of_decide_eq_true hs
      simp only [z01]
      rw [zvd hs,dsp,zv8]
      simp only [Nat.le_refl,decide_true,Bool.and_true,z01]
      have ez:Int.toNat 0=0:=rfl
      rw [ez]
      unfold z91 zcu z5d
      have hlt:=(zrv s y2b).2
      generalize List.map IV.str (z4k (cutL s y2b) ygx)=l
      generalize (ByteArray.toList (IV.toStr (List.getD l 0 default))==ByteArray.toList z8s)=q1
      generalize (ByteArray.toList (IV.toStr (List.getD l 0 default))==ByteArray.toList zdg)=q2
      generalize (ByteArray.toList (IV.toStr (List.getD l 0 default))==ByteArray.toList z71)=q3
      generalize (ByteArray.toList (IV.toStr (List.getD l 0 default))==ByteArray.toList zdp)=q4
      cases q1
      · cases q2
        · cases q3
          · cases q4 <;> simp only [z01,z03]
          · simp only [z01,z03]
        · simp only [z01,z03]
          exact y85 _ (s.size+1) _ _
      · simp only [z01]
        exact y5h _ _ _ _ _ _ _ _ _ _ _ _ _ _ _ _ (fun s' p=>zox _ s' _ _ _ _ _ _ _ _ _ _ _ _ _ _ _ p) ((y0s s y2b).size+1) _ (y0s s y2b) [] (by omega) (by omega) (by omega)
  · simp [R.get] at h
theorem zvb (s w:ByteArray) (l:List IV):s.size≤(z2o s w l).size:=by
  unfold z2o
  have:=zia l (s++w)
  rw [ByteArray.size_append] at this
  rw [ByteArray.size_push]
  omega
theorem zbw:∀ (l:List IV) (s:ByteArray),s.size≤(z27 s l).size
  | [],s=>Nat.le_refl _
  | x :: l,s=>by
    unfold z27
    refine Nat.le_trans ?_ (zbw l _)
    cases z62 x
    · exact zvb _ _ _
    · exact zvb _ _ _
theorem zwd (N:Nat) (l:List IV) (t:ByteArray) (K:Out→St→Res) (hl:l.length≤65536)
    (hx:∀ s x26 x27,K (.exit 1) ⟨[(2,(.str t)),(3,(.ptr 3 0 0)),(25,(.list true z0q l)),(26,(.int .i64 x26)),(27,(.int .i64 x27))],[(3,(some (.bld s)))]⟩=some (.str s,[])) :
    ∀ (d i n:Nat) (s:ByteArray),i+d=l.length→d < n→(z27 s (l.drop i)).size≤strMax →
      lpE (z5e N) (z0l z6f [1,1,1,0,1,0,1,0,1,1,0,0]) ⟨[2,3,25,26,27],[3],[]⟩ n ⟨[(2,(.str t)),(3,(.ptr 3 0 0)),(25,(.list true z0q l)),(26,(.int .i64 (ic l.length))),(27,(.int .i64 (i:Int)))],[(3,(some (.bld s)))]⟩ K=some (.str (z27 s (l.drop i)),[])
  | 0,i,n+1,s,hd,_,_=>by
    rw [z0b,zhi,zcy (by omega),List.drop_of_length_le (l:=l) (i:=i) (by omega)]
    simp only [z03,z27]
    exact hx s _ _
  | d+1,i,n+1,s,hd,hn,hs=>by
    have hi:i < l.length:=by omega
    rw [z0b,zhi,zb1 hi,zjz,z68 (by omega),zc7 hi]
    rw [List.drop_eq_getElem_cons hi] at hs ⊢
    simp only [z27] at hs ⊢
    simp only [z01,Bool.and_true]
    have hsz:=zbw (l.drop (i+1)) (cond (z62 l[i]) (z2o s zup []) (z2o s y3x [.int (z0t l[i]),.int (zbk l[i])]))
    have ih:=fun s' h'=>zwd N l t K hl hx d (i+1) n s' (by omega) (by omega) h'
    have es:(l[i].cell 0).toBool=z62 l[i]:=rfl
    rw [es]
    cases hc:z62 l[i] with
    | true=>
      rw [hc] at hsz hs
      simp only [z01] at hsz hs ⊢
      rw [decide_eq_true (show (z2o s zup []).size≤strMax by omega)]
      simp only [z01]
      exact ih _ hs
    | false=>
      rw [hc] at hsz hs
      simp only [z03] at hsz hs ⊢
      have e2:[IV.int (IV.toInt (IV.cell l[i] 1)),IV.int (IV.toInt (IV.cell l[i] 2))]=[.int (z0t l[i]),.int (zbk l[i])]:=rfl
      rw [e2,decide_eq_true (show (z2o s y3x [.int (z0t l[i]),.int (zbk l[i])]).size≤strMax by omega)]
      simp only [z01]
      exact ih _ hs
  | 0,_,0,_,_,h,_=>by omega
  | _+1,_,0,_,_,h,_=>by omega
theorem y9e {v:Vd} (h:v.right=true):v.proof.length≤65536:=by
  unfold Vd.right at h
  simp only [Bool.and_eq_true,Bool.or_eq_true] at h
  rcases h.2.2 with h1 | h1 | h1
  · have:=h1.2.2
    unfold zg8 at this
    simp only [Bool.and_eq_true,decide_eq_true_eq] at this
    exact this.2.1
  · have:=h1.2
    cases hp:v.proof with
    | nil=>simp
    | cons a b=>rw [hp] at this; cases this
  · have:=h1.2.2
    cases hp:v.proof with
    | nil=>simp
    | cons a b=>rw [hp] at this; cases this
set_option maxRecDepth 100000 in
theorem zix:z3n PR B0 11 z67:=by
  refine z0o [(28,zam),(29,zbo),(30,z3h)] [(9,⟨[2,3,25,26,27],[3],[]⟩)] z67 [[.str]] Tryz.func11 zzq ⟨zu6,zyy,zcc,trivial⟩ ?_
  intro vs r hwf h
  unfold z67 at h
  split at h
  · rename_i k p a b c d t s
    obtain ⟨v,hv⟩:∃ v:Vd,v=⟨k,p,a,b,c,d,t,s⟩:=⟨_,rfl⟩
    refine ⟨v.proof.length+1,?_⟩
    rw [← h]
    rw [← hv] at h ⊢
    have hn:=zwe (v.proof.length+1) v
    rw [show Vd.V v = .agg [.int .i64 k,.list true [.bool,.int .i64,.int .i64] p,.int .i64 a,.int .i64 b,.int .i64 c,.int .i64 d,.int .i64 t,.int .i64 s] by rw [hv]; rfl] at hn
    refine hn.trans ?_
    clear hn
    rw [R.get_br,R.get_ok,R.get_no] at h
    simp only [R.get_br,R.get_ok,R.get_no]
    cases hc:decide ((z0r v).size≤strMax) with
    | false=>rw [hc] at h; cases h
    | true=>
      have hle:=of_decide_eq_true hc
      simp only [z01]
      unfold z0r at hle ⊢
      cases hr:Vd.right v with
      | false=>rfl
      | true=>
        rw [hr] at hle
        simp only [Bool.not_true,z01,z03] at hle ⊢
        have e0:ByteArray.empty=z2g:=rfl
        simp only [e0]
        cases k1:v.kind==1 with
        | true=>
          rw [k1] at hle
          simp only [z01] at hle ⊢
          have h1:=zbw v.proof (z2o z2g z8s [.int v.spent,.int (ic v.proof.length)])
          rw [decide_eq_true (show (z2o z2g z8s [.int v.spent,.int (ic v.proof.length)]).size≤strMax by omega)]
          simp only [z01]
          have:=zwd (v.proof.length+1) v.proof z2g _ (y9e hr) (fun s' x26 x27=>zmo (v.proof.length+1) z2g v.proof x26 x27 s') v.proof.length 0 (v.proof.length+1) (z2o z2g z8s [.int v.spent,.int (ic v.proof.length)]) (by omega) (by omega) (by rw [List.drop_zero]; exact hle)
          rw [List.drop_zero] at this
          exact this
        | false=>
          rw [k1] at hle
          simp only [z03] at hle ⊢
          cases k2:v.kind==2 with
          | true=>
            rw [k2] at hle
            simp only [z01] at hle ⊢
            have ew:(List.drop 0 (List.take (1+4+1) (List.take (1+4) (List.take 1 [IV.int (Vd.spent v)]++[IV.int (Vd.w0 v),IV.int (Vd.w1 v),IV.int (Vd.w2 v),IV.int (Vd.w3 v)])++[IV.int (Vd.twin v)])))=[.int v.spent,.int v.w0,.int v.w1,.int v.w2,.int v.w3,.int v.twin]:=rfl
            rw [ew,decide_eq_true hle]
            rfl
          | false=>
            rw [k2] at hle
            simp only [z03] at hle ⊢
            cases k3:v.kind==3 with
            | true=>
              rw [k3] at hle
              simp only [z01] at hle ⊢
              rw [decide_eq_true hle]
              rfl
            | false=>
              rw [k3] at hle
              simp only [z03] at hle ⊢
              rw [decide_eq_true hle]
              rfl
  · simp [R.get] at h
set_option maxRecDepth 100000 in
theorem zto:z3n PR B0 10 zan:=by
  refine z0o [(11,z67),(27,zbp)] [] zan [[.int .i64,.list true [.bool,.int .i64,.int .i64],.int .i64,.int .i64,.int .i64,.int .i64,.int .i64,.int .i64],[.bool]] Tryz.func10 y1f ⟨zix,zxx,trivial⟩ ?_
  intro vs r hwf h
  unfold zan at h
  split at h
  · rename_i s
    refine ⟨0,?_⟩
    rw [← h]
    refine (zz6 0 s).trans ?_
    simp only [R.get_br,R.get_ok,R.get_no] at h ⊢
    cases h1:decide (s.size < 4294967281) with
    | false=>rfl
    | true=>
      rw [h1] at h
      simp only [z01] at h ⊢
      cases h2:decide ((z0r (z91 s)).size≤strMax) with
      | false=>rw [h2] at h; cases h
      | true=>
        simp only [z01]
        unfold zdb zdi
        cases h3:(s.toList==z2g.toList) with
        | true=>rfl
        | false=>
          cases h4:((z0r (z91 s)).toList==s.toList) with
          | true=>rfl
          | false=>rfl
  · simp [R.get] at h
open Go Go.Proofs
theorem y0h (N:Nat) (l m:List IV) (K:Out→St→Res) (hlm:l.length=m.length) (hl:l.length≤strMax)
    (hx:∀ b4 x5,K (.exit 0) ⟨[(0,(.list true z0q l)),(1,(.list true z0q m)),(4,(.bool b4)),(5,(.int .i64 x5))],[]⟩=some (.bool true,[]))
    (hr:∀ b4 x5,K .ret ⟨[(0,(.list true z0q l)),(1,(.list true z0q m)),(4,(.bool b4)),(5,(.int .i64 x5))],[]⟩=some (.bool b4,[])) :
    ∀ (d i n:Nat),i+d=l.length→d < n→lpE (z0u N) (z0l z18 [1,1,0,1,0,0]) ⟨[0,1,4,5],[],[]⟩ n ⟨[(0,(.list true z0q l)),(1,(.list true z0q m)),(4,(.bool false)),(5,(.int .i64 (i:Int)))],[]⟩ K=some (.bool (z4i (l.drop i) (m.drop i)),[])
  | 0,i,n+1,hd,_=>by
    rw [z0b,z6j,zcy (by omega),List.drop_of_length_le (by omega),List.drop_of_length_le (by omega)]
    simp only [cond_false,z4i]
    exact hx ..
  | d+1,i,n+1,hd,hn=>by
    have hi:i < l.length:=by omega
    have hm:i < m.length:=by omega
    unfold strMax at hl
    rw [z0b,z6j,zb1 hi,zb1 hm,zjz,z68 (by omega),zc7 hi,zc7 hm,List.drop_eq_getElem_cons hi,List.drop_eq_getElem_cons hm]
    generalize l[i]=x
    generalize m[i]=y
    have ih:=y0h N l m K hlm (by unfold strMax; omega) hx hr d (i+1) n (by omega) (by omega)
    rw [ih]
    simp only [z4i]
    generalize z4i (List.drop (i+1) l) (List.drop (i+1) m)=rest
    unfold yh1 z62 z0t zbk
    simp only [cond_true,Bool.and_true]
    cases IV.toBool (IV.cell x 0)==IV.toBool (IV.cell y 0) <;> cases IV.toInt (IV.cell x 1)==IV.toInt (IV.cell y 1) <;> cases IV.toInt (IV.cell x 2)==IV.toInt (IV.cell y 2) <;>
      (simp only [cond_true,cond_false,Bool.not_true,Bool.not_false,Bool.and_true,Bool.and_false,Bool.true_and,Bool.false_and,hr]
       try rfl)
  | 0,_,0,_,h=>by omega
  | _+1,_,0,_,h=>by omega
theorem zon:∀ {l m:List IV},z4i l m=true→l.length=m.length
  | [],[],_=>rfl
  | [],_ :: _,h=>by simp [z4i] at h
  | _ :: _,[],h=>by simp [z4i] at h
  | x :: l,y :: m,h=>by
    simp only [z4i,Bool.and_eq_true] at h
    simp [zon h.2]
set_option maxRecDepth 100000 in
theorem zcd:z3n PR B0 31 z2j:=by
  refine z0o [] [(4,⟨[0,1,4,5],[],[]⟩)] z2j [[.bool]] Tryz.func31 ze4 trivial ?_
  intro vs r hwf h
  unfold z2j at h
  split at h
  · rename_i l m
    rw [R.get_ok] at h
    refine ⟨l.length+1,?_⟩
    rw [← h]
    refine (zdf (l.length+1) l m).trans ?_
    have hl:=(hwf (by simp [zhk])).1
    simp only [wfV,wfL] at hl
    by_cases hlm:l.length=m.length
    · have e:(ic l.length != ic m.length)=false:=by simp [ic,hlm]
      rw [e]
      simp only [cond_false]
      have:=y0h (l.length+1) l m _ hlm hl.1 (fun b4 x5=>zax (l.length+1) l m b4 x5) (fun b4 x5=>zas (l.length+1) l m b4 x5) l.length 0 (l.length+1) (by omega) (by omega)
      rw [List.drop_zero,List.drop_zero] at this
      exact this
    · have e:(ic l.length != ic m.length)=true:=by simp [ic]; omega
      rw [e]
      have:z4i l m=false:=by
        cases hs:z4i l m with
        | false=>rfl
        | true=>exact absurd (zon hs) hlm
      rw [this]
      rfl
  · simp [R.get] at h
set_option maxRecDepth 100000 in
theorem zgl:z3n PR B0 12 z3q:=by
  refine z0o [(31,z2j)] [] z3q [[.bool]] Tryz.func12 zim ⟨zcd,trivial⟩ ?_
  intro vs r hwf h
  unfold z3q at h
  split at h
  · rename_i k p a b c d t s k' p' a' b' c' d' t' s'
    rw [R.get_ok] at h
    refine ⟨0,?_⟩
    rw [← h]
    refine (zh2 0 ⟨k,p,a,b,c,d,t,s⟩ ⟨k',p',a',b',c',d',t',s'⟩).trans ?_
    simp only [yeo,Bool.and_true]
    cases k==k'
    · rfl
    cases z4i p p'
    · rfl
    cases a==a' <;> cases b==b' <;> cases c==c' <;> cases d==d' <;> cases t==t' <;> rfl
  · simp [R.get] at h
open Go Go.Proofs
def z04 (N:Nat):Env:=mkE [(6,z0z),(14,z2e),(33,z3o)] [(4,⟨[1,2,4,5,6,7],[2,500,501],[⟨.tmp 5,500,87,true,[.bool,.int .i64,.int .i64,.int .i64,.int .i64,.int .i64]⟩,⟨.tmp 6,501,3,false,[.int .i64]⟩]⟩),(14,⟨[4,11,100,101,102],[500,502],[⟨.tmp 11,502,89,false,[.int .u64]⟩]⟩)] 113 N
theorem zfm (N:Nat) (t_Class:Int) (t_Part:List IV) (t_By:List IV) (t_At:List IV) (t_Val:List IV) (a1:Int):z16 (z04 N) z0g [.tmp 4] [[.list false [.int .u64]]] [(.agg [(.int .i64 t_Class),(.list false [.int .i64] t_Part),(.list false [.int .i64] t_By),(.list false [.int .i64] t_At),(.list false [.int .i64] t_Val)]),(.int .i64 a1)] =
 (lpE (z04 N) (z0l z0g [1,1,1,0,1,0,0]) ⟨[1,2,4,5,6,7],[2,500,501],[⟨(.tmp 5),500,87,true,[.bool,(.int .i64),(.int .i64),(.int .i64),(.int .i64),(.int .i64)]⟩,⟨(.tmp 6),501,3,false,[(.int .i64)]⟩]⟩ N ⟨[(1,(.int .i64 a1)),(2,(.ptr 2 0 0)),(4,.zs),(5,(.row 500 0 1)),(6,(.row 501 0 1)),(7,(.int .i64 0))],[(2,(some (.box [(.int .i64 t_Class),(.list false [(.int .i64)] t_Part),(.list false [(.int .i64)] t_By),(.list false [(.int .i64)] t_At),(.list false [(.int .i64)] t_Val)]))),(500,(some (.row true 87 true [.bool,(.int .i64),(.int .i64),(.int .i64),(.int .i64),(.int .i64)] [(IV.agg [IV.bool true,IV.int (z00 (z1x t_Val 0) (-3000) 3000),IV.int 0,IV.int 0,IV.int 0,IV.int 0])]))),(501,(some (.row true 3 false [(.int .i64)] [(IV.int 0)])))]⟩ (z08 0 (kSq (z04 N) (z0l z0g [1,1,1,1]) (z2w (z04 N) none [(ResultVar.tmp 4)] [[(.list false [(.int .u64)])]])))):=by kernel_rfl
theorem z73 (N:Nat) (x1:Int) (n5:Nat) (n6:Nat) (x7:Int) (xo2_0:Int) (lo2_1:List IV) (lo2_2:List IV) (lo2_3:List IV) (lo2_4:List IV) (lo500:List IV) (lo501:List IV) (again:St→Res) (k:Out→St→Res):rnd (z04 N) (z0l z0g [1,1,1,0,1,0,0])
 ⟨[(1,(.int .i64 x1)),(2,(.ptr 2 0 0)),(4,.zs),(5,(.row 500 0 n5)),(6,(.row 501 0 n6)),(7,(.int .i64 x7))],[(2,(some (.box [(.int .i64 xo2_0),(.list false [(.int .i64)] lo2_1),(.list false [(.int .i64)] lo2_2),(.list false [(.int .i64)] lo2_3),(.list false [(.int .i64)] lo2_4)]))),(500,(some (.row true 87 true [.bool,(.int .i64),(.int .i64),(.int .i64),(.int .i64),(.int .i64)] lo500))),(501,(some (.row true 3 false [(.int .i64)] lo501)))]⟩
 (z57 again ⟨[1,2,4,5,6,7],[2,500,501],[⟨(.tmp 5),500,87,true,[.bool,(.int .i64),(.int .i64),(.int .i64),(.int .i64),(.int .i64)]⟩,⟨(.tmp 6),501,3,false,[(.int .i64)]⟩]⟩ k) =
 (cond (decide (x7 < ic (List.length lo2_1)))
 (cond (decide (x7 < 7))
 (cond (decide (0≤x7)&&decide (x7 < ic (List.length lo2_1)))
 (cond (decide (z8l 0 (IntKind.wrap IntKind.i64 (ic (n6 - 0) - 1))=0))
 none
 (cond (decide (0≤z00 (IV.toInt (List.getD lo2_1 (Int.toNat x7) default)) 0 (IntKind.wrap IntKind.i64 (ic (n6 - 0) - 1)))&&decide (z00 (IV.toInt (List.getD lo2_1 (Int.toNat x7) default)) 0 (IntKind.wrap IntKind.i64 (ic (n6 - 0) - 1)) < ic (n6 - 0)))
 (cond (decide (0≤x7))
 (cond (decide (z8l 0 (IntKind.wrap IntKind.i64 (x1 - 1))=0))
 none
 (cond (decide (0≤x7))
 (cond (decide (0≤IV.toInt (List.getD lo501 (0+Int.toNat (z00 (IV.toInt (List.getD lo2_1 (Int.toNat x7) default)) 0 (IntKind.wrap IntKind.i64 (ic (n6 - 0) - 1)))) default))&&decide (IV.toInt (List.getD lo501 (0+Int.toNat (z00 (IV.toInt (List.getD lo2_1 (Int.toNat x7) default)) 0 (IntKind.wrap IntKind.i64 (ic (n6 - 0) - 1)))) default) < ic (n5 - 0)))
 (cond (decide (0≤IntKind.wrap IntKind.i64 (IntKind.wrap IntKind.i64 (2*x7)+1)))
 (cond (decide (0≤IntKind.wrap IntKind.i64 (IntKind.wrap IntKind.i64 (2*x7)+2)))
 (cond (decide ((n5+List.length (List.drop 0 (List.take 2 [IV.agg [IV.bool true,IV.int (z00 (z1x lo2_4 (IntKind.wrap IntKind.i64 (IntKind.wrap IntKind.i64 (2*x7)+1))) (-3000) 3000),IV.int 0,IV.int 0,IV.int 0,IV.int 0],IV.agg [IV.bool true,IV.int (z00 (z1x lo2_4 (IntKind.wrap IntKind.i64 (IntKind.wrap IntKind.i64 (2*x7)+2))) (-3000) 3000),IV.int 0,IV.int 0,IV.int 0,IV.int 0]])))*TI.bytes (Env.tyd (z04 N) 87)≤z0d))
 (cond (decide (0≤z00 (IV.toInt (List.getD lo2_1 (Int.toNat x7) default)) 0 (IntKind.wrap IntKind.i64 (ic (n6 - 0) - 1)))&&decide (z00 (IV.toInt (List.getD lo2_1 (Int.toNat x7) default)) 0 (IntKind.wrap IntKind.i64 (ic (n6 - 0) - 1))≤ic (n6 - 0)))
 (cond (decide ((0+List.length (List.drop 0 (List.take (0+Int.toNat (z00 (IV.toInt (List.getD lo2_1 (Int.toNat x7) default)) 0 (IntKind.wrap IntKind.i64 (ic (n6 - 0) - 1)))) lo501)))*TI.bytes (Env.tyd (z04 N) 3)≤z0d))
 (cond (decide (0≤IntKind.wrap IntKind.i64 (z00 (IV.toInt (List.getD lo2_1 (Int.toNat x7) default)) 0 (IntKind.wrap IntKind.i64 (ic (n6 - 0) - 1))+1))&&decide (IntKind.wrap IntKind.i64 (z00 (IV.toInt (List.getD lo2_1 (Int.toNat x7) default)) 0 (IntKind.wrap IntKind.i64 (ic (n6 - 0) - 1))+1)≤ic (n6 - 0)))
 (cond (decide ((0+List.length (List.drop 0 (List.take (0+Int.toNat (z00 (IV.toInt (List.getD lo2_1 (Int.toNat x7) default)) 0 (IntKind.wrap IntKind.i64 (ic (n6 - 0) - 1)))) lo501))+List.length (List.drop (0+Int.toNat (IntKind.wrap IntKind.i64 (z00 (IV.toInt (List.getD lo2_1 (Int.toNat x7) default)) 0 (IntKind.wrap IntKind.i64 (ic (n6 - 0) - 1))+1))) (List.take (0+(n6 - 0)) lo501)))*TI.bytes (Env.tyd (z04 N) 3)≤z0d))
 (cond (decide ((0+List.length (List.drop 0 (List.take (0+Int.toNat (z00 (IV.toInt (List.getD lo2_1 (Int.toNat x7) default)) 0 (IntKind.wrap IntKind.i64 (ic (n6 - 0) - 1)))) lo501))+List.length (List.drop (0+Int.toNat (IntKind.wrap IntKind.i64 (z00 (IV.toInt (List.getD lo2_1 (Int.toNat x7) default)) 0 (IntKind.wrap IntKind.i64 (ic (n6 - 0) - 1))+1))) (List.take (0+(n6 - 0)) lo501))+List.length (List.drop 0 (List.take 2 [IV.int (ic (n5 - 0)),IV.int (IntKind.wrap IntKind.i64 (ic (n5 - 0)+1))])))*TI.bytes (Env.tyd (z04 N) 3)≤z0d))
 (again ⟨[(1,(.int .i64 x1)),(2,(.ptr 2 0 0)),(4,.zs),(5,(.row 500 0 (n5+List.length (List.drop 0 (List.take 2 [IV.agg [IV.bool true,IV.int (z00 (z1x lo2_4 (IntKind.wrap IntKind.i64 (IntKind.wrap IntKind.i64 (2*x7)+1))) (-3000) 3000),IV.int 0,IV.int 0,IV.int 0,IV.int 0],IV.agg [IV.bool true,IV.int (z00 (z1x lo2_4 (IntKind.wrap IntKind.i64 (IntKind.wrap IntKind.i64 (2*x7)+2))) (-3000) 3000),IV.int 0,IV.int 0,IV.int 0,IV.int 0]]))))),(6,(.row 501 0 (0+List.length (List.drop 0 (List.take (0+Int.toNat (z00 (IV.toInt (List.getD lo2_1 (Int.toNat x7) default)) 0 (IntKind.wrap IntKind.i64 (ic (n6 - 0) - 1)))) lo501))+List.length (List.drop (0+Int.toNat (IntKind.wrap IntKind.i64 (z00 (IV.toInt (List.getD lo2_1 (Int.toNat x7) default)) 0 (IntKind.wrap IntKind.i64 (ic (n6 - 0) - 1))+1))) (List.take (0+(n6 - 0)) lo501))+List.length (List.drop 0 (List.take 2 [IV.int (ic (n5 - 0)),IV.int (IntKind.wrap IntKind.i64 (ic (n5 - 0)+1))]))))),(7,(.int .i64 (IntKind.wrap IntKind.i64 (x7+1))))],[(2,(some (.box [(.int .i64 xo2_0),(.list false [(.int .i64)] lo2_1),(.list false [(.int .i64)] lo2_2),(.list false [(.int .i64)] lo2_3),(.list false [(.int .i64)] lo2_4)]))),(500,(some (.row true 87 true [.bool,(.int .i64),(.int .i64),(.int .i64),(.int .i64),(.int .i64)] (List.take n5 (List.set lo500 (0+Int.toNat (IV.toInt (List.getD lo501 (0+Int.toNat (z00 (IV.toInt (List.getD lo2_1 (Int.toNat x7) default)) 0 (IntKind.wrap IntKind.i64 (ic (n6 - 0) - 1)))) default))) (znp true [Kd.bool,Kd.int IntKind.i64,Kd.int IntKind.i64,Kd.int IntKind.i64,Kd.int IntKind.i64,Kd.int IntKind.i64] (List.getD lo500 (0+Int.toNat (IV.toInt (List.getD lo501 (0+Int.toNat (z00 (IV.toInt (List.getD lo2_1 (Int.toNat x7) default)) 0 (IntKind.wrap IntKind.i64 (ic (n6 - 0) - 1)))) default))) default) 0 [IV.bool false,IV.int 0,IV.int (z00 (z1x lo2_2 x7) 0 (IntKind.wrap IntKind.i64 (x1 - 1))),IV.int (z00 (z1x lo2_3 x7) 0 9),IV.int (ic (n5 - 0)),IV.int (IntKind.wrap IntKind.i64 (ic (n5 - 0)+1))]))++List.drop 0 (List.take 2 [IV.agg [IV.bool true,IV.int (z00 (z1x lo2_4 (IntKind.wrap IntKind.i64 (IntKind.wrap IntKind.i64 (2*x7)+1))) (-3000) 3000),IV.int 0,IV.int 0,IV.int 0,IV.int 0],IV.agg [IV.bool true,IV.int (z00 (z1x lo2_4 (IntKind.wrap IntKind.i64 (IntKind.wrap IntKind.i64 (2*x7)+2))) (-3000) 3000),IV.int 0,IV.int 0,IV.int 0,IV.int 0]]))))),(501,(some (.row true 3 false [(.int .i64)] (List.take (0+List.length (List.drop 0 (List.take (0+Int.toNat (z00 (IV.toInt (List.getD lo2_1 (Int.toNat x7) default)) 0 (IntKind.wrap IntKind.i64 (ic (n6 - 0) - 1)))) lo501))+List.length (List.drop (0+Int.toNat (IntKind.wrap IntKind.i64 (z00 (IV.toInt (List.getD lo2_1 (Int.toNat x7) default)) 0 (IntKind.wrap IntKind.i64 (ic (n6 - 0) - 1))+1))) (List.take (0+(n6 - 0)) lo501))) (List.take (0+List.length (List.drop 0 (List.take (0+Int.toNat (z00 (IV.toInt (List.getD lo2_1 (Int.toNat x7) default)) 0 (IntKind.wrap IntKind.i64 (ic (n6 - 0) - 1)))) lo501))) (List.take 0 []++List.drop 0 (List.take (0+Int.toNat (z00 (IV.toInt (List.getD lo2_1 (Int.toNat x7) default)) 0 (IntKind.wrap IntKind.i64 (ic (n6 - 0) - 1)))) lo501))++List.drop (0+Int.toNat (IntKind.wrap IntKind.i64 (z00 (IV.toInt (List.getD lo2_1 (Int.toNat x7) default)) 0 (IntKind.wrap IntKind.i64 (ic (n6 - 0) - 1))+1))) (List.take (0+(n6 - 0)) lo501))++List.drop 0 (List.take 2 [IV.int (ic (n5 - 0)),IV.int (IntKind.wrap IntKind.i64 (ic (n5 - 0)+1))])))))]⟩)
 none)
 none)
 none)
 none)
 none)
 none)
 none)
 none)
 none)
 none))
 none)
 none))
 none)
 (k (.exit 0) ⟨[(1,(.int .i64 x1)),(2,(.ptr 2 0 0)),(4,.zs),(5,(.row 500 0 n5)),(6,(.row 501 0 n6)),(7,(.int .i64 x7))],[(2,(some (.box [(.int .i64 xo2_0),(.list false [(.int .i64)] lo2_1),(.list false [(.int .i64)] lo2_2),(.list false [(.int .i64)] lo2_3),(.list false [(.int .i64)] lo2_4)]))),(500,(some (.row true 87 true [.bool,(.int .i64),(.int .i64),(.int .i64),(.int .i64),(.int .i64)] lo500))),(501,(some (.row true 3 false [(.int .i64)] lo501)))]⟩))
 (k (.exit 0) ⟨[(1,(.int .i64 x1)),(2,(.ptr 2 0 0)),(4,.zs),(5,(.row 500 0 n5)),(6,(.row 501 0 n6)),(7,(.int .i64 x7))],[(2,(some (.box [(.int .i64 xo2_0),(.list false [(.int .i64)] lo2_1),(.list false [(.int .i64)] lo2_2),(.list false [(.int .i64)] lo2_3),(.list false [(.int .i64)] lo2_4)]))),(500,(some (.row true 87 true [.bool,(.int .i64),(.int .i64),(.int .i64),(.int .i64),(.int .i64)] lo500))),(501,(some (.row true 3 false [(.int .i64)] lo501)))]⟩)):=by kernel_rfl
theorem zc6 (N:Nat) (x1:Int) (n5:Nat) (n6:Nat) (x7:Int) (xo2_0:Int) (lo2_1:List IV) (lo2_2:List IV) (lo2_3:List IV) (lo2_4:List IV) (lo500:List IV) (lo501:List IV):(z08 0 (kSq (z04 N) (z0l z0g [1,1,1,1]) (z2w (z04 N) none [(ResultVar.tmp 4)] [[(.list false [(.int .u64)])]]))) (.exit 0)
 ⟨[(1,(.int .i64 x1)),(2,(.ptr 2 0 0)),(4,.zs),(5,(.row 500 0 n5)),(6,(.row 501 0 n6)),(7,(.int .i64 x7))],[(2,(some (.box [(.int .i64 xo2_0),(.list false [(.int .i64)] lo2_1),(.list false [(.int .i64)] lo2_2),(.list false [(.int .i64)] lo2_3),(.list false [(.int .i64)] lo2_4)]))),(500,(some (.row true 87 true [.bool,(.int .i64),(.int .i64),(.int .i64),(.int .i64),(.int .i64)] lo500))),(501,(some (.row true 3 false [(.int .i64)] lo501)))]⟩ =
 (lpE (z04 N) (z0l z0g [1,1,1,1,1,0,1,0,0]) ⟨[4,11,100,101,102],[500,502],[⟨(.tmp 11),502,89,false,[(.int .u64)]⟩]⟩ N ⟨[(4,.zs),(11,(.row 502 0 0)),(100,(.row 500 0 n5)),(101,(.int .i64 (ic (n5 - 0)))),(102,(.int .i64 0))],[(500,(some (.row true 87 true [.bool,(.int .i64),(.int .i64),(.int .i64),(.int .i64),(.int .i64)] lo500))),(502,(some (.row true 89 false [(.int .u64)] [])))]⟩ (z08 2 (kSq (z04 N) (z0l z0g [1,1,1,1,1,1]) (z2w (z04 N) none [(ResultVar.tmp 4)] [[(.list false [(.int .u64)])]])))):=by kernel_rfl
theorem z6z (N:Nat) (n11:Nat) (n100:Nat) (x101:Int) (x102:Int) (lo500:List IV) (lo502:List IV) (again:St→Res) (k:Out→St→Res):rnd (z04 N) (z0l z0g [1,1,1,1,1,0,1,0,0])
 ⟨[(4,.zs),(11,(.row 502 0 n11)),(100,(.row 500 0 n100)),(101,(.int .i64 x101)),(102,(.int .i64 x102))],[(500,(some (.row true 87 true [.bool,(.int .i64),(.int .i64),(.int .i64),(.int .i64),(.int .i64)] lo500))),(502,(some (.row true 89 false [(.int .u64)] lo502)))]⟩
 (z57 again ⟨[4,11,100,101,102],[500,502],[⟨(.tmp 11),502,89,false,[(.int .u64)]⟩]⟩ k) =
 (cond (decide (x102 < x101))
 (cond (decide (0≤x102)&&decide (x102 < ic (n100 - 0)))
 (cond (decide ((n11+List.length (List.drop 0 (List.take 1 [IV.int (za8 (IV.toBool (IV.cell (List.getD lo500 (0+Int.toNat x102) default) 0)) (IV.toInt (IV.cell (List.getD lo500 (0+Int.toNat x102) default) 1)) (IV.toInt (IV.cell (List.getD lo500 (0+Int.toNat x102) default) 2)) (IV.toInt (IV.cell (List.getD lo500 (0+Int.toNat x102) default) 3)) (IV.toInt (IV.cell (List.getD lo500 (0+Int.toNat x102) default) 4)) (IV.toInt (IV.cell (List.getD lo500 (0+Int.toNat x102) default) 5)))])))*TI.bytes (Env.tyd (z04 N) 89)≤z0d))
 (again ⟨[(4,.zs),(11,(.row 502 0 (n11+List.length (List.drop 0 (List.take 1 [IV.int (za8 (IV.toBool (IV.cell (List.getD lo500 (0+Int.toNat x102) default) 0)) (IV.toInt (IV.cell (List.getD lo500 (0+Int.toNat x102) default) 1)) (IV.toInt (IV.cell (List.getD lo500 (0+Int.toNat x102) default) 2)) (IV.toInt (IV.cell (List.getD lo500 (0+Int.toNat x102) default) 3)) (IV.toInt (IV.cell (List.getD lo500 (0+Int.toNat x102) default) 4)) (IV.toInt (IV.cell (List.getD lo500 (0+Int.toNat x102) default) 5)))]))))),(100,(.row 500 0 n100)),(101,(.int .i64 x101)),(102,(.int .i64 (IntKind.wrap IntKind.i64 (x102+1))))],[(500,(some (.row true 87 true [.bool,(.int .i64),(.int .i64),(.int .i64),(.int .i64),(.int .i64)] lo500))),(502,(some (.row true 89 false [(.int .u64)] (List.take n11 lo502++List.drop 0 (List.take 1 [IV.int (za8 (IV.toBool (IV.cell (List.getD lo500 (0+Int.toNat x102) default) 0)) (IV.toInt (IV.cell (List.getD lo500 (0+Int.toNat x102) default) 1)) (IV.toInt (IV.cell (List.getD lo500 (0+Int.toNat x102) default) 2)) (IV.toInt (IV.cell (List.getD lo500 (0+Int.toNat x102) default) 3)) (IV.toInt (IV.cell (List.getD lo500 (0+Int.toNat x102) default) 4)) (IV.toInt (IV.cell (List.getD lo500 (0+Int.toNat x102) default) 5)))])))))]⟩)
 none)
 none)
 (k (.exit 2) ⟨[(4,.zs),(11,(.row 502 0 n11)),(100,(.row 500 0 n100)),(101,(.int .i64 x101)),(102,(.int .i64 x102))],[(500,(some (.row true 87 true [.bool,(.int .i64),(.int .i64),(.int .i64),(.int .i64),(.int .i64)] lo500))),(502,(some (.row true 89 false [(.int .u64)] lo502)))]⟩)):=by kernel_rfl
theorem zbs (N:Nat) (n11:Nat) (n100:Nat) (x101:Int) (x102:Int) (lo500:List IV) (lo502:List IV):(z08 2 (kSq (z04 N) (z0l z0g [1,1,1,1,1,1]) (z2w (z04 N) none [(ResultVar.tmp 4)] [[(.list false [(.int .u64)])]]))) (.exit 2)
 ⟨[(4,.zs),(11,(.row 502 0 n11)),(100,(.row 500 0 n100)),(101,(.int .i64 x101)),(102,(.int .i64 x102))],[(500,(some (.row true 87 true [.bool,(.int .i64),(.int .i64),(.int .i64),(.int .i64),(.int .i64)] lo500))),(502,(some (.row true 89 false [(.int .u64)] lo502)))]⟩ =
 (some ((.list false [(.int .u64)] (List.drop 0 (List.take n11 lo502))),[])):=by kernel_rfl
open Go Go.Proofs
structure Ns.At (i:Nat) (s:Ns):Prop where
  nl:s.nodes.length=2*i+1
  ll:s.leaves.length=i+1
  lt:∀ x∈s.leaves,0≤x.toInt∧x.toInt < (2*i+1:Nat)
theorem yb1 {part:List IV} {i:Nat} {s:Ns} (h:s.At i) (hi:i≤100):0≤nsK part i s∧nsK part i s < ((i+1:Nat):Int)∧z8l 0 (ic s.leaves.length - 1)=((i+1:Nat):Int):=by
  have e:ic s.leaves.length=((i+1:Nat):Int):=by rw [h.ll]
  obtain ⟨m,a,b⟩:=z2n (n:=(part.getD i default).toInt) (lo:=0) (hi:=ic s.leaves.length - 1) (by rw [e]; omega) (by omega) (by rw [e]; omega)
  unfold nsK
  rw [e] at a b m ⊢
  exact ⟨a,by omega,by rw [m]; omega⟩
theorem ygo {part:List IV} {i:Nat} {s:Ns} (h:s.At i) (hi:i≤100):0≤yca part i s∧yca part i s < (2*i+1:Nat):=by
  obtain ⟨k0,k1,_⟩:=yb1 (part:=part) h hi
  have hk:(nsK part i s).toNat < s.leaves.length:=by rw [h.ll]; omega
  have e:s.leaves.getD (nsK part i s).toNat default=s.leaves[(nsK part i s).toNat]:=by simp [hk]
  unfold yca
  rw [e]
  exact h.lt _ (List.getElem_mem hk)
theorem Ns.At.step {part byl atl val:List IV} {dim:Int} {i:Nat} {s:Ns} (h:s.At i) (hi:i≤100):(z8h part byl atl val dim i s).At (i+1):=by
  obtain ⟨k0,k1,_⟩:=yb1 (part:=part) h hi
  refine ⟨?_,?_,?_⟩
  · simp only [z8h,List.length_append,List.length_set,List.length_cons,List.length_nil,h.nl]
    omega
  · simp only [z8h,List.length_append,List.length_take,List.length_drop,List.length_cons,List.length_nil,h.ll]
    omega
  · intro x hx
    simp only [z8h,List.mem_append] at hx
    rcases hx with (hx | hx) | hx
    · have:=h.lt x (List.mem_of_mem_take hx)
      omega
    · have:=h.lt x (List.mem_of_mem_drop hx)
      omega
    · simp only [List.mem_cons,List.not_mem_nil,or_false] at hx
      rcases hx with rfl | rfl
      · simp only [IV.toInt,ic,h.nl]; omega
      · simp only [IV.toInt,ic,h.nl]; omega
abbrev kN:List Kd:=[.bool,(.int .i64),(.int .i64),(.int .i64),(.int .i64),(.int .i64)]
abbrev kpN:KP:=⟨[1,2,4,5,6,7],[2,500,501],[⟨(.tmp 5),500,87,true,[.bool,(.int .i64),(.int .i64),(.int .i64),(.int .i64),(.int .i64)]⟩,⟨(.tmp 6),501,3,false,[(.int .i64)]⟩]⟩
abbrev stN (cl:Int) (part byl atl val:List IV) (dim:Int) (s:Ns) (i:Int):St:=
  ⟨[(1,(.int .i64 dim)),(2,(.ptr 2 0 0)),(4,.zs),(5,(.row 500 0 s.nodes.length)),(6,(.row 501 0 s.leaves.length)),(7,(.int .i64 i))],[(2,(some (.box [(.int .i64 cl),(.list false [(.int .i64)] part),(.list false [(.int .i64)] byl),(.list false [(.int .i64)] atl),(.list false [(.int .i64)] val)]))),(500,(some (.row true 87 true kN s.nodes))),(501,(some (.row true 3 false [(.int .i64)] s.leaves)))]⟩
theorem y7b (N:Nat):TI.bytes (Env.tyd (z04 N) 87)=48:=by rfl
theorem yam (N:Nat):TI.bytes (Env.tyd (z04 N) 3)=8:=by rfl
theorem yjl (x:IV) (a b c d e f:IV):znp true kN x 0 [a,b,c,d,e,f] = .agg [a,b,c,d,e,f]:=rfl
set_option maxHeartbeats 4000000 in
theorem y42 (N:Nat) (cl:Int) (part byl atl val:List IV) (dim:Int) (h1:1≤dim) (h4:dim≤4) (s:Ns) (i:Nat) (hs:s.At i) (hi:i < part.length) (h7:i < 7) (again:St→Res) (k:Out→St→Res) :
    rnd (z04 N) (z0l z0g [1,1,1,0,1,0,0]) (stN cl part byl atl val dim s (i:Int)) (z57 again kpN k)=again (stN cl part byl atl val dim (z8h part byl atl val dim i s) ((i+1:Nat):Int)):=by
  refine (z73 N dim s.nodes.length s.leaves.length i cl part byl atl val s.nodes s.leaves again k).trans ?_
  obtain ⟨k0,k1,km⟩:=yb1 (part:=part) hs (by omega)
  obtain ⟨a0,a1⟩:=ygo (part:=part) hs (by omega)
  obtain ⟨dm,_,_⟩:=z2n (n:=0) (lo:=0) (hi:=dim - 1) (by omega) (by omega) (by omega)
  have eL:ic (s.leaves.length - 0)=ic s.leaves.length:=rfl
  have eN:ic (s.nodes.length - 0)=ic s.nodes.length:=rfl
  have hL:ic s.leaves.length=((i+1:Nat):Int):=by rw [hs.ll]
  have hN:ic s.nodes.length=((2*i+1:Nat):Int):=by rw [hs.nl]
  have w1:IntKind.wrap IntKind.i64 (ic s.leaves.length - 1)=ic s.leaves.length - 1:=z12 (by rw [hL]; omega) (by rw [hL]; omega)
  have w2:IntKind.wrap IntKind.i64 (dim - 1)=dim - 1:=z12 (by omega) (by omega)
  have w3:IntKind.wrap IntKind.i64 (2*(i:Int))=2*(i:Int):=z12 (by omega) (by omega)
  have w4:IntKind.wrap IntKind.i64 (2*(i:Int)+1)=2*(i:Int)+1:=z12 (by omega) (by omega)
  have w5:IntKind.wrap IntKind.i64 (2*(i:Int)+2)=2*(i:Int)+2:=z12 (by omega) (by omega)
  have w6:IntKind.wrap IntKind.i64 (ic s.nodes.length+1)=ic s.nodes.length+1:=z12 (by rw [hN]; omega) (by rw [hN]; omega)
  rw [eL,eN,w1,w2,w3,w4,w5,w6,Int.toNat_natCast]
  have eK:z00 (IV.toInt (List.getD part i default)) 0 (ic s.leaves.length - 1)=nsK part i s:=rfl
  rw [eK]
  have w7:IntKind.wrap IntKind.i64 (nsK part i s+1)=nsK part i s+1:=z12 (by omega) (by omega)
  rw [w7]
  have e0:∀ n:Nat,0+n=n:=Nat.zero_add
  simp only [e0]
  have eA:IV.toInt (List.getD s.leaves (nsK part i s).toNat default)=yca part i s:=rfl
  rw [eA,y7b,yam]
  obtain ⟨q,hq⟩:∃ q:Nat,nsK part i s=q:=⟨(nsK part i s).toNat,by omega⟩
  have eq1:(nsK part i s+1).toNat=q+1:=by omega
  have eq0:(nsK part i s).toNat=q:=by omega
  have hq1:q < i+1:=by omega
  have lt2:∀ x y:IV,(List.drop 0 (List.take 2 [x,y]))=[x,y]:=fun _ _=>rfl
  have lk:List.drop 0 (List.take q s.leaves)=List.take q s.leaves:=List.drop_zero
  have lk2:List.drop (q+1) (List.take (s.leaves.length - 0) s.leaves)=List.drop (q+1) s.leaves:=by rw [Nat.sub_zero,List.take_length]
  rw [eq1,eq0,lt2,lt2,lk,lk2]
  have zA:(List.take q s.leaves).length=q:=by rw [List.length_take,hs.ll]; omega
  have zB:(List.drop (q+1) s.leaves).length=i - q:=by rw [List.length_drop,hs.ll]; omega
  rw [zA,zB]
  simp only [List.length_cons,List.length_nil]
  rw [decide_eq_true (show (i:Int) < ic part.length by simp only [ic]; omega),decide_eq_true (show (i:Int) < 7 by omega),decide_eq_true (show 0≤(i:Int) by omega),km,decide_eq_false (show ¬ ((i+1:Nat):Int)=0 by omega),
    decide_eq_true k0,decide_eq_true (show nsK part i s < ic s.leaves.length by rw [hL]; exact k1),dm,decide_eq_false (show ¬ (dim - 1 - 0+1=0) by omega),decide_eq_true a0,decide_eq_true (show yca part i s < ic s.nodes.length by rw [hN]; exact a1),
    decide_eq_true (show 0≤2*(i:Int)+1 by omega),decide_eq_true (show 0≤2*(i:Int)+2 by omega),decide_eq_true (show (s.nodes.length+(0+1+1))*48≤z0d by rw [hs.nl]; unfold z0d; omega),
    decide_eq_true (show nsK part i s≤ic s.leaves.length by rw [hL]; omega),decide_eq_true (show q*8≤z0d by unfold z0d; omega),decide_eq_true (show 0≤nsK part i s+1 by omega),decide_eq_true (show nsK part i s+1≤ic s.leaves.length by rw [hL]; omega),
    decide_eq_true (show (q+(i - q))*8≤z0d by unfold z0d; omega),decide_eq_true (show (q+(i - q)+(0+1+1))*8≤z0d by unfold z0d; omega)]
  simp only [Bool.and_true,z01,z03]
  have g1:(z8h part byl atl val dim i s).nodes.length=s.nodes.length+(0+1+1):=by rw [(hs.step (by omega)).nl,hs.nl]; omega
  have g2:(z8h part byl atl val dim i s).leaves.length=q+(i - q)+(0+1+1):=by rw [(hs.step (by omega)).ll]; omega
  have g3:(z8h part byl atl val dim i s).nodes=List.take s.nodes.length (List.set s.nodes (yca part i s).toNat (znp true kN (List.getD s.nodes (yca part i s).toNat default) 0 [IV.bool false,IV.int 0,IV.int (z00 (z1x byl (i:Int)) 0 (dim - 1)),IV.int (z00 (z1x atl (i:Int)) 0 9),IV.int (ic s.nodes.length),IV.int (ic s.nodes.length+1)])) ++
      [IV.agg [IV.bool true,IV.int (z00 (z1x val (2*(i:Int)+1)) (-3000) 3000),IV.int 0,IV.int 0,IV.int 0,IV.int 0],IV.agg [IV.bool true,IV.int (z00 (z1x val (2*(i:Int)+2)) (-3000) 3000),IV.int 0,IV.int 0,IV.int 0,IV.int 0]]:=by
    rw [yjl,List.take_of_length_le (by rw [List.length_set]; exact Nat.le_refl _)]
    rfl
  have g4:(z8h part byl atl val dim i s).leaves=List.take (q+(i - q)) (List.take q (List.take 0 []++List.take q s.leaves)++List.drop (q+1) s.leaves)++[IV.int (ic s.nodes.length),IV.int (ic s.nodes.length+1)]:=by
    rw [List.take_zero,List.nil_append,List.take_take,Nat.min_self,List.take_of_length_le (by rw [List.length_append,zA,zB]; exact Nat.le_refl _)]
    show List.take (nsK part i s).toNat s.leaves++List.drop ((nsK part i s).toNat+1) s.leaves++_=_
    rw [eq0]
  rw [show stN cl part byl atl val dim (z8h part byl atl val dim i s) ((i+1:Nat):Int)=⟨[(1,(.int .i64 dim)),(2,(.ptr 2 0 0)),(4,.zs),(5,(.row 500 0 (z8h part byl atl val dim i s).nodes.length)),(6,(.row 501 0 (z8h part byl atl val dim i s).leaves.length)),(7,(.int .i64 ((i+1:Nat):Int)))],[(2,(some (.box [(.int .i64 cl),(.list false [(.int .i64)] part),(.list false [(.int .i64)] byl),(.list false [(.int .i64)] atl),(.list false [(.int .i64)] val)]))),(500,(some (.row true 87 true kN (z8h part byl atl val dim i s).nodes))),(501,(some (.row true 3 false [(.int .i64)] (z8h part byl atl val dim i s).leaves)))]⟩ from rfl,g1,g2,g3,g4,z68 (by omega)]
theorem y1p (N:Nat) (cl:Int) (part byl atl val:List IV) (dim:Int) (h1:1≤dim) (h4:dim≤4) (K:Out→St→Res):∀ (d i n:Nat) (s:Ns),i+d=min part.length 7→d < n→s.At i →
    (∃ j,lpE (z04 N) (z0l z0g [1,1,1,0,1,0,0]) kpN n (stN cl part byl atl val dim s (i:Int)) K=K (.exit 0) (stN cl part byl atl val dim (y7o part byl atl val dim d i s) j))∧(y7o part byl atl val dim d i s).At (i+d)
  | 0,i,n+1,s,hd,hn,hs=>by
    refine ⟨⟨(i:Int),?_⟩,hs⟩
    rw [z0b]
    refine (z73 N dim s.nodes.length s.leaves.length i cl part byl atl val s.nodes s.leaves _ _).trans ?_
    by_cases hp:i < part.length
    · rw [decide_eq_true (show (i:Int) < ic part.length by simp only [ic]; omega),z01,decide_eq_false (show ¬ (i:Int) < 7 by omega),z03]
      rfl
    · rw [decide_eq_false (show ¬ (i:Int) < ic part.length by simp only [ic]; omega),z03]
      rfl
  | d+1,i,n+1,s,hd,hn,hs=>by
    obtain ⟨⟨j,ih⟩,ih2⟩:=y1p N cl part byl atl val dim h1 h4 K d (i+1) n (z8h part byl atl val dim i s) (by omega) (by omega) (hs.step (by omega))
    refine ⟨⟨j,?_⟩,by rw [show i+(d+1)=i+1+d by omega]; exact ih2⟩
    rw [z0b,y42 N cl part byl atl val dim h1 h4 s i hs (by omega) (by omega)]
    exact ih
  | _,_,0,_,_,h,_=>by omega
theorem ybg (N:Nat):TI.bytes (Env.tyd (z04 N) 89)=8:=by rfl
abbrev kpO:KP:=⟨[4,11,100,101,102],[500,502],[⟨(.tmp 11),502,89,false,[(.int .u64)]⟩]⟩
theorem yaz (N:Nat) (L:List IV) (hL:L.length≤1000):∀ (d i n:Nat) (O:List IV),i+d=L.length→d < n→O.length=i →
    lpE (z04 N) (z0l z0g [1,1,1,1,1,0,1,0,0]) kpO n ⟨[(4,.zs),(11,(.row 502 0 O.length)),(100,(.row 500 0 L.length)),(101,(.int .i64 (ic (L.length - 0)))),(102,(.int .i64 (i:Int)))],[(500,(some (.row true 87 true kN L))),(502,(some (.row true 89 false [(.int .u64)] O)))]⟩
      (z08 2 (kSq (z04 N) (z0l z0g [1,1,1,1,1,1]) (z2w (z04 N) none [(ResultVar.tmp 4)] [[(.list false [(.int .u64)])]])))=some (.list false [.int .u64] (O++(L.drop i).map zx9),[])
  | 0,i,n+1,O,hd,hn,hO=>by
    rw [z0b]
    refine (z6z N O.length L.length (ic (L.length - 0)) i L O _ _).trans ?_
    rw [decide_eq_false (show ¬ (i:Int) < ic (L.length - 0) by simp only [ic]; omega),z03]
    refine (zbs N O.length L.length (ic (L.length - 0)) i L O).trans ?_
    rw [List.drop_zero,List.take_length,List.drop_of_length_le (by omega),List.map_nil,List.append_nil]
  | d+1,i,n+1,O,hd,hn,hO=>by
    have hi:i < L.length:=by omega
    rw [z0b]
    refine (z6z N O.length L.length (ic (L.length - 0)) i L O _ _).trans ?_
    have ih:=yaz N L hL d (i+1) n (O++[zx9 L[i]]) (by omega) (by omega) (by simp [hO])
    have l1:∀ x:IV,List.drop 0 (List.take 1 [x])=[x]:=fun _=>rfl
    have eg:List.getD L (0+Int.toNat (i:Int)) default=L[i]:=by rw [Nat.zero_add,Int.toNat_natCast]; simp [hi]
    rw [decide_eq_true (show (i:Int) < ic (L.length - 0) by simp only [ic]; omega),decide_eq_true (show 0≤(i:Int) by omega),Bool.and_true,z01,z01,eg,l1,ybg,List.length_singleton,decide_eq_true (show (O.length+1)*8≤z0d by rw [hO]; unfold z0d; omega),z01,List.take_length,z68 (by omega)]
    rw [List.drop_eq_getElem_cons hi,List.map_cons]
    rw [List.length_append,List.length_singleton,List.append_assoc] at ih
    exact ih
  | _,_,0,_,_,h,_=>by omega
set_option maxRecDepth 100000 in
theorem ze2:z3n PR B0 15 z36:=by
  refine z0o [(6,z0z),(14,z2e),(33,z3o)] [(4,kpN),(14,kpO)] z36 [[.list false [.int .u64]]] Tryz.func15 zgf
    ⟨z3s,z8f,zd2,trivial⟩ ?_
  intro vs r hwf h
  unfold z36 at h
  split at h
  · rename_i cl part byl atl val dim
    cases hc:(decide (1≤dim)&&decide (dim≤4)) with
    | false=>rw [hc] at h; simp [R.get] at h
    | true=>
      rw [hc,R.get_br,z01,R.get_ok] at h
      simp only [Bool.and_eq_true,decide_eq_true_eq] at hc
      refine ⟨30,?_⟩
      rw [← h]
      refine (zfm 30 cl part byl atl val dim).trans ?_
      have h0:(⟨[zio (z00 (z1x val 0) (-3000) 3000)],[.int 0]⟩:Ns).At 0:=⟨rfl,rfl,fun x hx=>by
        rw [List.mem_singleton] at hx
        subst hx
        exact ⟨by decide,by decide⟩⟩
      obtain ⟨⟨j,run⟩,hat⟩:=y1p 30 cl part byl atl val dim hc.1 hc.2 (z08 0 (kSq (z04 30) (z0l z0g [1,1,1,1]) (z2w (z04 30) none [(ResultVar.tmp 4)] [[(.list false [(.int .u64)])]]))) (min part.length 7) 0 30 _ (by omega) (by omega) h0
      refine run.trans ?_
      have e:y7o part byl atl val dim (min part.length 7) 0 ⟨[zio (z00 (z1x val 0) (-3000) 3000)],[.int 0]⟩=zg2 part byl atl val dim:=rfl
      rw [e] at hat ⊢
      have hn:=hat.nl
      refine (zc6 30 dim (zg2 part byl atl val dim).nodes.length (zg2 part byl atl val dim).leaves.length j cl part byl atl val (zg2 part byl atl val dim).nodes (zg2 part byl atl val dim).leaves).trans ?_
      have:=yaz 30 (zg2 part byl atl val dim).nodes (by omega) (zg2 part byl atl val dim).nodes.length 0 30 [] (by omega) (by omega) rfl
      rw [List.drop_zero,List.nil_append] at this
      exact this
  · simp [R.get] at h
open Go Go.Proofs
def z06 (N:Nat):Env:=mkE [(6,z0z),(15,z36),(14,z2e)] [(3,⟨[1,2,3,14,15],[1,2,3],[]⟩),(8,⟨[1,2,3,5],[1,2,3,500],[⟨.cell 3 5,500,61,true,[.int .i64,.list false [.int .u64]]⟩]⟩)] 63 N
theorem zdo (N:Nat) (f_Dim:Int) (f_Classes:Int) (f_Bias:List IV) (f_Trees:List IV):z16 (z06 N) z0e [.cell 2 31] [[.int .i64,.int .i64,.int .i64,.int .i64,.int .i64,.list true [.int .i64,.list false [.int .u64]]]] [(.agg [(.int .i64 f_Dim),(.int .i64 f_Classes),(.list false [.int .i64] f_Bias),(.list true [.int .i64,.list false [.int .i64],.list false [.int .i64],.list false [.int .i64],.list false [.int .i64]] f_Trees)])] =
 (lpE (z06 N) (z0l z0e [1,1,0,1,0,0]) ⟨[1,2,3,14,15],[1,2,3],[]⟩ N ⟨[(1,(.ptr 1 0 0)),(2,(.ptr 2 0 0)),(3,(.ptr 3 0 0)),(14,(.int .i64 (z00 f_Classes 1 3))),(15,(.int .i64 0))],[(1,(some (.box [(.int .i64 f_Dim),(.int .i64 f_Classes),(.list false [(.int .i64)] f_Bias),(.list true [(.int .i64),(.list false [(.int .i64)]),(.list false [(.int .i64)]),(.list false [(.int .i64)]),(.list false [(.int .i64)])] f_Trees)]))),(2,(some (.box [(.int .i64 0),(.int .i64 0),(.int .i64 0),(.int .i64 0),(.int .i64 0),.zs]))),(3,(some (.box [(.int .i64 (z00 f_Dim 1 3)),(.int .i64 (z00 f_Classes 1 3)),(.int .i64 0),(.int .i64 0),(.int .i64 0),.zs])))]⟩ (z08 0 (kSq (z06 N) (z0l z0e [1,1,1]) (z2w (z06 N) none [(ResultVar.cell 2 31)] [[(.int .i64),(.int .i64),(.int .i64),(.int .i64),(.int .i64),(.list true [(.int .i64),(.list false [(.int .u64)])])]])))):=by kernel_rfl
theorem z60 (N:Nat) (x14:Int) (x15:Int) (xo1_0:Int) (xo1_1:Int) (lo1_2:List IV) (lo1_3:List IV) (xo2_0:Int) (xo2_1:Int) (xo2_2:Int) (xo2_3:Int) (xo2_4:Int) (xo3_0:Int) (xo3_1:Int) (xo3_2:Int) (xo3_3:Int) (xo3_4:Int) (again:St→Res) (k:Out→St→Res):rnd (z06 N) (z0l z0e [1,1,0,1,0,0])
 ⟨[(1,(.ptr 1 0 0)),(2,(.ptr 2 0 0)),(3,(.ptr 3 0 0)),(14,(.int .i64 x14)),(15,(.int .i64 x15))],[(1,(some (.box [(.int .i64 xo1_0),(.int .i64 xo1_1),(.list false [(.int .i64)] lo1_2),(.list true [(.int .i64),(.list false [(.int .i64)]),(.list false [(.int .i64)]),(.list false [(.int .i64)]),(.list false [(.int .i64)])] lo1_3)]))),(2,(some (.box [(.int .i64 xo2_0),(.int .i64 xo2_1),(.int .i64 xo2_2),(.int .i64 xo2_3),(.int .i64 xo2_4),.zs]))),(3,(some (.box [(.int .i64 xo3_0),(.int .i64 xo3_1),(.int .i64 xo3_2),(.int .i64 xo3_3),(.int .i64 xo3_4),.zs])))]⟩
 (z57 again ⟨[1,2,3,14,15],[1,2,3],[]⟩ k) =
 (cond (decide (x15 < x14))
 (cond (decide (0≤x15))
 (cond (decide (x15=ic 0))
 (again ⟨[(1,(.ptr 1 0 0)),(2,(.ptr 2 0 0)),(3,(.ptr 3 0 0)),(14,(.int .i64 x14)),(15,(.int .i64 (IntKind.wrap IntKind.i64 (x15+1))))],[(1,(some (.box [(.int .i64 xo1_0),(.int .i64 xo1_1),(.list false [(.int .i64)] lo1_2),(.list true [(.int .i64),(.list false [(.int .i64)]),(.list false [(.int .i64)]),(.list false [(.int .i64)]),(.list false [(.int .i64)])] lo1_3)]))),(2,(some (.box [(.int .i64 xo2_0),(.int .i64 xo2_1),(.int .i64 xo2_2),(.int .i64 xo2_3),(.int .i64 xo2_4),.zs]))),(3,(some (.box [(.int .i64 xo3_0),(.int .i64 xo3_1),(.int .i64 (z00 (z1x lo1_2 x15) (-500) 500)),(.int .i64 xo3_3),(.int .i64 xo3_4),.zs])))]⟩)
 (cond (decide (x15=ic 1))
 (again ⟨[(1,(.ptr 1 0 0)),(2,(.ptr 2 0 0)),(3,(.ptr 3 0 0)),(14,(.int .i64 x14)),(15,(.int .i64 (IntKind.wrap IntKind.i64 (x15+1))))],[(1,(some (.box [(.int .i64 xo1_0),(.int .i64 xo1_1),(.list false [(.int .i64)] lo1_2),(.list true [(.int .i64),(.list false [(.int .i64)]),(.list false [(.int .i64)]),(.list false [(.int .i64)]),(.list false [(.int .i64)])] lo1_3)]))),(2,(some (.box [(.int .i64 xo2_0),(.int .i64 xo2_1),(.int .i64 xo2_2),(.int .i64 xo2_3),(.int .i64 xo2_4),.zs]))),(3,(some (.box [(.int .i64 xo3_0),(.int .i64 xo3_1),(.int .i64 xo3_2),(.int .i64 (z00 (z1x lo1_2 x15) (-500) 500)),(.int .i64 xo3_4),.zs])))]⟩)
 (cond (decide (x15=ic 2))
 (again ⟨[(1,(.ptr 1 0 0)),(2,(.ptr 2 0 0)),(3,(.ptr 3 0 0)),(14,(.int .i64 x14)),(15,(.int .i64 (IntKind.wrap IntKind.i64 (x15+1))))],[(1,(some (.box [(.int .i64 xo1_0),(.int .i64 xo1_1),(.list false [(.int .i64)] lo1_2),(.list true [(.int .i64),(.list false [(.int .i64)]),(.list false [(.int .i64)]),(.list false [(.int .i64)]),(.list false [(.int .i64)])] lo1_3)]))),(2,(some (.box [(.int .i64 xo2_0),(.int .i64 xo2_1),(.int .i64 xo2_2),(.int .i64 xo2_3),(.int .i64 xo2_4),.zs]))),(3,(some (.box [(.int .i64 xo3_0),(.int .i64 xo3_1),(.int .i64 xo3_2),(.int .i64 xo3_3),(.int .i64 (z00 (z1x lo1_2 x15) (-500) 500)),.zs])))]⟩)
 none)))
 none)
 (k (.exit 0) ⟨[(1,(.ptr 1 0 0)),(2,(.ptr 2 0 0)),(3,(.ptr 3 0 0)),(14,(.int .i64 x14)),(15,(.int .i64 x15))],[(1,(some (.box [(.int .i64 xo1_0),(.int .i64 xo1_1),(.list false [(.int .i64)] lo1_2),(.list true [(.int .i64),(.list false [(.int .i64)]),(.list false [(.int .i64)]),(.list false [(.int .i64)]),(.list false [(.int .i64)])] lo1_3)]))),(2,(some (.box [(.int .i64 xo2_0),(.int .i64 xo2_1),(.int .i64 xo2_2),(.int .i64 xo2_3),(.int .i64 xo2_4),.zs]))),(3,(some (.box [(.int .i64 xo3_0),(.int .i64 xo3_1),(.int .i64 xo3_2),(.int .i64 xo3_3),(.int .i64 xo3_4),.zs])))]⟩)):=by kernel_rfl
theorem zat (N:Nat) (x14:Int) (x15:Int) (xo1_0:Int) (xo1_1:Int) (lo1_2:List IV) (lo1_3:List IV) (xo2_0:Int) (xo2_1:Int) (xo2_2:Int) (xo2_3:Int) (xo2_4:Int) (xo3_0:Int) (xo3_1:Int) (xo3_2:Int) (xo3_3:Int) (xo3_4:Int):(z08 0 (kSq (z06 N) (z0l z0e [1,1,1]) (z2w (z06 N) none [(ResultVar.cell 2 31)] [[(.int .i64),(.int .i64),(.int .i64),(.int .i64),(.int .i64),(.list true [(.int .i64),(.list false [(.int .u64)])])]]))) (.exit 0)
 ⟨[(1,(.ptr 1 0 0)),(2,(.ptr 2 0 0)),(3,(.ptr 3 0 0)),(14,(.int .i64 x14)),(15,(.int .i64 x15))],[(1,(some (.box [(.int .i64 xo1_0),(.int .i64 xo1_1),(.list false [(.int .i64)] lo1_2),(.list true [(.int .i64),(.list false [(.int .i64)]),(.list false [(.int .i64)]),(.list false [(.int .i64)]),(.list false [(.int .i64)])] lo1_3)]))),(2,(some (.box [(.int .i64 xo2_0),(.int .i64 xo2_1),(.int .i64 xo2_2),(.int .i64 xo2_3),(.int .i64 xo2_4),.zs]))),(3,(some (.box [(.int .i64 xo3_0),(.int .i64 xo3_1),(.int .i64 xo3_2),(.int .i64 xo3_3),(.int .i64 xo3_4),.zs])))]⟩ =
 (lpE (z06 N) (z0l z0e [1,1,1,0,1,0,0]) ⟨[1,2,3,5],[1,2,3,500],[⟨(.cell 3 5),500,61,true,[(.int .i64),(.list false [(.int .u64)])]⟩]⟩ N ⟨[(1,(.ptr 1 0 0)),(2,(.ptr 2 0 0)),(3,(.ptr 3 0 0)),(5,(.int .i64 0))],[(1,(some (.box [(.int .i64 xo1_0),(.int .i64 xo1_1),(.list false [(.int .i64)] lo1_2),(.list true [(.int .i64),(.list false [(.int .i64)]),(.list false [(.int .i64)]),(.list false [(.int .i64)]),(.list false [(.int .i64)])] lo1_3)]))),(2,(some (.box [(.int .i64 xo2_0),(.int .i64 xo2_1),(.int .i64 xo2_2),(.int .i64 xo2_3),(.int .i64 xo2_4),.zs]))),(3,(some (.box [(.int .i64 xo3_0),(.int .i64 xo3_1),(.int .i64 xo3_2),(.int .i64 xo3_3),(.int .i64 xo3_4),(.row 500 0 0)]))),(500,(some (.row true 61 true [(.int .i64),(.list false [(.int .u64)])] [])))]⟩ (z08 2 (kSq (z06 N) (z0l z0e [1,1,1,1]) (z2w (z06 N) none [(ResultVar.cell 2 31)] [[(.int .i64),(.int .i64),(.int .i64),(.int .i64),(.int .i64),(.list true [(.int .i64),(.list false [(.int .u64)])])]])))):=by kernel_rfl
theorem z6g (N:Nat) (x5:Int) (xo1_0:Int) (xo1_1:Int) (lo1_2:List IV) (lo1_3:List IV) (xo2_0:Int) (xo2_1:Int) (xo2_2:Int) (xo2_3:Int) (xo2_4:Int) (xo3_0:Int) (xo3_1:Int) (xo3_2:Int) (xo3_3:Int) (xo3_4:Int) (no3_5:Nat) (lo500:List IV) (again:St→Res) (k:Out→St→Res):rnd (z06 N) (z0l z0e [1,1,1,0,1,0,0])
 ⟨[(1,(.ptr 1 0 0)),(2,(.ptr 2 0 0)),(3,(.ptr 3 0 0)),(5,(.int .i64 x5))],[(1,(some (.box [(.int .i64 xo1_0),(.int .i64 xo1_1),(.list false [(.int .i64)] lo1_2),(.list true [(.int .i64),(.list false [(.int .i64)]),(.list false [(.int .i64)]),(.list false [(.int .i64)]),(.list false [(.int .i64)])] lo1_3)]))),(2,(some (.box [(.int .i64 xo2_0),(.int .i64 xo2_1),(.int .i64 xo2_2),(.int .i64 xo2_3),(.int .i64 xo2_4),.zs]))),(3,(some (.box [(.int .i64 xo3_0),(.int .i64 xo3_1),(.int .i64 xo3_2),(.int .i64 xo3_3),(.int .i64 xo3_4),(.row 500 0 no3_5)]))),(500,(some (.row true 61 true [(.int .i64),(.list false [(.int .u64)])] lo500)))]⟩
 (z57 again ⟨[1,2,3,5],[1,2,3,500],[⟨(.cell 3 5),500,61,true,[(.int .i64),(.list false [(.int .u64)])]⟩]⟩ k) =
 (cond (decide (x5 < ic (List.length lo1_3)))
 (cond (decide (x5 < 4))
 (cond (decide (0≤x5)&&decide (x5 < ic (List.length lo1_3)))
 (cond (decide (z8l 0 (IntKind.wrap IntKind.i64 (xo3_1 - 1))=0))
 none
 (cond (decide (0≤x5)&&decide (x5 < ic (List.length lo1_3)))
 (cond (decide (1≤xo3_0)&&decide (xo3_0≤4))
 (cond (decide ((no3_5+List.length (List.drop 0 (List.take 1 [IV.agg [IV.int (z00 (IV.toInt (IV.cell (List.getD lo1_3 (Int.toNat x5) default) 0)) 0 (IntKind.wrap IntKind.i64 (xo3_1 - 1))),IV.list (zd4 (IV.toList (IV.cell (List.getD lo1_3 (Int.toNat x5) default) 1)) (IV.toList (IV.cell (List.getD lo1_3 (Int.toNat x5) default) 2)) (IV.toList (IV.cell (List.getD lo1_3 (Int.toNat x5) default) 3)) (IV.toList (IV.cell (List.getD lo1_3 (Int.toNat x5) default) 4)) xo3_0)]])))*TI.bytes (Env.tyd (z06 N) 61)≤z0d))
 (again ⟨[(1,(.ptr 1 0 0)),(2,(.ptr 2 0 0)),(3,(.ptr 3 0 0)),(5,(.int .i64 (IntKind.wrap IntKind.i64 (x5+1))))],[(1,(some (.box [(.int .i64 xo1_0),(.int .i64 xo1_1),(.list false [(.int .i64)] lo1_2),(.list true [(.int .i64),(.list false [(.int .i64)]),(.list false [(.int .i64)]),(.list false [(.int .i64)]),(.list false [(.int .i64)])] lo1_3)]))),(2,(some (.box [(.int .i64 xo2_0),(.int .i64 xo2_1),(.int .i64 xo2_2),(.int .i64 xo2_3),(.int .i64 xo2_4),.zs]))),(3,(some (.box [(.int .i64 xo3_0),(.int .i64 xo3_1),(.int .i64 xo3_2),(.int .i64 xo3_3),(.int .i64 xo3_4),(.row 500 0 (no3_5+List.length (List.drop 0 (List.take 1 [IV.agg [IV.int (z00 (IV.toInt (IV.cell (List.getD lo1_3 (Int.toNat x5) default) 0)) 0 (IntKind.wrap IntKind.i64 (xo3_1 - 1))),IV.list (zd4 (IV.toList (IV.cell (List.getD lo1_3 (Int.toNat x5) default) 1)) (IV.toList (IV.cell (List.getD lo1_3 (Int.toNat x5) default) 2)) (IV.toList (IV.cell (List.getD lo1_3 (Int.toNat x5) default) 3)) (IV.toList (IV.cell (List.getD lo1_3 (Int.toNat x5) default) 4)) xo3_0)]]))))]))),(500,(some (.row true 61 true [(.int .i64),(.list false [(.int .u64)])] (List.take no3_5 lo500++List.drop 0 (List.take 1 [IV.agg [IV.int (z00 (IV.toInt (IV.cell (List.getD lo1_3 (Int.toNat x5) default) 0)) 0 (IntKind.wrap IntKind.i64 (xo3_1 - 1))),IV.list (zd4 (IV.toList (IV.cell (List.getD lo1_3 (Int.toNat x5) default) 1)) (IV.toList (IV.cell (List.getD lo1_3 (Int.toNat x5) default) 2)) (IV.toList (IV.cell (List.getD lo1_3 (Int.toNat x5) default) 3)) (IV.toList (IV.cell (List.getD lo1_3 (Int.toNat x5) default) 4)) xo3_0)]])))))]⟩)
 none)
 none)
 none))
 none)
 (k (.exit 2) ⟨[(1,(.ptr 1 0 0)),(2,(.ptr 2 0 0)),(3,(.ptr 3 0 0)),(5,(.int .i64 x5))],[(1,(some (.box [(.int .i64 xo1_0),(.int .i64 xo1_1),(.list false [(.int .i64)] lo1_2),(.list true [(.int .i64),(.list false [(.int .i64)]),(.list false [(.int .i64)]),(.list false [(.int .i64)]),(.list false [(.int .i64)])] lo1_3)]))),(2,(some (.box [(.int .i64 xo2_0),(.int .i64 xo2_1),(.int .i64 xo2_2),(.int .i64 xo2_3),(.int .i64 xo2_4),.zs]))),(3,(some (.box [(.int .i64 xo3_0),(.int .i64 xo3_1),(.int .i64 xo3_2),(.int .i64 xo3_3),(.int .i64 xo3_4),(.row 500 0 no3_5)]))),(500,(some (.row true 61 true [(.int .i64),(.list false [(.int .u64)])] lo500)))]⟩))
 (k (.exit 2) ⟨[(1,(.ptr 1 0 0)),(2,(.ptr 2 0 0)),(3,(.ptr 3 0 0)),(5,(.int .i64 x5))],[(1,(some (.box [(.int .i64 xo1_0),(.int .i64 xo1_1),(.list false [(.int .i64)] lo1_2),(.list true [(.int .i64),(.list false [(.int .i64)]),(.list false [(.int .i64)]),(.list false [(.int .i64)]),(.list false [(.int .i64)])] lo1_3)]))),(2,(some (.box [(.int .i64 xo2_0),(.int .i64 xo2_1),(.int .i64 xo2_2),(.int .i64 xo2_3),(.int .i64 xo2_4),.zs]))),(3,(some (.box [(.int .i64 xo3_0),(.int .i64 xo3_1),(.int .i64 xo3_2),(.int .i64 xo3_3),(.int .i64 xo3_4),(.row 500 0 no3_5)]))),(500,(some (.row true 61 true [(.int .i64),(.list false [(.int .u64)])] lo500)))]⟩)):=by kernel_rfl
theorem zaq (N:Nat) (x5:Int) (xo1_0:Int) (xo1_1:Int) (lo1_2:List IV) (lo1_3:List IV) (xo2_0:Int) (xo2_1:Int) (xo2_2:Int) (xo2_3:Int) (xo2_4:Int) (xo3_0:Int) (xo3_1:Int) (xo3_2:Int) (xo3_3:Int) (xo3_4:Int) (no3_5:Nat) (lo500:List IV):(z08 2 (kSq (z06 N) (z0l z0e [1,1,1,1]) (z2w (z06 N) none [(ResultVar.cell 2 31)] [[(.int .i64),(.int .i64),(.int .i64),(.int .i64),(.int .i64),(.list true [(.int .i64),(.list false [(.int .u64)])])]]))) (.exit 2)
 ⟨[(1,(.ptr 1 0 0)),(2,(.ptr 2 0 0)),(3,(.ptr 3 0 0)),(5,(.int .i64 x5))],[(1,(some (.box [(.int .i64 xo1_0),(.int .i64 xo1_1),(.list false [(.int .i64)] lo1_2),(.list true [(.int .i64),(.list false [(.int .i64)]),(.list false [(.int .i64)]),(.list false [(.int .i64)]),(.list false [(.int .i64)])] lo1_3)]))),(2,(some (.box [(.int .i64 xo2_0),(.int .i64 xo2_1),(.int .i64 xo2_2),(.int .i64 xo2_3),(.int .i64 xo2_4),.zs]))),(3,(some (.box [(.int .i64 xo3_0),(.int .i64 xo3_1),(.int .i64 xo3_2),(.int .i64 xo3_3),(.int .i64 xo3_4),(.row 500 0 no3_5)]))),(500,(some (.row true 61 true [(.int .i64),(.list false [(.int .u64)])] lo500)))]⟩ =
 (some ((.agg [(.int .i64 xo3_0),(.int .i64 xo3_1),(.int .i64 xo3_2),(.int .i64 xo3_3),(.int .i64 xo3_4),(.list true [(.int .i64),(.list false [(.int .u64)])] (List.drop 0 (List.take no3_5 lo500)))]),[])):=by kernel_rfl
open Go Go.Proofs
abbrev kT5:List Kd:=[(.int .i64),(.list false [(.int .i64)]),(.list false [(.int .i64)]),(.list false [(.int .i64)]),(.list false [(.int .i64)])]
def bF (bias:List IV) (j:Int):Int:=z00 (z1x bias j) (-500) 500
abbrev yiu (d c:Int) (bias ts:List IV):Ob:=.box [(.int .i64 d),(.int .i64 c),(.list false [(.int .i64)] bias),(.list true kT5 ts)]
abbrev yiz:Ob:=.box [(.int .i64 0),(.int .i64 0),(.int .i64 0),(.int .i64 0),(.int .i64 0),.zs]
abbrev stB (d c:Int) (bias ts:List IV) (D C:Int) (i:Nat) (x:Int):St:=
  ⟨[(1,(.ptr 1 0 0)),(2,(.ptr 2 0 0)),(3,(.ptr 3 0 0)),(14,(.int .i64 C)),(15,(.int .i64 x))],[(1,(some (yiu d c bias ts))),(2,(some yiz)),(3,(some (.box [(.int .i64 D),(.int .i64 C),(.int .i64 (cond (Nat.blt 0 i) (bF bias 0) 0)),(.int .i64 (cond (Nat.blt 1 i) (bF bias 1) 0)),(.int .i64 (cond (Nat.blt 2 i) (bF bias 2) 0)),.zs])))]⟩
theorem y6w (N:Nat) (d c:Int) (bias ts:List IV) (D:Int) (C:Nat) (hC:C≤3) (K:Out→St→Res):∀ (m i n:Nat),i+m=C→m < n →
    lpE (z06 N) (z0l z0e [1,1,0,1,0,0]) ⟨[1,2,3,14,15],[1,2,3],[]⟩ n (stB d c bias ts D C i (i:Int)) K=K (.exit 0) (stB d c bias ts D C C (C:Int))
  | 0,i,n+1,hd,hn=>by
    have hi:i=C:=by omega
    subst hi
    rw [z0b]
    refine (z60 N i i d c bias ts 0 0 0 0 0 D i (cond (Nat.blt 0 i) (bF bias 0) 0) (cond (Nat.blt 1 i) (bF bias 1) 0) (cond (Nat.blt 2 i) (bF bias 2) 0) _ _).trans ?_
    rw [decide_eq_false (show ¬ (i:Int) < (i:Int) by omega),z03]
  | m+1,i,n+1,hd,hn=>by
    rw [z0b]
    refine (z60 N C i d c bias ts 0 0 0 0 0 D C (cond (Nat.blt 0 i) (bF bias 0) 0) (cond (Nat.blt 1 i) (bF bias 1) 0) (cond (Nat.blt 2 i) (bF bias 2) 0) _ _).trans ?_
    have ih:=y6w N d c bias ts D C hC K m (i+1) n (by omega) (by omega)
    rw [decide_eq_true (show (i:Int) < (C:Int) by omega),z01,decide_eq_true (show 0≤(i:Int) by omega),z01,z68 (by omega)]
    have hi4:i=0∨i=1∨i=2:=by omega
    rcases hi4 with rfl | rfl | rfl
    · rw [show decide (((0:Nat):Int)=ic 0)=true from rfl,z01]
      exact ih
    · rw [show decide (((1:Nat):Int)=ic 0)=false from rfl,show decide (((1:Nat):Int)=ic 1)=true from rfl,z03,z01]
      exact ih
    · rw [show decide (((2:Nat):Int)=ic 0)=false from rfl,show decide (((2:Nat):Int)=ic 1)=false from rfl,show decide (((2:Nat):Int)=ic 2)=true from rfl,z03,z03,z01]
      exact ih
  | _,_,0,_,h=>by omega
abbrev kMT:List Kd:=[(.int .i64),(.list false [(.int .u64)])]
abbrev kpM:KP:=⟨[1,2,3,5],[1,2,3,500],[⟨(.cell 3 5),500,61,true,[(.int .i64),(.list false [(.int .u64)])]⟩]⟩
abbrev stM (d c:Int) (bias ts:List IV) (D C b0 b1 b2:Int) (O:List IV) (x:Int):St:=
  ⟨[(1,(.ptr 1 0 0)),(2,(.ptr 2 0 0)),(3,(.ptr 3 0 0)),(5,(.int .i64 x))],[(1,(some (yiu d c bias ts))),(2,(some yiz)),(3,(some (.box [(.int .i64 D),(.int .i64 C),(.int .i64 b0),(.int .i64 b1),(.int .i64 b2),(.row 500 0 O.length)]))),(500,(some (.row true 61 true kMT O)))]⟩
def y3r (D C:Int) (t:IV):IV:=.agg [.int (z00 (t.cell 0).toInt 0 (C - 1)),.list (zd4 (t.cell 1).toList (t.cell 2).toList (t.cell 3).toList (t.cell 4).toList D)]
theorem y89 (N:Nat):TI.bytes (Env.tyd (z06 N) 61)=32:=by rfl
theorem y29 (N:Nat) (d c:Int) (bias ts:List IV) (D C b0 b1 b2:Int) (hD:1≤D∧D≤4) (hC:1≤C∧C≤3):∀ (m i n:Nat) (O:List IV),i+m=min ts.length 4→m < n→O.length=i →
    lpE (z06 N) (z0l z0e [1,1,1,0,1,0,0]) kpM n (stM d c bias ts D C b0 b1 b2 O (i:Int)) (z08 2 (kSq (z06 N) (z0l z0e [1,1,1,1]) (z2w (z06 N) none [(ResultVar.cell 2 31)] [[(.int .i64),(.int .i64),(.int .i64),(.int .i64),(.int .i64),(.list true [(.int .i64),(.list false [(.int .u64)])])]]))) =
      some (.agg [.int .i64 D,.int .i64 C,.int .i64 b0,.int .i64 b1,.int .i64 b2,.list true kMT (O++((ts.take 4).drop i).map (y3r D C))],[])
  | 0,i,n+1,O,hd,hn,hO=>by
    have fin:(z08 2 (kSq (z06 N) (z0l z0e [1,1,1,1]) (z2w (z06 N) none [(ResultVar.cell 2 31)] [[(.int .i64),(.int .i64),(.int .i64),(.int .i64),(.int .i64),(.list true [(.int .i64),(.list false [(.int .u64)])])]]))) (.exit 2) (stM d c bias ts D C b0 b1 b2 O (i:Int))=some (.agg [.int .i64 D,.int .i64 C,.int .i64 b0,.int .i64 b1,.int .i64 b2,.list true kMT (O++((ts.take 4).drop i).map (y3r D C))],[]):=by
      refine (zaq N i d c bias ts 0 0 0 0 0 D C b0 b1 b2 O.length O).trans ?_
      rw [List.drop_zero,List.take_length,List.drop_of_length_le (by rw [List.length_take]; omega),List.map_nil,List.append_nil]
    rw [z0b]
    refine (z6g N i d c bias ts 0 0 0 0 0 D C b0 b1 b2 O.length O _ _).trans ?_
    by_cases hp:i < ts.length
    · rw [decide_eq_true (show (i:Int) < ic ts.length by simp only [ic]; omega),z01,decide_eq_false (show ¬ (i:Int) < 4 by omega),z03]
      exact fin
    · rw [decide_eq_false (show ¬ (i:Int) < ic ts.length by simp only [ic]; omega),z03]
      exact fin
  | m+1,i,n+1,O,hd,hn,hO=>by
    have hi:i < ts.length:=by omega
    rw [z0b]
    refine (z6g N i d c bias ts 0 0 0 0 0 D C b0 b1 b2 O.length O _ _).trans ?_
    have l1:∀ x:IV,List.drop 0 (List.take 1 [x])=[x]:=fun _=>rfl
    have eg:List.getD ts (Int.toNat (i:Int)) default=ts[i]:=by rw [Int.toNat_natCast]; simp [hi]
    have w1:IntKind.wrap IntKind.i64 (C - 1)=C - 1:=z12 (by omega) (by omega)
    obtain ⟨m1,_,_⟩:=z2n (n:=0) (lo:=0) (hi:=C - 1) (by omega) (by omega) (by omega)
    have ih:=y29 N d c bias ts D C b0 b1 b2 hD hC m (i+1) n (O++[y3r D C ts[i]]) (by omega) (by omega) (by simp [hO])
    rw [decide_eq_true (show (i:Int) < ic ts.length by simp only [ic]; omega),decide_eq_true (show (i:Int) < 4 by omega),decide_eq_true (show 0≤(i:Int) by omega),w1,m1,decide_eq_false (show ¬ (C - 1 - 0+1=0) by omega),decide_eq_true hD.1,decide_eq_true hD.2,eg,l1,y89,List.length_singleton,
      decide_eq_true (show (O.length+1)*32≤z0d by rw [hO]; unfold z0d; omega),List.take_length,z68 (by omega)]
    simp only [Bool.and_true,z01,z03]
    have ed:(ts.take 4).drop i=ts[i] :: (ts.take 4).drop (i+1):=by
      have h4:i < (ts.take 4).length:=by rw [List.length_take]; omega
      rw [List.drop_eq_getElem_cons h4]
      congr 1
      rw [List.getElem_take]
    rw [ed,List.map_cons]
    rw [List.append_assoc] at ih
    have eL:(O++[y3r D C ts[i]]).length=O.length+1:=by simp
    rw [show stM d c bias ts D C b0 b1 b2 (O++[y3r D C ts[i]]) ((i+1:Nat):Int)=⟨[(1,(.ptr 1 0 0)),(2,(.ptr 2 0 0)),(3,(.ptr 3 0 0)),(5,(.int .i64 ((i+1:Nat):Int)))],[(1,(some (yiu d c bias ts))),(2,(some yiz)),(3,(some (.box [(.int .i64 D),(.int .i64 C),(.int .i64 b0),(.int .i64 b1),(.int .i64 b2),(.row 500 0 (O++[y3r D C ts[i]]).length)]))),(500,(some (.row true 61 true kMT (O++[y3r D C ts[i]]))))]⟩ from rfl,eL] at ih
    exact ih
  | _,_,0,_,_,h,_=>by omega
set_option maxRecDepth 100000 in
theorem zca:z3n PR B0 4 z3l:=by
  refine z0o [(6,z0z),(15,z36),(14,z2e)] [(3,⟨[1,2,3,14,15],[1,2,3],[]⟩),(8,kpM)] z3l [[.int .i64,.int .i64,.int .i64,.int .i64,.int .i64,.list true [.int .i64,.list false [.int .u64]]]] Tryz.func4 ze6
    ⟨z3s,ze2,z8f,trivial⟩ ?_
  intro vs r hwf h
  unfold z3l at h
  split at h
  · rename_i d c bias ts
    refine ⟨20,?_⟩
    rw [R.get_ok] at h
    rw [← h]
    refine (zdo 20 d c bias ts).trans ?_
    obtain ⟨_,d1,d2⟩:=z2n (n:=d) (lo:=1) (hi:=3) (by omega) (by omega) (by omega)
    obtain ⟨_,c1,c2⟩:=z2n (n:=c) (lo:=1) (hi:=3) (by omega) (by omega) (by omega)
    unfold zob y8l zys zzg y82
    generalize z00 d 1 3=D at d1 d2
    generalize z00 c 1 3=C' at c1 c2
    obtain ⟨C,rfl⟩:∃ C:Nat,C'=C:=⟨C'.toNat,by omega⟩
    refine (y6w 20 d c bias ts D C (by omega) _ C 0 20 (by omega) (by omega)).trans ?_
    refine (zat 20 C C d c bias ts 0 0 0 0 0 D C (cond (Nat.blt 0 C) (bF bias 0) 0) (cond (Nat.blt 1 C) (bF bias 1) 0) (cond (Nat.blt 2 C) (bF bias 2) 0)).trans ?_
    refine (y29 20 d c bias ts D C _ _ _ ⟨d1,by omega⟩ ⟨c1,by omega⟩ (min ts.length 4) 0 20 [] (by omega) (by omega) rfl).trans ?_
    rw [List.drop_zero,List.nil_append]
    have hC:C=1∨C=2∨C=3:=by omega
    rcases hC with rfl | rfl | rfl <;> rfl
  · simp [R.get] at h
open Go
theorem zvh {s t:ByteArray} (h:s.data.toList=t.data.toList):s=t:=ByteArray.ext (Array.ext' h)
theorem zn5 (s t:ByteArray):(s.toList==t.toList)=decide (s=t):=by
  rw [Lib.toList_data,Lib.toList_data]
  by_cases h:s=t
  · subst h; simp
  · rw [decide_eq_false h,beq_eq_false_iff_ne]
    exact fun e=>h (zvh e)
theorem zpz (s:ByteArray):s.size=s.data.toList.length:=by rw [Array.length_toList]; rfl
theorem zeo (u:Nat):∀ c∈Lib.decDigits u,48≤c.toNat∧c.toNat≤57:=by
  induction u using Nat.strongRecOn with
  | _ u ih=>
    intro c hc
    rw [Lib.decDigits] at hc
    split at hc
    · rename_i h
      simp only [List.mem_singleton] at hc
      subst hc
      rw [UInt8.toNat_ofNat_of_lt' (by simp [UInt8.size]; omega)]
      omega
    · rename_i h
      rw [List.mem_append,List.mem_singleton] at hc
      rcases hc with hc | hc
      · exact ih (u / 10) (by omega) c hc
      · subst hc
        rw [UInt8.toNat_ofNat_of_lt' (by simp [UInt8.size]; omega)]
        omega
theorem zlc (u:Nat):Lib.decDigits u≠[]:=by
  rw [Lib.decDigits]
  split <;> simp
theorem yci (n:Int):∀ c∈Lib.itoa n,c.toNat=45∨(48≤c.toNat∧c.toNat≤57):=by
  intro c hc
  unfold Lib.itoa at hc
  split at hc
  · rcases List.mem_cons.1 hc with h | h
    · subst h; exact .inl rfl
    · exact .inr (zeo _ c h)
  · exact .inr (zeo _ c hc)
theorem y71 (n:Int) (c:UInt8) (hc:c.toNat < 45):c ∉ Lib.itoa n:=by
  intro h
  rcases yci n c h with h1 | h1 <;> omega
theorem y8c (u:Nat):∀ (acc:Nat) (r:List UInt8),acc*10 ^ (Lib.decDigits u).length+u < 18446744073709551616 →
    Lib.parseUint10 acc (Lib.decDigits u++r)=Lib.parseUint10 (acc*10 ^ (Lib.decDigits u).length+u) r:=by
  induction u using Nat.strongRecOn with
  | _ u ih=>
    intro acc r hlt
    rw [Lib.decDigits] at hlt ⊢
    split at hlt
    · rename_i h
      rw [dif_pos h]
      simp only [List.length_singleton,Nat.pow_one,List.singleton_append] at hlt ⊢
      have hc:(UInt8.ofNat (48+u)).toNat=48+u:=UInt8.toNat_ofNat_of_lt' (by simp [UInt8.size]; omega)
      rw [Lib.parseUint10,hc,if_pos (by omega),if_neg (by omega),if_neg (by omega)]
      congr 1
      omega
    · rename_i h
      rw [dif_neg h]
      simp only [List.length_append,List.length_singleton,Nat.pow_succ,List.append_assoc,List.singleton_append] at hlt ⊢
      have ea:acc*(10 ^ (Lib.decDigits (u / 10)).length*10)=acc*10 ^ (Lib.decDigits (u / 10)).length*10:=by rw [Nat.mul_assoc]
      rw [ea] at hlt ⊢
      rw [ih (u / 10) (by omega) acc _ (by omega)]
      have hc:(UInt8.ofNat (48+u % 10)).toNat=48+u % 10:=UInt8.toNat_ofNat_of_lt' (by simp [UInt8.size]; omega)
      rw [Lib.parseUint10,hc,if_pos (by omega),if_neg (by omega),if_neg (by omega)]
      congr 1
      omega
theorem zwb (u:Nat) (h:u < 18446744073709551616):Lib.parseMag (Lib.decDigits u) = .ok u:=by
  unfold Lib.parseMag
  rw [if_neg (zlc u)]
  have:=y8c u 0 [] (by omega)
  rw [List.append_nil] at this
  rw [this,Nat.zero_mul,Nat.zero_add]
  rfl
theorem y7s (n:Int) (h0 : -9223372036854775808≤n) (h1:n≤9223372036854775807):Lib.atoiAll (Lib.itoa n) = .ok n:=by
  unfold Lib.itoa
  split
  · rename_i hn
    unfold Lib.atoiAll
    have e:(45:UInt8).toNat=45:=rfl
    simp only [e,or_true,if_true,zwb n.natAbs (by omega),not_true_eq_false,false_and,if_false,true_and]
    rw [if_neg (by omega)]
    congr 1
    omega
  · rename_i hn
    obtain ⟨c,r,hl⟩:∃ c r,Lib.decDigits n.toNat=c :: r:=by
      cases h:Lib.decDigits n.toNat with
      | nil=>exact absurd h (zlc _)
      | cons c r=>exact ⟨c,r,rfl⟩
    have hc:=zeo n.toNat c (by rw [hl]; exact List.mem_cons_self ..)
    have hm:=zwb n.toNat (by omega)
    rw [hl] at hm ⊢
    unfold Lib.atoiAll
    have e1:¬ c.toNat=43:=by omega
    have e2:¬ c.toNat=45:=by omega
    simp only [e1,e2,or_self,if_false,hm,false_and,not_false_eq_true,true_and]
    rw [if_neg (by omega)]
    congr 1
    omega
theorem y9n {s:ByteArray} {n:Int} (h:s.data.toList=Lib.itoa n) (h0 : -9223372036854775808≤n) (h1:n≤9223372036854775807):zlj s=n:=by
  unfold zlj
  rw [h,y7s n h0 h1]
theorem zej:∀ (w r:List UInt8) (c:UInt8),c ∉ w→Lib.indexByte (w++c :: r) c=w.length
  | [],r,c,_=>by simp [Lib.indexByte]
  | b :: w,r,c,h=>by
    simp only [List.mem_cons,not_or] at h
    have e:(b==c)=false:=beq_eq_false_iff_ne.2 (fun e=>h.1 e.symm)
    have e2:((w.length:Int) == -1)=false:=by rw [beq_eq_false_iff_ne]; omega
    simp only [List.cons_append,Lib.indexByte,e,zej w r c h.2,e2,List.length_cons]
    simp
theorem ygd (w r:List UInt8) (c:UInt8) (h:c ∉ w):Lib.cut (w++c :: r) [c]=(w,r,true):=by
  unfold Lib.cut
  rw [Lib.index_one,zej w r c h,if_pos (by omega)]
  simp
theorem ybr (w r:List UInt8) (c:UInt8) (h:c ∉ w):Lib.split (w++c :: r) [c]=w :: Lib.split r [c]:=by
  unfold Lib.split
  have ec:Lib.count (w++c :: r) [c]=Lib.count r [c]+1:=by
    rw [Lib.count_one,Lib.count_one,List.count_append,List.count_eq_zero_of_not_mem h,List.count_cons_self,Nat.zero_add]
  rw [ec,Lib.splitK,Lib.index_one,zej w r c h]
  have e2:((w.length:Int) == -1)=false:=by rw [beq_eq_false_iff_ne]; omega
  rw [e2]
  simp
theorem ybp (w:List UInt8) (c:UInt8) (h:c ∉ w):Lib.split w [c]=[w]:=by
  unfold Lib.split
  rw [Lib.count_one,List.count_eq_zero_of_not_mem h]
  rfl
def lnL (w:List UInt8) (l:List Int):List UInt8:=w++l.flatMap fun n=>32 :: Lib.itoa n
theorem yd0 (w:List UInt8) (n:Int) (l:List Int):lnL w (n :: l)=w++32 :: lnL (Lib.itoa n) l:=by simp [lnL]
theorem yib (c:UInt8) (hc:c.toNat < 32) {w:List UInt8} (hw:c ∉ w) (l:List Int):c ∉ lnL w l:=by
  unfold lnL
  rw [List.mem_append,List.mem_flatMap]
  rintro (h | ⟨n,_,h⟩)
  · exact hw h
  · rcases List.mem_cons.1 h with e | e
    · subst e
      have:(32:UInt8).toNat=32:=rfl
      omega
    · exact y71 n c (by omega) e
theorem y6q:∀ (l:List Int) (w:List UInt8),(32:UInt8) ∉ w→Lib.split (lnL w l) [32]=w :: l.map Lib.itoa
  | [],w,h=>by simp only [lnL,List.flatMap_nil,List.append_nil,List.map_nil]; exact ybp w 32 h
  | n :: l,w,h=>by
    rw [yd0,ybr w _ 32 h,y6q l (Lib.itoa n) (y71 n 32 (by decide))]
    rfl
theorem y1d (s sep:ByteArray):(z4k s sep).map (·.data.toList)=Lib.split s.data.toList sep.data.toList:=by
  unfold z4k Lib.split
  rw [Lib.splitB_data]
open Go
theorem y1b (s t:ByteArray):(s++t).data.toList=s.data.toList++t.data.toList:=by simp
theorem y01 (s:ByteArray) (c:UInt8):(s.push c).data.toList=s.data.toList++[c]:=by simp [ByteArray.push]
theorem y8n (n:Int):(zyz n).data.toList=Lib.itoa n:=rfl
theorem zvg:∀ (l:List IV) (s:ByteArray),(zk1 s l).data.toList=s.data.toList++(l.map IV.toInt).flatMap fun n=>32 :: Lib.itoa n
  | [],s=>by simp [zk1]
  | x :: l,s=>by
    rw [zk1,zvg l,y1b,y01,y8n]
    simp
theorem z7s (s w:ByteArray) (l:List IV):(z2o s w l).data.toList=s.data.toList++(lnL w.data.toList (l.map IV.toInt)++[10]):=by
  unfold z2o lnL
  rw [y01,zvg,y1b]
  simp
def yfh (x:IV):List UInt8:=cond (z62 x) (lnL zup.data.toList []) (lnL y3x.data.toList [z0t x,zbk x])
def zg4:List IV→List UInt8
  | []=>[]
  | x :: l=>yfh x++10 :: zg4 l
theorem zhp:∀ (l:List IV) (s:ByteArray),(z27 s l).data.toList=s.data.toList++zg4 l
  | [],s=>by simp [z27,zg4]
  | x :: l,s=>by
    rw [z27,zhp l,zg4]
    unfold yfh
    cases z62 x
    · simp only [cond_false]
      rw [z7s]
      simp [IV.toInt]
    · simp only [cond_true]
      rw [z7s]
      simp
def z90 (n:Int):Prop := -9223372036854775808≤n∧n≤9223372036854775807
def zpk (x:IV):Prop:=z90 (z0t x)∧z90 (zbk x)
structure Vd.rng (v:Vd):Prop where
  w0:z90 v.w0
  w1:z90 v.w1
  w2:z90 v.w2
  w3:z90 v.w3
  twin:z90 v.twin
  spent:z90 v.spent
  proof:∀ x∈v.proof,zpk x
theorem y5r:∀ (l:List IV) (s:ByteArray),(∀ x∈l,z90 x.toInt)→(zk1 s l).size≤s.size+22*l.length
  | [],s,_=>Nat.le_refl _
  | x :: l,s,h=>by
    rw [zk1]
    refine Nat.le_trans (y5r l _ (fun y hy=>h y (List.mem_cons_of_mem _ hy))) ?_
    have hx:=h x (List.mem_cons_self ..)
    have:=zve (n:=x.toInt) hx.1 hx.2
    rw [ByteArray.size_append,ByteArray.size_push,List.length_cons]
    omega
theorem zif (s w:ByteArray) (l:List IV) (h:∀ x∈l,z90 x.toInt):(z2o s w l).size≤s.size+w.size+22*l.length+1:=by
  unfold z2o
  have:=y5r l (s++w) h
  rw [ByteArray.size_append] at this
  rw [ByteArray.size_push]
  omega
theorem zl9:∀ (l:List IV) (s:ByteArray),(∀ x∈l,zpk x)→(z27 s l).size≤s.size+48*l.length
  | [],s,_=>Nat.le_refl _
  | x :: l,s,h=>by
    rw [z27]
    refine Nat.le_trans (zl9 l _ (fun y hy=>h y (List.mem_cons_of_mem _ hy))) ?_
    have hx:=h x (List.mem_cons_self ..)
    rw [List.length_cons]
    cases z62 x
    · have:=zif s y3x [.int (z0t x),.int (zbk x)] (fun y hy=>by
        simp only [List.mem_cons,List.mem_nil_iff,or_false] at hy
        rcases hy with rfl | rfl
        · exact hx.1
        · exact hx.2)
      have e:y3x.size=3:=rfl
      simp only [cond_false,List.length_cons,List.length_nil] at this ⊢
      omega
    · have:=zif s zup [] (fun y hy=>by cases hy)
      have e:zup.size=3:=rfl
      simp only [cond_true,List.length_nil] at this ⊢
      omega
open Go
theorem zqa {v:Vd} (h:v.right=true):v.proof.length≤65536:=by
  unfold Vd.right at h
  simp only [Bool.and_eq_true,Bool.or_eq_true] at h
  rcases h.2.2 with h1 | h1 | h1
  · have:=h1.2.2
    unfold zg8 at this
    simp only [Bool.and_eq_true,decide_eq_true_eq] at this
    exact this.2.1
  · have:=h1.2
    cases hp:v.proof with
    | nil=>simp
    | cons a b=>rw [hp] at this; cases this
  · have:=h1.2.2
    cases hp:v.proof with
    | nil=>simp
    | cons a b=>rw [hp] at this; cases this
theorem y4x {l:List Int} (h:∀ n∈l,z90 n):∀ x∈l.map IV.int,z90 x.toInt:=by
  intro x hx
  obtain ⟨n,hn,rfl⟩:=List.mem_map.1 hx
  exact h n hn
theorem yi1 {n:Nat} (h:n≤65536):z90 (ic n):=by unfold z90 ic; omega
theorem y13 {v:Vd} (hr:v.rng):(z0r v).size≤4000000:=by
  unfold z0r
  cases h:v.right with
  | false=>simp only [cond_false]; decide
  | true=>
    simp only [cond_true]
    have hp:=zqa h
    cases v.kind==1 with
    | true=>
      simp only [cond_true]
      have h1:=zl9 v.proof (z2o z2g z8s [.int v.spent,.int (ic v.proof.length)]) hr.proof
      have h2:=zif z2g z8s [.int v.spent,.int (ic v.proof.length)] (y4x (l:=[v.spent,ic v.proof.length]) (by
        intro n hn
        simp only [List.mem_cons,List.mem_nil_iff,or_false] at hn
        rcases hn with rfl | rfl
        · exact hr.spent
        · exact yi1 hp))
      have e1:z2g.size=0:=rfl
      have e2:z8s.size=5:=rfl
      simp only [List.length_cons,List.length_nil] at h2
      omega
    | false=>
      simp only [cond_false]
      cases v.kind==2 with
      | true=>
        simp only [cond_true]
        have h2:=zif z2g zdg [.int v.spent,.int v.w0,.int v.w1,.int v.w2,.int v.w3,.int v.twin] (y4x (l:=[v.spent,v.w0,v.w1,v.w2,v.w3,v.twin]) (by
          intro n hn
          simp only [List.mem_cons,List.mem_nil_iff,or_false] at hn
          rcases hn with rfl | rfl | rfl | rfl | rfl | rfl
          · exact hr.spent
          · exact hr.w0
          · exact hr.w1
          · exact hr.w2
          · exact hr.w3
          · exact hr.twin))
        have e1:z2g.size=0:=rfl
        have e2:zdg.size=5:=rfl
        simp only [List.length_cons,List.length_nil] at h2
        omega
      | false=>
        simp only [cond_false]
        have hs:∀ x∈[IV.int v.spent],z90 x.toInt:=y4x (l:=[v.spent]) (by
          intro n hn
          simp only [List.mem_cons,List.mem_nil_iff,or_false] at hn
          subst hn
          exact hr.spent)
        have e1:z2g.size=0:=rfl
        cases v.kind==3 with
        | true=>
          simp only [cond_true]
          have h2:=zif z2g z71 [.int v.spent] hs
          have e2:z71.size=7:=rfl
          simp only [List.length_cons,List.length_nil] at h2
          omega
        | false=>
          simp only [cond_false]
          have h2:=zif z2g zdp [.int v.spent] hs
          have e2:zdp.size=5:=rfl
          simp only [List.length_cons,List.length_nil] at h2
          omega
theorem z4j (l:List IV) (i:Int):z90 (z1j l i):=by
  unfold z1j
  cases decide (ic l.length≤i) with
  | true=>simp only [cond_true]; unfold z90; omega
  | false=>
    simp only [cond_false]
    have:=zrj (l.getD i.toNat default).toStr
    exact this
theorem z2c:z90 0:=⟨by decide,by decide⟩
theorem y4z (s:ByteArray):zpk (zii s):=by
  unfold zii
  cases ((zcu (z5d s)).toList==zup.toList) with
  | true=>exact ⟨z2c,z2c⟩
  | false=>exact ⟨z4j _ _,z4j _ _⟩
theorem zoa:∀ (m:Nat) (s:ByteArray) (p:List IV),(∀ x∈p,zpk x)→∀ x∈z92 m s p,zpk x
  | 0,_,_,h=>h
  | m+1,s,p,h=>by
    unfold z92
    cases (!(s.toList==z2g.toList)&&decide (p.length≤65536)) with
    | false=>exact h
    | true=>
      simp only [cond_true]
      refine zoa m _ _ (fun x hx=>?_)
      rcases List.mem_append.1 hx with h1 | h1
      · exact h x h1
      · rw [List.mem_singleton.1 h1]
        exact y4z s
theorem y9t (s:ByteArray):(z91 s).rng:=by
  unfold z91
  cases ((zcu (z5d s)).toList==z8s.toList) with
  | true=>exact ⟨z2c,z2c,z2c,z2c,z2c,z4j _ _,zoa _ _ _ (fun x hx=>by cases hx)⟩
  | false=>
    cases ((zcu (z5d s)).toList==zdg.toList) with
    | true=>exact ⟨z4j _ _,z4j _ _,z4j _ _,z4j _ _,z4j _ _,z4j _ _,fun x hx=>by cases hx⟩
    | false=>
      cases ((zcu (z5d s)).toList==z71.toList) with
      | true=>exact ⟨z2c,z2c,z2c,z2c,z2c,z4j _ _,fun x hx=>by cases hx⟩
      | false=>
        cases ((zcu (z5d s)).toList==zdp.toList) with
        | true=>exact ⟨z2c,z2c,z2c,z2c,z2c,z4j _ _,fun x hx=>by cases hx⟩
        | false=>exact ⟨z2c,z2c,z2c,z2c,z2c,z4j _ _,fun x hx=>by cases hx⟩
theorem ya7 (s sep:ByteArray):(cutL s sep).data.toList=(Lib.cut s.data.toList sep.data.toList).1:=rfl
theorem y94 (s sep:ByteArray):(y0s s sep).data.toList=(Lib.cut s.data.toList sep.data.toList).2.1:=rfl
theorem zie {s:ByteArray} {w r:List UInt8} {l:List Int} (h:s.data.toList=lnL w l++10 :: r) (h32:(32:UInt8) ∉ w) (h10:(10:UInt8) ∉ w) :
    (z5d s).map (fun x=>x.toStr.data.toList)=w :: l.map Lib.itoa∧(y0s s y2b).data.toList=r:=by
  have hc:Lib.cut s.data.toList y2b.data.toList=(lnL w l,r,true):=by
    rw [h]
    exact ygd _ r 10 (yib 10 (by decide) h10 l)
  constructor
  · unfold z5d
    rw [List.map_map]
    have:((fun x=>x.toStr.data.toList) ∘ IV.str)=fun b:ByteArray=>b.data.toList:=rfl
    rw [this,y1d,ya7,hc]
    exact y6q l w h32
  · rw [y94,hc]
theorem zav {L:List IV} {w:List UInt8} {ws:List (List UInt8)} (h:L.map (fun x=>x.toStr.data.toList)=w :: ws) (t:ByteArray):((zcu L).toList==t.toList)=(w==t.data.toList):=by
  cases L with
  | nil=>cases h
  | cons x L=>
    simp only [List.map_cons,List.cons.injEq] at h
    unfold zcu
    rw [Lib.toList_data,Lib.toList_data]
    simp only [List.getD_cons_zero]
    rw [h.1]
theorem zhl {L:List IV} {ws:List (List UInt8)} (h:L.map (fun x=>x.toStr.data.toList)=ws) (i:Nat) {n:Int} (hi:ws[i]?=some (Lib.itoa n)) (hn:z90 n):z1j L (i:Int)=n:=by
  subst h
  rw [List.getElem?_map] at hi
  cases hx:L[i]? with
  | none=>rw [hx] at hi; cases hi
  | some x=>
    rw [hx] at hi
    simp only [Option.map_some,Option.some.injEq] at hi
    have hl:=(List.getElem?_eq_some_iff.1 hx).1
    unfold z1j
    rw [decide_eq_false (show ¬ ic L.length≤(i:Int) by simp only [ic]; omega)]
    simp only [cond_false]
    have:(L.getD (i:Int).toNat default)=x:=by
      rw [Int.toNat_natCast,List.getD_eq_getElem?_getD,hx]
      rfl
    rw [this]
    exact y9n hi hn.1 hn.2
def zv3 (x:IV):IV:=cond (z62 x) (zj3 true 0 0) (zj3 false (z0t x) (zbk x))
theorem ycl {x:IV} (h:zg1 x=true):yh1 (zv3 x) x=true:=by
  unfold zv3
  unfold zg1 at h
  unfold yh1
  cases hs:z62 x with
  | true=>
    rw [hs] at h
    simp only [Bool.true_and,Bool.and_eq_true,Bool.not_not,beq_iff_eq] at h
    have e1:z62 (zj3 true 0 0)=true:=rfl
    have e2:z0t (zj3 true 0 0)=0:=rfl
    have e3:zbk (zj3 true 0 0)=0:=rfl
    simp only [cond_true,e1,e2,e3,h.1.1,h.1.2]
    rfl
  | false=>
    have e1:z62 (zj3 false (z0t x) (zbk x))=false:=rfl
    have e2:z0t (zj3 false (z0t x) (zbk x))=z0t x:=rfl
    have e3:zbk (zj3 false (z0t x) (zbk x))=zbk x:=rfl
    simp only [cond_false,e1,e2,e3,beq_self_eq_true,Bool.and_self]
theorem zvi:∀ {l:List IV},l.all zg1=true→z4i (l.map zv3) l=true
  | [],_=>rfl
  | x :: l,h=>by
    simp only [List.all_cons,Bool.and_eq_true] at h
    simp only [List.map_cons,z4i,ycl h.1,zvi h.2,Bool.and_self]
theorem y6p {s:ByteArray}:(s.toList==z2g.toList)=s.data.toList.isEmpty:=by
  rw [zn5]
  cases h:s.data.toList with
  | nil=>
    have:s=z2g:=zvh (h.trans rfl)
    rw [decide_eq_true this]
    rfl
  | cons a l=>
    rw [decide_eq_false (fun e=>by rw [e] at h; cases h)]
    rfl
theorem znz:∀ (l:List IV) (m:Nat) (s:ByteArray) (p:List IV),s.data.toList=zg4 l→l.length < m→p.length+l.length≤65536→(∀ x∈l,zpk x)→z92 m s p=p++l.map zv3
  | [],m+1,s,p,hs,_,_,_=>by
    unfold z92
    rw [y6p,hs]
    simp [zg4]
  | x :: l,m+1,s,p,hs,hm,hp,hx=>by
    have hne:(s.toList==z2g.toList)=false:=by
      rw [y6p,hs,zg4]
      simp
    unfold z92
    simp only [List.length_cons] at hm hp
    rw [hne,decide_eq_true (show p.length≤65536 by omega)]
    simp only [Bool.not_false,Bool.and_self,cond_true]
    have hr:=hx x (List.mem_cons_self ..)
    have key:zii s=zv3 x∧(y0s s y2b).data.toList=zg4 l:=by
      rw [zg4] at hs
      unfold yfh at hs
      unfold zv3 zii
      cases hc:z62 x with
      | true=>
        rw [hc] at hs
        simp only [cond_true] at hs ⊢
        obtain ⟨h1,h2⟩:=zie hs (by decide) (by decide)
        refine ⟨?_,h2⟩
        rw [zav h1]
        simp only [beq_self_eq_true,cond_true]
      | false=>
        rw [hc] at hs
        simp only [cond_false] at hs ⊢
        obtain ⟨h1,h2⟩:=zie hs (by decide) (by decide)
        refine ⟨?_,h2⟩
        rw [zav h1]
        have e:(y3x.data.toList==zup.data.toList)=false:=by decide
        rw [e]
        simp only [cond_false]
        have n1:=zhl h1 1 (n:=z0t x) rfl hr.1
        have n2:=zhl h1 2 (n:=zbk x) rfl hr.2
        have c1:((1:Nat):Int)=1:=rfl
        have c2:((2:Nat):Int)=2:=rfl
        rw [c1] at n1
        rw [c2] at n2
        rw [n1,n2]
    rw [key.1,znz l m _ _ key.2 (by omega) (by simp only [List.length_append,List.length_singleton]; omega) (fun y hy=>hx y (List.mem_cons_of_mem _ hy))]
    simp
  | [],0,_,_,_,h,_,_=>by omega
  | _ :: _,0,_,_,_,h,_,_=>by simp at h
open Go
theorem zfi {x y:IV}:yh1 x y=true↔z62 x=z62 y∧z0t x=z0t y∧zbk x=zbk y:=by simp [yh1]
theorem zuu:∀ {l m:List IV},z4i l m=true→z4i m l=true
  | [],[],_=>rfl
  | [],_ :: _,h=>by simp [z4i] at h
  | _ :: _,[],h=>by simp [z4i] at h
  | x :: l,y :: m,h=>by
    simp only [z4i,Bool.and_eq_true] at h ⊢
    obtain ⟨h1,h2,h3⟩:=zfi.1 h.1
    exact ⟨zfi.2 ⟨h1.symm,h2.symm,h3.symm⟩,zuu h.2⟩
theorem zqe:∀ {l m n:List IV},z4i l m=true→z4i m n=true→z4i l n=true
  | [],[],[],_,_=>rfl
  | [],[],_ :: _,_,h=>by simp [z4i] at h
  | [],_ :: _,_,h,_=>by simp [z4i] at h
  | _ :: _,[],_,h,_=>by simp [z4i] at h
  | _ :: _,_ :: _,[],_,h=>by simp [z4i] at h
  | x :: l,y :: m,z :: n,h,k=>by
    simp only [z4i,Bool.and_eq_true] at h k ⊢
    obtain ⟨h1,h2,h3⟩:=zfi.1 h.1
    obtain ⟨k1,k2,k3⟩:=zfi.1 k.1
    exact ⟨zfi.2 ⟨h1.trans k1,h2.trans k2,h3.trans k3⟩,zqe h.2 k.2⟩
structure VSame (a b:Vd):Prop where
  kind:a.kind=b.kind
  proof:z4i a.proof b.proof=true
  w0:a.w0=b.w0
  w1:a.w1=b.w1
  w2:a.w2=b.w2
  w3:a.w3=b.w3
  twin:a.twin=b.twin
  spent:a.spent=b.spent
theorem ye2 {a b:Vd}:yeo a b=true↔VSame a b:=by
  unfold yeo
  simp only [Bool.and_eq_true,beq_iff_eq]
  exact ⟨fun ⟨h1,h2,h3,h4,h5,h6,h7,h8⟩=>⟨h1,h2,h3,h4,h5,h6,h7,h8⟩,fun ⟨h1,h2,h3,h4,h5,h6,h7,h8⟩=>⟨h1,h2,h3,h4,h5,h6,h7,h8⟩⟩
theorem VSame.symm {a b:Vd} (h:VSame a b):VSame b a:=⟨h.kind.symm,zuu h.proof,h.w0.symm,h.w1.symm,h.w2.symm,h.w3.symm,h.twin.symm,h.spent.symm⟩
theorem VSame.trans {a b c:Vd} (h:VSame a b) (k:VSame b c):VSame a c:=⟨h.kind.trans k.kind,zqe h.proof k.proof,h.w0.trans k.w0,h.w1.trans k.w1,h.w2.trans k.w2,h.w3.trans k.w3,h.twin.trans k.twin,h.spent.trans k.spent⟩
theorem zsj:∀ {l m:List IV},z4i l m=true→l.length=m.length
  | [],[],_=>rfl
  | [],_ :: _,h=>by simp [z4i] at h
  | _ :: _,[],h=>by simp [z4i] at h
  | _ :: l,_ :: m,h=>by
    simp only [z4i,Bool.and_eq_true] at h
    simp only [List.length_cons,zsj h.2]
theorem y0z:∀ {l m:List IV},z4i l m=true→l.all zg1=m.all zg1
  | [],[],_=>rfl
  | [],_ :: _,h=>by simp [z4i] at h
  | _ :: _,[],h=>by simp [z4i] at h
  | x :: l,y :: m,h=>by
    simp only [z4i,Bool.and_eq_true] at h
    obtain ⟨h1,h2,h3⟩:=zfi.1 h.1
    simp only [List.all_cons,y0z h.2]
    unfold zg1
    rw [h1,h2,h3]
theorem zq0:∀ {l m:List IV} (s:ByteArray),z4i l m=true→z27 s l=z27 s m
  | [],[],_,_=>rfl
  | [],_ :: _,_,h=>by simp [z4i] at h
  | _ :: _,[],_,h=>by simp [z4i] at h
  | x :: l,y :: m,s,h=>by
    simp only [z4i,Bool.and_eq_true] at h
    obtain ⟨h1,h2,h3⟩:=zfi.1 h.1
    simp only [z27,h1,h2,h3]
    exact zq0 _ h.2
theorem y4q {l m:List IV} (h:z4i l m=true):l.isEmpty=m.isEmpty:=by
  cases l <;> cases m <;> first | rfl | (simp [z4i] at h)
theorem y7i {a b:Vd} (h:VSame a b):a.right=b.right:=by
  unfold Vd.right Vd.bare zg8
  rw [h.kind,h.w0,h.w1,h.w2,h.w3,h.twin,h.spent,zsj h.proof,y0z h.proof,y4q h.proof]
theorem y3j {a b:Vd} (h:VSame a b):z0r a=z0r b:=by
  unfold z0r
  rw [y7i h,h.kind,h.w0,h.w1,h.w2,h.w3,h.twin,h.spent,zsj h.proof,zq0 _ h.proof]
theorem y33 {v:Vd} (h:v.right=false):z0r v=z2g:=by
  unfold z0r
  rw [h]
  rfl
theorem zkj (s w:ByteArray) (l:List IV):0 < (z2o s w l).size:=by
  unfold z2o
  rw [ByteArray.size_push]
  omega
theorem zl8:∀ (l:List IV) (s:ByteArray),s.size≤(z27 s l).size
  | [],s=>Nat.le_refl _
  | x :: l,s=>by
    rw [z27]
    refine Nat.le_trans ?_ (zl8 l _)
    have key:∀ w k,s.size≤(z2o s w k).size:=fun w k=>by
      rw [zpz,zpz,z7s,List.length_append]
      omega
    cases z62 x
    · exact key _ _
    · exact key _ _
theorem y09 {v:Vd} (h:v.right=true):0 < (z0r v).size:=by
  unfold z0r
  rw [h]
  simp only [cond_true]
  cases v.kind==1 with
  | true=>simp only [cond_true]; exact Nat.lt_of_lt_of_le (zkj _ _ _) (zl8 _ _)
  | false=>
    simp only [cond_false]
    cases v.kind==2 with
    | true=>exact zkj _ _ _
    | false=>
      simp only [cond_false]
      cases v.kind==3 with
      | true=>exact zkj _ _ _
      | false=>exact zkj _ _ _
theorem zwa:∀ l:List IV,l.length≤(zg4 l).length
  | []=>Nat.le_refl _
  | x :: l=>by
    have:=zwa l
    simp only [zg4,List.length_append,List.length_cons]
    omega
theorem zpu {v:Vd} (h:v.bare=true):v.w0=0∧v.w1=0∧v.w2=0∧v.w3=0∧v.twin=0:=by
  unfold Vd.bare at h
  simpa using h
theorem zw5 {v:Vd} (hr:v.right=true) (hv:v.rng):VSame (z91 (z0r v)) v:=by
  have hlen:=zqa hr
  have hr':=hr
  unfold Vd.right at hr
  simp only [Bool.and_eq_true,Bool.or_eq_true,beq_iff_eq] at hr
  have c1:((1:Nat):Int)=1:=rfl
  have c2:((2:Nat):Int)=2:=rfl
  have c3:((3:Nat):Int)=3:=rfl
  have c4:((4:Nat):Int)=4:=rfl
  have c5:((5:Nat):Int)=5:=rfl
  have c6:((6:Nat):Int)=6:=rfl
  rcases hr.2.2 with ⟨hk,hb,hs⟩ | ⟨hk,he⟩ | ⟨hk,hb,he⟩
  · have hd:(z0r v).data.toList=lnL z8s.data.toList [v.spent,ic v.proof.length]++10 :: zg4 v.proof:=by
      unfold z0r
      rw [hr',hk]
      have e1:((1:Int)==1)=true:=rfl
      simp only [cond_true,e1]
      rw [zhp,z7s]
      simp [IV.toInt]
    obtain ⟨h1,h2⟩:=zie hd (by decide) (by decide)
    have n1:=zhl h1 1 (n:=v.spent) rfl hv.spent
    rw [c1] at n1
    have hst:zg8 v.proof=true:=hs
    unfold zg8 at hs
    simp only [Bool.and_eq_true,decide_eq_true_eq] at hs
    have hread:=znz v.proof ((y0s (z0r v) y2b).size+1) _ [] h2 (by
      have:=zwa v.proof
      rw [← h2,← zpz] at this
      omega) (by simp only [List.length_nil]; omega) hv.proof
    unfold z91
    rw [zav h1]
    simp only [beq_self_eq_true,cond_true]
    obtain ⟨b0,b1,b2,b3,b4⟩:=zpu hb
    refine ⟨hk.symm,?_,b0.symm,b1.symm,b2.symm,b3.symm,b4.symm,n1⟩
    simp only
    rw [hread,List.nil_append]
    exact zvi hs.2.2
  · have hp:v.proof=[]:=List.isEmpty_iff.1 he
    have hd:(z0r v).data.toList=lnL zdg.data.toList [v.spent,v.w0,v.w1,v.w2,v.w3,v.twin]++10 :: []:=by
      unfold z0r
      rw [hr',hk]
      have e1:((2:Int)==1)=false:=rfl
      have e2:((2:Int)==2)=true:=rfl
      simp only [cond_true,cond_false,e1,e2]
      rw [z7s]
      simp [IV.toInt]
    obtain ⟨h1,_⟩:=zie hd (by decide) (by decide)
    have n1:=zhl h1 1 (n:=v.spent) rfl hv.spent
    have n2:=zhl h1 2 (n:=v.w0) rfl hv.w0
    have n3:=zhl h1 3 (n:=v.w1) rfl hv.w1
    have n4:=zhl h1 4 (n:=v.w2) rfl hv.w2
    have n5:=zhl h1 5 (n:=v.w3) rfl hv.w3
    have n6:=zhl h1 6 (n:=v.twin) rfl hv.twin
    rw [c1] at n1
    rw [c2] at n2
    rw [c3] at n3
    rw [c4] at n4
    rw [c5] at n5
    rw [c6] at n6
    unfold z91
    rw [zav h1,zav h1]
    have e1:(zdg.data.toList==z8s.data.toList)=false:=by decide
    simp only [e1,cond_false,beq_self_eq_true,cond_true]
    exact ⟨hk.symm,by rw [hp]; rfl,n2,n3,n4,n5,n6,n1⟩
  · have hp:v.proof=[]:=List.isEmpty_iff.1 he
    obtain ⟨b0,b1,b2,b3,b4⟩:=zpu hb
    rcases hk with hk | hk
    · have hd:(z0r v).data.toList=lnL z71.data.toList [v.spent]++10 :: []:=by
        unfold z0r
        rw [hr',hk]
        have e1:((3:Int)==1)=false:=rfl
        have e2:((3:Int)==2)=false:=rfl
        have e3:((3:Int)==3)=true:=rfl
        simp only [cond_true,cond_false,e1,e2,e3]
        rw [z7s]
        simp [IV.toInt]
      obtain ⟨h1,_⟩:=zie hd (by decide) (by decide)
      have n1:=zhl h1 1 (n:=v.spent) rfl hv.spent
      rw [c1] at n1
      unfold z91
      rw [zav h1,zav h1,zav h1]
      have e1:(z71.data.toList==z8s.data.toList)=false:=by decide
      have e2:(z71.data.toList==zdg.data.toList)=false:=by decide
      simp only [e1,e2,cond_false,beq_self_eq_true,cond_true]
      exact ⟨hk.symm,by rw [hp]; rfl,b0.symm,b1.symm,b2.symm,b3.symm,b4.symm,n1⟩
    · have hd:(z0r v).data.toList=lnL zdp.data.toList [v.spent]++10 :: []:=by
        unfold z0r
        rw [hr',hk]
        have e1:((4:Int)==1)=false:=rfl
        have e2:((4:Int)==2)=false:=rfl
        have e3:((4:Int)==3)=false:=rfl
        simp only [cond_true,cond_false,e1,e2,e3]
        rw [z7s]
        simp [IV.toInt]
      obtain ⟨h1,_⟩:=zie hd (by decide) (by decide)
      have n1:=zhl h1 1 (n:=v.spent) rfl hv.spent
      rw [c1] at n1
      unfold z91
      rw [zav h1,zav h1,zav h1,zav h1]
      have e1:(zdp.data.toList==z8s.data.toList)=false:=by decide
      have e2:(zdp.data.toList==zdg.data.toList)=false:=by decide
      have e3:(zdp.data.toList==z71.data.toList)=false:=by decide
      simp only [e1,e2,e3,cond_false,beq_self_eq_true,cond_true]
      exact ⟨hk.symm,by rw [hp]; rfl,b0.symm,b1.symm,b2.symm,b3.symm,b4.symm,n1⟩
theorem y51 {v:Vd} (hv:v.rng):zdi (z0r v)=v.right:=by
  unfold zdi
  cases h:v.right with
  | false=>
    rw [y33 h]
    simp
  | true=>
    have hp:=y09 h
    have hne:¬ z0r v=z2g:=fun e=>by rw [e] at hp; cases hp
    rw [zn5,zn5,decide_eq_false hne,y3j (zw5 h hv),decide_eq_true rfl]
    rfl
open Go
theorem yee:∀ {l:List IV} {left out:List IV} {most:Int} {st:Int × Int} {lo:List IV × List IV},(∀ y∈left,(bxI y).good)→(∀ y∈out,(bxI y).good)→zzi l (ic left.length,most)=some st→zqc l (left,out)=some lo→∀ x∈l,z54 x=true∧zpk x
  | [],_,_,_,_,_,_,_,_,_=>fun x hx=>by cases hx
  | x :: l,left,out,most,st,lo,hl,ho,hd,hp=>by
    rw [zzi] at hd
    rw [zqc] at hp
    cases h1:zdw (ic left.length,most) x with
    | none=>rw [h1] at hd; cases hd
    | some s1=>
      cases h2:zdv (left,out) x with
      | none=>rw [h2] at hp; cases hp
      | some l1=>
        rw [h1] at hd
        rw [h2] at hp
        obtain ⟨g1,g2,g3⟩:=zo0 hl ho h1 h2
        have hx:z54 x=true∧zpk x:=by
          obtain ⟨hne,hr,hd'⟩:=zze h1
          refine ⟨hr,?_⟩
          have hlen:0 < left.length:=by simp only [ic] at hne; omega
          have ht:(z2k left).good:=hl _ (zgx hlen).1
          unfold zdv at h2
          rcases hd' with ⟨hs,_⟩ | ⟨hs,_⟩
          · unfold z54 at hr
            rw [hs,z01] at hr
            simp only [Bool.and_eq_true,beq_iff_eq] at hr
            unfold zpk z90
            omega
          · have hpl:=zju hr hs
            rw [hs] at h2
            cases hc:(decide (zbk x < ((z2k left).g (z0t x).toNat).lo)||decide (zbk x≥((z2k left).g (z0t x).toNat).hi)) with
            | true=>simp only [hc,cond_false,cond_true] at h2; cases h2
            | false=>
              simp only [Bool.or_eq_false_iff,decide_eq_false_iff_not] at hc
              have:=ht (z0t x).toNat (by omega)
              unfold zpk z90
              omega
        obtain ⟨a,b⟩:=l1
        obtain ⟨c,d⟩:=s1
        obtain rfl:c=ic a.length:=g3
        have ih:=yee g1 g2 hd hp
        intro y hy
        rcases List.mem_cons.1 hy with rfl | hy
        · exact hx
        · exact ih y hy
theorem yf6 {b:Bx} (hb:b.good) {l outs:List IV} (h:psF b l=some outs):∀ x∈l,z54 x=true∧zpk x:=by
  unfold psF at h
  cases hd:decide (zdx l > 0) with
  | false=>rw [hd,z03] at h; cases h
  | true=>
    rw [hd,z01] at h
    obtain ⟨st,hst⟩:=zs2 (of_decide_eq_true hd)
    cases hp:zqc l ([b.I],[]) with
    | none=>rw [hp] at h; cases h
    | some lo=>
      refine yee (left:=[b.I]) (out:=[]) (most:=1) (fun y hy=>?_) (fun y hy=>by cases hy) hst hp
      obtain rfl:=List.mem_singleton.1 hy
      rw [zpr]; exact hb
theorem y1a {x:IV} (h:z54 x=true):zg1 x=true:=by
  unfold z54 at h
  unfold zg1
  cases hs:z62 x with
  | true=>
    rw [hs,z01] at h
    simp only [Bool.and_eq_true,beq_iff_eq] at h
    simp [h.1,h.2]
  | false=>
    rw [hs,z03] at h
    simpa using h
theorem ygq {l:List IV} (h:zdx l > 0):1≤l.length:=by
  cases l with
  | nil=>exact absurd h (by decide)
  | cons x l=>simp
theorem yau {m:Md} {q:Qy} {s:Sr} (h:s.v.kind=2∨s.v.bare=true):(z5a m q s).v.kind=2∨(z5a m q s).v.bare=true:=by
  unfold z5a
  cases z1r m q (z2k s.left) with
  | true=>
    rw [z01]
    cases (ic (s.left.length - 1)==0) with
    | true=>exact .inr rfl
    | false=>exact h
  | false=>
    rw [z03]
    cases z2l m q (z2k s.left).low (z2k s.left).s4.hi with
    | true=>exact .inl rfl
    | false=>
      rw [z03]
      cases (z1b m q (z2k s.left)).isSome with
      | true=>exact h
      | false=>exact .inr rfl
theorem y6g {m:Md} {q:Qy}:∀ (d:Nat) (s:Sr),s.v.kind=2∨s.v.bare=true→(y39 m q d s).v.kind=2∨(y39 m q d s).v.bare=true
  | 0,_,h=>h
  | d+1,s,h=>by
    rw [y39]
    cases zdt q s with
    | true=>exact h
    | false=>exact y6g d _ (yau h)
theorem yco (m:Md) (q:Qy):(z6y m q).kind=2∨(z6y m q).bare=true:=by
  have hn:(yej m q).v.kind=2∨(yej m q).v.bare=true:=by
    unfold yej
    cases z1q m q <;> exact .inr rfl
  have h:=y6g (m:=m) (q:=q) (q.bu.toNat+1) _ hn
  unfold z6y
  generalize y39 m q (q.bu.toNat+1) (yej m q)=s at h
  rcases h with h | h
  · exact .inl (by simp [zir,h])
  · exact .inr h
theorem yi7 {b:Bx} (hb:b.good) {p:Pt} {t:Int} (h:b.has p t=true):z90 p.p0∧z90 p.p1∧z90 p.p2∧z90 p.p3∧z90 t:=by
  unfold Bx.has Sp.has at h
  simp only [Bool.and_eq_true,decide_eq_true_eq] at h
  have h0 : -2147483648≤b.s0.lo∧b.s0.lo≤b.s0.hi∧b.s0.hi≤2147483647:=hb 0 (by omega)
  have h1 : -2147483648≤b.s1.lo∧b.s1.lo≤b.s1.hi∧b.s1.hi≤2147483647:=hb 1 (by omega)
  have h2 : -2147483648≤b.s2.lo∧b.s2.lo≤b.s2.hi∧b.s2.hi≤2147483647:=hb 2 (by omega)
  have h3 : -2147483648≤b.s3.lo∧b.s3.lo≤b.s3.hi∧b.s3.hi≤2147483647:=hb 3 (by omega)
  have h4 : -2147483648≤b.s4.lo∧b.s4.lo≤b.s4.hi∧b.s4.hi≤2147483647:=hb 4 (by omega)
  unfold z90
  omega
theorem yda {m:Md} {q:Qy} (hr:z1q m q=true) (hp:pot m q (z33 q)≤199):(z6y m q).right=true∧(z6y m q).rng:=by
  obtain ⟨s1,s2,s3,hk,h0,hbu⟩:=y6y hr hp
  have hb:=yco m q
  have h6:=(z9a hr).2.2.1
  have hg:=znj hr
  generalize z6y m q=v at s1 s2 s3 hk h0 hbu hb
  have hsp:z90 v.spent:=by unfold z90; omega
  have r0:decide (0≤v.spent)=true:=decide_eq_true h0
  have r1:decide (v.spent≤65536)=true:=decide_eq_true (by omega)
  rcases hk with hk | hk | hk
  · obtain ⟨hpv,hlen,hdp⟩:=s1 hk
    have hbare:v.bare=true:=by
      rcases hb with h | h
      · omega
      · exact h
    obtain ⟨z0,z1,z2,z3,z4⟩:=zpu hbare
    have hst:∀ x∈v.proof,z54 x=true∧zpk x:=by
      unfold zdj at hpv
      rw [hr,Bool.true_and,show (v.kind==1)=true by rw [hk]; rfl,z01] at hpv
      cases hps:psF (z33 q) v.proof with
      | none=>rw [hps] at hpv; cases hpv
      | some outs=>exact yf6 hg hps
    have hsB:zg8 v.proof=true:=by
      unfold zg8
      have l1:=ygq hdp
      have l2:v.proof.length≤65536:=by simp only [ic] at hlen; omega
      rw [decide_eq_true l1,decide_eq_true l2,Bool.true_and,Bool.true_and,List.all_eq_true]
      exact fun x hx=>y1a (hst x hx).1
    refine ⟨?_,?_⟩
    · unfold Vd.right
      rw [r0,r1,hbare,hsB,show (v.kind==1)=true by rw [hk]; rfl]
      rfl
    · exact { w0:=by rw [z0]; exact z2c,w1:=by rw [z1]; exact z2c,w2:=by rw [z2]; exact z2c,w3:=by rw [z3]; exact z2c,twin:=by rw [z4]; exact z2c,spent:=hsp,proof:=fun x hx=>(hst x hx).2 }
  · obtain ⟨hpv,hnil,_⟩:=s2 hk
    unfold zdj at hpv
    rw [hr,Bool.true_and,show (v.kind==1)=false by rw [hk]; rfl,z03,show (v.kind==2)=true by rw [hk]; rfl,z01,Bool.and_eq_true] at hpv
    have hin:=yi7 hg hpv.1
    refine ⟨?_,?_⟩
    · unfold Vd.right
      rw [r0,r1,hnil,show (v.kind==2)=true by rw [hk]; rfl]
      simp
    · exact { w0:=hin.1,w1:=hin.2.1,w2:=hin.2.2.1,w3:=hin.2.2.2.1,twin:=hin.2.2.2.2,spent:=hsp,proof:=fun x hx=>by rw [hnil] at hx; cases hx }
  · obtain ⟨_,hnil⟩:=s3 hk
    have hbare:v.bare=true:=by
      rcases hb with h | h
      · omega
      · exact h
    obtain ⟨z0,z1,z2,z3,z4⟩:=zpu hbare
    refine ⟨?_,?_⟩
    · unfold Vd.right
      rw [r0,r1,hnil,hbare,show (v.kind==3)=true by rw [hk]; rfl]
      simp
    · exact { w0:=by rw [z0]; exact z2c,w1:=by rw [z1]; exact z2c,w2:=by rw [z2]; exact z2c,w3:=by rw [z3]; exact z2c,twin:=by rw [z4]; exact z2c,spent:=hsp,proof:=fun x hx=>by rw [hnil] at hx; cases hx }
theorem ydj {m:Md} {q:Qy} (hr:z1q m q=true) (hp:pot m q (z33 q)≤199):zdi (z0r (z6y m q))=true∧yeo (zdb (z0r (z6y m q))) (z6y m q)=true∧(z0r (z6y m q)).size≤4000000∧(z0r (z91 (z0r (z6y m q)))).size≤4000000:=by
  obtain ⟨h1,h2⟩:=yda hr hp
  have hok:zdi (z0r (z6y m q))=true:=by rw [y51 h2]; exact h1
  refine ⟨hok,?_,y13 h2,y13 (y9t _)⟩
  unfold zdb
  rw [hok,z01]
  exact ye2.2 (zw5 h1 h2)
open Go Go.Proofs
def zdn (N:Nat):Env:=mkE [(10,zan),(11,z67),(8,z7h),(6,z0z),(12,z3q),(13,z2u),(9,z5o),(7,z6b),(5,z3f),(4,z2h)] [] 99 N
theorem zcg (N:Nat) (f:Ft) (a1:Ak) (a2:Int):z16 (zdn N) z7d [.tmp 6] [[.bool]] [(Ft.V f),(Ak.V a1),(.int .i64 a2)] =
 (cond (yih (Ft.M f))
 (cond (Vd.kind (z6y (Ft.M f) (Qy.bud (z3z a1 (Ft.M f)) (z00 a2 0 3000)))==1)
 (cond (!zdj (Ft.M f) (Qy.bud (z3z a1 (Ft.M f)) (z00 a2 0 3000)) (z6y (Ft.M f) (Qy.bud (z3z a1 (Ft.M f)) (z00 a2 0 3000))))
 (some ((.bool false),[]))
 (cond (ic (List.length (Vd.proof (z6y (Ft.M f) (Qy.bud (z3z a1 (Ft.M f)) (z00 a2 0 3000))))) != Vd.spent (z6y (Ft.M f) (Qy.bud (z3z a1 (Ft.M f)) (z00 a2 0 3000))))
 (some ((.bool false),[]))
 (cond (!decide (zdx (Vd.proof (z6y (Ft.M f) (Qy.bud (z3z a1 (Ft.M f)) (z00 a2 0 3000)))) > 0))
 (some ((.bool false),[]))
 (cond (decide (ByteArray.size (z0r (z6y (Ft.M f) (Qy.bud (z3z a1 (Ft.M f)) (z00 a2 0 3000))))≤strMax))
 (cond (decide (ByteArray.size (z0r (z6y (Ft.M f) (Qy.bud (z3z a1 (Ft.M f)) (z00 a2 0 3000)))) < 4294967281))
 (cond (decide (ByteArray.size (z0r (z91 (z0r (z6y (Ft.M f) (Qy.bud (z3z a1 (Ft.M f)) (z00 a2 0 3000))))))≤strMax))
 (cond (zdi (z0r (z6y (Ft.M f) (Qy.bud (z3z a1 (Ft.M f)) (z00 a2 0 3000)))))
 (cond (yeo (zdb (z0r (z6y (Ft.M f) (Qy.bud (z3z a1 (Ft.M f)) (z00 a2 0 3000))))) (z6y (Ft.M f) (Qy.bud (z3z a1 (Ft.M f)) (z00 a2 0 3000))))
 (cond (decide (Vd.spent (z6y (Ft.M f) (Qy.bud (z3z a1 (Ft.M f)) (z00 a2 0 3000)))≤z00 a2 0 3000))
 (some ((.bool true),[]))
 (some ((.bool false),[])))
 (some ((.bool false),[])))
 (some ((.bool false),[])))
 none)
 none)
 none))))
 (cond (Vd.kind (z6y (Ft.M f) (Qy.bud (z3z a1 (Ft.M f)) (z00 a2 0 3000)))==2)
 (cond (!zdj (Ft.M f) (Qy.bud (z3z a1 (Ft.M f)) (z00 a2 0 3000)) (z6y (Ft.M f) (Qy.bud (z3z a1 (Ft.M f)) (z00 a2 0 3000))))
 (some ((.bool false),[]))
 (cond (ic (List.length (Vd.proof (z6y (Ft.M f) (Qy.bud (z3z a1 (Ft.M f)) (z00 a2 0 3000))))) != 0)
 (some ((.bool false),[]))
 (cond (decide (Vd.spent (z6y (Ft.M f) (Qy.bud (z3z a1 (Ft.M f)) (z00 a2 0 3000))) < 1))
 (some ((.bool false),[]))
 (cond (decide (ByteArray.size (z0r (z6y (Ft.M f) (Qy.bud (z3z a1 (Ft.M f)) (z00 a2 0 3000))))≤strMax))
 (cond (decide (ByteArray.size (z0r (z6y (Ft.M f) (Qy.bud (z3z a1 (Ft.M f)) (z00 a2 0 3000)))) < 4294967281))
 (cond (decide (ByteArray.size (z0r (z91 (z0r (z6y (Ft.M f) (Qy.bud (z3z a1 (Ft.M f)) (z00 a2 0 3000))))))≤strMax))
 (cond (zdi (z0r (z6y (Ft.M f) (Qy.bud (z3z a1 (Ft.M f)) (z00 a2 0 3000)))))
 (cond (yeo (zdb (z0r (z6y (Ft.M f) (Qy.bud (z3z a1 (Ft.M f)) (z00 a2 0 3000))))) (z6y (Ft.M f) (Qy.bud (z3z a1 (Ft.M f)) (z00 a2 0 3000))))
 (cond (decide (Vd.spent (z6y (Ft.M f) (Qy.bud (z3z a1 (Ft.M f)) (z00 a2 0 3000)))≤z00 a2 0 3000))
 (some ((.bool true),[]))
 (some ((.bool false),[])))
 (some ((.bool false),[])))
 (some ((.bool false),[])))
 none)
 none)
 none))))
 (cond (Vd.kind (z6y (Ft.M f) (Qy.bud (z3z a1 (Ft.M f)) (z00 a2 0 3000)))==3)
 (cond (Vd.spent (z6y (Ft.M f) (Qy.bud (z3z a1 (Ft.M f)) (z00 a2 0 3000))) != z00 a2 0 3000)
 (some ((.bool false),[]))
 (cond (ic (List.length (Vd.proof (z6y (Ft.M f) (Qy.bud (z3z a1 (Ft.M f)) (z00 a2 0 3000))))) != 0)
 (some ((.bool false),[]))
 (cond (decide (ByteArray.size (z0r (z6y (Ft.M f) (Qy.bud (z3z a1 (Ft.M f)) (z00 a2 0 3000))))≤strMax))
 (cond (decide (ByteArray.size (z0r (z6y (Ft.M f) (Qy.bud (z3z a1 (Ft.M f)) (z00 a2 0 3000)))) < 4294967281))
 (cond (decide (ByteArray.size (z0r (z91 (z0r (z6y (Ft.M f) (Qy.bud (z3z a1 (Ft.M f)) (z00 a2 0 3000))))))≤strMax))
 (cond (zdi (z0r (z6y (Ft.M f) (Qy.bud (z3z a1 (Ft.M f)) (z00 a2 0 3000)))))
 (cond (yeo (zdb (z0r (z6y (Ft.M f) (Qy.bud (z3z a1 (Ft.M f)) (z00 a2 0 3000))))) (z6y (Ft.M f) (Qy.bud (z3z a1 (Ft.M f)) (z00 a2 0 3000))))
 (cond (decide (Vd.spent (z6y (Ft.M f) (Qy.bud (z3z a1 (Ft.M f)) (z00 a2 0 3000)))≤z00 a2 0 3000))
 (some ((.bool true),[]))
 (some ((.bool false),[])))
 (some ((.bool false),[])))
 (some ((.bool false),[])))
 none)
 none)
 none)))
 (some ((.bool false),[])))))
 none):=by kernel_rfl
open Go Go.Proofs
set_option maxRecDepth 100000 in
theorem zc4:z3n PR B0 4 z2h:=Snd.mono zca fun _ _ h=>y9m h
set_option maxRecDepth 100000 in
theorem zdu:z3n PR B0 5 z3f:=Snd.mono zfj fun _ _ h=>yc2 h
def z4w:z0x
  | [f,a,.int .i64 _]=>ygb f fun _=>yf0 a fun _=>.ok (.bool true) []
  | _=>.no
set_option maxRecDepth 100000 in
theorem zc2:z3n PR B0 3 z4w:=by
  refine z0o [(10,zan),(11,z67),(8,z7h),(6,z0z),(12,z3q),(13,z2u),(9,z5o),(7,z6b),(5,z3f),(4,z2h)] [] z4w [[.bool]] Tryz.func3 zdm ⟨zto,zix,zpi,z3s,zgl,zdl,zgs,ziw,zdu,zc4,trivial⟩ ?_
  intro vs r hwf h
  unfold z4w at h
  split at h
  · rename_i f a z
    replace h:=y22 h
    obtain ⟨f,rfl,h⟩:=h
    replace h:=y0e h
    obtain ⟨a,rfl,h⟩:=h
    rw [R.get_ok] at h
    refine ⟨0,?_⟩
    rw [← h]
    refine (zcg 0 f a z).trans ?_
    have hw:=win z 0 3000 (by omega) (by omega) (by omega)
    have hr:=y9s f a hw.1 (show z00 z 0 3000≤65536 by omega)
    have hp:pot f.M ((z3z a f.M).bud (z00 z 0 3000)) (z33 ((z3z a f.M).bud (z00 z 0 3000)))≤199:=by
      have h1:=yh6 f.M ((z3z a f.M).bud (z00 z 0 3000)) (z33 ((z3z a f.M).bud (z00 z 0 3000)))
      have h2:=y7v f
      omega
    rw [yic,z01]
    obtain ⟨s1,s2,s3,hk,h0,hbu⟩:=y6y hr hp
    obtain ⟨b1,b2,b3,b4⟩:=ydj hr hp
    have hbud:((z3z a f.M).bud (z00 z 0 3000)).bu=z00 z 0 3000:=rfl
    rw [hbud] at hbu s3
    generalize z00 z 0 3000=w at *
    generalize (z3z a f.M).bud w=q at *
    generalize z6y f.M q=v at *
    have c1:decide ((z0r v).size≤strMax)=true:=decide_eq_true (by unfold strMax; omega)
    have c2:decide ((z0r v).size < 4294967281)=true:=decide_eq_true (by omega)
    have c3:decide ((z0r (z91 (z0r v))).size≤strMax)=true:=decide_eq_true (by unfold strMax; omega)
    have c4:decide (v.spent≤w)=true:=decide_eq_true hbu
    rw [c1,c2,c3,c4,b1,b2]
    rcases hk with hk | hk | hk
    · obtain ⟨e1,e2,e3⟩:=s1 hk
      rw [show (v.kind==1)=true by rw [hk]; rfl,e1,e2,decide_eq_true (show zdx v.proof > 0 from e3)]
      simp only [z01,Bool.not_true,z03,bne_self_eq_false]
    · obtain ⟨e1,e2,e3⟩:=s2 hk
      rw [show (v.kind==1)=false by rw [hk]; rfl,show (v.kind==2)=true by rw [hk]; rfl,e1,e2,decide_eq_false (show ¬ v.spent < 1 by omega)]
      simp only [z01,Bool.not_true,z03]
      rfl
    · obtain ⟨e1,e2⟩:=s3 hk
      rw [show (v.kind==1)=false by rw [hk]; rfl,show (v.kind==2)=false by rw [hk]; rfl,show (v.kind==3)=true by rw [hk]; rfl,e1,e2]
      simp only [z01,Bool.not_true,z03,bne_self_eq_false]
      rfl
  · simp [R.get] at h
open Go Go.Proofs Go.RowKit
set_option maxRecDepth 100000 in
theorem zq7 {P:Program} {w:World} {name:String} {g:Nat} {cs:Array Value} (hn:P.globalNamed name=some g) (hv:w.var? P name=some cs):∃ T fr,w.heap[g]?=some (.cells cs T fr):=by
  unfold World.var? at hv
  rw [hn] at hv
  simp only [Option.bind_some] at hv
  split at hv
  · rename_i c T fr hh
    simp only [Option.some.injEq] at hv
    subst hv
    exact ⟨T,fr,hh⟩
  · cases hv
set_option maxRecDepth 100000 in
theorem y6s {w:World} {name:String} {g t:Nat} {ms:Array (String × TypeId)} {tn:String} {d:DataW Unit} (h:Lib.VarReads Tryz.prog w name (.iface tn d)) (hn:Tryz.prog.globalNamed name=some g)
    (ht:(Tryz.prog.globals[g]?).map (·.type)=some t) (hu:Tryz.prog.underlying t=some (.interface ms)):∃ c T fr te pe,w.heap[g]?=some (.cells c T fr)∧c[0]?=some (.iface te pe):=by
  obtain ⟨g',t',cs,fuel,p,h1,h2,h3,h4⟩:=h
  obtain rfl:=Option.some.inj (hn.symm.trans h1)
  obtain rfl:=Option.some.inj (ht.symm.trans h2)
  obtain ⟨f',u,v,hcs,_,_⟩:=iface_of_trod hu h4
  obtain ⟨T,fr,hh⟩:=zq7 hn h3
  refine ⟨cs,T,fr,u,v,hh,?_⟩
  have:cs = #[.iface u v]:=by
    apply Array.ext'
    rw [hcs]
  rw [this]
  rfl
set_option maxRecDepth 100000 in
theorem ydb {W:World} {l:List (String × DataW Unit)} (hL:laidMet Tryz.prog l W) (hsh:W.ShapedOpen Tryz.prog)
    (hp:("internal/strconv.uint64pow10", Lib.tabData .u64 Lib.pow10Tab)∈l)
    {n1:String} {d1:DataW Unit} (h1:("strconv.ErrRange", .iface n1 d1)∈l)
    {n2:String} {d2:DataW Unit} (h2:("strconv.ErrSyntax", .iface n2 d2)∈l)
    : Glob B0 W:=by
  have hz:∀ g,g < 4→g < Tryz.prog.globals.size→g < W.heap.size:=fun g _ hg=>by
    have hb:((List.range Tryz.prog.globals.size).all fun g=>(((begin Tryz.prog (fun _ _=>0) default).world.heap[g]?).bind Obj.row?).isSome)=true:=by kernel_rfl
    have:=List.all_eq_true.1 hb g (List.mem_range.2 hg)
    obtain ⟨⟨z,t⟩,hz⟩:=Option.isSome_iff_exists.1 this
    obtain ⟨cs,hh,_⟩:=hsh.1 g z t hg hz
    exact (Array.getElem?_eq_some_iff.1 hh).1
  have hsize:4≤W.heap.size:=by
    first
    | exact Nat.zero_le _
    | (
       have:=hz (4 - 1) (by decide) (of_decide_eq_true (by kernel_rfl))
       omega)
  have low:∀ {g:Nat},g < 4→(fun b=>if b < B0.ng then W.heap[b]? else none) g=W.heap[g]?:=fun h=>if_pos (show _ < B0.ng from h)
  refine ⟨hsize,?_⟩
  show GF _
  constructor
  first | exact trivial | skip
  case gm=>
    obtain ⟨m,hm⟩:=cell_of_shapedOpen_int (P:=Tryz.prog) (g:=0) (t:=3) (zero:=#[.int .i64 0]) hsh (of_decide_eq_true (by kernel_rfl)) (by kernel_rfl) rfl (by kernel_rfl) (by kernel_rfl) Tryz.underlying3
    simp only [World.cell?] at hm
    split at hm
    · rename_i c T fr' hh
      exact ⟨c,T,fr',m,(low (by decide)).trans hh,hm⟩
    · cases hm
  case gp=>
    have gp:Tryz.prog.globalNamed "internal/strconv.uint64pow10" = some 3:=by kernel_rfl
    obtain ⟨g',t',cp,fuel,p,e1,e2,e3,e4⟩:=Lib.laidMet.reads hL hp
    obtain rfl:=Option.some.inj (gp.symm.trans e1)
    obtain ⟨T,fr',hh⟩:=zq7 gp e3
    refine ⟨T,fr',(low (by decide)).trans ?_⟩
    rw [hh]
    have et:(Tryz.prog.globals[3]?).map (·.type)=some 202:=by kernel_rfl
    obtain rfl:=Option.some.inj (et.symm.trans e2)
    have:=Lib.cells_of_tab (e:=89) (n:=20) (by kernel_rfl) (by kernel_rfl) (by kernel_rfl) (by kernel_rfl) e4
    congr 1
    congr 1
    apply Array.ext'
    exact this
  case gs=>
    obtain ⟨cs,Ts,fs,tes,pes,hs1,hs2⟩:=y6s (g:=1) (Lib.laidMet.reads hL h2) (by kernel_rfl) (show _=some 116 by kernel_rfl) Tryz.underlying116
    exact ⟨cs,Ts,fs,tes,pes,(low (by decide)).trans hs1,hs2⟩
  case gr=>
    obtain ⟨cr,Tr,fr,ter,per,hr1,hr2⟩:=y6s (g:=2) (Lib.laidMet.reads hL h1) (by kernel_rfl) (show _=some 116 by kernel_rfl) Tryz.underlying116
    exact ⟨cr,Tr,fr,ter,per,(low (by decide)).trans hr1,hr2⟩
def X0:Zone:=⟨fun _=>False,fun _=>False⟩
def γ0:Nat→Value:=fun _=>.nilIface
abbrev O0:Nat→Prop:=z0a X0 γ0 []
set_option maxRecDepth 100000 in
theorem yi8 (b:Nat):¬ O0 b:=by
  rintro (⟨n,ob,h,_⟩ | h)
  · simp [z05,lkd] at h
  · exact h
set_option maxRecDepth 100000 in
theorem yjc (W:World):Rel B0.base 0 W X0 γ0 ⟨[],[]⟩ zw4 W:=by
  have no:∀ n ob,z05 ([]:Store) n≠some ob:=fun n ob h=>by simp [z05,lkd] at h
  refine ⟨rfl,rfl,fun i=>by simp only [St.get,lkd,VRel],fun n ob h=>absurd h (no n ob),fun b h=>?_,fun n m ob ob' b _ h=>absurd h (no n ob),Keep.refl _ _,fun b h=>?_,fun b h=>h.elim,fun p _ ob h=>absurd h (no _ ob)⟩
  · obtain ⟨n,ob,h,_⟩:=h
    exact absurd h (no n ob)
  · obtain ⟨n,ob,h,_⟩:=h
    exact absurd h (no n ob)
set_option maxRecDepth 100000 in
theorem zzc {f:Nat} {fn:Func} (hf:PR.funcs[f]?=some fn) (hn:(fn.name == "runtime.NumGoroutine")=false) (hb:fn.body.isNone=false) {xs:List Value} {w:World} {R:Ending→World→Prop} (h:Does PR f xs w R):Calls PR f xs.toArray w R:=by
  have:(callFunc f xs.toArray).run PR w = .ok (.enter f xs.toArray) w:=by
    unfold callFunc
    have hn':¬ fn.name = "runtime.NumGoroutine":=by simpa using hn
    have hb':¬ fn.body=none:=fun h=>by rw [h] at hb; cases hb
    simp [hf,hn',hb']
  unfold Does at h
  rw [this] at h
  exact h
set_option maxRecDepth 100000 in
theorem y7q {f:Nat} {fn:Func} {sp:z0x} (hS:z3n PR B0 f sp) (hf:PR.funcs[f]?=some fn) (hn:(fn.name == "runtime.NumGoroutine")=false) (hb:fn.body.isNone=false) {vs:List V} {xs:List Value} {W:World}
    (hsp:(sp vs).get=some (.bool true,[])) (hbor:z5m vs=none) (hG:Glob B0 W) (hV:VRels γ0 [] W O0 (vs.map z95) xs) :
    Calls PR f xs.toArray W fun e w'=>e = .returned (.bool true)∧Below W.heap.size W w':=by
  refine zzc hf hn hb ?_
  have em:zbg vs=[]:=by unfold zbg; rw [hbor]
  refine Does.mono (hS W X0 γ0 vs xs (.bool true) [] hsp hG (fun b h=>h.elim) (by rw [em]; exact yjc W) (by rw [em]; exact hV)) ?_
  rintro e w' ⟨x,rfl,γ',hR,hx,_⟩
  simp only [y4d,z95,VRel] at hx
  subst hx
  exact ⟨rfl,hR.keep.os,hR.keep.tape,hR.keep.output,hR.keep.size,fun b hb=>hR.keep.block b hb (fun h=>h)⟩
open Go
def agT (P:Program) (e:TypeId):Bool:=match P.underlying e with | some (.struct _)=>true | some (.array _ _)=>true | _=>false
def yh2 (f:TypeId→Option (List Kd)) (cell:TypeId→Nat):Nat→List (TypeId × Nat)→Option (List Kd)
  | _,[]=>some []
  | off,(t,o) :: r=>match Nat.beq o off with
    | true=>match f t with
      | some ks=>match Nat.beq (cell t) ks.length with
        | true=>match yh2 f cell (off+ks.length) r with
          | some ks'=>some (ks++ks')
          | none=>none
        | false=>none
      | none=>none
    | false=>none
def kdT (P:Program):Nat→TypeId→Option (List Kd)
  | 0,_=>none
  | n+1,t=>match P.underlying t with
    | some .bool=>some [.bool]
    | some (.int k)=>some [.int k]
    | some .string=>some [.str]
    | some (.slice e)=>match kdT P n e with
      | some ks=>match Nat.ble 1 (P.bytesOf e)&&(Nat.beq (P.cellsOf e) ks.length&&(Nat.ble 1 ks.length&&(agT P e||Nat.beq ks.length 1))) with
        | true=>some [.list (agT P e) ks]
        | false=>none
      | none=>none
    | some (.struct fs)=>match yh2 (kdT P n) P.cellsOf 0 (fs.toList.map fun f=>(f.type,f.offset)) with
      | some ks=>match Nat.beq (P.cellsOf t) ks.length with | true=>some ks | false=>none
      | none=>none
    | some (.array m e)=>match yh2 (kdT P n) P.cellsOf 0 ((List.range m).map fun i=>(e,i*P.cellsOf e)) with
      | some ks=>match Nat.beq (P.cellsOf t) ks.length with | true=>some ks | false=>none
      | none=>none
    | _=>none
def CellsK (w:World) (O:Nat→Prop):List Kd→List IV→List Value→Prop
  | [],[],[]=>True
  | k :: ks,x :: f,v :: cs=>Kd.Rel w O k x v∧CellsK w O ks f cs
  | _,_,_=>False
section
variable {w:World} {O:Nat→Prop}
set_option maxRecDepth 100000 in
theorem CellsK.append:∀ {ks:List Kd} {f:List IV} {cs:List Value} {ks':List Kd} {f':List IV} {cs':List Value},CellsK w O ks f cs→CellsK w O ks' f' cs'→CellsK w O (ks++ks') (f++f') (cs++cs')
  | [],[],[],_,_,_,_,h'=>h'
  | _ :: ks,_ :: f,_ :: cs,_,_,_,h,h'=>by
    simp only [CellsK] at h
    simp only [List.cons_append,CellsK]
    exact ⟨h.1,h.2.append h'⟩
  | [],_ :: _,_,_,_,_,h,_=>by simp [CellsK] at h
  | [],[],_ :: _,_,_,_,h,_=>by simp [CellsK] at h
  | _ :: _,[],_,_,_,_,h,_=>by simp [CellsK] at h
  | _ :: _,_ :: _,[],_,_,_,h,_=>by simp [CellsK] at h
set_option maxRecDepth 100000 in
theorem CellsK.get:∀ {ks:List Kd} {f:List IV} {cs:List Value},CellsK w O ks f cs→∀ (j:Nat) (k:Kd),ks[j]?=some k→∃ v,cs[j]?=some v∧Kd.Rel w O k (nth f j) v
  | [],_,_,_,j,k,h=>by simp at h
  | k :: ks,x :: f,v :: cs,h,j,k',hj=>by
    simp only [CellsK] at h
    cases j with
    | zero=>
      simp only [List.getElem?_cons_zero,Option.some.injEq] at hj
      subst hj
      exact ⟨v,rfl,by simpa only [nth] using h.1⟩
    | succ j=>
      obtain ⟨u,h1,h2⟩:=h.2.get j k' (by simpa using hj)
      exact ⟨u,by simpa using h1,by simpa only [nth] using h2⟩
  | _ :: _,[],_,h,_,_,_=>by simp [CellsK] at h
  | _ :: _,_ :: _,[],h,_,_,_=>by simp [CellsK] at h
set_option maxRecDepth 100000 in
theorem zsc {α:Type} {Q:Nat→α→Prop}:∀ n,(∀ i,i < n→∃ x,Q i x)→∃ L:List α,L.length=n∧∀ i x,L[i]?=some x→Q i x
  | 0,_=>⟨[],rfl,fun i x h=>by simp at h⟩
  | n+1,h=>by
    obtain ⟨L,hl,hL⟩:=zsc n (fun i hi=>h i (by omega))
    obtain ⟨x,hx⟩:=h n (by omega)
    refine ⟨L++[x],by simp [hl],fun i y hy=>?_⟩
    rw [List.getElem?_append] at hy
    split at hy
    · exact hL i y hy
    · rename_i hi
      have:i - L.length=0:=by
        rcases Nat.eq_zero_or_pos (i - L.length) with e | e
        · exact e
        · rw [List.getElem?_eq_none (by simp; omega)] at hy
          cases hy
      rw [this] at hy
      simp only [List.getElem?_cons_zero,Option.some.injEq] at hy
      subst hy
      have:i=n:=by omega
      subst this
      exact hx
end
set_option maxRecDepth 100000 in
theorem zyb {H:Type} {P:Program}:∀ {ts:List TypeId} {ds:List (DataW H)} {i:Nat} {t:TypeId} {d:DataW H},ts[i]?=some t→ds[i]?=some d→∀ y∈d.weights P t,y∈DataW.weightsEach P ts ds
  | [],_,i,_,_,h,_,_,_=>by simp at h
  | _ :: _,[],i,_,_,_,h,_,_=>by simp at h
  | t0 :: ts,d0 :: ds,0,t,d,h,h',y,hy=>by
    simp only [List.getElem?_cons_zero,Option.some.injEq] at h h'
    subst h; subst h'
    simp only [DataW.weightsEach,List.mem_append]
    exact .inl hy
  | t0 :: ts,d0 :: ds,i+1,t,d,h,h',y,hy=>by
    simp only [DataW.weightsEach,List.mem_append]
    exact .inr (zyb (by simpa using h) (by simpa using h') y hy)
set_option maxRecDepth 100000 in
theorem zx0 {H:Type} {P:Program} {e:TypeId}:∀ {ds:List (DataW H)} {d:DataW H},d∈ds→∀ y∈d.weights P e,y∈DataW.weightsAll P e ds
  | [],_,h,_,_=>by cases h
  | d0 :: ds,d,h,y,hy=>by
    simp only [DataW.weightsAll,List.mem_append]
    rcases List.mem_cons.1 h with rfl | h
    · exact .inl hy
    · exact .inr (zx0 h y hy)
section
variable {H:Type} {enc:TypeId × Value→H} {P:Program} {w:World} {base:Nat} {sp:Nat→Bool} {held:Bool} {O:Nat→Prop}
set_option maxRecDepth 100000 in
theorem zjf {f:TypeId→Option (List Kd)} {n:Nat} {cs:List Value}
    (ih:∀ (t:TypeId) (ks:List Kd) (cs:List Value) (d:DataW H) (p:List MemPlace),f t=some ks→DataW.trod enc P w base sp held n t cs=some (d,p)→(∀ y∈d.weights P t,y≤reachBytes)→∃ g,CellsK w O ks g cs) :
    ∀ (parts:List (TypeId × Nat)) (off:Nat) (ks:List Kd) (xs:List (DataW H × List MemPlace)),yh2 f P.cellsOf off parts=some ks→xs.length=parts.length →
      (∀ (i:Nat) (t:TypeId) (o:Nat),parts[i]?=some (t,o)→DataW.trod enc P w base sp held n t ((cs.drop o).take (P.cellsOf t))=xs[i]?) →
      (∀ (i:Nat) (t:TypeId) (o:Nat) (x:DataW H × List MemPlace),parts[i]?=some (t,o)→xs[i]?=some x→∀ y∈x.1.weights P t,y≤reachBytes)→∃ g,CellsK w O ks g ((cs.drop off).take ks.length)
  | [],off,ks,xs,h,_,_,_=>by
    simp only [yh2,Option.some.injEq] at h
    subst h
    exact ⟨[],by simp only [List.length_nil,List.take_zero,CellsK]⟩
  | (t,o) :: r,off,ks,[],h,hl,_,_=>by simp at hl
  | (t,o) :: r,off,ks,x :: xs,h,hl,ht,hw=>by
    simp only [yh2] at h
    split at h
    case h_2=>cases h
    rename_i ho
    obtain rfl:=Nat.eq_of_beq_eq_true ho
    split at h
    case h_2=>cases h
    rename_i k1 hk1
    split at h
    case h_2=>cases h
    rename_i hc
    have hc:=Nat.eq_of_beq_eq_true hc
    split at h
    case h_2=>cases h
    rename_i k2 hk2
    simp only [Option.some.injEq] at h
    subst h
    have h0:=ht 0 t o rfl
    simp only [List.getElem?_cons_zero] at h0
    obtain ⟨d,p⟩:=x
    obtain ⟨g1,hg1⟩:=ih t k1 _ d p hk1 h0 (hw 0 t o (d,p) rfl rfl)
    obtain ⟨g2,hg2⟩:=zjf ih r (o+k1.length) k2 xs hk2 (by simpa using hl) (fun i t' o' hi=>by simpa using ht (i+1) t' o' (by simpa using hi)) (fun i t' o' x hi hx=>hw (i+1) t' o' x (by simpa using hi) (by simpa using hx))
    refine ⟨g1++g2,?_⟩
    rw [List.length_append,List.take_add,List.drop_drop]
    rw [hc] at hg1
    exact hg1.append hg2
set_option maxRecDepth 100000 in
theorem ygm {a:Addr} {v:Value} (h:w.cell? a=some v):a.spot=none∧a.block < w.heap.size:=by
  unfold World.cell? at h
  split at h
  · rename_i c _ _ hc
    split at h
    · cases h
    · rename_i hs
      exact ⟨by simpa using hs,(Array.getElem?_eq_some_iff.1 hc).1⟩
  · cases h
set_option maxRecDepth 100000 in
theorem zr3 (hO:∀ b,¬ O b):∀ (n:Nat) (t:TypeId) (ks:List Kd) (fuel:Nat) (cs:List Value) (d:DataW H) (p:List MemPlace),kdT P n t=some ks →
    DataW.trod enc P w base sp held fuel t cs=some (d,p)→(∀ y∈d.weights P t,y≤reachBytes)→∃ g,CellsK w O ks g cs
  | 0,_,_,_,_,_,_,h,_,_=>by simp [kdT] at h
  | n+1,t,ks,fuel,cs,d,p,h,ht,hw=>by
    simp only [kdT] at h
    split at h
    · rename_i hu
      simp only [Option.some.injEq] at h
      subst h
      obtain ⟨b,rfl,_⟩:=DataW.trod_bool hu ht
      exact ⟨[.bool b],by simp only [CellsK,Kd.Rel,IV.toBool,and_self]⟩
    · rename_i k hu
      simp only [Option.some.injEq] at h
      subst h
      obtain ⟨m,rfl,_,hm⟩:=DataW.trod_int hu ht
      simp only [Lit.wf,Bool.and_eq_true,decide_eq_true_eq] at hm
      exact ⟨[.int m],by simp only [CellsK,Kd.Rel,IV.toInt,and_true,true_and]; exact hm⟩
    · rename_i hu
      simp only [Option.some.injEq] at h
      subst h
      obtain ⟨s,rfl,hd,hs⟩:=DataW.trod_string hu ht
      simp only [Prod.mk.injEq] at hd
      refine ⟨[.str s],?_⟩
      simp only [CellsK,Kd.Rel,IV.toStr,and_true,true_and]
      rw [hd.1] at hw
      have:=hw s.data.toList.length (by simp [DataW.weights])
      have e:s.data.toList.length=s.size:=by rw [Array.length_toList]; rfl
      rw [e] at this
      unfold reachBytes at this
      unfold strMax
      omega
    · rename_i e hu
      split at h
      case h_2=>cases h
      rename_i k1 hk1
      split at h
      case h_2=>cases h
      rename_i hc
      simp only [Option.some.injEq] at h
      subst h
      simp only [Bool.and_eq_true,Bool.or_eq_true] at hc
      obtain ⟨hb,hce,hk0,hag⟩:=hc
      have hb:=Nat.le_of_ble_eq_true hb
      have hce:=Nat.eq_of_beq_eq_true hce
      have hk0:=Nat.le_of_ble_eq_true hk0
      rcases DataW.trod_slice hu ht with ⟨rfl,_⟩ | ⟨a,len,cap,elems,rest,m,_,rfl,hx,_,hlc,hcap,hlen,hel,_⟩
      · refine ⟨[.list []],?_⟩
        simp only [CellsK,Kd.Rel,IV.toList,and_true]
        exact ⟨none,0,rfl,Nat.le_refl _,Nat.zero_le _,Nat.zero_le _,fun i y hi=>by simp at hi⟩
      · simp only [Prod.mk.injEq] at hx
        obtain ⟨rfl,_⟩:=hx
        simp only [DataW.weights,hu,List.mem_cons,List.mem_append] at hw
        have hsz:len≤strMax:=by
          have:=hw _ (.inl rfl)
          rw [List.length_map,hlen] at this
          have h1:len*1≤(len+(rest.map (·.1)).length)*P.bytesOf e:=Nat.mul_le_mul (by omega) hb
          unfold reachBytes at this
          unfold strMax
          omega
        have hex:∀ i,i < len→∃ g:List IV,∃ ci,w.cells? base (a.add (i*k1.length)) k1.length=some ci∧CellsK w O k1 g ci:=by
          intro i hi
          have h1:=hel i hi
          have hi':i < elems.length:=by omega
          rw [List.getElem?_eq_getElem hi',hce] at h1
          simp only [Option.bind_eq_some_iff] at h1
          obtain ⟨ci,h2,h3⟩:=h1
          obtain ⟨g,hg⟩:=zr3 hO n e k1 m ci elems[i].1 elems[i].2 hk1 h3 (fun y hy=>hw y (.inr (.inl (zx0 (List.mem_map_of_mem (List.getElem_mem hi')) y hy))))
          exact ⟨g,ci,h2,hg⟩
        obtain ⟨L,hL,hLi⟩:=zsc len hex
        refine ⟨[.list (L.map fun g=>match agT P e with | true=>IV.agg g | false=>nth g 0)],?_⟩
        simp only [CellsK,Kd.Rel,IV.toList,and_true,List.length_map,hL]
        refine ⟨some a,cap,rfl,hlc,hcap,hsz,fun i y hi=>?_⟩
        rw [List.getElem?_map,Option.map_eq_some_iff] at hi
        obtain ⟨g,hg,rfl⟩:=hi
        obtain ⟨ci,hci,hgc⟩:=hLi i g hg
        have hil:i < len:=by rw [← hL]; exact (List.getElem?_eq_some_iff.1 hg).1
        have cellAt:∀ j k,k1[j]?=some k→∃ u,w.cell? ((a.add (i*k1.length)).add j)=some u∧Kd.Rel w O k (nth g j) u:=by
          intro j k hk
          obtain ⟨u,h1,h2⟩:=hgc.get j k hk
          refine ⟨u,?_,h2⟩
          have hj:j < k1.length:=(List.getElem?_eq_some_iff.1 hk).1
          unfold World.cells? at hci
          split at hci
          · obtain ⟨b,hb1,hb2⟩:=Lib.mapM_at hci j j (by simp [hj])
            rw [h1] at hb1
            simp only [Option.some.injEq] at hb1
            rw [hb2,hb1]
          · cases hci
        have hspot:a.spot=none∧a.block < w.heap.size:=by
          obtain ⟨g0,hg0⟩:∃ g0,L[0]?=some g0:=⟨L[0]'(by omega),List.getElem?_eq_getElem (by omega)⟩
          obtain ⟨c0,hc0,hgc0⟩:=hLi 0 g0 hg0
          obtain ⟨u,h1,_⟩:=hgc0.get 0 k1[0] (List.getElem?_eq_getElem (by omega))
          unfold World.cells? at hc0
          split at hc0
          · obtain ⟨b,_,hb2⟩:=Lib.mapM_at hc0 0 0 (List.getElem?_range (show 0 < k1.length by omega))
            have:=ygm hb2
            rw [Nat.zero_mul] at this
            simpa [Addr.add] using this
          · cases hc0
        obtain ⟨ab,ao,asp⟩:=a
        obtain ⟨hs1,hs2⟩:=hspot
        simp only at hs1 hs2
        subst hs1
        refine ⟨ab,ao,rfl,hO ab,hs2,?_⟩
        rw [Kd.RelAll_iff]
        intro j k hk
        obtain ⟨u,h1,h2⟩:=cellAt j k hk
        rw [Lib.add_plain,Lib.add_plain] at h1
        rw [Nat.zero_add]
        refine ⟨u,h1,?_⟩
        cases hat:agT P e with
        | true=>
          show Kd.Rel w O k (nth g j) u
          exact h2
        | false=>
          rw [hat] at hag
          have h1l:k1.length=1:=Nat.eq_of_beq_eq_true (by simpa using hag)
          have hj:j < k1.length:=(List.getElem?_eq_some_iff.1 hk).1
          have:j=0:=by omega
          subst this
          exact h2
    · rename_i fs hu
      split at h
      case h_2=>cases h
      rename_i k1 hk1
      split at h
      case h_2=>cases h
      rename_i hc
      have hc:=Nat.eq_of_beq_eq_true hc
      simp only [Option.some.injEq] at h
      subst h
      obtain ⟨xs,m,_,hx,hcl,hxl,hall⟩:=DataW.trod_struct hu ht
      simp only [Prod.mk.injEq] at hx
      obtain ⟨rfl,_⟩:=hx
      simp only [DataW.weights,hu] at hw
      have key:=zjf (enc:=enc) (P:=P) (w:=w) (base:=base) (sp:=sp) (held:=held) (O:=O) (f:=kdT P n) (n:=m) (cs:=cs) (fun t ks cs d p h1 h2 h3=>zr3 hO n t ks m cs d p h1 h2 h3) (fs.toList.map fun f=>(f.type,f.offset)) 0 k1 xs hk1 (by simp [hxl]) (fun i t o hi=>by
          rw [List.getElem?_map,Option.map_eq_some_iff] at hi
          obtain ⟨f,hf,he⟩:=hi
          simp only [Prod.mk.injEq] at he
          obtain ⟨rfl,rfl⟩:=he
          exact hall i f (by simpa using hf)) (fun i t o x hi hx y hy=>by
          rw [List.getElem?_map,Option.map_eq_some_iff] at hi
          obtain ⟨f,hf,he⟩:=hi
          simp only [Prod.mk.injEq] at he
          obtain ⟨rfl,rfl⟩:=he
          exact hw y (zyb (i:=i) (by rw [List.getElem?_map,hf]; rfl) (by rw [List.getElem?_map,hx]; rfl) y hy))
      obtain ⟨g,hg⟩:=key
      rw [List.drop_zero,List.take_of_length_le (by omega)] at hg
      exact ⟨g,hg⟩
    · rename_i m0 e hu
      split at h
      case h_2=>cases h
      rename_i k1 hk1
      split at h
      case h_2=>cases h
      rename_i hc
      have hc:=Nat.eq_of_beq_eq_true hc
      simp only [Option.some.injEq] at h
      subst h
      obtain ⟨xs,m,_,hx,hcl,hxl,hall⟩:=DataW.trod_array hu ht
      simp only [Prod.mk.injEq] at hx
      obtain ⟨rfl,_⟩:=hx
      simp only [DataW.weights,hu] at hw
      have key:=zjf (enc:=enc) (P:=P) (w:=w) (base:=base) (sp:=sp) (held:=held) (O:=O) (f:=kdT P n) (n:=m) (cs:=cs) (fun t ks cs d p h1 h2 h3=>zr3 hO n t ks m cs d p h1 h2 h3) ((List.range m0).map fun i=>(e,i*P.cellsOf e)) 0 k1 xs hk1 (by simp [hxl]) (fun i t o hi=>by
          rw [List.getElem?_map,Option.map_eq_some_iff] at hi
          obtain ⟨f,hf,he⟩:=hi
          simp only [Prod.mk.injEq] at he
          obtain ⟨rfl,rfl⟩:=he
          have hfi:=List.getElem?_eq_some_iff.1 hf
          obtain ⟨hl,he⟩:=hfi
          rw [List.getElem_range] at he
          subst he
          exact hall i (by simpa using hl)) (fun i t o x hi hx y hy=>by
          rw [List.getElem?_map,Option.map_eq_some_iff] at hi
          obtain ⟨f,hf,he⟩:=hi
          simp only [Prod.mk.injEq] at he
          obtain ⟨rfl,rfl⟩:=he
          exact hw y (zx0 (List.mem_map_of_mem (List.mem_of_getElem? hx)) y hy))
      obtain ⟨g,hg⟩:=key
      rw [List.drop_zero,List.take_of_length_le (by omega)] at hg
      exact ⟨g,hg⟩
    · cases h
end
open Go Go.Proofs Go.RowKit Go.ChangeShapes Go.WideShapes
def vOf:Kd→IV→V
  | .int k,x=>.int k x.toInt
  | .bool,x=>.bool x.toBool
  | .str,x=>.str x.toStr
  | .list ag ks,x=>.list ag ks x.toList
set_option maxRecDepth 100000 in
theorem yaj {γ:Nat→Value} {o:Store} {w:World} {O:Nat→Prop} {k:Kd} {x:IV} {v:Value} (h:Kd.Rel w O k x v):VRel γ o w O (vOf k x) v:=by
  cases k with
  | int k=>simpa only [vOf,VRel,Kd.Rel] using h
  | bool=>simpa only [vOf,VRel,Kd.Rel] using h
  | str=>simpa only [vOf,VRel,Kd.Rel] using h
  | list ag ks=>
    simp only [vOf,VRel]
    simpa only [Kd.Rel,IV.toList] using h
def yhy:List Kd→List IV→List V
  | k :: ks,x :: f=>vOf k x :: yhy ks f
  | _,_=>[]
set_option maxRecDepth 100000 in
theorem y6d {γ:Nat→Value} {o:Store} {w:World} {O:Nat→Prop}:∀ {ks:List Kd} {f:List IV} {cs:List Value},CellsK w O ks f cs→VRels γ o w O (yhy ks f) cs
  | [],[],[],_=>by simp only [yhy,VRels]
  | _ :: _,_ :: _,_ :: _,h=>by
    simp only [CellsK] at h
    simp only [yhy,VRels]
    exact ⟨yaj h.1,y6d h.2⟩
  | [],_ :: _,_,h=>by simp [CellsK] at h
  | [],[],_ :: _,h=>by simp [CellsK] at h
  | _ :: _,[],_,h=>by simp [CellsK] at h
  | _ :: _,_ :: _,[],h=>by simp [CellsK] at h
set_option maxRecDepth 100000 in
theorem CellsK.len {w:World} {O:Nat→Prop}:∀ {ks:List Kd} {f:List IV} {cs:List Value},CellsK w O ks f cs→f.length=ks.length
  | [],[],[],_=>rfl
  | _ :: _,_ :: _,_ :: _,h=>by
    simp only [CellsK] at h
    simp only [List.length_cons,h.2.len]
  | [],_ :: _,_,h=>by simp [CellsK] at h
  | [],[],_ :: _,h=>by simp [CellsK] at h
  | _ :: _,[],_,h=>by simp [CellsK] at h
  | _ :: _,_ :: _,[],h=>by simp [CellsK] at h
section
variable {H:Type} {enc:TypeId × Value→H} {P:Program} {W:World} {base b0:Nat} {sp:Nat→Bool} {held:Bool}
set_option maxRecDepth 100000 in
theorem yb8 {n:Nat} {t:TypeId} {ks:List Kd} {v:Value} {d:DataW H} {p:List MemPlace} (hk:kdT P n t=some ks) (hu:agT P t=true) (hval:Value.okWide P W .any base t v)
    (h:DataW.Trod enc P W b0 sp held t v d p) (hw:∀ y∈d.weights P t,y≤reachBytes):∃ g:List IV,g.length=ks.length∧VRel γ0 [] W O0 (.agg (yhy ks g)) v:=by
  obtain ⟨cs,rfl⟩:∃ cs,v = .agg cs:=by
    unfold agT at hu
    unfold Value.okWide at hval
    split at hu
    · rename_i hh; rw [hh] at hval; exact hval.imp (fun _ h=>h.1)
    · rename_i hh; rw [hh] at hval; exact hval.imp (fun _ h=>h.1)
    · cases hu
  obtain ⟨fuel,hf⟩:=h
  obtain ⟨g,hg⟩:=zr3 (O:=O0) yi8 n t ks fuel _ d p hk hf hw
  refine ⟨g,hg.len,?_⟩
  simp only [VRel]
  exact ⟨cs,rfl,y6d hg⟩
set_option maxRecDepth 100000 in
theorem yf1 {n:Nat} {t:TypeId} {k:Kd} {v:Value} {d:DataW H} {p:List MemPlace} (hk:kdT P n t=some [k]) (hu:agT P t=false) (hval:Value.okWide P W .any base t v)
    (h:DataW.Trod enc P W b0 sp held t v d p) (hw:∀ y∈d.weights P t,y≤reachBytes):∃ x:IV,VRel γ0 [] W O0 (vOf k x) v:=by
  obtain ⟨fuel,hf⟩:=h
  obtain ⟨g,hg⟩:=zr3 (O:=O0) yi8 n t [k] fuel _ d p hk hf hw
  have hc:v.cells.toList=[v]:=by
    cases v with
    | agg cs=>
      exfalso
      unfold agT at hu
      unfold Value.okWide at hval
      split at hu
      · cases hu
      · cases hu
      · rename_i h1 h2
        split at hval
        · rename_i hh; exact h1 _ hh
        · rename_i hh; exact h2 _ _ hh
        · unfold Cell.okWide Cell.ok at hval
          split at hval <;> first | (split at hval <;> simp_all) | simp_all
    | _=>rfl
  rw [hc] at hg
  match g,hg with
  | [x],hg=>
    simp only [CellsK,and_true] at hg
    exact ⟨x,yaj hg⟩
set_option maxRecDepth 100000 in
theorem zkl (hl:laidOutB P=true) {W':World} (hb:Below W.heap.size W W'):∀ {ts:List TypeId} {vs:List Value} {ds:List (DataW H)} {ps:List MemPlace},DataW.TrodAll enc P W 0 (fun _=>true) true ts vs ds ps →
    (∀ t∈ts,P.readableRec t=true∧t < P.types.size)→(∀ x∈ps,x.block < W.heap.size)→DataW.TrodAll enc P W' 0 (fun b=>decide (b < W.heap.size)) true ts vs ds ps
  | [],vs,ds,ps,h,_,_=>by
    obtain ⟨rfl,rfl,rfl⟩:=trodAll_nil h
    rfl
  | t :: ts,vs,ds,ps,h,ht,hp=>by
    obtain ⟨v,vs1,d,ds1,a,b,rfl,rfl,rfl,h1,h2⟩:=trodAll_cons h
    have hh:=ht t (List.mem_cons_self ..)
    exact ⟨a,b,Below.trod hl hh.1 hh.2 h1 hb (fun x hx=>hp x (List.mem_append.2 (.inl hx))),zkl hl hb h2 (fun t' h'=>ht t' (List.mem_cons_of_mem _ h')) (fun x hx=>hp x (List.mem_append.2 (.inr hx))),rfl⟩
end
set_option maxRecDepth 100000 in
theorem y9u:ownKnob Tryz.prog.godebug=none:=by kernel_rfl
set_option maxRecDepth 100000 in
theorem zro:laidOutB Tryz.prog=true:=by kernel_rfl
set_option maxRecDepth 100000 in
theorem y83 {os:Os} (started:os.Started) {H:Type} {enc:TypeId × Value→H} {spec:ChangeSpec} {f:Nat} {fn:Func} {sp:z0x} {laid:List (String × DataW Unit)} (hS:z3n PR B0 f sp) (hf:Tryz.prog.funcs[f]?=some fn)
    (hn:(fn.name == "runtime.NumGoroutine")=false) (hb:fn.body.isNone=false) (hini:Tryz.prog.inits.idxOf? f=none) (hres:fn.resultTypes = #[4]) (hvars:spec.vars=[])
    (hspec:∀ (ds:List (DataW H)),ds.length=fn.params.toList.length→spec.fn H ds={ results:=[.lit (.bool true)],args:=ds })
    (hpar:fn.params.toList.all (fun t=>Tryz.prog.readableRec t&&decide (t < Tryz.prog.types.size))=true)
    (hglob:∀ W:World,laidMetH Tryz.prog laid W→W.ShapedOpen Tryz.prog→Glob B0 W)
    (witness:∃ (w:World) (tape:Tape) (i:Input),w.os=os∧(w.forCall tape i).Shaped Tryz.prog∧i.vars=[]∧Input.okWide Tryz.prog (w.forCall tape i) .any w.heap.size f i ∧
      (OpenSpec.ofChange spec).preRow enc Tryz.prog fn [] false laid (w.forCall tape i).memory i.args∧({}:Assume).holds Tryz.prog (lone (Frame.enter Tryz.prog f i.args .normal) [] (w.forCall tape i)))
    (harg:∀ (W:World) (base:Nat) (vs:List Value) (ds:List (DataW H)) (p:List MemPlace),DataW.TrodAll enc Tryz.prog W 0 (fun _=>true) true fn.params.toList vs ds p →
      (∀ (j:Nat) t v,fn.params.toList[j]?=some t→vs[j]?=some v→Value.okWide Tryz.prog W .any base t v) →
      (∀ (j:Nat) t d,fn.params.toList[j]?=some t→ds[j]?=some d→∀ y∈d.weights Tryz.prog t,y≤reachBytes) →
      ∃ l:List V,(sp l).get=some (.bool true,[])∧z5m l=none∧VRels γ0 [] W O0 (l.map z95) vs) :
    ReturnsInHanded {} Tryz.checked os f .any ((OpenSpec.ofChange spec).preRow enc Tryz.prog fn [] false laid) (spec.post enc Tryz.prog fn false true false false):=by
  refine returnsInHanded_of_row (C:=Tryz.checked) (s:=OpenSpec.ofChange spec) (F:=fun _ _ _=>0) y9u started hini hf witness ?_
  intro W base args ds gs before hval hW _ _ hwt hL hsh _
  have hW':=hW
  obtain ⟨p,q,hA,hV,rfl,_,_⟩:=hW
  have hvars':(OpenSpec.ofChange spec).vars=[]:=hvars
  rw [hvars'] at hV
  obtain ⟨rfl,rfl⟩:=trodVars_none hV
  have hlen:ds.length=fn.params.toList.length:=by
    have:∀ {ts:List TypeId} {vs:List Value} {ds:List (DataW H)} {ps:List MemPlace},DataW.TrodAll enc Tryz.prog W 0 (fun _=>true) true ts vs ds ps→ds.length=ts.length:=by
      intro ts
      induction ts with
      | nil=>intro vs ds ps h; obtain ⟨_,rfl,_⟩:=trodAll_nil h; rfl
      | cons t ts ih=>
        intro vs ds ps h
        obtain ⟨v,vs1,d,ds1,a,b,rfl,rfl,rfl,h1,h2⟩:=trodAll_cons h
        simp only [List.length_cons,ih h2]
    exact this hA
  simp only [List.append_nil] at hW' hwt
  obtain ⟨l,hl,hbor,hrel⟩:=harg W base args.toList ds p hA (fun j t v h1 h2=>hval j t v (by simpa using h1) (by simpa using h2)) (fun j t d h1 h2 y hy=>by
    have hm:=zyb (P:=Tryz.prog) (ts:=fn.params.toList++(OpenSpec.ofChange spec).bare.plain.varTypes Tryz.prog) (ds:=ds) (i:=j) (t:=t) (d:=d) (by
      rw [List.getElem?_append_left (by rw [← hlen]; exact (List.getElem?_eq_some_iff.1 h2).1)]
      exact h1) h2 y hy
    have:=List.all_eq_true.1 hwt y hm
    simpa using this)
  have hc:=y7q hS hf hn hb hl hbor (hglob W hL hsh) hrel
  have ea:args.toList.toArray=args:=by simp
  rw [ea] at hc
  refine hc.mono ?_
  rintro e W' ⟨rfl,bel⟩
  have hfn:spec.fn H (ds++[])={ results:=[.lit (.bool true)],args:=ds }:=by rw [List.append_nil]; exact hspec ds hlen
  have hlt:∀ x∈p,x.block < W.heap.size:=fun x hx=>hW'.lt x hx
  have post:spec.post enc Tryz.prog fn false true false false W args (.bool true) W':=by
    refine ⟨ds,[],p,[],p,[],hW',?_,?_,?_,bel.frame _,fun h=>by cases h⟩
    · rw [hfn,hres]
      exact trodAll_mk1 (shut_bool Tryz.underlying4 _)
    · rw [hfn]
      exact zkl zro bel hA (fun t ht=>by
        have:=List.all_eq_true.1 hpar t ht
        simpa using this) hlt
    · rw [hvars,hfn]
      rfl
  exact ⟨_,rfl,post⟩
end Go.FM
namespace Go.Proofs.YteobmdbbmamadaaGreatDoor
open Go Go.ChangeShapes Go.WideShapes Go.ChangeAt Go.RowKit Go.FM
theorem y9u:ownKnob Tryz.prog.godebug=none:=by kernel_rfl
theorem zro:laidOutB Tryz.prog=true:=by kernel_rfl
abbrev zlg:List (String × DataW Unit):=Rows.searchProvesRow.laid
noncomputable def y0u (os:Os):World:=
  let w0:=World.doorLaid Tryz.prog 72 os
  { w0 with heap:=w0.heap.modify 4 fun
      | .cells _ t frozen=>.cells (Lib.firstTab.map fun z=>Value.int .u8 z).toArray t frozen
      | o=>o }
theorem ycw (os:Os) (args:Array Value):laidMetH Tryz.prog zlg ((y0u os).forCall (fun _ _=>0) ⟨#[],args,[]⟩).memory:=
  laidMetH_of_parts3 (fuel:=8) (laidMet_of_run' 8 (by kernel_rfl) (by kernel_rfl)) (by kernel_rfl) (by kernel_rfl)
theorem yav {W:World} (hL:laidMetH Tryz.prog zlg W) (hsh:W.ShapedOpen Tryz.prog):Glob B0 W:=by
  have hL':laidMet Tryz.prog zlg W:=by
    rw [MakeChecks.laidMetH_plain _ _ _ (by kernel_rfl)] at hL
    exact hL
  exact ydb hL' hsh (n1 := "*errors.errorString") (n2 := "*errors.errorString") (.tail _ (.tail _ (.head _))) (.tail _ (.tail _ (.tail _ (.tail _ (.head _))))) (.tail _ (.tail _ (.tail _ (.tail _ (.tail _ (.head _))))))
end Go.Proofs.YteobmdbbmamadaaGreatDoor
