/-
  A small machine that reckons what a call comes to; the functions of the program, one by one. (THE SMALL MACHINE (27): a text's run., THE SMALL MACHINE (28): a function., THE SMALL MACHINE (33): a program's tables, by reckoning: ty, and so on.)
-/
import Derived.Test.YtddhdnbgagcfjaaDoorCb
import Derived.DeepKeys
import Derived.KernelRfl
import Derived.Lib.AtoiAll
import Derived.Lib.ItoaLen
import Derived.Lib.Split
import Derived.Lib.IndexMore
import Derived.Lib.LaidTab
import Derived.Lib.SplitLaws
import Derived.Lib.TrimByte
import Derived.Lib.Repeat
import Derived.Lib.ItoaNum
import Derived.Lib.Join
import Derived.Test.YtddhdnbgagcfjaaDoorProg
import Derived.Shelf.Strings.BuilderK
import Derived.Shelf.Strings.Builder1
import Derived.Shelf.Strings.BuilderF
import Derived.Shelf.Utf8.RuneCount
import Derived.Shelf.Strconv.Atoi
import Derived.Shelf.Strconv.Itoa0
import Derived.Shelf.Strconv.Itoa1
import Derived.Shelf.LaysM
import Derived.Shelf.Strconv.Itoa2
import Derived.Shelf.Strconv.Itoa3
import Derived.Shelf.Strconv.AtoiErrFast
import Derived.Shelf.Strconv.ParseIntEmpty
import Derived.Shelf.Strconv.AtoiFail
import Derived.Shelf.Strconv.Clone
import Derived.Shelf.Strconv.SyntaxError
import Derived.Shelf.LaysC
import Derived.Shelf.Strconv.ToError
import Derived.Shelf.Strconv.Lower
import Derived.Shelf.Strconv.ParseUint10
import Derived.Shelf.Strconv.ParseUint10Empty
import Derived.Shelf.Strconv.ParseUint10Any
import Derived.Shelf.Strconv.ParseInt10
import Derived.Shelf.Strconv.AtoiLong
import Derived.Shelf.Strconv.AtoiInnerAll
import Derived.Shelf.Strconv.RangeError
import Derived.Shelf.Strconv.ToErrorRange
import Derived.Shelf.Strconv.AtoiAll
import Derived.Shelf.Strconv.ErrVarAll
import Derived.Shelf.Strconv.ParseUintEmpty
import Derived.Shelf.Strconv.ParseUint10b64
import Derived.Shelf.Strconv.ParseUint10b32
import Derived.Shelf.Strconv.ParseUint10b16
import Derived.Shelf.Strconv.ParseUint10b8
import Derived.Shelf.Strings.Search1
import Derived.Shelf.Strings.Search2
import Derived.Shelf.Strings.Search3
import Derived.Shelf.Strings.Cut
import Derived.Shelf.Strings.Count
import Derived.Shelf.Strings.Shaped
import Derived.Shelf.Strings.Split
import Derived.Shelf.Strings.SplitShaped
import Derived.Shelf.Unicode.Decode
import Derived.Shelf.Strings.RuneCount
import Derived.Shelf.Strings.Explode
import Derived.Shelf.Unicode.DecodeSlow
import Derived.Shelf.Unicode.DecodeAny
import Derived.Lib.AppendIntMem
import Derived.Shelf.Vars
import Derived.Lib.LaidU8
import Derived.Carry
import Derived.ChangeArms
import Derived.OpenShut
import Derived.Lib.ItoaMem
import Derived.Test.YtddhdnbgagcfjaaDoorRows
import Derived.ProofKit
import Derived.LaidMore
import Derived.LaidHandle
import Derived.Deep.DeepHandedRow
import Derived.Stop.Joined
import Derived.Test.YtddhdnbgagcfjaaDoorTie
import Derived.Test.YtddhdnbgagcfjaaDoorCards
import Derived.SevenTiedAt
import Derived.Deep.DeepWitnessRowRef
namespace Go.FM
open Go Go.RowKit
section
variable {B:BT} {nt:Nat} {w0:World} {X:Zone} {γ:Nat→Value} {st st':St} {a:Act} {w:World} {P:Program} {E:Env}
theorem z8c (s:St):∀ (l:List Nat) (i:Nat),lkd .any (zg3 s l) i=s.get i∨lkd .any (zg3 s l) i = .any
  | [],i=>.inr rfl
  | j :: r,i=>by
    simp only [zg3,z39]
    by_cases e:j=i
    · subst e; simp
    · simp only [if_neg e]
      exact z8c s r i
theorem zg2 (s:St):∀ (l:List Nat) (n:Nat) (ob:Ob),z01 (zkq s l) n=some ob→z01 s.o n=some ob
  | [],n,ob,h=>by simp [zkq,z01,lkd] at h
  | j :: r,n,ob,h=>by
    simp only [zkq,z00] at h
    split at h
    · rename_i e
      subst e
      exact h
    · exact zg2 s r n ob h
theorem Rel.prune (h:Rel B nt w0 X γ st a w) (kp:Option (List Nat)):Rel B nt w0 X γ (prune kp st) a w:=by
  cases kp with
  | none=>exact h
  | some l=>exact h.less (fun i=>z8c st l i) (fun _ _ h=>h)
theorem VRels.putOne {γ:Nat→Value} {o:Store} {w:World} {O:Nat→Prop} {v:V} {x:Value} (hv:VRel γ o w O v x):∀ {cs:List V} {xs:List Value} {c:Nat},VRels γ o w O cs xs→xs[c]?=some x→VRels γ o w O (z6t cs c [v]) xs
  | [],[],_,_,h=>by simp at h
  | [],_ :: _,_,h,_=>by simp only [VRels] at h
  | _ :: _,[],_,h,_=>by simp only [VRels] at h
  | u :: cs,y :: xs,0,h,hx=>by
    simp only [VRels] at h
    simp only [List.getElem?_cons_zero,Option.some.injEq] at hx
    subst hx
    have:z6t cs 0 []=cs:=by cases cs <;> rfl
    simp only [z6t,this,VRels]
    exact ⟨hv,h.2⟩
  | u :: cs,y :: xs,c+1,h,hx=>by
    simp only [VRels] at h
    simp only [List.getElem?_cons_succ] at hx
    simp only [z6t,VRels]
    exact ⟨h.1,VRels.putOne hv h.2 hx⟩
def zoy (γ:Nat→Value) (o:Store) (w:World) (a:Act) (x:Value):Loc→Prop
  | .tmp t=>x=a.tmps.getD t undef
  | .cell b c=>∃ cs bb T cc,z01 o b=some (.box cs)∧γ b = .pointer (some ⟨bb,0,none⟩)∧w.heap[bb]?=some (.cells cc T (0,0))∧cc.toList[c]?=some x
def zn6 (γ:Nat→Value) (o:Store) (w:World) (a:Act) (x:Value):Loc→Prop
  | .tmp t=>x=a.tmps.getD t undef
  | .cell b c=>∀ cs,z01 o b=some (.box cs)→∃ bb T cc,γ b = .pointer (some ⟨bb,0,none⟩)∧w.heap[bb]?=some (.cells cc T (0,0))∧cc.toList[c]?=some x
theorem Rel.at (h:Rel B nt w0 X γ st a w) (l:Loc) {v:V} (hv:zp5 st l=v) (hne:v≠.any):∃ x,VRel γ st.o w (z02 X γ st.o) v x ∧
    zoy γ st.o w a x l:=by
  subst hv
  cases l with
  | tmp t=>exact ⟨_,h.tm t,rfl⟩
  | cell b c=>
    simp only [zp5] at hne ⊢
    split at hne
    · rename_i cs hob
      have hor:=h.ob b _ hob
      simp only [ObRel] at hor
      obtain ⟨bb,cc,T,hg,hh,hr⟩:=hor
      rw [zbm] at hne ⊢
      cases hc:cs[c]? with
      | none=>rw [hc] at hne; exact absurd rfl hne
      | some u=>
        obtain ⟨x,hx,hrx⟩:=hr.get hc
        exact ⟨x,hrx,cs,bb,T,cc,hob,hg,hh,hx⟩
    · exact absurd rfl hne
theorem Rel.putLoc {γ2:Nat→Value} {st2:St} (h2:Rel B nt w0 X γ2 st2 a w) (l:Loc) {v:V} {x:Value} (hv:VRel γ2 st2.o w (z02 X γ2 st2.o) v x)
    (hx:zn6 γ2 st2.o w a x l):Rel B nt w0 X γ2 (putLoc st2 v l) a w:=by
  cases l with
  | tmp t=>
    simp only [zn6] at hx
    subst hx
    refine ⟨h2.sz,h2.df,fun i=>?_,h2.ob,h2.lt,h2.dis,h2.keep,h2.nr,h2.fl,h2.pn⟩
    simp only [FM.putLoc,St.get,z39]
    split
    · rename_i e
      subst e
      exact hv
    · exact h2.tm i
  | cell b c=>
    simp only [FM.putLoc]
    split
    · rename_i cs hob
      simp only [zn6] at hx
      obtain ⟨bb,T,cc,hg,hh,hcx⟩:=hx cs hob
      have hob':∀ m,z01 ((b,some (.box (z6t cs c [v]))) :: st2.o) m=if b=m then some (.box (z6t cs c [v])) else z01 st2.o m:=fun m=>z00 ..
      have hlen:(z6t cs c [v]).length=cs.length:=by
        have key:∀ (cs:List V) (c:Nat),(z6t cs c [v]).length=cs.length:=by
          intro cs
          induction cs with
          | nil=>intro c; cases c <;> rfl
          | cons u r ih=>
            intro c
            cases c with
            | zero=>
                      have:z6t r 0 []=r:=by cases r <;> rfl
                      simp [z6t,this]
            | succ c=>simp [z6t,ih]
        exact key cs c
      have hP:∀ b',z0h γ2 ((b,some (.box (z6t cs c [v]))) :: st2.o) b'→z0h γ2 st2.o b':=by
        rintro b' ⟨m,ob,hm,hb⟩
        rw [hob'] at hm
        split at hm
        · rename_i e
          subst e
          simp only [Option.some.injEq] at hm
          subst hm
          exact ⟨_,_,hob,hb⟩
        · exact ⟨m,ob,hm,hb⟩
      have hO:∀ b',b' < w.heap.size→z02 X γ2 ((b,some (.box (z6t cs c [v]))) :: st2.o) b'→z02 X γ2 st2.o b':=fun b' _ hb=>hb.imp_left (hP b')
      have hc:Cmp γ2 st2.o γ2 ((b,some (.box (z6t cs c [v]))) :: st2.o):=by
        intro m ob' hm
        rw [hob'] at hm
        split at hm
        · rename_i e
          subst e
          simp only [Option.some.injEq] at hm
          subst hm
          exact ⟨rfl,_,hob,hlen.symm⟩
        · exact ⟨rfl,ob',hm,ob'.fits_refl⟩
      refine ⟨h2.sz,h2.df,fun i=>VRel.mono (Keep.refl _ w) hO (VRel.cmp hc (h2.tm i)),fun m ob hm=>?_,fun b' hb=>h2.lt b' (hP b' hb),fun m1 m2 ob1 ob2 b' hne h3 h4 hb1 hb2=>?_,h2.keep,fun b' hb=>h2.nr b' (hP b' hb),h2.fl,fun p hp ob hm=>?_⟩
      · simp only at hm ⊢
        rw [hob'] at hm
        split at hm
        · rename_i e
          subst e
          simp only [Option.some.injEq] at hm
          subst hm
          have hor:=h2.ob _ _ hob
          simp only [ObRel] at hor ⊢
          obtain ⟨bb',cc',T',hg',hh',hr'⟩:=hor
          rw [hg] at hg'
          simp only [Value.pointer.injEq,Option.some.injEq,Addr.mk.injEq,and_true] at hg'
          subst hg'
          rw [hh] at hh'
          simp only [Option.some.injEq,Obj.cells.injEq] at hh'
          obtain ⟨rfl,rfl,_⟩:=hh'
          exact ⟨bb,cc,T,hg,hh,VRels.mono (Keep.refl _ w) hO (VRels.cmp hc (VRels.putOne hv hr' hcx))⟩
        · exact (h2.ob m ob hm).later (fun _ _=>rfl) (Keep.refl _ w) hO hc
      · have key:∀ m ob,z01 ((b,some (.box (z6t cs c [v]))) :: st2.o) m=some ob→z04 (γ2 m) ob b'→∃ ob0,z01 st2.o m=some ob0∧z04 (γ2 m) ob0 b':=by
          intro m ob hm hb
          rw [hob'] at hm
          split at hm
          · rename_i e
            subst e
            simp only [Option.some.injEq] at hm
            subst hm
            exact ⟨_,hob,hb⟩
          · exact ⟨ob,hm,hb⟩
        obtain ⟨o1,q1,q2⟩:=key m1 ob1 h3 hb1
        obtain ⟨o2,q3,q4⟩:=key m2 ob2 h4 hb2
        exact h2.dis m1 m2 o1 o2 b' hne q1 q3 q2 q4
      · simp only at hm
        rw [hob'] at hm
        split at hm
        · rename_i e
          exact h2.pn p hp _ (e ▸ hob)
        · exact h2.pn p hp ob hm
    · exact h2
theorem Rel.canon1 (h:Rel B nt w0 X γ st a w) (c:Can):∃ γ',Rel B nt w0 X γ' (canon1 c st) a w:=by
  unfold FM.canon1
  split
  · exact ⟨γ,h⟩
  rename_i h9
  have h9:=z10.1 h9
  split
  · rename_i hv
    split
    · rename_i hks
      have hks':0 < c.ks.length:=Nat.le_of_ble_eq_true hks
      obtain ⟨x,hx,hat⟩:=h.at c.loc hv (by simp)
      simp only [VRel] at hx
      have hadd:=h.add c.nm h9 (.row true c.e c.ag c.ks []) (.slice none 0 0) (fun b hb=>by simp [z04,Value.ownBlock] at hb) (fun O' hO'=>by
        simp only [ObRel]
        exact ⟨hks',by simp [strMax],[],⟨by simp,.inl ⟨rfl,rfl⟩⟩,fun i y hy=>by simp at hy⟩)
      have hadd:=hadd.shrink (F:=X.far) (fun b hb=>⟨hb,fun hb'=>by simp [z04,Value.ownBlock] at hb'⟩)
      refine ⟨_,hadd.putLoc c.loc (x:=x) ?_ ?_⟩
      · simp only [VRel,z03,if_true]
        subst hx
        exact ⟨Nat.le_refl _,none,0,0,none,rfl,rfl,Nat.le_refl _,Nat.le_refl _,Nat.le_refl _,by simp [maxLen],.inl rfl,fun _=>rfl⟩
      · revert hat
        cases c.loc with
        | tmp t=>exact fun hat=>hat
        | cell b k=>
          intro hat
          obtain ⟨cs,bb,T,cc,q1,q2,q3,q4⟩:=hat
          intro cs2 hcs2
          rw [z03] at hcs2
          split at hcs2
          · cases hcs2
          · rename_i hne
            exact ⟨bb,T,cc,by simp only [if_neg hne]; exact q2,q3,q4⟩
    · exact ⟨γ,h⟩
  · rename_i n lo hi hv
    split
    · rename_i e ag ks l hn hlo hob
      have hn':=z10.1 hn
      obtain rfl:=z0f.1 hlo
      obtain ⟨x,hx,hat⟩:=h.at c.loc hv (by simp)
      simp only [VRel,hob] at hx
      have hk:=h.kill n
      have hor:=h.ob n _ hob
      have hkb:∀ b,z04 (γ n) (.row true e ag ks l) b→z07 γ st.o n b:=fun b hb=>⟨_,hob,hb⟩
      have hadd:=hk.add c.nm h9 (.row true e ag ks l) (γ n) (fun b hb=>⟨.inr (hkb b hb),(h.lt b ⟨n,_,hob,hb⟩).2⟩) (fun O' hO'=>by
        simp only [ObRel] at hor ⊢
        obtain ⟨k1,k2,xs,k3,k4⟩:=hor
        refine ⟨k1,k2,xs,k3,fun i y hy=>Kd.RelAll.mono (Keep.refl _ w) (fun b _ hb=>?_) (fun _ _ hu=>hu) (k4 i y hy)⟩
        rcases hO' b hb with h1 | h1 | h1
        · obtain ⟨m,ob1,q1,q2⟩:=h1
          simp only [St.up] at q1
          rw [z00] at q1
          split at q1
          · cases q1
          · exact .inl ⟨m,ob1,q1,q2⟩
        · exact .inr h1
        · obtain ⟨ob1,q1,q2⟩:=h1
          exact .inl ⟨n,ob1,q1,q2⟩)
      have hadd:=hadd.shrink (F:=X.far) (fun b hb=>⟨.inl hb,fun hb'=>h.nr b ⟨n,_,hob,hb'⟩ hb⟩)
      refine ⟨_,hadd.putLoc c.loc (x:=x) ?_ ?_⟩
      · simp only [VRel,z03,if_true]
        exact hx
      · revert hat
        cases c.loc with
        | tmp t=>exact fun hat=>hat
        | cell b k=>
          intro hat
          obtain ⟨cs,bb,T,cc,q1,q2,q3,q4⟩:=hat
          intro cs2 hcs2
          rw [z03] at hcs2
          split at hcs2
          · cases hcs2
          · rename_i hne
            exact ⟨bb,T,cc,by simp only [if_neg hne]; exact q2,q3,q4⟩
    · exact ⟨γ,h⟩
  · exact ⟨γ,h⟩
theorem Rel.canons:∀ (l:List Can) {γ:Nat→Value} {st:St},Rel B nt w0 X γ st a w→∃ γ',Rel B nt w0 X γ' (canons l st) a w
  | [],γ,st,h=>⟨γ,h⟩
  | c :: r,γ,st,h=>by
    obtain ⟨γ1,h1⟩:=h.canon1 c
    exact Rel.canons r h1
theorem Rel.restrict (h:Rel B nt w0 X γ st a w) (kp:KP):∃ γ',Rel B nt w0 X γ' (restrict kp st) a w:=by
  have h1:Rel B nt w0 X γ ⟨zg3 st kp.t,st.o⟩ a w:=h.less (fun i=>z8c st kp.t i) (fun _ _ h=>h)
  obtain ⟨γ',h2⟩:=h1.canons kp.c
  exact ⟨γ',h2.less (fun i=>z8c _ kp.t i) (fun n ob=>zg2 _ kp.o n ob)⟩
variable (hT:TiOK P B E) (hE:∀ t,t∈E.eqs→EqSnd P t (E.tyd t).ks) (hSp:SpOK P B E w0 X) (hB:BldOK P B E) (hnt:E.nt=nt) (hn9:nt≤900000)
include hT hE hSp hB hnt hn9
theorem zba {Q:Exit→Act→World→Prop} {r:V × List (List V)} {ops:Array Oper} {k:St→Res} :
    ∀ (l:List Oper) (i:Nat) {γ:Nat→Value} {st:St} {a:Act} {w:World},ops.toList.drop i=l→zaj E ops.toList l st k=some r→Rel B nt w0 X γ st a w →
      (∀ γ' st' a' w',Rel B nt w0 X γ' st' a' w'→k st'=some r→Q .normal a' w')→wpOps P ops Q (List.range' i l.length) a w
  | [],i,γ,st,a,w,hl,he,h,hk=>by
    simp only [zaj] at he
    exact hk _ _ _ _ h he
  | o :: l,i,γ,st,a,w,hl,he,h,hk=>by
    have hoi:ops[i]?=some o:=by
      rw [← Array.getElem?_toList]
      have:=congrArg (·[0]?) hl
      simpa using this
    have hl':ops.toList.drop (i+1)=l:=by
      have:=congrArg (List.drop 1) hl
      simpa using this
    simp only [List.length_cons,List.range'_succ,wpOps,hoi]
    simp only [zaj] at he
    have hd:zbn E o.dst=true:=by
      cases hd:zbn E o.dst with
      | true=>rfl
      | false=>rw [hd] at he; cases he
    rw [hd] at he
    simp only at he
    have go:∀ {st:St},Rel B nt w0 X γ st a w→Region.wanted o (yielded ops a.tmps)=true→(zjy E st.o (opd st) o.dst o.op fun v us=>zaj E ops.toList l ((st.ups us).put o.dst v) k)=some r →
        (if Region.wanted o (yielded ops a.tmps)=true then o.wp P a w (wpOps P ops Q (List.range' (i+1) l.length)) Q∨(o.asks P a w∧LetsOut Q) else wpOps P ops Q (List.range' (i+1) l.length) (a.put o.dst undef) w):=by
      intro st h hw he
      rw [if_pos hw]
      obtain ⟨v,us,h2,h1⟩:=zjz hT hE hSp hB h o (fun d hdd e=>by subst e; rw [hdd] at hd; simp only [zbn] at hd; have h8:900000+1≤E.nt:=Nat.le_of_ble_eq_true hd; omega) he
      refine .inl (h1 _ _ (fun γ' x w' h3 h4=>?_))
      exact zba l (i+1) hl' h2 (h3.put hnt hd h4) hk
    have no:∀ {st:St},Rel B nt w0 X γ st a w→Region.wanted o (yielded ops a.tmps)=false→zaj E ops.toList l (st.put o.dst (.tup [])) k=some r →
        (if Region.wanted o (yielded ops a.tmps)=true then o.wp P a w (wpOps P ops Q (List.range' (i+1) l.length)) Q∨(o.asks P a w∧LetsOut Q) else wpOps P ops Q (List.range' (i+1) l.length) (a.put o.dst undef) w):=by
      intro st h hw he
      rw [if_neg (by rw [hw]; simp)]
      exact zba l (i+1) hl' he (h.put hnt hd (by simp only [VRel]; exact ⟨#[],rfl,by simp only [VRels]⟩)) hk
    split at he
    · rename_i hg
      exact go h (by simp [Region.wanted,hg]) he
    · rename_i j b hg
      split at he
      · rename_i dj hdj
        split at he
        · rename_i c hc
          have hy:yielded ops a.tmps j=some c:=by
            unfold yielded
            rw [show ops[j]?=ops.toList[j]? by simp,z87 _ _ _ hdj]
            simp [zi1 h hc]
          have hlit:=h.lit hc
          cases c with
          | true=>
            simp only at he
            cases b with
            | true=>exact go (st:=st.put (some dj) (.bool true)) hlit (by simp [Region.wanted,hg,hy]) he
            | false=>exact no (st:=st.put (some dj) (.bool true)) hlit (by simp [Region.wanted,hg,hy]) he
          | false=>
            simp only at he
            cases b with
            | false=>exact go (st:=st.put (some dj) (.bool false)) hlit (by simp [Region.wanted,hg,hy]) he
            | true=>exact no (st:=st.put (some dj) (.bool false)) hlit (by simp [Region.wanted,hg,hy]) he
        · rename_i hc
          have hy:yielded ops a.tmps j=none:=by
            unfold yielded
            rw [show ops[j]?=ops.toList[j]? by simp,z87 _ _ _ hdj]
            rcases zgu h hc with h0 | h0 <;> simp [h0]
          exact no h (by simp [Region.wanted,hg,hy]) he
        · cases he
      · cases he
def zkl:Out→Exit
  | .normal=>.normal
  | .exit i=>.exit i
  | .ret=>.ret
omit hT hE hSp hB hnt hn9 in
theorem zg6 (J:Nat→Prop) (h:∃ n,J n):∃ n,J n∧∀ m,J m→n≤m:=by
  obtain ⟨n,hn⟩:=h
  induction n using Nat.strongRecOn with
  | _ n ih=>
    by_cases hm:∃ m,m < n∧J m
    · obtain ⟨m,h1,h2⟩:=hm
      exact ih m h1 h2
    · exact ⟨n,hn,fun m hJ=>Nat.le_of_not_lt (fun hlt=>hm ⟨m,hlt,hJ⟩)⟩
theorem z7l (hm:P.follows .mixedOrders=true) {r:V × List (List V)}:∀ (c:Code) {k:Out→St→Res} {Q:Exit→Act→World→Prop} {γ:Nat→Value} {st:St} {a:Act} {w:World},z66 E c st k=some r→Rel B nt w0 X γ st a w →
    (∀ o γ' st' a' w',Rel B nt w0 X γ' st' a' w'→k o st'=some r→Q (zkl o) a' w')→c.wp P Q a w
  | .skip,k,Q,γ,st,a,w,he,h,hk=>wp_skip (hk .normal γ st a w h he)
  | .exit id,k,Q,γ,st,a,w,he,h,hk=>wp_exit (hk (.exit id) γ st a w h he)
  | .ret,k,Q,γ,st,a,w,he,h,hk=>wp_ret (hk .ret γ st a w h he)
  | .label _,k,Q,γ,st,a,w,he,h,hk=>by simp [z66,evG] at he
  | .goto _,k,Q,γ,st,a,w,he,h,hk=>by simp [z66,evG] at he
  | .scope _,k,Q,γ,st,a,w,he,h,hk=>by simp [z66,evG] at he
  | .rangeFunc _ _ _ _,k,Q,γ,st,a,w,he,h,hk=>by simp [z66,evG] at he
  | .region id ops draw,k,Q,γ,st,a,w,he,h,hk=>by
    simp only [z66,evG] at he
    cases draw with
    | true=>
      simp only at he
      exact zjd hT hE hSp hB hnt hn9 hm he h (fun γ' st' a' w' h' hk'=>hk .normal γ' _ a' w' (h'.prune _) hk')
    | false=>
      simp only at he
      refine wp_region ?_
      rw [show ops.size=ops.toList.length by simp,List.range_eq_range']
      exact zba hT hE hSp hB hnt hn9 ops.toList 0 rfl he h (fun γ' st' a' w' h' hk'=>hk .normal γ' _ a' w' (h'.prune _) hk')
  | .seq x y,k,Q,γ,st,a,w,he,h,hk=>by
    simp only [z66,evG] at he
    refine wp_seq (z7l hm x he h (fun o γ' st' a' w' h' hk'=>?_))
    cases o with
    | normal=>exact z7l hm y hk' h' hk
    | exit i=>exact hk (.exit i) γ' st' a' w' h' hk'
    | ret=>exact hk .ret γ' st' a' w' h' hk'
  | .cond c x y,k,Q,γ,st,a,w,he,h,hk=>by
    simp only [z66,evG] at he
    split at he
    · rename_i b hc
      have hcr:=z0d h c
      rw [hc] at hcr
      simp only [VRel] at hcr
      have hlit:Rel B nt w0 X γ (zow st c b) a w:=by
        unfold zow
        split
        · exact h.lit hc
        · exact h
      cases b with
      | true=>exact wp_cond_true hcr (z7l hm x he hlit hk)
      | false=>exact wp_cond_false hcr (z7l hm y he hlit hk)
    · cases he
  | .block id c,k,Q,γ,st,a,w,he,h,hk=>by
    simp only [z66,evG] at he
    refine wp_block (z7l hm c he h (fun o γ' st' a' w' h' hk'=>?_))
    cases o with
    | normal=>exact hk .normal γ' st' a' w' h' hk'
    | ret=>exact hk .ret γ' st' a' w' h' hk'
    | exit i=>
      simp only [zkl,Exit.inBlock]
      simp only [z1g] at hk'
      cases hb:Nat.beq i id with
      | true=>
        rw [hb] at hk'
        rw [if_pos (z0f.1 hb)]
        exact hk .normal γ' st' a' w' h' hk'
      | false=>
        rw [hb] at hk'
        rw [if_neg (z10.1 hb)]
        exact hk (.exit i) γ' st' a' w' h' hk'
  | .loop c,k,Q,γ,st,a,w,he,h,hk=>by
    simp only [z66,evG] at he
    generalize lkd ⟨[],[],[]⟩ E.lp (z6m c)=kp at he
    let J:Act→World→Nat→Prop:=fun a w n=>∃ γ st,Rel B nt w0 X γ st a w∧zck c (evG zck E c) kp n st k=some r
    obtain ⟨γr,hr⟩:=h.restrict kp
    refine wp_loop (fun a w=>∃ n,J a w n) (fun a w=>(Classical.epsilon fun n=>J a w n∧∀ m,J a w m→n≤m)) ⟨_,γr,_,hr,he⟩ ?_
    intro a w hI
    have hleast:=Classical.epsilon_spec (zg6 (J a w) hI)
    generalize (Classical.epsilon fun n=>J a w n∧∀ m,J a w m→n≤m)=n at hleast
    obtain ⟨⟨γ1,st1,h1,he1⟩,_⟩:=hleast
    cases n with
    | zero=>simp [zck] at he1
    | succ n=>
      simp only [zck] at he1
      refine z7l hm c he1 h1 (fun o γ' st' a' w' h' hk'=>?_)
      obtain ⟨γr,hr⟩:=h'.restrict kp
      cases o with
      | normal=>
        simp only [zkl,Exit.then]
        have hJ:J a' w' n:=⟨γr,_,hr,hk'⟩
        refine ⟨⟨n,hJ⟩,?_⟩
        have:=Classical.epsilon_spec (zg6 (J a' w') ⟨n,hJ⟩)
        exact Nat.lt_succ_of_le (this.2 n hJ)
      | exit i=>exact hk (.exit i) γr _ a' w' hr hk'
      | ret=>exact hk .ret γr _ a' w' hr hk'
end
open Go Go.RowKit
theorem z9m (o:Store) (bs:List V) (tk:Option Kd) (v:V):z2r (z30 (z1w o bs tk v))=true:=by
  cases v <;> simp only [z1w] <;> repeat' split
  all_goals rfl
theorem zbh (o:Store) (bs:List V):∀ (l:List V) (ks:List Kd),(zh0 (fun k v=>z30 (z1w o bs k v)) ks l).all z2r=true
  | [],ks=>by cases ks <;> rfl
  | v :: l,[]=>by simp [zh0,z9m,zbh o bs l []]
  | v :: l,k :: ks=>by simp [zh0,z9m,zbh o bs l ks]
theorem zc1 (o:Store) (ks:List Kd) (v:V):(match zhr o ks v with | .agg l=>l.all z2r | v=>z2r v)=true∧∀ l,zhr o ks v≠.tup l:=by
  by_cases hc:∃ l,v = .agg l
  · obtain ⟨l,rfl⟩:=hc
    simp only [zhr]
    exact ⟨zbh o [] l ks,fun l' h=>by cases h⟩
  · have h1:zhr o ks v=z30 (z1w o [] ks.head? v):=by cases v <;> first | rfl | exact absurd ⟨_,rfl⟩ hc
    have h2:=z9m o [] ks.head? v
    rw [h1]
    cases hx:z30 (z1w o [] ks.head? v) <;> rw [hx] at h2 <;> simp only [z2r] at h2 ⊢ <;> first | (cases h2; done) | (refine ⟨trivial,fun l h=>?_⟩; cases h)
theorem zc2 (o:Store) (ks:List (List Kd)) (v:V):z71 (z7x o ks v)=true:=by
  by_cases hc:∃ l,v = .tup l
  · obtain ⟨l,rfl⟩:=hc
    simp only [z7x,z71]
    have key:∀ (l:List V) (ks:List (List Kd)),((z7x.go o ks l).all fun v=>match v with | .agg l=>l.all z2r | v=>z2r v)=true:=by
      intro l
      induction l with
      | nil=>intro ks; cases ks <;> rfl
      | cons v l ih=>
        intro ks
        cases ks with
        | nil=>simp only [z7x.go,List.all_cons,Bool.and_eq_true]; exact ⟨(zc1 o [] v).1,ih []⟩
        | cons k ks=>simp only [z7x.go,List.all_cons,Bool.and_eq_true]; exact ⟨(zc1 o k v).1,ih ks⟩
    exact key l ks
  · have h1:z7x o ks v=zhr o (ks.headD []) v:=by cases v <;> first | rfl | exact absurd ⟨_,rfl⟩ hc
    rw [h1]
    obtain ⟨h2,h3⟩:=zc1 o (ks.headD []) v
    cases hx:zhr o (ks.headD []) v <;> rw [hx] at h2 <;> simp only [z71] at h2 ⊢ <;> first | exact h2 | exact absurd hx (h3 _)
theorem ze3 (o:Store) (all:List Nat) (cs:List V):(cs.map (z0v o all)).all okC=true:=by
  refine List.all_eq_true.2 (fun v hv=>?_)
  obtain ⟨u,_,rfl⟩:=List.mem_map.1 hv
  rcases z43 o all u with ⟨_,_,_,_,_,_,_,_,_,h1⟩ | ⟨h1,_⟩
  · rw [h1]; rfl
  · cases hcc:z0v o all u <;> first | rfl | (rw [hcc] at h1; cases h1)
section
variable {B:BT} {nt:Nat} {w0:World} {X:Zone} {γ:Nat→Value} {st st':St} {a:Act} {w:World} {P:Program} {E:Env}
theorem zjn (h:Rel B nt w0 X γ st a w) {n:Nat} {cs:List V} (ho:z01 st.o n=some (.box cs)) {extra:List Nat} {m:Nat} (hm:m∈extra) {b:Nat} (hr:RowOf γ st.o m b) :
    ¬ (z07 γ st.o n b∨∃ m∈z14 st.o (z0c cs++extra) cs,z07 γ st.o m b):=by
  intro hLb
  obtain ⟨e,ag,ks,l,h5,h6⟩:=hr
  rcases hLb with ⟨ob,h7,h8⟩ | ⟨m2,h9,ob,h7,h8⟩
  · have hne:n≠m:=by
      rintro rfl
      rw [ho] at h5
      cases h5
    exact h.dis n m ob _ b hne h7 h5 h8 h6
  · by_cases hne:m2=m
    · subst hne
      obtain ⟨hi2,e2,ag2,ks2,l2,k1,k2,k3⟩:=z26.1 h9
      rw [z2l] at k3
      have q1:=z6c (z2z k1)
      have q2:=z6c hm
      omega
    · exact h.dis m2 m ob _ b hne h7 h5 h8 h6
theorem zm2 {p:Value} (h:Rel ⟨B.T,B.e,some p,B.ng,B.F⟩ nt w0 X γ st a w) {v:V} {x:Value} (hv:VRel γ st.o w (z02 X γ st.o) v x) {ks:List (List Kd)} {vs:List V} {r:V} {out:List (List V)} (he:zm1 st.o ks (z1e vs) v=some (r,out)) {g0:Value} (hp:p=z7y g0) :
    ∃ γ',Rel B.base 0 w0 X γ' ⟨[],z15 r out⟩ zdu w∧VRel γ' (z15 r out) w (z02 X γ' (z15 r out)) (zit r) x∧z3s vs r out g0 (γ' 900000):=by
  have hfar:∀ b,X.far b→z02 X γ st.o b∧∀ b',b'=b→¬ z0h γ st.o b':=fun b hb=>⟨.inr hb,fun b' e hP=>h.nr b' hP (e ▸ hb)⟩
  have hbd:∀ {n:Nat} {cs:List V} (ho:z01 st.o n=some (.box cs)) (extra:List Nat),∃ γb,Rel B.base 0 w0 X γb ⟨[],z28 (cs.map (z0v st.o (z0c cs++extra)))⟩ zdu w∧γb 900000=γ n ∧
      ∀ b,z0h γb (z28 (cs.map (z0v st.o (z0c cs++extra)))) b→z07 γ st.o n b∨∃ m∈z14 st.o (z0c cs++extra) cs,z07 γ st.o m b:=by
    intro n cs ho extra
    exact h.bound ho extra (w1:=w0) (own1:=X.own) (F:=X.far) h.keep (fun b hb=>⟨.inr hb,fun ⟨ob,h1,h2⟩=>h.nr b ⟨n,ob,h1,h2⟩ hb,fun m _ ⟨ob,h1,h2⟩=>h.nr b ⟨m,ob,h1,h2⟩ hb,fun m _ ⟨ob,h1,h2⟩=>h.nr b ⟨m,ob,h1,h2⟩ hb⟩)
      (fun b hb=>by
        rcases hb with ⟨ob,h1,h2⟩ | ⟨m,_,ob,h1,h2⟩
        · exact (h.lt b ⟨n,ob,h1,h2⟩).2
        · exact (h.lt b ⟨m,ob,h1,h2⟩).2)
  have hbP:∀ {n b:Nat} {hs:List Nat},(z07 γ st.o n b∨∃ m∈hs,z07 γ st.o m b)→z0h γ st.o b:=by
    rintro n b hs (⟨ob,h1,h2⟩ | ⟨m,_,ob,h1,h2⟩)
    · exact ⟨n,ob,h1,h2⟩
    · exact ⟨m,ob,h1,h2⟩
  unfold zm1 at he
  split at he
  · rename_i s0 hb
    split at he
    · rename_i s hob
      simp only [Option.some.injEq,Prod.mk.injEq] at he
      obtain ⟨rfl,rfl⟩:=he
      obtain ⟨hR,hP⟩:=h.boundB hob (w1:=w0) (own1:=X.own) (F:=X.far) h.keep (fun b hb=>⟨.inr hb,fun ⟨ob,h1,h2⟩=>h.nr b ⟨_,ob,h1,h2⟩ hb⟩) (fun b ⟨ob,h1,h2⟩=>(h.lt b ⟨_,ob,h1,h2⟩).2)
      have hmo:z15 (z7x st.o ks v) [[.bld s]]=z28 [.bld s]:=by cases z7x st.o ks v <;> rfl
      have hf:=zc2 st.o ks v
      refine ⟨_,by rw [hmo]; exact hR,?_,?_⟩
      · rw [hmo,z3i hf]
        refine zex h hv (fun b _ hb=>?_) (fun m hm b hr hb=>?_) ks
        · exact hb.imp_left (fun hb=>by obtain ⟨ob,h1,h2⟩:=hP b hb; exact ⟨_,ob,h1,h2⟩)
        · obtain ⟨e,ag,ks',l,q1,q2⟩:=hr
          rcases hb with hb | hb
          · obtain ⟨ob,h1,h2⟩:=hP b hb
            refine h.dis 900000 m ob _ b ?_ h1 q1 h2 q2
            rintro rfl
            rw [hob] at q1
            cases q1
          · exact h.nr b ⟨m,_,q1,q2⟩ hb
      · simp only [z3s,hb]
        exact ⟨hf,rfl,(h.pn p rfl _ hob).trans hp⟩
    · cases he
  · rename_i cs0 hnb hb
    split at he
    · rename_i cs hob
      simp only [Option.some.injEq,Prod.mk.injEq] at he
      obtain ⟨rfl,rfl⟩:=he
      obtain ⟨γb,hR,hg,hP⟩:=hbd hob (z5n v)
      have hmo:z15 (z7x st.o ks v) [cs.map (z0v st.o (z0c cs++z5n v))]=z28 (cs.map (z0v st.o (z0c cs++z5n v))):=by cases z7x st.o ks v <;> rfl
      have hf:=zc2 st.o ks v
      refine ⟨γb,by rw [hmo]; exact hR,?_,?_⟩
      · rw [hmo,z3i hf]
        refine zex h hv (fun b _ hb=>hb.imp_left (fun hb=>hbP (hP b hb))) (fun m hm b hr hb=>?_) ks
        rcases hb with hb | hb
        · exact zjn h hob hm hr (hP b hb)
        · obtain ⟨e,ag,ks',l,q1,q2⟩:=hr
          exact h.nr b ⟨m,_,q1,q2⟩ hb
      · simp only [z3s,hb]
        refine ⟨hf,?_,?_⟩
        · unfold zey
          split
          · exact absurd rfl (hnb _)
          · exact absurd rfl (hnb _)
          · exact ze3 _ _ _
        · rw [hg]
          exact (h.pn p rfl _ hob).trans hp
    · cases he
  · rename_i hb
    have fin9:∀ v,VRel γ st.o w (z02 X γ st.o) v x→∃ γ',Rel B.base 0 w0 X γ' ⟨[],z15 (z7x st.o ks v) []⟩ zdu w∧VRel γ' (z15 (z7x st.o ks v) []) w (z02 X γ' (z15 (z7x st.o ks v) [])) (zit (z7x st.o ks v)) x∧z3s vs (z7x st.o ks v) [] g0 (γ' 900000):=by
      intro v hv
      have hf:=zc2 st.o ks v
      have hmo:z15 (z7x st.o ks v) []=[]:=by
        cases hx:z7x st.o ks v <;> first | rfl | (rw [hx] at hf; simp only [z71,z2r] at hf; cases hf)
      refine ⟨γ,?_,?_,?_⟩
      · rw [hmo]
        refine ⟨rfl,rfl,fun i=>by simp only [St.get,lkd,VRel],fun n ob hn=>?_,?_,?_,h.keep,?_,h.fl,fun p hp=>by cases hp⟩
        · simp only [z01,lkd] at hn; cases hn
        · rintro b ⟨n,ob,hn,_⟩; simp only [z01,lkd] at hn; cases hn
        · intro n m ob ob' b _ hn; simp only [z01,lkd] at hn; cases hn
        · rintro b ⟨n,ob,hn,_⟩; simp only [z01,lkd] at hn; cases hn
      · rw [hmo,z3i hf]
        refine zex h hv (fun b _ hb=>?_) (fun m hm b hr hb=>?_) ks
        · rcases hb with ⟨n,ob,hn,_⟩ | hb
          · simp only [z01,lkd] at hn; cases hn
          · exact .inr hb
        · rcases hb with ⟨n,ob,hn,_⟩ | hb
          · simp only [z01,lkd] at hn; cases hn
          · obtain ⟨e,ag,ks',l,q1,q2⟩:=hr
            exact h.nr b ⟨m,_,q1,q2⟩ hb
      · simp only [z3s,hb]
        cases hx:z7x st.o ks v <;> first | (rw [hx] at hf; exact hf) | (rw [hx] at hf; simp only [z71,z2r] at hf; cases hf)
    split at he
    · rename_i n i c
      split at he
      · rename_i cs hob hc
        simp only [Option.some.injEq,Prod.mk.injEq] at he
        obtain ⟨rfl,rfl⟩:=he
        obtain rfl:=z0f.1 hc
        obtain ⟨γb,hR,hg,hP⟩:=hbd hob []
        refine ⟨γb,hR,?_,?_⟩
        · simp only [VRel,hob] at hv
          simp only [z15,zit,z25,VRel]
          rw [z6k (ze3 _ _ _),z00,if_pos rfl,hg]
          exact ⟨trivial,hv.2⟩
        · simp only [z3s,hb,okR]
          exact ze3 _ _ _
      · cases he
    · rename_i n lo hi
      split at he
      · rename_i e ag ks' l hob
        split at he
        · rename_i hlo
          simp only [Option.some.injEq,Prod.mk.injEq] at he
          obtain ⟨rfl,rfl⟩:=he
          obtain rfl:=z0f.1 hlo
          obtain ⟨hpr,hpb⟩:=zev (γ':=fun m=>if m=900000 then x else γ m) (o':=[(900000,some (Ob.row true e ag ks' (l.take hi)))]) h hob hv
          have hmo:z15 (.vec e ag ks' (l.take hi)) []=[(900000,some (.row true e ag ks' (l.take hi)))]:=rfl
          have obs:∀ m ob,z01 [(900000,some (Ob.row true e ag ks' (l.take hi)))] m=some ob→m=900000∧ob = .row true e ag ks' (l.take hi):=fun m ob hn=>by
            rw [z00] at hn
            split at hn
            · rename_i h9
              simp only [Option.some.injEq] at hn
              exact ⟨h9.symm,hn.symm⟩
            · simp [z01,lkd] at hn
          have ownP:∀ b,z0h (fun m=>if m=900000 then x else γ m) [(900000,some (Ob.row true e ag ks' (l.take hi)))] b→z07 γ st.o n b:=by
            rintro b ⟨m,ob,hn,hb⟩
            obtain ⟨rfl,rfl⟩:=obs m ob hn
            exact hpb b (by simpa only [if_true] using hb)
          have hlt:∀ b,z07 γ st.o n b→z0h γ st.o b:=fun b ⟨ob,h1,h2⟩=>⟨n,ob,h1,h2⟩
          have hO:∀ b,b < w.heap.size→z02 X (fun m=>if m=900000 then x else γ m) [(900000,some (Ob.row true e ag ks' (l.take hi)))] b→z02 X γ st.o b:=fun b _ hb=>hb.imp_left (fun hb=>hlt b (ownP b hb))
          rw [hmo]
          refine ⟨fun m=>if m=900000 then x else γ m,⟨rfl,rfl,fun i=>by simp only [St.get,lkd,VRel],fun m ob hn=>?_,fun b hb=>h.lt b (hlt b (ownP b hb)),fun m m' ob ob' b hnm h1 h2=>?_,h.keep,fun b hb=>h.nr b (hlt b (ownP b hb)),h.fl,fun p hp=>by cases hp⟩,?_,?_⟩
          · obtain ⟨rfl,rfl⟩:=obs m ob hn
            simp only [ObRel,if_true] at hpr ⊢
            obtain ⟨k1,k2,xs,k3,k4⟩:=hpr
            exact ⟨k1,k2,xs,k3,fun i y hy=>Kd.RelAll.mono (Keep.refl _ w) hO (fun _ _ hu=>hu) (k4 i y hy)⟩
          · obtain ⟨rfl,rfl⟩:=obs m ob h1
            obtain ⟨rfl,rfl⟩:=obs m' ob' h2
            exact absurd rfl hnm
          · simp only [zit,VRel,z00,if_true]
            refine ⟨Nat.le_refl _,?_⟩
            simp only [VRel,hob] at hv
            obtain ⟨hl,p,len,cap,p',hgm,hxx,_,h22,h33,hm4,_,h5⟩:=hv
            have htl:(l.take hi).length=hi:=by rw [List.length_take,Nat.min_eq_left hl]
            rw [htl]
            rw [Nat.sub_zero,Nat.sub_zero] at hxx
            refine ⟨p',hi,cap,p',hxx,by rw [hxx]; simp,Nat.zero_le _,Nat.le_refl _,by omega,hm4,.inl ?_,fun _=>rfl⟩
            cases p' <;> simp [Addr.add]
          · simp only [z3s,hb,okR]
        · cases he
      · simp only [Option.some.injEq,Prod.mk.injEq] at he
        obtain ⟨rfl,rfl⟩:=he
        exact fin9 _ hv
    · rename_i hnp
      simp only [Option.some.injEq,Prod.mk.injEq] at he
      obtain ⟨rfl,rfl⟩:=he
      exact fin9 _ hv
theorem zd3:∀ (vs:List V) (i j:Nat),lkd .any (zfq i vs) j=if i≤j∧j < i+vs.length then z25 (vs.getD (j - i) .any) else .any
  | [],i,j=>by
    rw [if_neg (by simp only [List.length_nil]; omega)]
    rfl
  | v :: r,i,j=>by
    simp only [zfq,z39,zd3 r (i+1) j,List.length_cons]
    by_cases e:i=j
    · subst e
      simp
    · rw [if_neg e]
      by_cases h:i+1≤j∧j < i+1+r.length
      · rw [if_pos h,if_pos (by omega),show j - i=(j - (i+1))+1 by omega]
        simp
      · rw [if_neg h,if_neg (by omega)]
theorem zew (hT:TiOK P B E) {w:World}:∀ {rs:List ResultVar} {l:List V},zmz E st rs=some l→Rel B nt w0 X γ st a w →
    ∃ xs:List Value,(rs.mapM fun r=>match r with | .tmp t=>pure (a.tmps.getD t undef) | .cell ad t=>do loadVar t (← asAddr (a.tmps.getD ad undef)):Sem (List Value)).run P w = .ok xs w∧VRels γ st.o w (z02 X γ st.o) l xs
  | [],l,h,hR=>by
    simp only [zmz,Option.some.injEq] at h
    subst h
    exact ⟨[],by simp,by simp only [VRels]⟩
  | .tmp t :: r,l,h,hR=>by
    simp only [zmz] at h
    split at h
    · rename_i l' hl'
      simp only [Option.some.injEq] at h
      subst h
      obtain ⟨xs,h1,h2⟩:=zew hT hl' hR
      refine ⟨a.tmps.getD t undef :: xs,?_,?_⟩
      · simp only [List.mapM_cons,Sem.run_bind,Sem.run_pure,Result.andThen_ok,h1]
      · simp only [VRels]
        exact ⟨hR.tm t,h2⟩
    · cases h
  | .cell ad t :: r,l,h,hR=>by
    simp only [zmz] at h
    split at h
    · rename_i n i c hop
      split at h
      · rename_i cs hob
        split at h
        · rename_i v l' hv hl'
          simp only [Option.some.injEq] at h
          subst h
          obtain ⟨xs,h1,h2⟩:=zew hT hl' hR
          have hx:=hR.tm ad
          rw [hop] at hx
          simp only [VRel,hob] at hx
          obtain ⟨_,b,hg,hx⟩:=hx
          have hor:=hR.ob n _ hob
          simp only [ObRel] at hor
          obtain ⟨b',cs',T,hg',hh,hr⟩:=hor
          rw [hg] at hg'
          simp only [Value.pointer.injEq,Option.some.injEq,Addr.mk.injEq,and_true] at hg'
          subst hg'
          obtain ⟨y,hy,hr'⟩:=zg5 (hT.known (zbg hv)) hv hh hr
          refine ⟨y :: xs,?_,?_⟩
          · have hy':(do loadVar t (← asAddr (a.tmps.getD ad undef)):Sem Value).run P w = .ok y w:=by
              rw [hx]
              exact hy
            simp only [Sem.run_bind] at hy'
            simp only [List.mapM_cons,Sem.run_bind,hy',Sem.run_pure,Result.andThen_ok,h1]
          · simp only [VRels]
            exact ⟨hr',h2⟩
        · cases h
      · cases h
    · cases h
theorem zkk {f:FuncId} {fn:Func} {code:Code} (hf:P.funcs[f]?=some fn) (hn:(fn.name == "runtime.NumGoroutine")=false) (hb:fn.body=some code) (hnt:E.nt=fn.ntmps) (hn9:Nat.ble fn.ntmps 900000=true) {rs:List ResultVar} (hrs:fn.results.toList=rs)
    (rks:List (List Kd)) (hm:P.follows .mixedOrders=true) (hT:TiOK P B E) (hE:∀ t,t∈E.eqs→EqSnd P t (E.tyd t).ks) (hSp:∀ f sp,lk E.sp f=some sp→Snd P B f (fun vs=>(sp vs).get)) (hIp:∀ f p,lk E.ip f=some p→zj2 P f p) (hB:BldOK P B E):Snd P B f (z6z E code rs rks):=by
  intro w X γ vs xs r out hsp hgl hxo hR hV
  unfold z6z at hsp
  split at hsp
  case h_2=>cases hsp
  rename_i hle
  have hle':=Nat.le_of_ble_eq_true hle
  have hlen:xs.length=vs.length:=by rw [← hV.length,List.length_map]
  refine Does.enter hf hn (by rw [hb]; rfl) (calls_of_wp hf hb ?_)
  let B':BT:=⟨B.T,B.e,some (z7y (γ 900000)),B.ng,B.F⟩
  have hT':TiOK P B' E:=fun t x ht=>⟨(hT t x ht).info,(hT t x ht).ks,(hT t x ht).by1,(hT t x ht).one,(hT t x ht).und⟩
  have hSp':SpOK P B' E w X:=⟨⟨hgl,hxo⟩,fun f sp hfs=>hSp f sp hfs,hIp⟩
  have hB':BldOK P B' E:=hB
  have hstart:Rel B' fn.ntmps w X γ ⟨zfq 0 vs,z48 vs⟩ { tmps:=xs.toArray++Array.replicate (fn.ntmps - xs.toArray.size) undef,defers:=[] } w:=by
    refine ⟨?_,rfl,fun i=>?_,fun n ob hnob=>?_,hR.lt,hR.dis,hR.keep,hR.nr,hR.fl,fun p hp ob _=>?_⟩
    · simp
      omega
    · simp only [St.get,zd3]
      split
      · rename_i hi
        have hi':i < vs.length:=by omega
        have h1:(vs.map z25)[i]?=some (z25 vs[i]):=by simp [hi']
        obtain ⟨x,hx,hvx⟩:=hV.get h1
        have h2:vs.getD (i - 0) .any=vs[i]:=by simp [hi']
        rw [h2]
        have h3:(xs.toArray++Array.replicate (fn.ntmps - xs.toArray.size) undef).getD i undef=x:=by
          rw [Array.getD_eq_getD_getElem?,Array.getElem?_append_left (by simp; omega)]
          simp [hx]
        simp only [h3]
        exact hvx
      · simp only [VRel]
    · have:=hR.ob n ob hnob
      cases ob with
      | box l=>simpa only [ObRel] using this
      | row own e ag ks l=>cases own <;> simpa only [ObRel] using this
      | bld s=>simpa only [ObRel,BT.base] using this
      | map _ _=>simpa only [ObRel,BT.base] using this
      | iter _ _ _=>simpa only [ObRel,BT.base] using this
    · simp only [B',Option.some.injEq] at hp
      exact hp
  refine z7l hT' hE hSp' hB' hnt (Nat.le_of_ble_eq_true hn9) hm code hsp hstart (fun o γ' st' a' w' h' hk'=>?_)
  have fin:∀ l,zmz E st' rs=some l→zm1 st'.o rks (z1e vs) (zo8 l)=some (r,out)→bodyPost P fn (fun e w'=>∃ x,e = .returned x∧∃ γ',Rel B.base 0 w X γ' ⟨[],z15 r out⟩ zdu w'∧VRel γ' (z15 r out) w' (z02 X γ' (z15 r out)) (zit r) x∧z3s vs r out (γ 900000) (γ' 900000)) .ret a' w':=by
    intro l hl he
    obtain ⟨ys,hy1,hy2⟩:=zew (P:=P) hT' hl h'
    have hval:(results fn a'.tmps).run P w' = .ok (if h:ys.toArray.size=1 then ys.toArray[0] else .tuple ys.toArray) w':=by
      unfold results
      rw [show fn.results=rs.toArray by rw [← hrs]]
      rw [Array.mapM_eq_mapM_toList]
      simp only [Sem.run_bind,Sem.run_map]
      erw [hy1]
      rfl
    have hrel:VRel γ' st'.o w' (z02 X γ' st'.o) (zo8 l) (if h:ys.toArray.size=1 then ys.toArray[0] else .tuple ys.toArray):=by
      match l,ys,hy2 with
      | [],[],_=>simp only [zo8,VRel]; exact ⟨#[],by simp,by simp only [VRels]⟩
      | [v],[y],h2=>simp only [VRels] at h2; simpa [zo8] using h2.1
      | v :: v' :: l,y :: y' :: ys,h2=>simp only [zo8,VRel]; exact ⟨(y :: y' :: ys).toArray,by simp,by simpa using h2⟩
    obtain ⟨γ2,q1,q2,q3⟩:=zm2 (B:=B) h' hrel he rfl
    exact ⟨h'.df,_,hval,_,rfl,γ2,q1,q2,q3⟩
  cases o with
  | exit i=>simp [zbr] at hk'
  | normal=>
    simp only [zbr] at hk'
    split at hk'
    · rename_i l hl
      exact fin l hl hk'
    · cases hk'
  | ret=>
    simp only [zbr] at hk'
    split at hk'
    · rename_i l hl
      exact fin l hl hk'
    · cases hk'
end
open Go Go.RowKit
def zB:V→Value→Bool
  | .int k n,.int k' n'=>k==k'&&(n==n'&&zjg k n)
  | .bool b,.bool c=>b==c
  | .str s,.string s'=>s.size==0&&s'.size==0
  | .zs,.slice none 0 0=>true
  | .nilp,.pointer none=>true
  | .err true,.nilIface=>true
  | .any,_=>true
  | _,_=>false
def zBs:List V→List Value→Bool
  | [],[]=>true
  | v :: vs,x :: xs=>zB v x&&zBs vs xs
  | _,_=>false
def zlh:Kd→Value→Bool
  | .int k,.int k' n=>k==k'&&n==0
  | .bool,.bool b=>!b
  | .str,.string s=>s.size==0
  | _,_=>false
theorem zli {k:Kd} {z:Value} (h:zlh k z=true):zgx k z:=by
  cases k <;> cases z <;> simp only [zlh] at h <;> try (cases h; done)
  · simp only [Bool.and_eq_true,beq_iff_eq] at h
    obtain ⟨rfl,rfl⟩:=h
    rfl
  · simp only [Bool.not_eq_true'] at h
    subst h
    rfl
  · rename_i s
    have e:s=ByteArray.empty:=by
      obtain ⟨⟨l⟩⟩:=s
      cases l with
      | nil=>rfl
      | cons a l=>simp [ByteArray.size] at h
    subst e
    rfl
def dB (P:Program) (T t:Nat) (ks:List Kd):TD→TypeDesc→Bool
  | .slice e,.slice e'=>e==e'
  | .struct fs,.struct fields=>fs==fields.toList.map (fun f=>(f.offset,f.type))&&fields.toList.all (fun f=>(P.info? f.type).isSome)
  | .array n e,.array n' e'=>n==n'&&e==e'
  | .ptr e,.pointer e'=>e==e'
  | .bld,_=>t==T
  | .map e k,.map kt e'=>e==e'&&((match P.underlying kt with | some (.int .i64)=>true | _=>false)&&(match P.info? e with | some i=>(match i.zero with | some z=>zlh k z | none=>false) | none=>false))
  | .iface,.interface _=>true
  | .leaf,d=>match ks with
    | [.int k]=>(match d with | .int k'=>k==k' | _=>false)
    | [.str]=>(match d with | .string=>true | _=>false)
    | [.bool]=>(match d with | .bool=>true | _=>false)
    | _=>true
  | _,_=>false
def tiB (P:Program) (T t:Nat) (x:TI):Bool:=
  match P.info? t,P.underlying t with
  | some i,some d=>match i.zero with
    | some z=>i.size==x.size&&(i.bytes==x.bytes&&(z.cells.size==x.size&&(zBs x.zero z.cells.toList&&(x.ks.length==x.size&&(Nat.ble 1 x.bytes&&((x.agg||x.size==1)&&(d.isRow==x.agg&&dB P T t x.ks x.d d)))))))
    | none=>false
  | _,_=>false
def zoq (P:Program) (T:Nat):List (Nat × TI)→Bool
  | []=>true
  | (t,x) :: r=>tiB P T t x&&zoq P T r
theorem zos {γ:Nat→Value} {o:Store} {w:World} {O:Nat→Prop} {v:V} {x:Value} (h:zB v x=true):VRel γ o w O v x:=by
  unfold zB at h
  split at h
  · simp only [Bool.and_eq_true,beq_iff_eq,zjg,decide_eq_true_eq] at h
    obtain ⟨rfl,rfl,h1,h2⟩:=h
    simp only [VRel]
    exact ⟨trivial,h1,h2⟩
  · simp only [beq_iff_eq] at h
    subst h
    simp only [VRel]
  · rename_i s s'
    simp only [Bool.and_eq_true,beq_iff_eq] at h
    have e:∀ s:ByteArray,s.size=0→s=ByteArray.empty:=fun s hs=>by
      obtain ⟨⟨l⟩⟩:=s
      cases l with
      | nil=>rfl
      | cons a l=>simp [ByteArray.size] at hs
    simp only [VRel]
    rw [e s h.1,e s' h.2]
    exact ⟨rfl,by simp [ByteArray.size_empty]⟩
  · simp only [VRel]
  · simp only [VRel]
  · simp only [VRel]
  · simp only [VRel]
  · cases h
theorem zlg {γ:Nat→Value} {o:Store} {w:World} {O:Nat→Prop}:∀ {l:List V} {xs:List Value},zBs l xs=true→VRels γ o w O l xs
  | [],[],_=>by simp only [VRels]
  | [],_ :: _,h=>by simp [zBs] at h
  | _ :: _,[],h=>by simp [zBs] at h
  | v :: vs,x :: xs,h=>by
    simp only [zBs,Bool.and_eq_true] at h
    simp only [VRels]
    exact ⟨zos h.1,zlg h.2⟩
theorem znz {P:Program} {B:BT} {t:Nat} {x:TI} (h:tiB P B.T t x=true):TISnd P B t x:=by
  unfold tiB at h
  split at h
  · rename_i i d hi hd
    split at h
    · rename_i z hz
      simp only [Bool.and_eq_true,beq_iff_eq,Bool.or_eq_true] at h
      obtain ⟨h1,h2,h3,h4,h5,h6,h7,h8,h9⟩:=h
      refine ⟨⟨i,z,hi,h1,h2,hz,h3,fun γ o w O=>zlg h4⟩,h5,Nat.le_of_ble_eq_true h6,fun ha=>by rw [ha] at h7; simpa using h7,⟨d,hd,h8,?_⟩⟩
      cases hx:x.d with
      | slice e=>rw [hx] at h9; cases d <;> simp only [dB] at h9 <;> first | (cases h9; done) | (simp only [beq_iff_eq] at h9; subst h9; rfl)
      | struct fs=>
        rw [hx] at h9
        cases d <;> simp only [dB] at h9 <;> first | (cases h9; done) | skip
        rename_i fields
        simp only [Bool.and_eq_true,beq_iff_eq,List.all_eq_true] at h9
        exact ⟨fields,rfl,h9.1,h9.2⟩
      | array n e=>
        rw [hx] at h9
        cases d <;> simp only [dB] at h9 <;> first | (cases h9; done) | skip
        simp only [Bool.and_eq_true,beq_iff_eq] at h9
        obtain ⟨rfl,rfl⟩:=h9
        rfl
      | ptr e=>rw [hx] at h9; cases d <;> simp only [dB] at h9 <;> first | (cases h9; done) | (simp only [beq_iff_eq] at h9; subst h9; rfl)
      | bld=>rw [hx] at h9; simp only [dB,beq_iff_eq] at h9; exact h9
      | map e k=>
        rw [hx] at h9
        cases d <;> simp only [dB] at h9 <;> first | (cases h9; done) | skip
        rename_i kt e'
        simp only [Bool.and_eq_true,beq_iff_eq] at h9
        obtain ⟨rfl,h10,h11⟩:=h9
        split at h10
        · rename_i hu
          split at h11
          · rename_i i' hi'
            split at h11
            · rename_i z' hz'
              exact ⟨kt,i',z',rfl,hu,hi',hz',zli h11⟩
            · cases h11
          · cases h11
        · cases h10
      | iface=>rw [hx] at h9; cases d <;> simp only [dB] at h9 <;> first | (cases h9; done) | exact ⟨_,rfl⟩
      | leaf=>
        rw [hx] at h9
        refine ⟨fun k hk=>?_,fun hk=>?_,fun hk=>?_⟩ <;> rw [hk] at h9 <;> cases d <;> simp only [dB] at h9 <;> first | (cases h9; done) | (simp only [beq_iff_eq] at h9; subst h9; rfl) | rfl
    · cases h
  · cases h
theorem zo0 {P:Program} {B:BT} {E:Env} {ti:List (Nat × TI)} (he:E.ti=ti) (h:zoq P B.T ti=true):TiOK P B E:=by
  subst he
  have key:∀ (l:List (Nat × TI)),zoq P B.T l=true→∀ t x,lk l t=some x→tiB P B.T t x=true:=by
    intro l
    induction l with
    | nil=>intro _ t x hx; simp [lk] at hx
    | cons p r ih=>
      obtain ⟨j,y⟩:=p
      intro hl t x hx
      simp only [zoq,Bool.and_eq_true] at hl
      simp only [lk] at hx
      split at hx
      · rename_i hb
        simp only [Option.some.injEq] at hx
        subst hx
        rw [← z0f.1 hb]
        exact hl.1
      · exact ih hl.2 t x hx
  exact fun t x ht=>znz (key E.ti h t x ht)
def zdp (P:Program) (t w:Nat):Bool:=match P.info? t with | some _=>P.cellsOf t==w | none=>false
def znu (ks:List Kd):Nat→List Kd
  | 0=>[]
  | n+1=>ks++znu ks n
def zod (P:Program) (g:Nat→Option (List Kd)):List Field→Nat→Option (List Kd)
  | [],_=>some []
  | f :: r,o=>match g f.type with
    | some ks=>match f.name != "_"&&(f.offset==o&&zdp P f.type ks.length) with
      | true=>match zod P g r (o+ks.length) with
        | some ks'=>some (ks++ks')
        | none=>none
      | false=>none
    | none=>none
def eqW (P:Program):Nat→Nat→Option (List Kd)
  | 0,_=>none
  | d+1,t=>match P.underlying t with
    | some (.int k)=>some [.int k]
    | some .bool=>some [.bool]
    | some (.struct fs)=>match P.stoodInHeld t with
      | true=>none
      | false=>zod P (eqW P d) fs.toList 0
    | some (.array n e)=>match eqW P d e with
      | some ks=>match zdp P e ks.length with
        | true=>some (znu ks n)
        | false=>none
      | none=>none
    | _=>none
def zou (P:Program) (ti:List (Nat × TI)):List Nat→Bool
  | []=>true
  | t :: r=>(!(P.eqGuardType P.depth t))&&((match P.underlying t with | some d=>d.isRow | none=>false)&&(match eqW P 10 t with | some ks=>zaq.kdsEq (lkd TI.none ti t).ks ks | none=>false))&&zou P ti r
theorem z2t:∀ {ks:List Kd} {l:List V},z2b ks l=true→l.length=ks.length
  | [],[],_=>rfl
  | [],_ :: _,h=>by simp [z2b] at h
  | k :: _,[],h=>by cases k <;> simp [z2b] at h
  | k :: ks,v :: l,h=>by
    cases k <;> cases v <;> simp only [z2b] at h <;> try (cases h; done)
    · split at h
      · simp [z2t h]
      · cases h
    · simp [z2t h]
theorem z4j:∀ {ks ks':List Kd} {l:List V},z2b (ks++ks') l=true→z2b ks (l.take ks.length)=true∧z2b ks' (l.drop ks.length)=true
  | [],_,_,h=>⟨rfl,h⟩
  | k :: ks,ks',[],h=>by cases k <;> simp [z2b] at h
  | k :: ks,ks',v :: l,h=>by
    cases k <;> cases v <;> simp only [List.cons_append,z2b] at h <;> try (cases h; done)
    · split at h
      · rename_i hk
        obtain ⟨h1,h2⟩:=z4j h
        simp only [List.length_cons,List.take_succ_cons,List.drop_succ_cons,z2b,hk]
        exact ⟨h1,h2⟩
      · cases h
    · obtain ⟨h1,h2⟩:=z4j h
      simp only [List.length_cons,List.take_succ_cons,List.drop_succ_cons,z2b]
      exact ⟨h1,h2⟩
theorem z6l:∀ {a a':List V} {b b':List V} {c:Bool},a.length=a'.length→zd4 (a++b) (a'++b')=some c→∃ c1 c2,zd4 a a'=some c1∧zd4 b b'=some c2∧c=(c1&&c2)
  | [],[],b,b',c,_,h=>⟨true,c,rfl,h,by simp⟩
  | [],_ :: _,_,_,_,hl,_=>by simp at hl
  | _ :: _,[],_,_,_,hl,_=>by simp at hl
  | x :: a,y :: a',b,b',c,hl,h=>by
    have hl':a.length=a'.length:=by simpa using hl
    cases x <;> cases y <;> simp only [List.cons_append,zd4] at h ⊢ <;> try (cases h; done)
    · split at h
      · rename_i hk
        split at h
        · rename_i c0 h0
          simp only [Option.some.injEq] at h
          obtain ⟨c1,c2,h1,h2,h3⟩:=z6l hl' h0
          rw [h1]
          exact ⟨_,c2,rfl,h2,by rw [← h,h3,Bool.and_assoc]⟩
        · cases h
      · cases h
    · split at h
      · rename_i c0 h0
        simp only [Option.some.injEq] at h
        obtain ⟨c1,c2,h1,h2,h3⟩:=z6l hl' h0
        rw [h1]
        exact ⟨_,c2,rfl,h2,by rw [← h,h3,Bool.and_assoc]⟩
      · cases h
theorem z5c:∀ {a a':List V} {c:Bool},zd4 a a'=some c→a.length=a'.length
  | [],[],_,_=>rfl
  | [],_ :: _,_,h=>by simp [zd4] at h
  | x :: _,[],_,h=>by cases x <;> simp [zd4] at h
  | x :: a,y :: a',c,h=>by
    cases x <;> cases y <;> simp only [zd4] at h <;> try (cases h; done)
    · split at h
      · split at h
        · rename_i h0
          simp [z5c h0]
        · cases h
      · cases h
    · split at h
      · rename_i h0
        simp [z5c h0]
      · cases h
section
variable {P:Program} {γ:Nat→Value} {o:Store} {w:World} {O:Nat→Prop}
def z9x (P:Program) (γ:Nat→Value) (o:Store) (w:World) (O:Nat→Prop) (t:Nat) (l:List V) (x:Value):Prop:=
  match P.underlying t with
  | some d=>match d.isRow with
    | true=>∃ xs,x = .agg xs∧VRels γ o w O l xs.toList
    | false=>∃ v,l=[v]∧VRel γ o w O v x
  | none=>False
theorem zki {d t:Nat} {ks:List Kd} (h:eqW P d t=some ks):∃ k,P.underlying t=some k∧(k.isRow=false→ks.length=1):=by
  cases d with
  | zero=>simp [eqW] at h
  | succ d=>
    simp only [eqW] at h
    split at h
    · rename_i hu; simp only [Option.some.injEq] at h; exact ⟨_,hu,fun _=>by rw [← h]; rfl⟩
    · rename_i hu; simp only [Option.some.injEq] at h; exact ⟨_,hu,fun _=>by rw [← h]; rfl⟩
    · rename_i hu; exact ⟨_,hu,fun h=>by simp [TypeDesc.isRow] at h⟩
    · rename_i hu; exact ⟨_,hu,fun h=>by simp [TypeDesc.isRow] at h⟩
    · cases h
theorem z54 {t n off:Nat} {l:List V} {xs:Array Value} (hu:∃ k,P.underlying t=some k∧(k.isRow=false→n=1)) (hs:zdp P t n=true) (hr:VRels γ o w O l xs.toList) (hl:off+n≤l.length) (W:World) :
    ∃ y,(part t xs off).run P W = .ok y W∧z9x P γ o w O t ((l.drop off).take n) y:=by
  obtain ⟨k,hu,hn⟩:=hu
  unfold zdp at hs
  split at hs
  · rename_i i hi
    simp only [beq_iff_eq] at hs
    cases hrow:k.isRow with
    | true=>
      refine ⟨.agg (xs.extract off (off+n)),?_,?_⟩
      · cases k <;> simp [TypeDesc.isRow] at hrow <;> simp [part,isAgg,run_underlying hu,run_sizeOf W hi,hs]
      · unfold z9x
        rw [hu]
        simp only [hrow]
        refine ⟨_,rfl,?_⟩
        have:(xs.extract off (off+n)).toList=(xs.toList.drop off).take n:=by
          simp [List.extract_eq_take_drop]
        rw [this]
        exact (hr.drop off).take n
    | false=>
      obtain rfl:=hn hrow
      obtain ⟨v,hv⟩:∃ v,l[off]?=some v:=⟨l[off]'(by omega),List.getElem?_eq_getElem _⟩
      obtain ⟨y,hy,hyr⟩:=hr.get hv
      have hy':xs[off]?=some y:=by simpa using hy
      refine ⟨y,?_,?_⟩
      · cases k <;> simp [TypeDesc.isRow] at hrow <;> simp [part,isAgg,run_underlying hu,hy']
      · unfold z9x
        rw [hu]
        simp only [hrow]
        refine ⟨v,?_,hyr⟩
        rw [List.take_one,List.head?_drop,hv]
        rfl
  · cases hs
def zn4 (P:Program) (γ:Nat→Value) (o:Store) (w:World) (O:Nat→Prop) (dd t:Nat) (ks:List Kd):Prop:=∀ (W:World) (x y:Value) (l l':List V) (c:Bool),z2b ks l=true→z9x P γ o w O t l x→z9x P γ o w O t l' y→zd4 l l'=some c→(Op.equalIn dd t x y).run P W = .ok c W
theorem z2w (l:List V) (off n:Nat):l.drop off=(l.drop off).take n++l.drop (off+n):=by
  rw [← List.drop_drop]; exact (List.take_append_drop n (l.drop off)).symm
theorem za3 {dd:Nat} {g:Nat→Option (List Kd)} (hg:∀ t ks,g t=some ks→zn4 P γ o w O dd t ks∧∃ k,P.underlying t=some k∧(k.isRow=false→ks.length=1)) {xs ys:Array Value} {l l':List V} (hx:VRels γ o w O l xs.toList) (hy:VRels γ o w O l' ys.toList) (hll:l.length=l'.length) (W:World) :
    ∀ (fs:List Field) (off:Nat) {ks:List Kd} {c:Bool},off≤l.length→zod P g fs off=some ks→z2b ks (l.drop off)=true→zd4 (l.drop off) (l'.drop off)=some c→(Op.eqFields dd xs ys fs).run P W = .ok c W
  | [],off,ks,c,hoff,hf,hk,he=>by
    simp only [zod,Option.some.injEq] at hf
    subst hf
    have h0:=z2t hk
    have h1:l.drop off=[]:=List.length_eq_zero_iff.1 h0
    have h2:l'.drop off=[]:=by
      have:=z5c he
      rw [h1] at this
      exact List.length_eq_zero_iff.1 this.symm
    rw [h1,h2] at he
    simp only [zd4,Option.some.injEq] at he
    subst he
    simp [Op.eqFields]
  | f :: r,off,ks,c,hoff,hf,hk,he=>by
    simp only [zod] at hf
    split at hf
    · rename_i ks1 hw
      split at hf
      · rename_i hb
        split at hf
        · rename_i ks2 hf2
          simp only [Option.some.injEq] at hf
          subst hf
          simp only [Bool.and_eq_true,beq_iff_eq,bne_iff_ne,ne_eq] at hb
          obtain ⟨hn,ho,hs⟩:=hb
          obtain ⟨hrun,hu⟩:=hg _ _ hw
          obtain ⟨hk1,hk2⟩:=z4j hk
          rw [List.drop_drop] at hk2
          have hkl:=z2t hk
          simp only [List.length_drop,List.length_append] at hkl
          have hle:off+ks1.length≤l.length:=by omega
          rw [z2w l off ks1.length,z2w l' off ks1.length] at he
          obtain ⟨c1,c2,h1,h2,h3⟩:=z6l (by simp; omega) he
          obtain ⟨a,ha,hac⟩:=z54 (off:=off) hu hs hx hle W
          obtain ⟨b,hb,hbc⟩:=z54 (off:=off) hu hs hy (by omega) W
          have he1:=hrun W a b _ _ c1 hk1 hac hbc h1
          have ih:=za3 hg hx hy hll W r (off+ks1.length) hle hf2 hk2 h2
          simp only [Op.eqFields,hn,ne_eq,not_false_eq_true,if_true,Sem.run_bind,ho,ha,hb,he1,Result.andThen_ok]
          subst h3
          cases c1
          · simp
          · simpa using ih
        · cases hf
      · cases hf
    · cases hf
theorem zb9 {dd e:Nat} {ks:List Kd} (hrun:zn4 P γ o w O dd e ks) (hu:∃ k,P.underlying e=some k∧(k.isRow=false→ks.length=1)) (hs:zdp P e ks.length=true) {xs ys:Array Value} {l l':List V} (hx:VRels γ o w O l xs.toList) (hy:VRels γ o w O l' ys.toList) (hll:l.length=l'.length) (W:World) :
    ∀ (m i:Nat) {c:Bool},i*ks.length+m*ks.length=l.length→z2b (znu ks m) (l.drop (i*ks.length))=true→zd4 (l.drop (i*ks.length)) (l'.drop (i*ks.length))=some c→(Op.eqItems dd e ks.length xs ys (List.range' i m)).run P W = .ok c W
  | 0,i,c,hl,hk,he=>by
    rw [List.drop_of_length_le (by omega),List.drop_of_length_le (by omega)] at he
    simp only [zd4,Option.some.injEq] at he
    subst he
    simp [Op.eqItems]
  | m+1,i,c,hl,hk,he=>by
    rw [Nat.add_mul,Nat.one_mul] at hl
    obtain ⟨hk1,hk2⟩:=z4j (ks:=ks) (ks':=znu ks m) hk
    rw [List.drop_drop] at hk2
    rw [z2w l (i*ks.length) ks.length,z2w l' (i*ks.length) ks.length] at he
    obtain ⟨c1,c2,h1,h2,h3⟩:=z6l (by simp; omega) he
    obtain ⟨a,ha,hac⟩:=z54 (off:=i*ks.length) hu hs hx (by omega) W
    obtain ⟨b,hb,hbc⟩:=z54 (off:=i*ks.length) hu hs hy (by omega) W
    have he1:=hrun W a b _ _ c1 hk1 hac hbc h1
    have ih:=zb9 hrun hu hs hx hy hll W m (i+1) (by rw [Nat.add_mul,Nat.one_mul]; omega) (by rw [Nat.add_mul,Nat.one_mul]; exact hk2) (by rw [Nat.add_mul,Nat.one_mul]; exact h2)
    simp only [List.range'_succ,Op.eqItems,Sem.run_bind,ha,hb,he1,Result.andThen_ok]
    subst h3
    cases c1
    · simp
    · simpa using ih
theorem zbz (ks:List Kd):∀ n,(znu ks n).length=n*ks.length
  | 0=>by simp [znu]
  | n+1=>by simp only [znu,List.length_append,zbz ks n,Nat.add_mul,Nat.one_mul]; omega
theorem zhc (dd:Nat):∀ (d t:Nat) (ks:List Kd),eqW P d t=some ks→zn4 P γ o w O (dd+d) t ks
  | 0,t,ks,h=>by simp [eqW] at h
  | d+1,t,ks,h=>by
    intro W x y l l' c hk hx hy he
    have hll:=z5c he
    simp only [eqW] at h
    unfold z9x at hx hy
    split at h
    · rename_i k hu
      simp only [Option.some.injEq] at h
      subst h
      rw [hu] at hx hy
      simp only at hx hy
      obtain ⟨v,rfl,hx⟩:=hx
      obtain ⟨v',rfl,hy⟩:=hy
      cases v <;> simp only [z2b] at hk <;> try (cases hk; done)
      cases v' <;> simp only [zd4] at he <;> try (cases he; done)
      simp only [VRel] at hx hy
      obtain ⟨rfl,_⟩:=hx
      obtain ⟨rfl,_⟩:=hy
      split at he
      · rename_i hkk
        simp only [Option.some.injEq,Bool.and_true] at he
        have hkk:=eq_of_beq hkk
        subst hkk
        rw [show dd+(d+1)=(dd+d)+1 from rfl,run_equalIn_int W _ t _ k _ _ hu,he]
      · cases he
    · rename_i hu
      simp only [Option.some.injEq] at h
      subst h
      rw [hu] at hx hy
      simp only at hx hy
      obtain ⟨v,rfl,hx⟩:=hx
      obtain ⟨v',rfl,hy⟩:=hy
      cases v <;> simp only [z2b] at hk <;> try (cases hk; done)
      cases v' <;> simp only [zd4] at he <;> try (cases he; done)
      simp only [VRel] at hx hy
      subst hx; subst hy
      simp only [Option.some.injEq,Bool.and_true] at he
      rw [show dd+(d+1)=(dd+d)+1 from rfl,run_equalIn_bool W _ t _ _ hu,he]
    · rename_i fs hu
      rw [hu] at hx hy
      simp only at hx hy
      obtain ⟨xs,rfl,hx⟩:=hx
      obtain ⟨ys,rfl,hy⟩:=hy
      split at h
      · cases h
      · rename_i hst
        have hfs:P.fieldsOf t=fs:=by simp [Program.fieldsOf,hu]
        rw [show dd+(d+1)=(dd+d)+1 from rfl,run_equalIn_struct W (dd+d) t xs ys (by rw [hfs]; exact hu) hst,hfs]
        exact za3 (fun t ks ht=>⟨zhc dd d t ks ht,zki ht⟩) hx hy hll W fs.toList 0 (Nat.zero_le _) h hk he
    · rename_i m e hu
      rw [hu] at hx hy
      simp only at hx hy
      obtain ⟨xs,rfl,hx⟩:=hx
      obtain ⟨ys,rfl,hy⟩:=hy
      split at h
      · rename_i ks1 hw
        split at h
        · rename_i hs
          simp only [Option.some.injEq] at h
          subst h
          have hs':=hs
          unfold zdp at hs'
          split at hs'
          · rename_i i hi
            simp only [beq_iff_eq] at hs'
            have hkl:=z2t hk
            rw [zbz] at hkl
            rw [show dd+(d+1)=(dd+d)+1 from rfl,run_equalIn_array W (dd+d) xs ys hu hi,hs',List.range_eq_range']
            exact zb9 (zhc dd d e ks1 hw) (zki hw) hs hx hy hll W m 0 (by omega) (by simpa using hk) (by simpa using he)
          · cases hs'
        · cases h
      · cases h
    · cases h
end
theorem znc {P:Program} {E:Env} {ti:List (Nat × TI)} (hti:E.ti=ti) {l:List Nat} (h:zou P ti l=true):∀ t,t∈l→EqSnd P t (E.tyd t).ks:=by
  induction l with
  | nil=>intro t ht; cases ht
  | cons t r ih=>
    intro t' ht'
    simp only [zou,Bool.and_eq_true,Bool.not_eq_true'] at h
    rcases List.mem_cons.1 ht' with e | e
    · subst e
      refine ⟨h.1.1,fun γ o w w' O l l' xs ys c hk hc hx hy=>?_⟩
      obtain ⟨⟨_,h2,h3⟩,_⟩:=h
      split at h3
      · rename_i ks hn
        have hks:(E.tyd t').ks=ks:=by
          unfold Env.tyd
          rw [hti]
          exact zeg h3
        rw [hks] at hk
        split at h2
        · rename_i k hk2
          have hcx:∀ {l:List V} {xs:Array Value},VRels γ o w O l xs.toList→z9x P γ o w O t' l (.agg xs):=fun hx=>by
            unfold z9x
            rw [hk2]
            simp only [h2]
            exact ⟨_,rfl,hx⟩
          exact zhc (P:=P) (γ:=γ) (o:=o) (w:=w) (O:=O) 9990 10 t' ks hn w' (.agg xs) (.agg ys) l l' c hk (hcx hx) (hcx hy) hc
        · cases h2
      · cases h3
    · exact ih h.2 t' e
open Go Go.RowKit
theorem Snd.mono {P:Program} {B:BT} {f:FuncId} {sp sp':zlm} (h:Snd P B f sp) (hs:∀ vs r,sp' vs=some r→sp vs=some r):Snd P B f sp':=
  fun w X γ vs xs r out hsp=>h w X γ vs xs r out (hs vs _ hsp)
def z9y (P:Program) (B:BT) (f:FuncId) (sp:z2a):Prop:=Snd P B f (fun vs=>(sp vs).get)
mutual
def wfK:Kd→IV→Prop
  | .int k,x=>k.min≤x.toInt∧x.toInt≤k.max
  | .bool,_=>True
  | .str,x=>x.toStr.size≤strMax
  | .list ag ks,x=>x.toList.length≤strMax∧∀ y∈x.toList,zn3 ks (z13 ag y) 0
def zn3:List Kd→(Nat→IV)→Nat→Prop
  | [],_,_=>True
  | k :: ks,f,j=>wfK k (f j)∧zn3 ks f (j+1)
end
def wfL:V→Prop
  | .int k n=>k.min≤n∧n≤k.max
  | .str s=>s.size≤strMax
  | .list ag ks l=>l.length≤strMax∧∀ y∈l,zn3 ks (z13 ag y) 0
  | .vec _ ag ks l=>l.length≤strMax∧∀ y∈l,zn3 ks (z13 ag y) 0
  | .bld s=>s.size≤strMax
  | _=>True
def wfLs:List V→Prop
  | []=>True
  | v :: r=>wfL v∧wfLs r
def wfV:V→Prop
  | .agg l=>wfLs l
  | .bor l=>wfLs l
  | v=>wfL v
def zms:List V→Prop
  | []=>True
  | v :: r=>wfV v∧zms r
mutual
theorem Kd.Rel.wf {w:World} {O:Nat→Prop}:∀ {k:Kd} {x:IV} {v:Value},Kd.Rel w O k x v→wfK k x
  | .int k,x,v,h=>by simp only [Kd.Rel] at h; simp only [wfK]; exact h.2
  | .bool,x,v,h=>by simp only [wfK]
  | .str,x,v,h=>by simp only [Kd.Rel] at h; simp only [wfK]; exact h.2
  | .list ag ks,x,v,h=>by
    simp only [Kd.Rel] at h
    obtain ⟨p,c,_,_,_,hl,hi⟩:=h
    simp only [wfK]
    refine ⟨hl,fun y hy=>?_⟩
    obtain ⟨i,hi'⟩:=List.getElem?_of_mem hy
    obtain ⟨b,o,_,_,_,hr⟩:=hi i y hi'
    exact Kd.RelAll.wf hr
theorem Kd.RelAll.wf {w:World} {O:Nat→Prop}:∀ {ks:List Kd} {f:Nat→IV} {j:Nat} {R:Nat→Value→Prop},Kd.RelAll w O ks f j R→zn3 ks f j
  | [],_,_,_,_=>by simp only [zn3]
  | k :: ks,f,j,R,h=>by
    simp only [Kd.RelAll] at h
    obtain ⟨⟨u,_,hr⟩,h2⟩:=h
    simp only [zn3]
    exact ⟨Kd.Rel.wf hr,Kd.RelAll.wf h2⟩
end
theorem VRel.wfL {γ:Nat→Value} {o:Store} {w:World} {O:Nat→Prop} {v:V} {x:Value} (h:VRel γ o w O v x):wfL v:=by
  cases v <;> simp only [FM.wfL] <;> simp only [VRel] at h
  · exact h.2
  · exact h.2
  · have:=Kd.Rel.wf h
    simp only [wfK,IV.toList] at this
    exact this
theorem VRels.wfLs {γ:Nat→Value} {o:Store} {w:World} {O:Nat→Prop}:∀ {l:List V} {xs:List Value},VRels γ o w O l xs→wfLs l
  | [],[],_=>by simp only [FM.wfLs]
  | [],_ :: _,h=>by simp only [VRels] at h
  | _ :: _,[],h=>by simp only [VRels] at h
  | v :: vs,x :: xs,h=>by
    simp only [VRels] at h
    simp only [FM.wfLs]
    exact ⟨h.1.wfL,VRels.wfLs h.2⟩
theorem zoo {B:BT} {γ:Nat→Value} {o:Store} {w:World} {O:Nat→Prop} {g:Value} {e:Nat} {ag:Bool} {ks:List Kd} {l:List IV} (h:ObRel B γ o w O g (.row true e ag ks l)):wfL (.vec e ag ks l):=by
  simp only [ObRel] at h
  obtain ⟨_,hl,xs,_,hr⟩:=h
  simp only [FM.wfL]
  refine ⟨hl,fun y hy=>?_⟩
  obtain ⟨i,hi⟩:=List.getElem?_of_mem hy
  exact Kd.RelAll.wf (hr i y hi)
theorem znh {B:BT} {nt:Nat} {w0:World} {X:Zone} {γ:Nat→Value} {a:Act} {w:World} {cs:List V} (h:Rel B nt w0 X γ ⟨[],z28 cs⟩ a w):wfLs cs:=by
  by_cases hb:∃ s,cs=[.bld s]
  · obtain ⟨s,rfl⟩:=hb
    have:=h.ob 900000 (.bld s) (by simp [z28,z00])
    simp only [ObRel] at this
    obtain ⟨b,v,p,_,_,_,_,_,hs⟩:=this
    simp only [FM.wfLs,FM.wfL,and_true]
    exact hs
  · have he:z28 cs=(900000,some (.box (z1s 900001 cs))) :: z5y 900001 cs:=ze9 (fun s e=>hb ⟨s,e⟩)
    have hbox:=h.ob 900000 (.box (z1s 900001 cs)) (by rw [he,z00,if_pos rfl])
    simp only [ObRel] at hbox
    obtain ⟨b,c,T,_,_,hr⟩:=hbox
    have hall:∀ (j:Nat) (v:V),cs[j]?=some v→FM.wfL v:=by
      intro j v hj
      by_cases hv:∃ e ag ks l,v = .vec e ag ks l
      · obtain ⟨e,ag,ks,l,rfl⟩:=hv
        have hat:=z8m (nr:=900001) hj
        have:=h.ob (900001+j) _ (show z01 (z28 cs) (900001+j)=_ by rw [he,z00,if_neg (by omega)]; exact hat)
        exact zoo this
      · have hbk:(z1s 900001 cs)[j]?=some v:=by
          rw [z61,hj]
          cases v <;> first | rfl | exact absurd ⟨_,_,_,_,rfl⟩ hv
        obtain ⟨x,_,hx⟩:=hr.get hbk
        exact hx.wfL
    clear hr he hb h
    induction cs with
    | nil=>simp only [FM.wfLs]
    | cons v r ih=>
      simp only [FM.wfLs]
      exact ⟨hall 0 v rfl,ih (fun j u hj=>hall (j+1) u (by simpa using hj))⟩
theorem zka {B:BT} {nt:Nat} {w0:World} {X:Zone} {γ:Nat→Value} {a:Act} {w:World} {O:Nat→Prop} {o:Store} {cs:Option (List V)} (hcs:∀ l,cs=some l→wfLs l):∀ {vs:List V} {xs:List Value},(∀ l,.bor l∈vs→cs=some l)→VRels γ o w O (vs.map z25) xs→zms vs
  | [],_,_,_=>by simp only [zms]
  | v :: r,[],_,h=>by simp only [List.map_cons,VRels] at h
  | v :: r,x :: xs,hb,h=>by
    simp only [List.map_cons,VRels] at h
    simp only [zms]
    refine ⟨?_,zka (B:=B) (nt:=nt) (w0:=w0) (X:=X) (a:=a) hcs (fun l hl=>hb l (List.mem_cons_of_mem _ hl)) h.2⟩
    have h1:=h.1
    by_cases hbor:∃ l,v = .bor l
    · obtain ⟨l,rfl⟩:=hbor
      simp only [wfV]
      exact hcs l (hb l (List.mem_cons_self ..))
    · by_cases hagg:∃ l,v = .agg l
      · obtain ⟨l,rfl⟩:=hagg
        simp only [z25,VRel] at h1
        obtain ⟨cs',_,hr⟩:=h1
        simp only [wfV]
        exact hr.wfLs
      · have:wfV v=FM.wfL v:=by cases v <;> first | rfl | exact absurd ⟨_,rfl⟩ hbor | exact absurd ⟨_,rfl⟩ hagg
        rw [this]
        cases v <;> first | exact h1.wfL | exact absurd ⟨_,rfl⟩ hbor | exact absurd ⟨_,rfl⟩ hagg | (simp only [FM.wfL])
def z8i:List V→Option (List V)→Prop
  | [],_=>True
  | .bor l :: r,c=>c=some l∧z8i r c
  | _ :: r,c=>z8i r c
theorem z9o:∀ {vs:List V} {c:Option (List V)},z8i vs c→∀ l,.bor l∈vs→c=some l
  | [],_,_,l,h=>by cases h
  | v :: r,c,ho,l,h=>by
    rcases List.mem_cons.1 h with e | e
    · subst e
      exact ho.1
    · cases v <;> simp only [z8i] at ho <;> first | exact z9o ho l e | exact z9o ho.2 l e
theorem znx {P:Program} {B:BT} {f:FuncId} {fn:Func} (E:Nat→Env) (sp:z2a) (rks:List (List Kd)) (hf:P.funcs[f]?=some fn) {code:Code} {rs:List ResultVar} {nt:Nat}
    (hc:(fn.name == "runtime.NumGoroutine")=false∧fn.body=some code∧fn.ntmps=nt∧Nat.ble nt 900000=true∧fn.results.toList=rs) (hnt:∀ N,(E N).nt=nt) (hm:P.follows .mixedOrders=true)
    (hT:∀ N,TiOK P B (E N)) (hE:∀ N t,t∈(E N).eqs→EqSnd P t ((E N).tyd t).ks) (hSp:∀ N f sp,lk (E N).sp f=some sp→z9y P B f sp) (hIp:∀ N f p,lk (E N).ip f=some p→zj2 P f p) (hB:∀ N,BldOK P B (E N))
    (h:∀ vs r,(z8i vs (z1e vs)→zms vs)→(sp vs).get=some r→∃ N,z6z (E N) code rs rks vs=some r):z9y P B f sp:=by
  intro w X γ vs xs r out hsp hg hx hR hV
  have hwf:z8i vs (z1e vs)→zms vs:=fun ho=>by
    refine zka (B:=B.base) (nt:=0) (w0:=w) (X:=X) (a:=zdu) (cs:=z1e vs) (fun l hl=>?_) (z9o ho) hV
    have hm:z48 vs=z28 l:=by simp only [z48,hl]
    rw [hm] at hR
    exact znh hR
  obtain ⟨N,hN⟩:=h vs _ hwf hsp
  exact zkk hf hc.1 hc.2.1 ((hnt N).trans hc.2.2.1.symm) (by rw [hc.2.2.1]; exact hc.2.2.2.1) hc.2.2.2.2 rks hm (hT N) (hE N) (hSp N) (hIp N) (hB N) w X γ vs xs r out hN hg hx hR hV
abbrev ic (n:Nat):Int:=n
noncomputable abbrev lpE (E:Env) (c:Code) (kp:KP) (n:Nat) (s:St) (k:Out→St→Res):Res:=zck c (evG zck E c) kp n s k
noncomputable abbrev kSq (E:Env) (c:Code) (k:Out→St→Res):Out→St→Res:=zpa c (evG zck E c) k
noncomputable abbrev rnd (E:Env) (c:Code) (s:St) (k:Out→St→Res):Res:=evG zck E c s k
theorem z1i (E:Env) (c:Code) (kp:KP) (n:Nat) (s:St) (k:Out→St→Res):lpE E c kp (n+1) s k=rnd E c s (zef (fun s'=>lpE E c kp n s' k) kp k):=rfl
def z4h (fn:Func):Code:=match fn.body with | some c=>c | none=>.skip
def z2n:Code→List Nat→Code
  | c,[]=>c
  | .seq a _,0 :: r=>z2n a r
  | .seq _ b,_ :: r=>z2n b r
  | .cond _ a _,0 :: r=>z2n a r
  | .cond _ _ b,_ :: r=>z2n b r
  | .block _ c,_ :: r=>z2n c r
  | .loop c,_ :: r=>z2n c r
  | .scope c,_ :: r=>z2n c r
  | _,_=>.skip
open Go Go.RowKit
section
variable {P:Program} {B:BT} {f:FuncId}
theorem Does.of_calls {fn:Func} (hf:P.funcs[f]?=some fn) (hn:(fn.name == "runtime.NumGoroutine")=false) (hb:fn.body.isNone=false) {xs:List Value} {w:World} {R:Ending→World→Prop} (h:Calls P f xs.toArray w R):Does P f xs w R:=Does.enter hf hn hb h
theorem zjm {r:V} (h:∀ cs,r≠.bor cs) (hv:∀ e ag ks l,r≠.vec e ag ks l):z15 r []=[]:=by
  cases r <;> first | rfl | exact absurd rfl (h _) | exact absurd rfl (hv _ _ _ _)
theorem z8t {w:World} {X:Zone} {γ:Nat→Value} {vs:List V} {xs:List Value} {r:V} (hR:Rel B.base 0 w X γ ⟨[],z48 vs⟩ zdu w) (hb:z1e vs=none) (hr:z71 r=true)
    (h:Does P f xs w fun e w'=>∃ x,e = .returned x∧Keep (fun _=>False) w w'∧∀ O:Nat→Prop,(∀ b,O b→b < w.heap.size)→VRel γ [] w' O r x) :
    Does P f xs w fun e w'=>∃ x,e = .returned x∧∃ γ',Rel B.base 0 w X γ' ⟨[],z15 r []⟩ zdu w'∧VRel γ' (z15 r []) w' (z02 X γ' (z15 r [])) (zit r) x∧z3s vs r [] (γ 900000) (γ' 900000):=by
  have hm:z48 vs=[]:=by simp only [z48,hb]
  rw [hm] at hR
  have hnb:∀ cs,r≠.bor cs:=fun cs e=>by subst e; simp [z71,z2r] at hr
  have hnv:∀ e ag ks l,r≠.vec e ag ks l:=fun e ag ks l h=>by subst h; simp [z71,z2r] at hr
  rw [zjm hnb hnv,z3i hr]
  refine h.mono ?_
  rintro e w' ⟨x,rfl,hk,hv⟩
  refine ⟨x,rfl,γ,hR.world hk,hv _ (fun b hb=>?_),?_⟩
  · rcases hb with ⟨n,ob,hn,_⟩ | hb
    · simp [z01,lkd] at hn
    · exact hR.fl b hb
  · simp only [z3s,hb]
    cases r <;> first | exact hr | exact absurd rfl (hnb _) | exact absurd rfl (hnv _ _ _ _)
structure BldIs (B:BT) (w:World) (b:Nat) (p v:Value) (s:ByteArray):Prop where
  self:p = .pointer none∨p = .pointer (some ⟨b,0,none⟩)
  heap:w.heap[b]?=some (.cells #[p,v] B.T (0,0))
  own:w.ownsRowF 0 B.e 1 v s.size (Lib.strCells s)
  ne:v.ownBlock≠some b
  size:s.size≤strMax
theorem zht {w:World} {X:Zone} {γ:Nat→Value} {vs:List V} {xs:List Value} {r:V} {s s':ByteArray} (hR:Rel B.base 0 w X γ ⟨[],z48 vs⟩ zdu w) (hb:z1e vs=some [.bld s]) (hr:z71 r=true) (hnl:∀ γ' o w' O x,VRel γ [] w O r x→VRel γ' o w' O r x)
    (h:∀ b v p,γ 900000 = .tuple #[.pointer (some ⟨b,0,none⟩),v]→BldIs B w b p v s→Does P f xs w fun e w'=>∃ x,e = .returned x∧(∃ p' v',BldIs B w' b p' v' s'∧Keep (fun k=>k=b∨v.ownBlock=some k) w w'∧∀ k,v'.ownBlock=some k→v.ownBlock=some k∨w.heap.size≤k)∧∀ O,VRel γ [] w O r x) :
    Does P f xs w fun e w'=>∃ x,e = .returned x∧∃ γ',Rel B.base 0 w X γ' ⟨[],z15 r [[.bld s']]⟩ zdu w'∧VRel γ' (z15 r [[.bld s']]) w' (z02 X γ' (z15 r [[.bld s']])) (zit r) x∧z3s vs r [[.bld s']] (γ 900000) (γ' 900000):=by
  have hm:z48 vs=z28 [.bld s]:=by simp only [z48,hb]
  have hmo:z15 r [[.bld s']]=z28 [.bld s']:=by cases r <;> rfl
  rw [hm] at hR
  have hob:z01 (z28 [.bld s]) 900000=some (.bld s):=by simp [z28,z00]
  have hor:=hR.ob 900000 _ hob
  simp only [ObRel,BT.base] at hor
  obtain ⟨b,v,p,hg,hp,hh,how,hne,hsz⟩:=hor
  rw [hmo,z3i hr]
  refine (h b v p hg ⟨hp,hh,how,hne,hsz⟩).mono ?_
  rintro e w' ⟨x,rfl,⟨p',v',hB,hk,hnew⟩,hx⟩
  have hPb:∀ k,(k=b∨v.ownBlock=some k)→z0h γ (z28 [.bld s]) k:=by
    rintro k hk
    refine ⟨900000,_,hob,⟨b,0,none⟩,v,hg,?_⟩
    rcases hk with rfl | hk
    · exact .inl rfl
    · exact .inr hk
  have hXb:∀ k,(k=b∨v.ownBlock=some k)→k < w.heap.size∧X.own k∧¬ X.far k:=fun k hk=>by
    obtain ⟨h1,h2⟩:=hR.lt k (hPb k hk)
    exact ⟨h1,h2.resolve_left (by omega),hR.nr k (hPb k hk)⟩
  have hkX:Keep X.own w w':=hk.mono (fun k _ h=>(hXb k h).2.1)
  have hobs:∀ n ob,z01 (z28 [.bld s']) n=some ob→n=900000∧ob = .bld s':=by
    intro n ob hn
    simp only [z28,z00] at hn
    split at hn
    · rename_i e
      simp only [Option.some.injEq] at hn
      exact ⟨e.symm,hn.symm⟩
    · simp [z01,lkd] at hn
  have hP':∀ k,z0h (fun _=>.tuple #[.pointer (some ⟨b,0,none⟩),v']) (z28 [.bld s']) k→k=b∨v'.ownBlock=some k:=by
    rintro k ⟨n,ob,hn,hbk⟩
    obtain ⟨rfl,rfl⟩:=hobs n ob hn
    obtain ⟨a,v2,h1,h2⟩:=hbk
    simp only [Value.tuple.injEq] at h1
    have e1:a=⟨b,0,none⟩∧v2=v':=by
      have:=congrArg Array.toList h1
      simp at this
      exact ⟨this.1.symm,this.2.symm⟩
    obtain ⟨rfl,rfl⟩:=e1
    rcases h2 with h2 | h2
    · exact .inl h2.symm
    · exact .inr h2
  have hlt':∀ k,v'.ownBlock=some k→k < w'.heap.size:=by
    intro k hk
    rcases hB.own.2 with ⟨rfl,_⟩ | ⟨g,cap,cur,fz,rfl,_,hgh,_⟩
    · simp [Value.ownBlock] at hk
    · simp only [Value.ownBlock,Option.some.injEq] at hk
      subst hk
      exact (Array.getElem?_eq_some_iff.1 hgh).1
  refine ⟨x,rfl,fun _=>.tuple #[.pointer (some ⟨b,0,none⟩),v'],⟨rfl,rfl,fun i=>by simp only [St.get,lkd,VRel],fun n ob hn=>?_,fun k hk2=>?_,fun n m ob ob' k hnm h1 h2=>?_,hkX,fun k hk2 hf=>?_,fun k hf=>Nat.lt_of_lt_of_le (hR.fl k hf) hk.size,fun q hq=>by cases hq⟩,hnl _ _ _ _ _ (hx _),?_⟩
  · obtain ⟨rfl,rfl⟩:=hobs n ob hn
    simp only [ObRel,BT.base]
    exact ⟨b,v',p',rfl,hB.self,hB.heap,hB.own,hB.ne,hB.size⟩
  · rcases hP' k hk2 with rfl | h2
    · obtain ⟨h3,h4,_⟩:=hXb k (.inl rfl)
      exact ⟨Nat.lt_of_lt_of_le h3 hk.size,.inr h4⟩
    · refine ⟨hlt' k h2,?_⟩
      rcases hnew k h2 with h3 | h3
      · exact .inr (hXb k (.inr h3)).2.1
      · exact .inl h3
  · obtain ⟨rfl,rfl⟩:=hobs n ob h1
    obtain ⟨rfl,rfl⟩:=hobs m ob' h2
    exact absurd rfl hnm
  · rcases hP' k hk2 with rfl | h2
    · exact (hXb k (.inl rfl)).2.2 hf
    · rcases hnew k h2 with h3 | h3
      · exact (hXb k (.inr h3)).2.2 hf
      · have:=hR.fl k hf
        omega
  · simp only [z3s,hb]
    exact ⟨hr,rfl,by rw [hg]; rfl⟩
theorem zh7 {w:World} {γ:Nat→Value} {s:ByteArray} {O:Nat→Prop} {x:Value} {b:Nat} {v:Value} (hg:γ 900000 = .tuple #[.pointer (some ⟨b,0,none⟩),v]) (h:VRel γ (z28 [.bld s]) w O (.ptr 900000 0 0) x):x = .pointer (some ⟨b,0,none⟩):=by
  simp only [VRel,z28,z00,if_true] at h
  obtain ⟨_,b',v',h1,rfl⟩:=h
  rw [hg] at h1
  simp only [Value.tuple.injEq] at h1
  have:=congrArg Array.toList h1
  simp at this
  rw [this.1]
end
theorem zmp {w w':World} {O:Nat→Prop} (hO:∀ b,O b→b < w.heap.size) {g:Nat} {T:TypeId} {l:List ByteArray} {c:Nat} (hg:w.heap.size≤g) (hh:w'.heap[g]?=some (.cells (l.map Value.string).toArray T (0,0))) (hc:l.length≤c) (hcm:c≤maxLen) (hl:l.length≤strMax)
    (hs:∀ s∈l,s.size≤strMax):Kd.Rel w' O (.list false [.str]) (.list (l.map IV.str)) (.slice (some ⟨g,0,none⟩) l.length c):=by
  simp only [Kd.Rel,IV.toList,List.length_map]
  refine ⟨_,c,rfl,hc,hcm,hl,fun i y hy=>⟨g,0,rfl,fun h=>by have:=hO g h; omega,(Array.getElem?_eq_some_iff.1 hh).1,?_⟩⟩
  simp only [List.getElem?_map,Option.map_eq_some_iff] at hy
  obtain ⟨s,hs1,rfl⟩:=hy
  simp only [Kd.RelAll,List.length_cons,List.length_nil,Nat.zero_add,Nat.mul_one,Nat.add_zero,and_true]
  refine ⟨.string s,?_,?_⟩
  · simp only [World.cell?,hh]
    simp [hs1]
  · simp only [Kd.Rel,z13,IV.toStr]
    exact ⟨trivial,hs s (List.mem_of_getElem? hs1)⟩
open Go Go.RowKit
theorem R.get_br (b:Bool) (x y:R):(R.br b x y).get=cond b x.get y.get:=by cases b <;> rfl
theorem R.get_ok (v:V) (o:List (List V)):(R.ok v o).get=some (v,o):=rfl
theorem R.get_no:R.no.get=none:=rfl
def zee (n:Int):ByteArray:=⟨(Lib.itoa n).toArray⟩
def zah (s:ByteArray):Int:=match Lib.atoiAll s.data.toList with | .ok v=>v | .range=>Lib.atoiSat s.data.toList | _=>0
def zh5 (s:ByteArray):Bool:=match Lib.atoiAll s.data.toList with | .ok _=>true | _=>false
def z90 (s sep:ByteArray):ByteArray:=⟨(Lib.cut s.data.toList sep.data.toList).1.toArray⟩
def zjb (s sep:ByteArray):ByteArray:=⟨(Lib.cut s.data.toList sep.data.toList).2.1.toArray⟩
def zpd (s sep:ByteArray):Bool:=(Lib.cut s.data.toList sep.data.toList).2.2
def z1d (s sep:ByteArray):List ByteArray:=Lib.splitB sep 0 (Lib.countB s sep) s
def z5p (c:Int):UInt8:=UInt8.ofNat c.toNat
def z0l:z2a
  | [.bor [.bld s],.str t]=>.br (decide (s.size+t.size≤strMax)) (.ok (.tup [.int .i64 (ic t.size),.err true]) [[.bld (s++t)]]) .no
  | _=>.no
def z0o:z2a
  | [.bor [.bld s],.int .u8 c]=>.br (decide (s.size+1≤strMax)) (.ok (.err true) [[.bld (s.push (z5p c))]]) .no
  | _=>.no
def z0x:z2a
  | [.bor [.bld s]]=>.ok (.str s) [[.bld s]]
  | _=>.no
def z35:z2a
  | [.int .i64 n]=>.ok (.str (zee n)) []
  | _=>.no
def z34:z2a
  | [.str s]=>.ok (.tup [.int .i64 (zah s),.err (zh5 s)]) []
  | _=>.no
def z3v:z2a
  | [.str s,.str sep]=>.br (decide (s.size < 4294967281)) (.ok (.tup [.str (z90 s sep),.str (zjb s sep),.bool (zpd s sep)]) []) .no
  | _=>.no
def z2p:z2a
  | [.str s,.str sep]=>.br (decide (s.size < 4294967281)&&decide (1≤sep.size)) (.ok (.list false [.str] ((z1d s sep).map IV.str)) []) .no
  | _=>.no
theorem zdz {l:List UInt8} {v:Int} (h:Lib.atoiAll l = .ok v):IntKind.i64.min≤v∧v≤IntKind.i64.max:=by
  have e1:IntKind.i64.min = -9223372036854775808:=rfl
  have e2:IntKind.i64.max=9223372036854775807:=rfl
  rw [e1,e2]
  unfold Lib.atoiAll at h
  split at h
  · cases h
  · simp only at h
    split at h
    · cases h
    · cases h
    · rename_i u hu
      split at h
      · cases h
      · split at h
        · cases h
        · simp only [Lib.NumEnd.ok.injEq] at h
          subst h
          split <;> omega
theorem zh6 (s:ByteArray):IntKind.i64.min≤zah s∧zah s≤IntKind.i64.max:=by
  have e1:IntKind.i64.min = -9223372036854775808:=rfl
  have e2:IntKind.i64.max=9223372036854775807:=rfl
  unfold zah
  split
  · rename_i v hv
    exact zdz hv
  · unfold Lib.atoiSat
    rw [e1,e2]
    split <;> omega
  · rw [e1,e2]; omega
theorem zd8 {n:Int} (h0:IntKind.i64.min≤n) (h1:n≤IntKind.i64.max):(zee n).size≤21:=by
  have e1:IntKind.i64.min = -9223372036854775808:=rfl
  have e2:IntKind.i64.max=9223372036854775807:=rfl
  rw [e1] at h0
  rw [e2] at h1
  have:=Lib.itoa_length_le n h0 h1
  simpa [zee,ByteArray.size] using this
theorem zb7 (s sep:ByteArray):(z90 s sep).size≤s.size∧(zjb s sep).size≤s.size:=by
  unfold z90 zjb Lib.cut
  split
  · simp only [ByteArray.size,List.size_toArray,List.length_take,List.length_drop,Array.length_toList]
    omega
  · simp only [ByteArray.size,List.size_toArray,Array.length_toList,List.length_nil]
    omega
theorem zag (sep:ByteArray):∀ (k:Nat) (s:ByteArray),(Lib.splitB sep 0 k s).length≤k+1∧∀ p∈Lib.splitB sep 0 k s,p.size≤s.size
  | 0,s=>by simp [Lib.splitB]
  | k+1,s=>by
    unfold Lib.splitB
    split
    · simp
    · obtain ⟨h1,h2⟩:=zag sep k (s.extract ((Lib.indexB s sep).toNat+sep.size) s.size)
      refine ⟨by simp only [List.length_cons]; omega,fun p hp=>?_⟩
      rcases List.mem_cons.1 hp with h | h
      · subst h
        simp only [ByteArray.size_extract]
        omega
      · have:=h2 p h
        simp only [ByteArray.size_extract] at this
        omega
open Go Go.Proofs
def zmr:List (Nat × TI):=[
  (2,⟨1,8,false,[.int .i64],[.int .i64 0],.leaf⟩),
  (3,⟨1,8,false,[.int .i64],[.int .i64 0],.leaf⟩),
  (4,⟨1,1,false,[.bool],[.bool false],.leaf⟩),
  (5,⟨1,1,false,[.int .u8],[.int .u8 0],.leaf⟩),
  (9,⟨1,16,false,[.str],[.str ⟨#[]⟩],.leaf⟩),
  (22,⟨1,24,false,[.list true [.bool,.int .i64,.int .i64]],[.zs],.slice 39⟩),
  (24,⟨4,32,true,[.int .i64,.int .i64,.int .i64,.int .i64],[.int .i64 0,.int .i64 0,.int .i64 0,.int .i64 0],.array 4 3⟩),
  (26,⟨8,80,true,[.int .i64,.list true [.bool,.int .i64,.int .i64],.int .i64,.int .i64,.int .i64,.int .i64,.int .i64,.int .i64],[.int .i64 0,.zs,.int .i64 0,.int .i64 0,.int .i64 0,.int .i64 0,.int .i64 0,.int .i64 0],.struct [(0,3),(1,22),(2,24),(6,3),(7,3)]⟩),
  (31,⟨1,8,false,[.list false []],[.any],.map 9 (.str)⟩),
  (33,⟨1,8,false,[.list false []],[.nilp],.ptr 36⟩),
  (34,⟨1,24,false,[.list false [.int .u8]],[.zs],.slice 5⟩),
  (36,⟨2,32,true,[.list false [],.list false [.int .u8]],[.nilp,.zs],.bld⟩),
  (39,⟨3,24,true,[.bool,.int .i64,.int .i64],[.bool false,.int .i64 0,.int .i64 0],.struct [(0,4),(1,3),(2,3)]⟩),
  (40,⟨1,24,false,[.list false [.int .i64]],[.zs],.slice 3⟩),
  (46,⟨1,16,false,[.list false []],[.err true],.iface⟩),
  (56,⟨1,24,false,[.list false [.str]],[.zs],.slice 9⟩)]
def zoe:List Nat:=[24,39]
noncomputable abbrev PR:Program:=Tryd.prog
theorem zp9:zoq PR 36 zmr=true:=by kernel_rfl
theorem zp2:zou PR zmr zoe=true:=by kernel_rfl
theorem zp7:PR.follows .mixedOrders=true:=by kernel_rfl
theorem zob:∃ i,PR.info? 36=some i∧i.zero=some (.agg #[.pointer none,.slice none 0 0]):=by
  refine ⟨(PR.info? 36).getD default,by kernel_rfl,by kernel_rfl⟩
theorem zn9 (_h:(lkd TI.none zmr 36).d = .bld):∃ i,PR.info? 36=some i∧i.zero=some (.agg #[.pointer none,.slice none 0 0]):=zob
def mkE (sp:List (Nat × z2a)) (lp:List (Nat × KP)) (nt N:Nat):Env:=⟨zmr,sp,[],lp,nt,N,zoe,[]⟩
abbrev V.i (n:Int):V:=.int .i64 n
abbrev HF (fn:Func) (c:Code) (nt:Nat) (rs:List ResultVar):Prop:=(fn.name == "runtime.NumGoroutine")=false∧fn.body=some c∧fn.ntmps=nt∧Nat.ble nt 900000=true∧fn.results.toList=rs
theorem zao {fn:Func} {nt:Nat} {rs:List ResultVar} (h:(!(fn.name == "runtime.NumGoroutine")&&(fn.body.isSome&&(fn.ntmps==nt&&Nat.ble nt 900000)))=true) (h2:fn.results.toList=rs):HF fn (z4h fn) nt rs:=by
  simp only [Bool.and_eq_true,Bool.not_eq_true',beq_iff_eq] at h
  refine ⟨h.1,?_,h.2.2.1,h.2.2.2,h2⟩
  unfold z4h
  cases hb:fn.body with
  | none=>rw [hb] at h; exact absurd h.2.1 (by decide)
  | some c=>rfl
noncomputable def z0g:Code:=z4h Tryd.f3
theorem z5v:HF Tryd.f3 z0g 73 [.tmp 2]:=zao (by kernel_rfl) (by kernel_rfl)
noncomputable def z5q:Code:=z4h Tryd.f4
theorem zan:HF Tryd.f4 z5q 14 [.cell 2 26]:=zao (by kernel_rfl) (by kernel_rfl)
noncomputable def za2:Code:=z4h Tryd.f5
theorem zfz:HF Tryd.f5 za2 47 [.tmp 2]:=zao (by kernel_rfl) (by kernel_rfl)
noncomputable def z1z:Code:=z4h Tryd.f6
theorem zfy:HF Tryd.f6 z1z 61 [.tmp 2]:=zao (by kernel_rfl) (by kernel_rfl)
noncomputable def z3d:Code:=z4h Tryd.f7
theorem z67:HF Tryd.f7 z3d 33 [.tmp 0]:=zao (by kernel_rfl) (by kernel_rfl)
noncomputable def z1n:Code:=z4h Tryd.f8
theorem zg0:HF Tryd.f8 z1n 37 [.tmp 2]:=zao (by kernel_rfl) (by kernel_rfl)
noncomputable def z2h:Code:=z4h Tryd.f9
theorem zhe:HF Tryd.f9 z2h 26 []:=zao (by kernel_rfl) (by kernel_rfl)
noncomputable def za1:Code:=z4h Tryd.f11
theorem zfx:HF Tryd.f11 za1 17 [.cell 2 26,.tmp 3]:=zao (by kernel_rfl) (by kernel_rfl)
noncomputable def z3t:Code:=z4h Tryd.f12
theorem z72:HF Tryd.f12 z3t 38 [.tmp 4]:=zao (by kernel_rfl) (by kernel_rfl)
noncomputable def z09:Code:=z4h Tryd.f16
theorem zhf:HF Tryd.f16 z09 87 [.cell 2 26]:=zao (by kernel_rfl) (by kernel_rfl)
noncomputable def z0e:Code:=z4h Tryd.f17
theorem z4s:HF Tryd.f17 z0e 26 [.tmp 4]:=zao (by kernel_rfl) (by kernel_rfl)
noncomputable def z82:Code:=z4h Tryd.f22
theorem zea:HF Tryd.f22 z82 20 [.tmp 4]:=zao (by kernel_rfl) (by kernel_rfl)
open Go Go.Proofs Go.RowKit
theorem Keep.freeze {O:Nat→Prop} (w:World) (a:Addr) (n:Nat) (h:O a.block):Keep O w (w.freeze a n):=by
  unfold World.freeze
  split
  · exact Keep.refl _ _
  · exact ⟨rfl,rfl,rfl,by simp,fun b _ hn=>by simp only [Array.getElem?_modify]; rw [if_neg (fun e:a.block=b=>hn (e ▸ h))]⟩
theorem Keep.setCell {O:Nat→Prop} (w:World) (a:Addr) (v:Value) (h:O a.block):Keep O w (w.setCell a v):=
  ⟨rfl,rfl,rfl,by simp [World.setCell],fun b _ hn=>Below.heap_setCell _ _ _ _ (fun e=>hn (e ▸ h))⟩
theorem z4u {w:World} {b:Nat} {o:Obj} (h:w.heap[b]?=some o):b < w.heap.size:=(Array.getElem?_eq_some_iff.1 h).1
theorem zlr:liesAt PR PR.depth 36 (2 / PR.cellsOf 36) 0 36 1=true:=by kernel_rfl
theorem zi0:(PR.info? 36).map (·.size)=some 2:=by kernel_rfl
theorem zld:(PR.info? 5).map (fun i=>(i.zero,i.size,i.bytes))=some (some (.int .u8 0),1,1):=by kernel_rfl
set_option maxHeartbeats 1000000 in
set_option maxRecDepth 100000 in
theorem ze0 (b:Nat) (w:World) (h0:w.cell? ⟨b,0,none⟩=some (.pointer (some ⟨b,0,none⟩))) :
    Calls Tryd.prog 18 #[.pointer (some ⟨b,0,none⟩)] w fun e w'=>e = .returned (.tuple #[])∧w'=w:=by
  obtain ⟨j,hj,_⟩:=Option.map_eq_some_iff.1 zi0
  go_enter Tryd.func18,Tryd.ntmps18
  go_wp2
  rw [Lib.run_neq_ptr_same w _ Tryd.underlying33 hj]
  go_wp2
  go_end0
  exact ⟨rfl,rfl⟩
set_option maxHeartbeats 1000000 in
set_option maxRecDepth 100000 in
theorem zch (b:Nat) (w:World) (h0:w.cell? ⟨b,0,none⟩=some (.pointer none)) (hsh:w.shape? b=some (36,2)) (hfz:w.frozen? ⟨b,0,none⟩=false) :
    Calls Tryd.prog 18 #[.pointer (some ⟨b,0,none⟩)] w fun e w'=>e = .returned (.tuple #[])∧w'=w.setCell ⟨b,0,none⟩ (.pointer (some ⟨b,0,none⟩)):=by
  obtain ⟨j,hj,hjs⟩:=Option.map_eq_some_iff.1 zi0
  go_enter Tryd.func18,Tryd.ntmps18
  go_wp2
  rw [Lib.run_to_unsafe w ⟨b,0,none⟩ Tryd.underlying33 Tryd.underlying59 hj (by rw [hjs]; decide) hsh (Nat.zero_lt_succ 1)]
  simp only [Result.andThen]
  rw [Oper.upon_value]
  go_wp2
  rw [run_callFunc_extern Tryd.func23 (by kernel_rfl) (by kernel_rfl) (by kernel_rfl) (e:=Extern.AbiNoEscape.same) (by kernel_rfl)]
  rw [Lib.run_noEscape]
  simp only [Result.andThen]
  rw [Oper.upon_value]
  go_wp2
  rw [Lib.run_from_unsafe w ⟨b,0,none⟩ Tryd.underlying59 Tryd.underlying33 hj hsh zlr]
  simp only [Result.andThen]
  rw [Oper.upon_value]
  go_wp2
  go_end0
  exact ⟨rfl,rfl⟩
theorem zhy (b:Nat) (p v:Value) (w:World) (hp:p = .pointer none∨p = .pointer (some ⟨b,0,none⟩)) (hbk:w.heap[b]?=some (.cells #[p,v] 36 (0,0))) :
    Calls Tryd.prog 18 #[.pointer (some ⟨b,0,none⟩)] w fun e w'=>e = .returned (.tuple #[])∧w'.heap[b]?=some (.cells #[.pointer (some ⟨b,0,none⟩),v] 36 (0,0))∧Keep (fun k=>k=b) w w'∧w'.heap.size=w.heap.size:=by
  have hc0:w.cell? ⟨b,0,none⟩=some p:=by rw [Lib.cell_of_heap hbk]; rfl
  rcases hp with rfl | rfl
  · refine (zch b w hc0 (by simp [World.shape?,hbk]) (Lib.frozen_of_heap hbk 0)).mono ?_
    rintro e w' ⟨rfl,rfl⟩
    exact ⟨rfl,by simp [World.setCell,Array.getElem?_modify,hbk],Keep.setCell w ⟨b,0,none⟩ _ rfl,by simp [World.setCell]⟩
  · refine (ze0 b w hc0).mono ?_
    rintro e w' ⟨rfl,rfl⟩
    exact ⟨rfl,hbk,Keep.refl _ _,rfl⟩
def zaz (b:Nat) (v:Value) (bs:List Value) (w w':World):Prop:=
  ∃ v',w'.heap[b]?=some (.cells #[.pointer (some ⟨b,0,none⟩),v'] 36 (0,0))∧w'.ownsRowF 0 5 1 v' bs.length bs∧v'.ownBlock≠some b ∧
    Keep (fun k=>k=b∨v.ownBlock=some k) w w'∧∀ k,v'.ownBlock=some k→v.ownBlock=some k∨w.heap.size≤k
theorem zhz {b:Nat} {v v':Value} {bs:List Value} {w w1 w2:World} (hs1:w1.heap.size=w.heap.size) (hk1:Keep (fun k=>k=b) w w1)
    (hb2:w2.heap[b]?=some (.cells #[.pointer (some ⟨b,0,none⟩),v] 36 (0,0))) (hown:w2.ownsRowF 0 5 1 v' bs.length bs) (hk2:Keep (fun k=>v.ownBlock=some k) w1 w2) (hv:∀ k,v'.ownBlock=some k→v.ownBlock=some k∨w1.heap.size≤k) :
    zaz b v bs w (w2.setCell ⟨b,1,none⟩ v'):=by
  have hput:=Lib.BuilderAtF.put (T:=36) (e:=5) (Nat.zero_le b) hb2 hown (by decide)
  obtain ⟨_,v2,q1,q2,q3⟩:=hput
  have e2:v2=v':=by
    have:(w2.setCell ⟨b,1,none⟩ v').heap[b]?=some (.cells #[.pointer (some ⟨b,0,none⟩),v'] 36 (0,0)):=by simp [World.setCell,Array.getElem?_modify,hb2]
    rw [this] at q1
    simp at q1
    exact q1.symm
  subst e2
  refine ⟨v2,q1,q2,q3,?_,fun k hk=>by rw [← hs1]; exact hv k hk⟩
  have h3:Keep (fun k=>k=b) w2 (w2.setCell ⟨b,1,none⟩ v2):=Keep.setCell w2 ⟨b,1,none⟩ v2 rfl
  refine (hk1.mono (fun _ _ h=>Or.inl h)).trans ((hk2.mono (O':=fun k=>k=b∨v.ownBlock=some k) (fun _ _ h=>Or.inr h)).trans h3 (fun _ _ h=>Or.inl h)) (fun _ _ h=>h)
theorem zfw {w w':World} {v:Value} (hg:w.grownBy w' v.ownBlock):Keep (fun k=>v.ownBlock=some k) w w':=
  ⟨hg.os,hg.tape,hg.output,hg.size,fun b hb hn=>hg.block b hb (fun h=>hn h.symm)⟩
theorem z49 {g n c k:Nat} (h:(Value.slice (some ⟨g,0,none⟩) n c).ownBlock=some k):k=g:=by
  simp only [Value.ownBlock,Option.some.injEq] at h
  exact h.symm
theorem zj4 {P:Program} (w:World) (t u ty e:TypeId) (i:TypeInfo) (ht:P.underlying t=some (.slice e)) (hu:P.underlying u=some .string) (hi:P.info? e=some i) (hz:i.zero=some (.int .u8 0)) (hsize:i.size=1) (hby:i.bytes=1)
    (v:Value) (n:Nat) (xs:List Value) (hown:w.ownsRowF 0 e 1 v n xs) (s:ByteArray) (hbytes:n+s.size≤140737488355328) :
    ∃ v' w',(Builtin.append_ #[t,u] ty #[v,.string s]).run P w = .ok v' w'∧w'.ownsRowF 0 e 1 v' (n+s.size) (xs++Lib.strCells s)∧w.grownBy w' v.ownBlock∧∀ k,v'.ownBlock=some k→v.ownBlock=some k∨w.heap.size≤k:=by
  have h63:n+s.size≤maxLen:=by unfold maxLen; omega
  rcases hown.2 with ⟨rfl,rfl⟩ | ⟨g,cap,cur,fz,rfl,hbg,hg,hfz,hnc,hcm,hcs,htake⟩
  · obtain ⟨v',w',h1,h2,h3,_⟩:=Lib.run_append_own_string (P:=P) w w.heap.size t u ty e i ht hu hi hz hsize hby (.slice none 0 0) 0 xs ⟨hown.1,.inl ⟨rfl,rfl⟩⟩ s h63 hbytes (Nat.le_refl _)
    refine ⟨v',w',h1,⟨h2.1,?_⟩,h3,fun k hk=>.inr ?_⟩
    · rcases h2.2 with q | ⟨g,cap,cur,q1,_,q2,q3,q4,q5,q6⟩
      · exact .inl q
      · exact .inr ⟨g,cap,cur,(0,0),q1,Nat.zero_le _,q2,Nat.zero_le _,q3,q4,q5,q6⟩
    · rcases h2.2 with ⟨rfl,_⟩ | ⟨g,cap,cur,rfl,q1,_⟩
      · simp [Value.ownBlock] at hk
      · rw [z49 hk]; exact q1
  · obtain ⟨v',w',h1,h2,h3,_⟩:=Lib.run_append_own_stringF (P:=P) w 0 t u ty e i ht hu hi hz hsize hby _ n xs hown s h63 hbytes (Nat.zero_le _)
    refine ⟨v',w',h1,h2,h3,fun k hk=>?_⟩
    have hsmall:n+s.size≤9223372036854775807:=by omega
    by_cases hroom:n+s.size≤cap
    · have hr:=Lib.run_append_room_stringF (P:=P) w t u ty e i ht hu hi hsize g n cap cur fz hg (by simpa using hfz) s hroom (by simp at hcs; omega)
      rw [h1] at hr
      simp only [Result.ok.injEq] at hr
      obtain ⟨rfl,_⟩:=hr
      exact .inl (by rw [z49 hk]; rfl)
    · have hxl:xs.length=n:=by simpa using hown.1
      have hr:=Lib.run_append_grow_string (P:=P) w t u ty e i (.int .u8 0) ht hu hi hz ⟨g,0,none⟩ n cap xs (by rw [hsize]; simpa using hxl) (hown.cells (g:=g) rfl) s (by omega) (by omega) (by rw [hby]; exact growslice_fits (by omega) (by omega))
      rw [h1] at hr
      simp only [Result.ok.injEq] at hr
      obtain ⟨rfl,_⟩:=hr
      exact .inr (by rw [z49 hk]; exact Nat.le_refl _)
theorem z9w {P:Program} {w:World} {ops:Array Oper} {rest:List Oper} {o:Oper} {a:Act} {Q:Exit→Act→World→Prop} (hgd:o.guard=none) (sl x:Operand) (t u:TypeId)
    (ho:o.op = .call { callee:=.builtin .append,args:=#[sl,x],argTypes:=#[t,u] })
    (e:TypeId) (i:TypeInfo) (ht:P.underlying t=some (.slice e)) (hu:P.underlying u=some .string) (hi:P.info? e=some i) (hz:i.zero=some (.int .u8 0)) (hsize:i.size=1) (hby:i.bytes=1)
    (v:Value) (n:Nat) (xs:List Value) (hs:a.eval sl=v) (hown:w.ownsRowF 0 e 1 v n xs) (s:ByteArray) (hx:a.eval x = .string s) (hbytes:n+s.size≤140737488355328)
    (h:∀ v' w',w'.ownsRowF 0 e 1 v' (n+s.size) (xs++Lib.strCells s)→w.grownBy w' v.ownBlock→(∀ k,v'.ownBlock=some k→v.ownBlock=some k∨w.heap.size≤k)→wpList P ops Q rest (a.put o.dst v') w'):wpList P ops Q (o :: rest) a w:=by
  refine wpList_plain hgd fun K hK=>?_
  obtain ⟨v',w',hr,h2,h3,h4⟩:=zj4 (P:=P) w t u o.type e i ht hu hi hz hsize hby v n xs hown s hbytes
  unfold Oper.wp execOp
  simp only [ho,resolve,invoke,builtin,Sem.run_bind,Sem.run_pure,Result.andThen_ok,List.map_toArray,List.map_cons,List.map_nil,hs,hx,hr]
  exact hK _ _ (h v' w' h2 h3 h4)
theorem zh3 {P:Program} (w:World) (t ty e:TypeId) (i:TypeInfo) (ht:P.underlying t=some (.slice e)) (hi:P.info? e=some i) (hz:i.zero=some (.int .u8 0)) (hsize:i.size=1) (hby:i.bytes=1)
    (v:Value) (n:Nat) (xs:List Value) (hown:w.ownsRowF 0 e 1 v n xs) (ad:Addr) (c:Nat) (x:Int) (hx:w.cell? ad=some (.int .u8 x)) (hbytes:n+1≤140737488355328) :
    ∃ v' w',(Builtin.append_ #[t,t] ty #[v,.slice (some ad) 1 c]).run P w = .ok v' w'∧w'.ownsRowF 0 e 1 v' (n+1) (xs++[.int .u8 x])∧w.grownBy w' v.ownBlock∧∀ k,v'.ownBlock=some k→v.ownBlock=some k∨w.heap.size≤k:=by
  have h63:n+1≤maxLen:=by unfold maxLen; omega
  have hnews:∀ j u,[Value.int .u8 x][j]?=some u→w.cell? (ad.add j)=some u:=by
    intro j u hj
    match j,hj with
    | 0,hj=>simp at hj; subst hj; obtain ⟨b,o,p⟩:=ad; cases p <;> simpa [Addr.add] using hx
  have h1c:∀ u∈[Value.int .u8 x],u.oneCell'=true:=fun u hu=>by simp at hu; subst hu; rfl
  rcases hown.2 with ⟨rfl,rfl⟩ | ⟨g,cap,cur,fz,rfl,hbg,hg,hfz,hnc,hcm,hcs,htake⟩
  · obtain ⟨v',w',h1,h2,h3,_⟩:=run_append_own (P:=P) w w.heap.size t ty e i (.int .u8 0) 1 1 ht hi hz hsize hby rfl (by decide) (.slice none 0 0) 0 xs ⟨hown.1,.inl ⟨rfl,rfl⟩⟩ ad 1 c [.int .u8 x] rfl hnews h1c h63 (by omega) (Nat.le_refl _)
    refine ⟨v',w',h1,⟨h2.1,?_⟩,h3,fun k hk=>.inr ?_⟩
    · rcases h2.2 with q | ⟨g,cap,cur,q1,_,q2,q3,q4,q5,q6⟩
      · exact .inl q
      · exact .inr ⟨g,cap,cur,(0,0),q1,Nat.zero_le _,q2,Nat.zero_le _,q3,q4,q5,q6⟩
    · rcases h2.2 with ⟨rfl,_⟩ | ⟨g,cap,cur,rfl,q1,_⟩
      · simp [Value.ownBlock] at hk
      · rw [z49 hk]; exact q1
  · obtain ⟨v',w',h1,h2,h3,_⟩:=run_append_ownF (P:=P) w 0 t ty e i (.int .u8 0) 1 1 ht hi hz hsize hby rfl (by decide) _ n xs hown ad 1 c [.int .u8 x] rfl hnews h1c h63 (by omega) (Nat.zero_le _)
    refine ⟨v',w',h1,h2,h3,fun k hk=>?_⟩
    by_cases hroom:n+1≤cap
    · have hr:=run_append_roomF (P:=P) w t ty e i ht hi g n cap cur fz hg (by rw [hsize]; simpa using hfz) ad 1 c [.int .u8 x] (by rw [hsize]; rfl) hnews h1c hroom (by rw [hsize]; simp at hcs ⊢; omega)
      rw [h1] at hr
      simp only [Result.ok.injEq] at hr
      obtain ⟨rfl,_⟩:=hr
      exact .inl (by rw [z49 hk]; rfl)
    · have hxl:xs.length=n:=by simpa using hown.1
      have hr:=run_append_grow (P:=P) w t ty e i (.int .u8 0) ht hi hz ⟨g,0,none⟩ n cap xs (by rw [hsize]; simpa using hxl) (hown.cells (g:=g) rfl) ad 1 c [.int .u8 x] (by rw [hsize]; rfl) hnews (by omega) (by omega) (by rw [hby]; exact growslice_fits (by omega) (by omega))
      rw [h1] at hr
      simp only [Result.ok.injEq] at hr
      obtain ⟨rfl,_⟩:=hr
      exact .inr (by rw [z49 hk]; exact Nat.le_refl _)
theorem z8x {P:Program} {w:World} {ops:Array Oper} {rest:List Oper} {o:Oper} {a:Act} {Q:Exit→Act→World→Prop} (hgd:o.guard=none) (sl x:Operand) (t:TypeId)
    (ho:o.op = .call { callee:=.builtin .append,args:=#[sl,x],argTypes:=#[t,t] })
    (e:TypeId) (i:TypeInfo) (ht:P.underlying t=some (.slice e)) (hi:P.info? e=some i) (hz:i.zero=some (.int .u8 0)) (hsize:i.size=1) (hby:i.bytes=1)
    (v:Value) (n:Nat) (xs:List Value) (hs:a.eval sl=v) (hown:w.ownsRowF 0 e 1 v n xs) (ad:Addr) (c:Nat) (y:Int) (hx:a.eval x = .slice (some ad) 1 c) (hc:w.cell? ad=some (.int .u8 y)) (hbytes:n+1≤140737488355328)
    (h:∀ v' w',w'.ownsRowF 0 e 1 v' (n+1) (xs++[.int .u8 y])→w.grownBy w' v.ownBlock→(∀ k,v'.ownBlock=some k→v.ownBlock=some k∨w.heap.size≤k)→wpList P ops Q rest (a.put o.dst v') w'):wpList P ops Q (o :: rest) a w:=by
  refine wpList_plain hgd fun K hK=>?_
  obtain ⟨v',w',hr,h2,h3,h4⟩:=zh3 (P:=P) w t o.type e i ht hi hz hsize hby v n xs hown ad c y hc hbytes
  unfold Oper.wp execOp
  simp only [ho,resolve,invoke,builtin,Sem.run_bind,Sem.run_pure,Result.andThen_ok,List.map_toArray,List.map_cons,List.map_nil,hs,hx,hr]
  exact hK _ _ (h v' w' h2 h3 h4)
theorem zl0 {w:World} {e:Nat} {v:Value} {bs:List Value} {n k:Nat} (hown:w.ownsRowF 0 e 1 v n bs) (hk:v.ownBlock=some k):k < w.heap.size:=by
  rcases hown.2 with ⟨rfl,_⟩ | ⟨g,cap,cur,fz,rfl,_,hg,_⟩
  · simp [Value.ownBlock] at hk
  · rw [z49 hk]
    exact z4u hg
set_option maxHeartbeats 2000000 in
set_option maxRecDepth 100000 in
theorem zb2 (b:Nat) (p v:Value) (bs:List Value) (s:ByteArray) (w:World) (hp:p = .pointer none∨p = .pointer (some ⟨b,0,none⟩)) (hbk:w.heap[b]?=some (.cells #[p,v] 36 (0,0)))
    (hown:w.ownsRowF 0 5 1 v bs.length bs) (hne:v.ownBlock≠some b) (hlen:bs.length+s.size≤140737488355328) :
    Calls Tryd.prog 13 #[.pointer (some ⟨b,0,none⟩),.string s] w fun e w'=>e = .returned (.tuple #[.int .i64 s.size,.nilIface])∧zaz b v (bs++Lib.strCells s) w w':=by
  obtain ⟨i0,hi,hz0,hz1,hz2⟩:=info_parts zld
  go_enter Tryd.func13,Tryd.ntmps13
  go_wp2_with (go_at_call 18; refine (zhy b p v _ hp hbk).mono ?_)
  rintro e w1 ⟨rfl,hb1,hk1,hs1⟩
  have HS:Hid (w1.heap.size=w.heap.size):=hs1
  clear hs1
  have hown1:w1.ownsRowF 0 5 1 v bs.length bs:=z1a hown (fun k hk=>hk1.block k (zl0 hown hk) (fun e=>hne (e ▸ hk)))
  have c0:w1.cell? ⟨b,0,none⟩=some (.pointer (some ⟨b,0,none⟩)):=by rw [Lib.cell_of_heap hb1]; rfl
  have c1:w1.cell? ⟨b,1,none⟩=some v:=by rw [Lib.cell_of_heap hb1]; rfl
  go_wp2_with (at_builtin; refine z9w rfl _ _ 34 9 rfl 5 i0 Tryd.underlying34 Tryd.underlying9 hi hz0 hz1 hz2 _ _ _ rfl hown1 s rfl hlen ?_)
  intro v' w2 hown' hgrow hblk
  have hlt:b < w1.heap.size:=z4u hb1
  have hb2:w2.heap[b]?=some (.cells #[.pointer (some ⟨b,0,none⟩),v] 36 (0,0)):=by
    rw [hgrow.block b hlt (fun e=>hne e.symm)]
    exact hb1
  have d0:w2.cell? ⟨b,0,none⟩=some (.pointer (some ⟨b,0,none⟩)):=by rw [Lib.cell_of_heap hb2]; rfl
  have d1:w2.cell? ⟨b,1,none⟩=some v:=by rw [Lib.cell_of_heap hb2]; rfl
  have f1:w2.frozen? ⟨b,1,none⟩=false:=Lib.frozen_of_heap hb2 1
  have hX:Hid (zaz b v (bs++Lib.strCells s) w (w2.setCell ⟨b,1,none⟩ v')):=zhz HS hk1 hb2 (by simpa [Lib.strCells_length] using hown') (zfw hgrow) hblk
  clear hblk HS
  obtain ⟨ao,n',cap,rfl⟩:∃ ao n' cap,v' = .slice ao n' cap:=by
    rcases hown'.2 with ⟨hv,_⟩ | ⟨g,cap,cur,fz,hv,_⟩
    · exact ⟨_,_,_,hv⟩
    · exact ⟨_,_,_,hv⟩
  go_wp2
  go_ret2
  exact ⟨rfl,hX⟩
set_option maxHeartbeats 2000000 in
set_option maxRecDepth 100000 in
theorem ze1 (b:Nat) (p v:Value) (bs:List Value) (c:Int) (w:World) (hp:p = .pointer none∨p = .pointer (some ⟨b,0,none⟩)) (hbk:w.heap[b]?=some (.cells #[p,v] 36 (0,0)))
    (hown:w.ownsRowF 0 5 1 v bs.length bs) (hne:v.ownBlock≠some b) (hlen:bs.length+1≤140737488355328) :
    Calls Tryd.prog 14 #[.pointer (some ⟨b,0,none⟩),.int .u8 c] w fun e w'=>e = .returned .nilIface∧zaz b v (bs++[.int .u8 c]) w w':=by
  obtain ⟨i0,hi,hz0,hz1,hz2⟩:=info_parts zld
  go_enter Tryd.func14,Tryd.ntmps14
  go_wp2_with (go_at_call 18; refine (zhy b p v _ hp hbk).mono ?_)
  rintro e w1 ⟨rfl,hb1,hk1,hs1⟩
  have HS:Hid (w1.heap.size=w.heap.size):=hs1
  clear hs1
  have hown1:w1.ownsRowF 0 5 1 v bs.length bs:=z1a hown (fun k hk=>hk1.block k (zl0 hown hk) (fun e=>hne (e ▸ hk)))
  have c0:w1.cell? ⟨b,0,none⟩=some (.pointer (some ⟨b,0,none⟩)):=by rw [Lib.cell_of_heap hb1]; rfl
  have c1:w1.cell? ⟨b,1,none⟩=some v:=by rw [Lib.cell_of_heap hb1]; rfl
  have hlt:b < w1.heap.size:=z4u hb1
  go_wp2_with (at_builtin; refine z8x rfl _ _ 34 rfl 5 i0 Tryd.underlying34 hi hz0 hz1 hz2 _ _ _ rfl (hown1.alloc _) ⟨w1.heap.size,0,none⟩ 1 c rfl (by rw [Lib.cell_of_heap (heap_alloc_new w1 _)]; rfl) hlen ?_)
  intro v' w2 hown' hgrow hblk
  have hb2:w2.heap[b]?=some (.cells #[.pointer (some ⟨b,0,none⟩),v] 36 (0,0)):=by
    rw [hgrow.block b (by simp; omega) (fun e=>hne e.symm),Lib.alloc_old w1 _ b hlt]
    exact hb1
  have d0:w2.cell? ⟨b,0,none⟩=some (.pointer (some ⟨b,0,none⟩)):=by rw [Lib.cell_of_heap hb2]; rfl
  have d1:w2.cell? ⟨b,1,none⟩=some v:=by rw [Lib.cell_of_heap hb2]; rfl
  have f1:w2.frozen? ⟨b,1,none⟩=false:=Lib.frozen_of_heap hb2 1
  have hX:Hid (zaz b v (bs++[.int .u8 c]) w (w2.setCell ⟨b,1,none⟩ v')):=zhz HS hk1 hb2 (by simpa using hown') (((Keep.alloc (fun k=>v.ownBlock=some k) w1 _)).trans (zfw hgrow) (fun _ _ h=>h)) (fun k hk=>(hblk k hk).imp_right (fun h=>by first | omega | (simp at h; omega)))
  clear hblk HS
  obtain ⟨ao,n',cap,rfl⟩:∃ ao n' cap,v' = .slice ao n' cap:=by
    rcases hown'.2 with ⟨hv,_⟩ | ⟨g,cap,cur,fz,hv,_⟩
    · exact ⟨_,_,_,hv⟩
    · exact ⟨_,_,_,hv⟩
  go_wp2
  go_ret
  exact ⟨rfl,hX⟩
def z3m (b:Nat) (p v:Value) (n:Nat) (bs:List Value) (w w':World):Prop:=
  w'.heap[b]?=some (.cells #[p,v] 36 (0,0))∧w'.ownsRowF 0 5 1 v n bs∧Keep (fun k=>k=b∨v.ownBlock=some k) w w'
theorem zf2 {b g cap:Nat} {p:Value} {bs:List Value} {w:World} (hbk:w.heap[b]?=some (.cells #[p,.slice (some ⟨g,0,none⟩) bs.length cap] 36 (0,0))) (hown:w.ownsRowF 0 5 1 (.slice (some ⟨g,0,none⟩) bs.length cap) bs.length bs) (hne:(Value.slice (some ⟨g,0,none⟩) bs.length cap).ownBlock≠some b) :
    z3m b p (.slice (some ⟨g,0,none⟩) bs.length cap) bs.length bs w (w.drew.freeze ⟨g,0,none⟩ bs.length):=by
  have hA:Lib.BuilderAtF 36 5 0 b p bs w.drew:=⟨Nat.zero_le _,_,hbk,hown,hne⟩
  have c1:w.drew.cell? ⟨b,1,none⟩=some (.slice (some ⟨g,0,none⟩) bs.length cap):=by
    have:w.drew.heap[b]?=some (.cells #[p,.slice (some ⟨g,0,none⟩) bs.length cap] 36 (0,0)):=hbk
    rw [Lib.cell_of_heap this]; rfl
  obtain ⟨_,v',q1,q2,q3⟩:=hA.froze c1
  have hk:Keep (fun k=>k=g) w (w.drew.freeze ⟨g,0,none⟩ bs.length):=(Keep.drew _ w).trans (Keep.freeze (O:=fun k=>k=g) w.drew ⟨g,0,none⟩ _ rfl) (fun _ _ h=>h)
  have hgb:b≠g:=fun e=>hne (by simp [Value.ownBlock,e])
  have hb2:(w.drew.freeze ⟨g,0,none⟩ bs.length).heap[b]?=some (.cells #[p,.slice (some ⟨g,0,none⟩) bs.length cap] 36 (0,0)):=(hk.block b (z4u hbk) hgb).trans hbk
  have e:v' = .slice (some ⟨g,0,none⟩) bs.length cap:=by
    rw [hb2] at q1
    simp at q1
    exact q1.symm
  subst e
  exact ⟨hb2,q2,hk.mono (fun k _ h=>.inr (by rw [h]; rfl))⟩
set_option maxHeartbeats 1000000 in
set_option maxRecDepth 100000 in
theorem zb1 (b g cap:Nat) (p:Value) (l:List UInt8) (w:World) (h0:l≠[]) (hbk:w.heap[b]?=some (.cells #[p,.slice (some ⟨g,0,none⟩) l.length cap] 36 (0,0)))
    (hown:w.ownsRowF 0 5 1 (.slice (some ⟨g,0,none⟩) l.length cap) l.length (Lib.byteCells l)) (hne:(Value.slice (some ⟨g,0,none⟩) l.length cap).ownBlock≠some b) :
    Calls Tryd.prog 10 #[.pointer (some ⟨b,0,none⟩)] w fun e w'=>e = .returned (.string ⟨l.toArray⟩)∧z3m b p (.slice (some ⟨g,0,none⟩) l.length cap) l.length (Lib.byteCells l) w w':=by
  have hl0:l.length≠0:=by simpa using h0
  obtain ⟨cur,fz,hg,hnc,hcm,hcs⟩:∃ cur fz,w.heap[g]?=some (.cells cur 5 fz)∧l.length≤cap∧cap≤maxLen∧cur.size=cap*1:=by
    rcases hown.2 with ⟨hv,_⟩ | ⟨g',cap',cur,fz,hv,_,q1,_,q2,q3,q4,_⟩
    · cases hv
    · injection hv with ha _ hc
      injection ha with ha
      injection ha with hgg
      subst hgg; subst hc
      exact ⟨cur,fz,q1,q2,q3,q4⟩
  have c1:w.drew.cell? ⟨b,1,none⟩=some (.slice (some ⟨g,0,none⟩) l.length cap):=by
    have:w.drew.heap[b]?=some (.cells #[p,.slice (some ⟨g,0,none⟩) l.length cap] 36 (0,0)):=hbk
    rw [Lib.cell_of_heap this]; rfl
  have hSD:(Builtin.unsafeSliceData_ #[34] 51 #[.slice (some ⟨g,0,none⟩) l.length cap]).run Tryd.prog w.drew = .ok (.pointer (some ⟨g,0,none⟩)) w.drew:=
    Lib.run_unsafeSliceData_row _ _ _ _ _ _ (by omega)
  have hcells:PR.cellsOf 5=1:=by kernel_rfl
  have hUS:(Builtin.unsafeString_ #[51,3] 9 #[.pointer (some ⟨g,0,none⟩),.int .i64 l.length]).run Tryd.prog w.drew = .ok (.string ⟨l.toArray⟩) (w.drew.freeze ⟨g,0,none⟩ l.length):=by
    refine Lib.run_unsafeString_row w.drew 51 3 9 5 Tryd.underlying51 hcells g cur.size (by have hg':w.drew.heap[g]?=some (.cells cur 5 fz):=hg; simp [World.shape?,hg']) l h0 (by omega) (by unfold maxLen at hcm; omega) ?_
    intro j x hx
    have:=hown.cells (g:=g) rfl j (.int .u8 x.toNat) (by simp [Lib.byteCells,hx])
    exact this
  have hP:Hid (z3m b p (.slice (some ⟨g,0,none⟩) l.length cap) l.length (Lib.byteCells l) w (w.drew.freeze ⟨g,0,none⟩ l.length)):=by
    have:=zf2 (bs:=Lib.byteCells l) (by rw [Lib.byteCells_length]; exact hbk) (by rw [Lib.byteCells_length]; exact hown) (by rw [Lib.byteCells_length]; exact hne)
    rw [Lib.byteCells_length] at this
    exact this
  clear hcells hcs hg hnc hcm hl0
  go_enter Tryd.func10,Tryd.ntmps10
  go_wp2
  go_region
  all_goals (go_wp2; go_ret; exact ⟨rfl,hP⟩)
set_option maxHeartbeats 2000000 in
set_option maxRecDepth 100000 in
theorem zci (b:Nat) (p:Value) (w:World) (hbk:w.heap[b]?=some (.cells #[p,.slice none 0 0] 36 (0,0))) :
    Calls Tryd.prog 10 #[.pointer (some ⟨b,0,none⟩)] w fun e w'=>e = .returned (.string ⟨#[]⟩)∧z3m b p (.slice none 0 0) 0 [] w w':=by
  have hUS:∀ (W:World) (q:Option Addr),(Builtin.unsafeString_ #[51,3] 9 #[.pointer q,.int .i64 0]).run Tryd.prog W = .ok (.string .empty) W:=fun W q=>Lib.run_unsafeString_none W _ _ _ q
  have c1:w.drew.cell? ⟨b,1,none⟩=some (.slice none 0 0):=by
    have:w.drew.heap[b]?=some (.cells #[p,.slice none 0 0] 36 (0,0)):=hbk
    rw [Lib.cell_of_heap this]; rfl
  have hSD:(Builtin.unsafeSliceData_ #[34] 51 #[.slice none 0 0]).run Tryd.prog w.drew = .ok (.pointer none) w.drew:=rfl
  have hP:Hid (z3m b p (.slice none 0 0) 0 [] w w.drew):=⟨hbk,⟨rfl,.inl ⟨rfl,rfl⟩⟩,Keep.drew _ w⟩
  go_enter Tryd.func10,Tryd.ntmps10
  go_wp2
  go_region
  all_goals (go_wp2; go_ret; exact ⟨rfl,hP⟩)
set_option maxHeartbeats 2000000 in
set_option maxRecDepth 100000 in
theorem z96 (b g:Nat) (p:Value) (cur:Array Value) (fz:Nat × Nat) (w:World) (hbk:w.heap[b]?=some (.cells #[p,.slice (some ⟨g,0,none⟩) 0 0] 36 (0,0))) (hg:w.heap[g]?=some (.cells cur 5 fz)) (hown:w.ownsRowF 0 5 1 (.slice (some ⟨g,0,none⟩) 0 0) 0 []) :
    Calls Tryd.prog 10 #[.pointer (some ⟨b,0,none⟩)] w fun e w'=>e = .returned (.string ⟨#[]⟩)∧z3m b p (.slice (some ⟨g,0,none⟩) 0 0) 0 [] w w':=by
  have hUS:∀ (W:World) (q:Option Addr),(Builtin.unsafeString_ #[51,3] 9 #[.pointer q,.int .i64 0]).run Tryd.prog W = .ok (.string .empty) W:=fun W q=>Lib.run_unsafeString_none W _ _ _ q
  have hlt:b < w.heap.size:=z4u hbk
  have c1:w.drew.cell? ⟨b,1,none⟩=some (.slice (some ⟨g,0,none⟩) 0 0):=by
    have:w.drew.heap[b]?=some (.cells #[p,.slice (some ⟨g,0,none⟩) 0 0] 36 (0,0)):=hbk
    rw [Lib.cell_of_heap this]; rfl
  have hSD:(Builtin.unsafeSliceData_ #[34] 51 #[.slice (some ⟨g,0,none⟩) 0 0]).run Tryd.prog w.drew = .ok (.pointer (some ⟨w.drew.heap.size,0,none⟩)) (w.drew.alloc (.view ⟨g,0,none⟩ 5)):=
    Lib.run_unsafeSliceData_zero w.drew _ _ 5 Tryd.underlying51 ⟨g,0,none⟩ 0 (5,cur.size) (by have hg':w.drew.heap[g]?=some (.cells cur 5 fz):=hg; simp [World.shape?,hg'])
  have c2:(w.drew.alloc (.view ⟨g,0,none⟩ 5)).cell? ⟨b,1,none⟩=some (.slice (some ⟨g,0,none⟩) 0 0):=by
    have:(w.drew.alloc (.view ⟨g,0,none⟩ 5)).heap[b]?=_:=(Lib.alloc_old w.drew _ b hlt).trans hbk
    rw [Lib.cell_of_heap this]; rfl
  have c3:(w.alloc (.view ⟨g,0,none⟩ 5)).drew.cell? ⟨b,1,none⟩=some (.slice (some ⟨g,0,none⟩) 0 0):=c2
  have c0:w.cell? ⟨b,1,none⟩=some (.slice (some ⟨g,0,none⟩) 0 0):=c1
  have hP:∀ W:World,W.heap=(w.drew.alloc (.view ⟨g,0,none⟩ 5)).heap→W.os=w.os→W.tape=w.tape→W.output=w.output→z3m b p (.slice (some ⟨g,0,none⟩) 0 0) 0 [] w W:=by
    intro W h1 h2 h3 h4
    have hk:Keep (fun k=>k=b∨(Value.slice (some ⟨g,0,none⟩) 0 0).ownBlock=some k) w W:=by
      have:=Keep.alloc (fun _=>False) w.drew (.view ⟨g,0,none⟩ 5)
      exact ⟨h2,h3,h4,by rw [h1]; exact this.size,fun k hk _=>by rw [h1]; exact this.block k hk (fun h=>h)⟩
    have hblk:∀ k,k < w.heap.size→W.heap[k]?=w.heap[k]?:=fun k hk=>by
      rw [h1]; exact (Keep.alloc (fun _=>False) w.drew (.view ⟨g,0,none⟩ 5)).block k hk (fun h=>h)
    exact ⟨(hblk b hlt).trans hbk,z1a hown (fun k hk=>hblk k (zl0 hown hk)),hk⟩
  have hP:Hid (∀ W:World,W.heap=(w.drew.alloc (.view ⟨g,0,none⟩ 5)).heap→W.os=w.os→W.tape=w.tape→W.output=w.output→z3m b p (.slice (some ⟨g,0,none⟩) 0 0) 0 [] w W):=hP
  go_enter Tryd.func10,Tryd.ntmps10
  go_wp2
  go_region
  all_goals (go_wp2; go_ret; exact ⟨rfl,hP _ rfl rfl rfl rfl⟩)
set_option maxHeartbeats 2000000 in
set_option maxRecDepth 100000 in
theorem zb0 (b g cap:Nat) (p:Value) (w:World) (hc0:cap≠0) (hbk:w.heap[b]?=some (.cells #[p,.slice (some ⟨g,0,none⟩) 0 cap] 36 (0,0))) (hown:w.ownsRowF 0 5 1 (.slice (some ⟨g,0,none⟩) 0 cap) 0 []) :
    Calls Tryd.prog 10 #[.pointer (some ⟨b,0,none⟩)] w fun e w'=>e = .returned (.string ⟨#[]⟩)∧z3m b p (.slice (some ⟨g,0,none⟩) 0 cap) 0 [] w w':=by
  have hUS:∀ (W:World) (q:Option Addr),(Builtin.unsafeString_ #[51,3] 9 #[.pointer q,.int .i64 0]).run Tryd.prog W = .ok (.string .empty) W:=fun W q=>Lib.run_unsafeString_none W _ _ _ q
  have c1:w.drew.cell? ⟨b,1,none⟩=some (.slice (some ⟨g,0,none⟩) 0 cap):=by
    have:w.drew.heap[b]?=some (.cells #[p,.slice (some ⟨g,0,none⟩) 0 cap] 36 (0,0)):=hbk
    rw [Lib.cell_of_heap this]; rfl
  have hSD:(Builtin.unsafeSliceData_ #[34] 51 #[.slice (some ⟨g,0,none⟩) 0 cap]).run Tryd.prog w.drew = .ok (.pointer (some ⟨g,0,none⟩)) w.drew:=
    Lib.run_unsafeSliceData_row _ _ _ _ _ _ hc0
  clear hc0
  have hP:Hid (z3m b p (.slice (some ⟨g,0,none⟩) 0 cap) 0 [] w w.drew):=⟨hbk,hown,Keep.drew _ w⟩
  go_enter Tryd.func10,Tryd.ntmps10
  go_wp2
  go_region
  all_goals (go_wp2; go_ret; exact ⟨rfl,hP⟩)
theorem zcq (s:ByteArray):Lib.strCells s=Lib.byteCells s.data.toList:=by
  simp [Lib.strCells,Lib.byteCells]
theorem zj5 (b:Nat) (p v:Value) (s:ByteArray) (w:World) (hbk:w.heap[b]?=some (.cells #[p,v] 36 (0,0))) (hown:w.ownsRowF 0 5 1 v s.size (Lib.strCells s)) (hne:v.ownBlock≠some b) :
    Calls Tryd.prog 10 #[.pointer (some ⟨b,0,none⟩)] w fun e w'=>e = .returned (.string s)∧z3m b p v s.size (Lib.strCells s) w w':=by
  obtain ⟨⟨l⟩⟩:=s
  rw [zcq] at hown ⊢
  change w.ownsRowF 0 5 1 v l.length (Lib.byteCells l) at hown
  change Calls Tryd.prog 10 #[.pointer (some ⟨b,0,none⟩)] w fun e w'=>e = .returned (.string ⟨l.toArray⟩)∧z3m b p v l.length (Lib.byteCells l) w w'
  by_cases h0:l=[]
  · subst h0
    rcases hown.2 with ⟨rfl,_⟩ | ⟨g,cap,cur,fz,rfl,_,hg,_⟩
    · exact zci b p w hbk
    · by_cases hc:cap=0
      · subst hc
        exact z96 b g p cur fz w hbk hg hown
      · exact zb0 b g cap p w hc hbk hown
  · rcases hown.2 with ⟨rfl,hz⟩ | ⟨g,cap,cur,fz,rfl,_⟩
    · exact absurd (List.eq_nil_of_length_eq_zero hz) h0
    · exact zb1 b g cap p l w h0 hbk hown hne
end Go.FM
namespace Go.Proofs
open Go.Shelf
def Tryd.laysM171_ren:Go.Shelf.Ren:=⟨fun | 171=>15 | 243=>19 | 246=>24 | 283=>28 | 284=>29 | 285=>30 | 286=>31 | 129=>39 | 317=>38 | 318=>40 | 319=>41 | 320=>42 | 337=>55 | 338=>56 | n=>n,fun | 3=>3 | 9=>9 | 2=>2 | 4=>4 | 171=>63 | 0=>0 | 53=>64 | 37=>34 | 5=>5 | 173=>67 | 212=>74 | 51=>75 | 20=>20 | 213=>76 | 46=>78 | 232=>99 | 233=>100 | n=>n,fun | 17=>0 | 18=>4 | 19=>5 | n=>n⟩
theorem Tryd.laysM171:Go.Proofs.LaysM.n171 Tryd.prog Tryd.laysM171_ren:={
  mixed:=by kernel_rfl
  f129:=Tryd.func39.trans (congrArg some (by kernel_rfl))
  f171:=Tryd.func15.trans (congrArg some (by kernel_rfl))
  f243:=Tryd.func19.trans (congrArg some (by kernel_rfl))
  f246:=Tryd.func24.trans (congrArg some (by kernel_rfl))
  f283:=Tryd.func28.trans (congrArg some (by kernel_rfl))
  f284:=Tryd.func29.trans (congrArg some (by kernel_rfl))
  f285:=Tryd.func30.trans (congrArg some (by kernel_rfl))
  f286:=Tryd.func31.trans (congrArg some (by kernel_rfl))
  f317:=Tryd.func38.trans (congrArg some (by kernel_rfl))
  f318:=Tryd.func40.trans (congrArg some (by kernel_rfl))
  f319:=Tryd.func41.trans (congrArg some (by kernel_rfl))
  f320:=Tryd.func42.trans (congrArg some (by kernel_rfl))
  f337:=Tryd.func55.trans (congrArg some (by kernel_rfl))
  f338:=Tryd.func56.trans (congrArg some (by kernel_rfl))
  t0:=Tryd.underlying0
  a0:=Tryd.isAgg0
  z0:=Tryd.sizeOf0
  v0:=Tryd.zeroValue0
  t2:=Tryd.underlying2
  a2:=Tryd.isAgg2
  z2:=Tryd.sizeOf2
  v2:=Tryd.zeroValue2
  t3:=Tryd.underlying3
  a3:=Tryd.isAgg3
  z3:=Tryd.sizeOf3
  v3:=Tryd.zeroValue3
  t4:=Tryd.underlying4
  a4:=Tryd.isAgg4
  z4:=Tryd.sizeOf4
  v4:=Tryd.zeroValue4
  t5:=Tryd.underlying5
  a5:=Tryd.isAgg5
  z5:=Tryd.sizeOf5
  v5:=Tryd.zeroValue5
  t9:=Tryd.underlying9
  a9:=Tryd.isAgg9
  z9:=Tryd.sizeOf9
  v9:=Tryd.zeroValue9
  t20:=Tryd.underlying20
  a20:=Tryd.isAgg20
  z20:=Tryd.sizeOf20
  v20:=Tryd.zeroValue20
  t37:=Tryd.underlying34
  a37:=Tryd.isAgg34
  z37:=Tryd.sizeOf34
  v37:=Tryd.zeroValue34
  t46:=Tryd.underlying78
  a46:=Tryd.isAgg78
  z46:=Tryd.sizeOf78
  v46:=Tryd.zeroValue78
  t51:=Tryd.underlying75
  a51:=Tryd.isAgg75
  z51:=Tryd.sizeOf75
  v51:=Tryd.zeroValue75
  t53:=Tryd.underlying64
  a53:=Tryd.isAgg64
  z53:=Tryd.sizeOf64
  v53:=Tryd.zeroValue64
  t171:=Tryd.underlying63
  a171:=Tryd.isAgg63
  z171:=Tryd.sizeOf63
  v171:=Tryd.zeroValue63
  t173:=Tryd.underlying67
  a173:=Tryd.isAgg67
  z173:=Tryd.sizeOf67
  v173:=Tryd.zeroValue67
  t212:=Tryd.underlying74
  a212:=Tryd.isAgg74
  z212:=Tryd.sizeOf74
  v212:=Tryd.zeroValue74
  t213:=Tryd.underlying76
  a213:=Tryd.isAgg76
  z213:=Tryd.sizeOf76
  t232:=Tryd.underlying99
  a232:=Tryd.isAgg99
  z232:=Tryd.sizeOf99
  v232:=Tryd.zeroValue99
  t233:=Tryd.underlying100
  a233:=Tryd.isAgg100
  z233:=Tryd.sizeOf100
  v233:=Tryd.zeroValue100
  g17:=by kernel_rfl
  g18:=by kernel_rfl
  g19:=by kernel_rfl
  i0:=by kernel_rfl
  i2:=by kernel_rfl
  i3:=by kernel_rfl
  i4:=by kernel_rfl
  i5:=by kernel_rfl
  i9:=by kernel_rfl
  i20:=by kernel_rfl
  i37:=by kernel_rfl
  i46:=by kernel_rfl
  i51:=by kernel_rfl
  i53:=by kernel_rfl
  i171:=by kernel_rfl
  i173:=by kernel_rfl
  i212:=by kernel_rfl
  i232:=by kernel_rfl
  i233:=by kernel_rfl
  m17:=by kernel_rfl
  m18:=by kernel_rfl
  m19:=by kernel_rfl }
open Go.RowKit Go.Sort Go.Lib in
theorem Tryd.strconv_Itoa (n:Int) (h0 : -9223372036854775808≤n) (h1:n≤9223372036854775807) (w:World) (htab:Lib.TabIs Tryd.prog w "internal/strconv.uint64pow10" .u64 Lib.pow10Tab) :
    Calls Tryd.prog 15 #[.int .i64 n] w fun e w'=>e = .returned (.string ⟨(Lib.itoa n).toArray⟩)∧∃ k os,w'=grow (w.drewN k) os:=Any.strconv_Itoa Tryd.laysM171 n h0 h1 w htab
def Tryd.laysC172_ren:Go.Shelf.Ren:=⟨fun | 172=>27 | 244=>36 | 245=>37 | 247=>50 | 279=>51 | 280=>52 | 281=>53 | 282=>54 | 287=>60 | 316=>61 | 171=>15 | 205=>62 | 321=>63 | 322=>64 | 243=>19 | 246=>24 | 283=>28 | 284=>29 | 285=>30 | 286=>31 | 129=>39 | 317=>38 | 318=>40 | 319=>41 | 320=>42 | 337=>55 | 338=>56 | n=>n,fun | 9=>9 | 3=>3 | 75=>46 | 76=>47 | 4=>4 | 5=>5 | 167=>84 | 37=>34 | 0=>0 | 85=>85 | 2=>2 | 168=>87 | 53=>64 | 175=>93 | 46=>78 | 210=>97 | 127=>51 | 145=>109 | 143=>107 | 21=>21 | 171=>63 | 173=>67 | 212=>74 | 51=>75 | 20=>20 | 213=>76 | 232=>99 | 233=>100 | 80=>41 | n=>n,fun | 15=>2 | 16=>3 | 17=>0 | 18=>4 | 19=>5 | n=>n⟩
theorem Tryd.laysC172:Go.Proofs.LaysC.n172 Tryd.prog Tryd.laysC172_ren:={
  mixed:=by kernel_rfl
  f129:=Tryd.func39.trans (congrArg some (by kernel_rfl))
  f171:=Tryd.func15.trans (congrArg some (by kernel_rfl))
  f172:=Tryd.func27.trans (congrArg some (by kernel_rfl))
  f205:=Tryd.func62.trans (congrArg some (by kernel_rfl))
  f243:=Tryd.func19.trans (congrArg some (by kernel_rfl))
  f244:=Tryd.func36.trans (congrArg some (by kernel_rfl))
  f245:=Tryd.func37.trans (congrArg some (by kernel_rfl))
  f246:=Tryd.func24.trans (congrArg some (by kernel_rfl))
  f247:=Tryd.func50.trans (congrArg some (by kernel_rfl))
  f279:=Tryd.func51.trans (congrArg some (by kernel_rfl))
  f280:=Tryd.func52.trans (congrArg some (by kernel_rfl))
  f281:=Tryd.func53.trans (congrArg some (by kernel_rfl))
  f282:=Tryd.func54.trans (congrArg some (by kernel_rfl))
  f283:=Tryd.func28.trans (congrArg some (by kernel_rfl))
  f284:=Tryd.func29.trans (congrArg some (by kernel_rfl))
  f285:=Tryd.func30.trans (congrArg some (by kernel_rfl))
  f286:=Tryd.func31.trans (congrArg some (by kernel_rfl))
  f287:=Tryd.func60.trans (congrArg some (by kernel_rfl))
  f316:=Tryd.func61.trans (congrArg some (by kernel_rfl))
  f317:=Tryd.func38.trans (congrArg some (by kernel_rfl))
  f318:=Tryd.func40.trans (congrArg some (by kernel_rfl))
  f319:=Tryd.func41.trans (congrArg some (by kernel_rfl))
  f320:=Tryd.func42.trans (congrArg some (by kernel_rfl))
  f321:=Tryd.func63.trans (congrArg some (by kernel_rfl))
  f322:=Tryd.func64.trans (congrArg some (by kernel_rfl))
  f337:=Tryd.func55.trans (congrArg some (by kernel_rfl))
  f338:=Tryd.func56.trans (congrArg some (by kernel_rfl))
  t0:=Tryd.underlying0
  a0:=Tryd.isAgg0
  z0:=Tryd.sizeOf0
  v0:=Tryd.zeroValue0
  t2:=Tryd.underlying2
  a2:=Tryd.isAgg2
  z2:=Tryd.sizeOf2
  v2:=Tryd.zeroValue2
  t3:=Tryd.underlying3
  a3:=Tryd.isAgg3
  z3:=Tryd.sizeOf3
  v3:=Tryd.zeroValue3
  t4:=Tryd.underlying4
  a4:=Tryd.isAgg4
  z4:=Tryd.sizeOf4
  v4:=Tryd.zeroValue4
  t5:=Tryd.underlying5
  a5:=Tryd.isAgg5
  z5:=Tryd.sizeOf5
  v5:=Tryd.zeroValue5
  t9:=Tryd.underlying9
  a9:=Tryd.isAgg9
  z9:=Tryd.sizeOf9
  v9:=Tryd.zeroValue9
  t20:=Tryd.underlying20
  a20:=Tryd.isAgg20
  z20:=Tryd.sizeOf20
  v20:=Tryd.zeroValue20
  t21:=Tryd.underlying21
  a21:=Tryd.isAgg21
  z21:=Tryd.sizeOf21
  v21:=Tryd.zeroValue21
  t37:=Tryd.underlying34
  a37:=Tryd.isAgg34
  z37:=Tryd.sizeOf34
  v37:=Tryd.zeroValue34
  t46:=Tryd.underlying78
  a46:=Tryd.isAgg78
  z46:=Tryd.sizeOf78
  v46:=Tryd.zeroValue78
  t51:=Tryd.underlying75
  a51:=Tryd.isAgg75
  z51:=Tryd.sizeOf75
  v51:=Tryd.zeroValue75
  t53:=Tryd.underlying64
  a53:=Tryd.isAgg64
  z53:=Tryd.sizeOf64
  v53:=Tryd.zeroValue64
  t75:=Tryd.underlying46
  a75:=Tryd.isAgg46
  z75:=Tryd.sizeOf46
  v75:=Tryd.zeroValue46
  t76:=Tryd.underlying47
  a76:=Tryd.isAgg47
  z76:=Tryd.sizeOf47
  v76:=Tryd.zeroValue47
  t85:=Tryd.underlying85
  a85:=Tryd.isAgg85
  z85:=Tryd.sizeOf85
  v85:=Tryd.zeroValue85
  t127:=Tryd.underlying51
  a127:=Tryd.isAgg51
  z127:=Tryd.sizeOf51
  v127:=Tryd.zeroValue51
  t143:=Tryd.underlying107
  a143:=Tryd.isAgg107
  z143:=Tryd.sizeOf107
  v143:=Tryd.zeroValue107
  t145:=Tryd.underlying109
  a145:=Tryd.isAgg109
  z145:=Tryd.sizeOf109
  v145:=Tryd.zeroValue109
  t167:=Tryd.underlying84
  a167:=Tryd.isAgg84
  z167:=Tryd.sizeOf84
  v167:=Tryd.zeroValue84
  t168:=Tryd.underlying87
  a168:=Tryd.isAgg87
  z168:=Tryd.sizeOf87
  v168:=Tryd.zeroValue87
  t171:=Tryd.underlying63
  a171:=Tryd.isAgg63
  z171:=Tryd.sizeOf63
  v171:=Tryd.zeroValue63
  t173:=Tryd.underlying67
  a173:=Tryd.isAgg67
  z173:=Tryd.sizeOf67
  v173:=Tryd.zeroValue67
  t175:=Tryd.underlying93
  a175:=Tryd.isAgg93
  z175:=Tryd.sizeOf93
  v175:=Tryd.zeroValue93
  t210:=Tryd.underlying97
  a210:=Tryd.isAgg97
  z210:=Tryd.sizeOf97
  v210:=Tryd.zeroValue97
  t212:=Tryd.underlying74
  a212:=Tryd.isAgg74
  z212:=Tryd.sizeOf74
  v212:=Tryd.zeroValue74
  t213:=Tryd.underlying76
  a213:=Tryd.isAgg76
  z213:=Tryd.sizeOf76
  t232:=Tryd.underlying99
  a232:=Tryd.isAgg99
  z232:=Tryd.sizeOf99
  v232:=Tryd.zeroValue99
  t233:=Tryd.underlying100
  a233:=Tryd.isAgg100
  z233:=Tryd.sizeOf100
  v233:=Tryd.zeroValue100
  g15:=by kernel_rfl
  g16:=by kernel_rfl
  g17:=by kernel_rfl
  g18:=by kernel_rfl
  g19:=by kernel_rfl
  t80:=Tryd.underlying41
  a80:=Tryd.isAgg41
  z80:=Tryd.sizeOf41
  v80:=Tryd.zeroValue41
  i0:=by kernel_rfl
  i2:=by kernel_rfl
  i3:=by kernel_rfl
  i4:=by kernel_rfl
  i5:=by kernel_rfl
  i9:=by kernel_rfl
  i20:=by kernel_rfl
  i21:=by kernel_rfl
  i37:=by kernel_rfl
  i46:=by kernel_rfl
  i51:=by kernel_rfl
  i53:=by kernel_rfl
  i75:=by kernel_rfl
  i76:=by kernel_rfl
  i80:=by kernel_rfl
  i85:=by kernel_rfl
  i127:=by kernel_rfl
  i143:=by kernel_rfl
  i145:=by kernel_rfl
  i167:=by kernel_rfl
  i168:=by kernel_rfl
  i171:=by kernel_rfl
  i173:=by kernel_rfl
  i175:=by kernel_rfl
  i210:=by kernel_rfl
  i212:=by kernel_rfl
  i232:=by kernel_rfl
  i233:=by kernel_rfl
  m15:=by kernel_rfl
  m16:=by kernel_rfl
  m17:=by kernel_rfl
  m18:=by kernel_rfl
  m19:=by kernel_rfl
  c0:=by kernel_rfl
  c2:=by kernel_rfl
  c3:=by kernel_rfl
  c4:=by kernel_rfl
  c5:=by kernel_rfl
  c9:=by kernel_rfl
  c20:=by kernel_rfl
  c21:=by kernel_rfl
  c37:=by kernel_rfl
  c46:=by kernel_rfl
  c51:=by kernel_rfl
  c53:=by kernel_rfl
  c75:=by kernel_rfl
  c76:=by kernel_rfl
  c80:=by kernel_rfl
  c85:=by kernel_rfl
  c127:=by kernel_rfl
  c143:=by kernel_rfl
  c145:=by kernel_rfl
  c167:=by kernel_rfl
  c168:=by kernel_rfl
  c171:=by kernel_rfl
  c173:=by kernel_rfl
  c175:=by kernel_rfl
  c210:=by kernel_rfl
  c212:=by kernel_rfl
  c213:=by kernel_rfl
  c232:=by kernel_rfl
  c233:=by kernel_rfl }
open Go.RowKit in
theorem Tryd.strconv_Atoi_ok (s:ByteArray) (hmax:s.size≤9223372036854775806) (v:Int) (h:Lib.atoiAll s.data.toList = .ok v) (w:World) :
    Calls Tryd.prog 27 #[.string s] w fun e w'=>e = .returned (.tuple #[.int .i64 v,.nilIface])∧(w'=w∨∃ t,w'=Lib.bytesWorld w 5 t):=Any.strconv_Atoi_ok Tryd.laysC172 s hmax v h w
open Go.RowKit in
theorem Tryd.strconv_Atoi_syntax (s:ByteArray) (hlim:s.size≤281474976710656) (h:Lib.atoiAll s.data.toList=Lib.NumEnd.syntax) (ev:Value) (w:World) (hv:w.cell? ⟨2,0,none⟩=some ev) (hev:ev = .nilIface∨∃ te pe,ev = .iface te pe) :
    Calls Tryd.prog 27 #[.string s] w fun e w'=>∃ N,e = .returned (.tuple #[.int .i64 (0),.iface 87 (.pointer (some ⟨N,0,none⟩))])∧w.heap.size≤N∧w'.heap[N]?=some (.cells #[.string ⟨#[65,116,111,105]⟩,.string s,ev] 97 (0,0))∧Below w.heap.size w w':=Any.strconv_Atoi_syntax Tryd.laysC172 s hlim h ev w hv hev
open Go.RowKit in
theorem Tryd.strconv_Atoi_range (s:ByteArray) (hlim:s.size≤281474976710656) (h:Lib.atoiAll s.data.toList = .range) (ev:Value) (w:World) (hv:w.cell? ⟨3,0,none⟩=some ev) (hev:ev = .nilIface∨∃ te pe,ev = .iface te pe) :
    Calls Tryd.prog 27 #[.string s] w fun e w'=>∃ N,e = .returned (.tuple #[.int .i64 (Lib.atoiSat s.data.toList),.iface 87 (.pointer (some ⟨N,0,none⟩))])∧w.heap.size≤N∧w'.heap[N]?=some (.cells #[.string ⟨#[65,116,111,105]⟩,.string s,ev] 97 (0,0))∧Below w.heap.size w w':=Any.strconv_Atoi_range Tryd.laysC172 s hlim h ev w hv hev
def Tryd.lays145_ren:Go.Shelf.Ren:=⟨fun | 145=>20 | 220=>25 | 219=>32 | 217=>43 | 225=>44 | 224=>45 | 267=>46 | 266=>57 | 314=>58 | n=>n,fun | 9=>9 | 4=>4 | 59=>54 | 3=>3 | 5=>5 | 46=>78 | 146=>91 | 51=>75 | n=>n,fun | 1=>1 | n=>n⟩
theorem Tryd.lays145:Go.Proofs.Lays.n145 Tryd.prog Tryd.lays145_ren:={
  mixed:=by kernel_rfl
  f145:=Tryd.func20.trans (congrArg some (by kernel_rfl))
  f217:=Tryd.func43.trans (congrArg some (by kernel_rfl))
  f219:=Tryd.func32.trans (congrArg some (by kernel_rfl))
  f220:=Tryd.func25.trans (congrArg some (by kernel_rfl))
  f224:=Tryd.func45.trans (congrArg some (by kernel_rfl))
  f225:=Tryd.func44.trans (congrArg some (by kernel_rfl))
  f266:=Tryd.func57.trans (congrArg some (by kernel_rfl))
  f267:=Tryd.func46.trans (congrArg some (by kernel_rfl))
  f314:=Tryd.func58.trans (congrArg some (by kernel_rfl))
  t3:=Tryd.underlying3
  a3:=Tryd.isAgg3
  z3:=Tryd.sizeOf3
  v3:=Tryd.zeroValue3
  t4:=Tryd.underlying4
  a4:=Tryd.isAgg4
  z4:=Tryd.sizeOf4
  v4:=Tryd.zeroValue4
  t5:=Tryd.underlying5
  a5:=Tryd.isAgg5
  z5:=Tryd.sizeOf5
  v5:=Tryd.zeroValue5
  t9:=Tryd.underlying9
  a9:=Tryd.isAgg9
  z9:=Tryd.sizeOf9
  v9:=Tryd.zeroValue9
  t46:=Tryd.underlying78
  a46:=Tryd.isAgg78
  z46:=Tryd.sizeOf78
  v46:=Tryd.zeroValue78
  t51:=Tryd.underlying75
  a51:=Tryd.isAgg75
  z51:=Tryd.sizeOf75
  v51:=Tryd.zeroValue75
  t59:=Tryd.underlying54
  a59:=Tryd.isAgg54
  z59:=Tryd.sizeOf54
  v59:=Tryd.zeroValue54
  t146:=Tryd.underlying91
  a146:=Tryd.isAgg91
  z146:=Tryd.sizeOf91
  v146:=Tryd.zeroValue91
  g1:=by kernel_rfl }
open Go.RowKit Go.Lib in
theorem Tryd.strings_Cut (s sep:ByteArray) (m:Int) (w:World) (hs:s.size < 4294967281) (hm:w.cell? ⟨1,0,none⟩=some (.int .i64 m)) :
    Calls Tryd.prog 20 #[.string s,.string sep] w fun e w'=>e = .returned (.tuple #[.string ⟨(Lib.cut s.data.toList sep.data.toList).1.toArray⟩,.string ⟨(Lib.cut s.data.toList sep.data.toList).2.1.toArray⟩,.bool (Lib.cut s.data.toList sep.data.toList).2.2])∧∃ n,w'=w.drewN n:=Any.strings_Cut Tryd.lays145 s sep m w hs hm
def Tryd.lays146_ren:Go.Shelf.Ren:=⟨fun | 146=>21 | 221=>26 | 268=>33 | 138=>34 | 143=>35 | 195=>47 | 197=>48 | 218=>49 | 219=>32 | 260=>59 | 217=>43 | 225=>44 | 224=>45 | 267=>46 | 266=>57 | 314=>58 | n=>n,fun | 9=>9 | 31=>56 | 3=>3 | 4=>4 | 0=>0 | 105=>82 | 21=>21 | 5=>5 | 46=>78 | 119=>101 | 139=>104 | 138=>103 | 146=>91 | 51=>75 | n=>n,fun | 1=>1 | 3=>6 | 4=>7 | n=>n⟩
theorem Tryd.lays146:Go.Proofs.Lays.n146 Tryd.prog Tryd.lays146_ren:={
  mixed:=by kernel_rfl
  f138:=Tryd.func34.trans (congrArg some (by kernel_rfl))
  f143:=Tryd.func35.trans (congrArg some (by kernel_rfl))
  f146:=Tryd.func21.trans (congrArg some (by kernel_rfl))
  f195:=Tryd.func47.trans (congrArg some (by kernel_rfl))
  f197:=Tryd.func48.trans (congrArg some (by kernel_rfl))
  f217:=Tryd.func43.trans (congrArg some (by kernel_rfl))
  f218:=Tryd.func49.trans (congrArg some (by kernel_rfl))
  f219:=Tryd.func32.trans (congrArg some (by kernel_rfl))
  f221:=Tryd.func26.trans (congrArg some (by kernel_rfl))
  f224:=Tryd.func45.trans (congrArg some (by kernel_rfl))
  f225:=Tryd.func44.trans (congrArg some (by kernel_rfl))
  f260:=Tryd.func59.trans (congrArg some (by kernel_rfl))
  f266:=Tryd.func57.trans (congrArg some (by kernel_rfl))
  f267:=Tryd.func46.trans (congrArg some (by kernel_rfl))
  f268:=Tryd.func33.trans (congrArg some (by kernel_rfl))
  f314:=Tryd.func58.trans (congrArg some (by kernel_rfl))
  t0:=Tryd.underlying0
  a0:=Tryd.isAgg0
  z0:=Tryd.sizeOf0
  v0:=Tryd.zeroValue0
  t3:=Tryd.underlying3
  a3:=Tryd.isAgg3
  z3:=Tryd.sizeOf3
  v3:=Tryd.zeroValue3
  t4:=Tryd.underlying4
  a4:=Tryd.isAgg4
  z4:=Tryd.sizeOf4
  v4:=Tryd.zeroValue4
  t5:=Tryd.underlying5
  a5:=Tryd.isAgg5
  z5:=Tryd.sizeOf5
  v5:=Tryd.zeroValue5
  t9:=Tryd.underlying9
  a9:=Tryd.isAgg9
  z9:=Tryd.sizeOf9
  v9:=Tryd.zeroValue9
  t21:=Tryd.underlying21
  a21:=Tryd.isAgg21
  z21:=Tryd.sizeOf21
  v21:=Tryd.zeroValue21
  t31:=Tryd.underlying56
  a31:=Tryd.isAgg56
  z31:=Tryd.sizeOf56
  v31:=Tryd.zeroValue56
  t46:=Tryd.underlying78
  a46:=Tryd.isAgg78
  z46:=Tryd.sizeOf78
  v46:=Tryd.zeroValue78
  t51:=Tryd.underlying75
  a51:=Tryd.isAgg75
  z51:=Tryd.sizeOf75
  v51:=Tryd.zeroValue75
  t105:=Tryd.underlying82
  a105:=Tryd.isAgg82
  z105:=Tryd.sizeOf82
  v105:=Tryd.zeroValue82
  t119:=Tryd.underlying101
  a119:=Tryd.isAgg101
  z119:=Tryd.sizeOf101
  t138:=Tryd.underlying103
  a138:=Tryd.isAgg103
  z138:=Tryd.sizeOf103
  v138:=Tryd.zeroValue103
  t139:=Tryd.underlying104
  a139:=Tryd.isAgg104
  z139:=Tryd.sizeOf104
  v139:=Tryd.zeroValue104
  t146:=Tryd.underlying91
  a146:=Tryd.isAgg91
  z146:=Tryd.sizeOf91
  v146:=Tryd.zeroValue91
  g1:=by kernel_rfl
  g3:=by kernel_rfl
  g4:=by kernel_rfl }
open Go.RowKit Go.Lib in
theorem Tryd.strings_Split (s sep:ByteArray) (m:Int) (w:World) (hs:s.size < 4294967281) (hm:w.cell? ⟨1,0,none⟩=some (.int .i64 m)) (h1:1≤sep.size) :
    Calls Tryd.prog 21 #[.string s,.string sep] w fun e w'=>
      e = .returned (.slice (some ⟨w.heap.size,0,none⟩) (Lib.countB s sep+1) (Lib.countB s sep+1))∧w'=w.alloc (.cells ((Lib.splitB sep 0 (Lib.countB s sep) s).map Value.string).toArray 9):=Any.strings_Split Tryd.lays146 (by kernel_rfl) s sep m w hs hm h1
end Go.Proofs
namespace Go.FM
open Go Go.Proofs Go.RowKit Go.Sort Go.Lib
open Go Go.RowKit
open Go Go.Proofs Go.RowKit
structure GF (h:Nat→Option Obj):Prop where
  unit:True
  gm:∃ c T fr m,h 1=some (.cells c T fr)∧c[0]?=some (.int .i64 m)
  gp:∃ T fr,h 0=some (.cells (Lib.pow10Tab.map fun z=>Value.int .u64 z).toArray T fr)
  gs:∃ c T fr te pe,h 2=some (.cells c T fr)∧c[0]?=some (.iface te pe)
  gr:∃ c T fr te pe,h 3=some (.cells c T fr)∧c[0]?=some (.iface te pe)
def B0:BT:={ T:=36,e:=5,ng:=4,F:=GF }
theorem z8b {w:World} {h:Nat→Option Obj} (hh:h=fun b=>if b < B0.ng then w.heap[b]? else none) {g:Nat} (hg:g < 4) {o:Obj} (ho:h g=some o):w.heap[g]?=some o:=by
  rw [hh] at ho
  simp only at ho
  rw [if_pos (show g < B0.ng from hg)] at ho
  exact ho
theorem zi8 {w:World} (h:Glob B0 w):∃ m,w.cell? ⟨1,0,none⟩=some (.int .i64 m):=by
  obtain ⟨c,T,fr,m,h1,h2⟩:=h.2.gm
  exact ⟨m,by simp only [World.cell?,z8b rfl (by decide) h1]; exact h2⟩
theorem zm3 {w:World} (h:Glob B0 w):Lib.TabIs Tryd.prog w "internal/strconv.uint64pow10" .u64 Lib.pow10Tab:=by
  obtain ⟨T,fr,h1⟩:=h.2.gp
  have hn:Tryd.prog.globalNamed "internal/strconv.uint64pow10" = some 0:=by kernel_rfl
  unfold Lib.TabIs World.var?
  rw [hn]
  simp only [Option.bind_some,z8b rfl (by decide) h1]
theorem zm6 {w:World} (h:Glob B0 w):∃ ev,w.cell? ⟨2,0,none⟩=some ev∧(ev = .nilIface∨∃ te pe,ev = .iface te pe):=by
  obtain ⟨c,T,fr,te,pe,h1,h2⟩:=h.2.gs
  exact ⟨_,by simp only [World.cell?,z8b rfl (by decide) h1]; exact h2,.inr ⟨te,pe,rfl⟩⟩
theorem zm4 {w:World} (h:Glob B0 w):∃ ev,w.cell? ⟨3,0,none⟩=some ev∧(ev = .nilIface∨∃ te pe,ev = .iface te pe):=by
  obtain ⟨c,T,fr,te,pe,h1,h2⟩:=h.2.gr
  exact ⟨_,by simp only [World.cell?,z8b rfl (by decide) h1]; exact h2,.inr ⟨te,pe,rfl⟩⟩
theorem Keep.below {w w':World} (h:Below w.heap.size w w'):Keep (fun _=>False) w w':=⟨h.os,h.tape,h.output,h.size,fun b hb _=>h.block b hb⟩
theorem Keep.drewN {O:Nat→Prop} (w:World):∀ n,Keep O w (w.drewN n):=fun _=>⟨rfl,rfl,rfl,Nat.le_refl _,fun _ _ _=>rfl⟩
theorem Keep.grow (w:World) (os:Array Obj):Keep (fun _=>False) w (Go.Sort.grow w os):=⟨rfl,rfl,rfl,by simp [Go.Sort.grow],fun b hb _=>by simp [Go.Sort.grow,Array.getElem?_append_left hb]⟩
set_option maxRecDepth 100000 in
theorem z33:z9y PR B0 13 z0l:=by
  intro w X γ vs xs r out hsp hg hx hR hV
  unfold z0l at hsp
  simp only at hsp
  split at hsp
  · rename_i s t
    cases hc:decide (s.size+t.size≤strMax) with
    | false=>rw [hc] at hsp; simp [R.get] at hsp
    | true=>
      rw [hc] at hsp
      simp only [R.get,Option.some.injEq,Prod.mk.injEq] at hsp
      obtain ⟨rfl,rfl⟩:=hsp
      have hle:s.size+t.size≤strMax:=of_decide_eq_true hc
      refine zht hR rfl rfl (fun γ' o w' O x h=>by
        simp only [VRel] at h ⊢
        obtain ⟨cs,rfl,h⟩:=h
        refine ⟨cs,rfl,?_⟩
        match cs,h with
        | ⟨[a,b]⟩,h=>simp only [VRels,VRel] at h ⊢; exact h) (fun b v p hgm hB=>?_)
      obtain ⟨x0,x1,rfl⟩:∃ x0 x1,xs=[x0,x1]:=by
        have:=hV.length
        simp at this
        match xs,this with
        | [a,b],_=>exact ⟨a,b,rfl⟩
      simp only [List.map_cons,List.map_nil,z25,VRels] at hV
      have h0:=zh7 hgm hV.1
      have h1:=hV.2.1
      simp only [VRel] at h1
      obtain ⟨rfl,ht⟩:=h1
      subst h0
      refine Does.of_calls Tryd.func13 (by kernel_rfl) (by kernel_rfl) ((zb2 b p v (Lib.strCells s) t w hB.self hB.heap (by rw [Lib.strCells_length]; exact hB.own) hB.ne (by rw [Lib.strCells_length]; unfold strMax at hle; omega)).mono ?_)
      rintro e w' ⟨rfl,v',q1,q2,q3,q4,q5⟩
      refine ⟨_,rfl,⟨_,v',⟨.inr rfl,q1,?_,q3,?_⟩,q4,q5⟩,fun O=>?_⟩
      · have e1:Lib.strCells (s++t)=Lib.strCells s++Lib.strCells t:=by simp [Lib.strCells]
        have e2:(s++t).size=(Lib.strCells s++Lib.strCells t).length:=by simp [Lib.strCells_length]
        rw [e1,e2]
        exact q2
      · simp only [ByteArray.size_append]; exact hle
      · simp only [VRel]
        refine ⟨_,rfl,?_⟩
        simp only [VRels,VRel,ic,and_true]
        refine ⟨trivial,?_,?_⟩
        · have:IntKind.i64.min = -9223372036854775808:=rfl
          omega
        · have:IntKind.i64.max=9223372036854775807:=rfl
          unfold strMax at hle
          omega
  · simp [R.get] at hsp
theorem zh8 {c:Int} (h0:IntKind.u8.min≤c) (h1:c≤IntKind.u8.max):(Value.int .u8 ((z5p c).toNat:Int)) = .int .u8 c:=by
  have e1:IntKind.u8.min=0:=rfl
  have e2:IntKind.u8.max=255:=rfl
  have:((z5p c).toNat:Int)=c:=by
    unfold z5p
    rw [UInt8.toNat_ofNat_of_lt' (by simp [UInt8.size]; omega)]
    omega
  rw [this]
set_option maxRecDepth 100000 in
theorem z3r:z9y PR B0 14 z0o:=by
  intro w X γ vs xs r out hsp hg hx hR hV
  unfold z0o at hsp
  simp only at hsp
  split at hsp
  · rename_i s c
    cases hc:decide (s.size+1≤strMax) with
    | false=>rw [hc] at hsp; simp [R.get] at hsp
    | true=>
      rw [hc] at hsp
      simp only [R.get,Option.some.injEq,Prod.mk.injEq] at hsp
      obtain ⟨rfl,rfl⟩:=hsp
      have hle:s.size+1≤strMax:=of_decide_eq_true hc
      refine zht hR rfl rfl (fun γ' o w' O x h=>by simp only [VRel] at h ⊢; exact h) (fun b v p hgm hB=>?_)
      obtain ⟨x0,x1,rfl⟩:∃ x0 x1,xs=[x0,x1]:=by
        have:=hV.length
        simp at this
        match xs,this with
        | [a,b],_=>exact ⟨a,b,rfl⟩
      simp only [List.map_cons,List.map_nil,z25,VRels] at hV
      have h0:=zh7 hgm hV.1
      have h1:=hV.2.1
      simp only [VRel] at h1
      obtain ⟨rfl,hc0,hc1⟩:=h1
      subst h0
      refine Does.of_calls Tryd.func14 (by kernel_rfl) (by kernel_rfl) ((ze1 b p v (Lib.strCells s) c w hB.self hB.heap (by rw [Lib.strCells_length]; exact hB.own) hB.ne (by rw [Lib.strCells_length]; unfold strMax at hle; omega)).mono ?_)
      rintro e w' ⟨rfl,v',q1,q2,q3,q4,q5⟩
      refine ⟨_,rfl,⟨_,v',⟨.inr rfl,q1,?_,q3,?_⟩,q4,q5⟩,fun O=>by simp only [VRel]⟩
      · have e1:Lib.strCells (s.push (z5p c))=Lib.strCells s++[.int .u8 c]:=by
          rw [← zh8 hc0 hc1]
          simp [Lib.strCells]
        have e2:(s.push (z5p c)).size=(Lib.strCells s++[Value.int .u8 c]).length:=by simp [Lib.strCells_length]
        rw [e1,e2]
        exact q2
      · simp only [ByteArray.size_push]; exact hle
  · simp [R.get] at hsp
set_option maxRecDepth 100000 in
theorem z4f:z9y PR B0 10 z0x:=by
  intro w X γ vs xs r out hsp hg hx hR hV
  unfold z0x at hsp
  simp only at hsp
  split at hsp
  · rename_i s
    simp only [R.get,Option.some.injEq,Prod.mk.injEq] at hsp
    obtain ⟨rfl,rfl⟩:=hsp
    refine zht hR rfl rfl (fun γ' o w' O x h=>by simp only [VRel] at h ⊢; exact h) (fun b v p hgm hB=>?_)
    obtain ⟨x0,rfl⟩:∃ x0,xs=[x0]:=by
      have:=hV.length
      simp at this
      match xs,this with
      | [a],_=>exact ⟨a,rfl⟩
    simp only [List.map_cons,List.map_nil,z25,VRels] at hV
    have h0:=zh7 hgm hV.1
    subst h0
    refine Does.of_calls Tryd.func10 (by kernel_rfl) (by kernel_rfl) ((zj5 b p v s w hB.heap hB.own hB.ne).mono ?_)
    rintro e w' ⟨rfl,q1,q2,q3⟩
    exact ⟨_,rfl,⟨p,v,⟨hB.self,q1,q2,hB.ne,hB.size⟩,q3,fun k hk=>.inl hk⟩,fun O=>by simp only [VRel]; exact ⟨trivial,hB.size⟩⟩
  · simp [R.get] at hsp
set_option maxRecDepth 100000 in
theorem zat:z9y PR B0 15 z35:=by
  intro w X γ vs xs r out hsp hg hx hR hV
  unfold z35 at hsp
  simp only at hsp
  split at hsp
  · rename_i n
    simp only [R.get,Option.some.injEq,Prod.mk.injEq] at hsp
    obtain ⟨rfl,rfl⟩:=hsp
    obtain ⟨x0,rfl⟩:∃ x0,xs=[x0]:=by
      have:=hV.length
      simp at this
      match xs,this with
      | [a],_=>exact ⟨a,rfl⟩
    simp only [List.map_cons,List.map_nil,z25,VRels,VRel,and_true] at hV
    obtain ⟨rfl,h0,h1⟩:=hV
    refine z8t hR rfl rfl (Does.of_calls Tryd.func15 (by kernel_rfl) (by kernel_rfl) ((Tryd.strconv_Itoa n h0 h1 w (zm3 hg)).mono ?_))
    rintro e w' ⟨rfl,k,os,rfl⟩
    exact ⟨_,rfl,((Keep.drewN w k).trans (Keep.grow _ os) (fun _ _ h=>h)),fun O _=>by
      simp only [VRel]
      exact ⟨rfl,by have:=zd8 h0 h1; unfold strMax; omega⟩⟩
  · simp [R.get] at hsp
set_option maxRecDepth 100000 in
theorem zas:z9y PR B0 27 z34:=by
  intro w X γ vs xs r out hsp hg hx hR hV
  unfold z34 at hsp
  simp only at hsp
  split at hsp
  · rename_i s
    simp only [R.get,Option.some.injEq,Prod.mk.injEq] at hsp
    obtain ⟨rfl,rfl⟩:=hsp
    obtain ⟨x0,rfl⟩:∃ x0,xs=[x0]:=by
      have:=hV.length
      simp at this
      match xs,this with
      | [a],_=>exact ⟨a,rfl⟩
    simp only [List.map_cons,List.map_nil,z25,VRels,VRel,and_true] at hV
    obtain ⟨rfl,hs⟩:=hV
    unfold strMax at hs
    have hb:=zh6 s
    refine z8t hR rfl rfl (Does.of_calls Tryd.func27 (by kernel_rfl) (by kernel_rfl) ?_)
    cases ha:Lib.atoiAll s.data.toList
    · rename_i v
      refine (Tryd.strconv_Atoi_ok s (by omega) v ha w).mono ?_
      rintro e w' ⟨rfl,hw⟩
      have e1:zah s=v:=by unfold zah; rw [ha]
      have e2:zh5 s=true:=by unfold zh5; rw [ha]
      rw [e1] at hb ⊢
      rw [e2]
      refine ⟨_,rfl,?_,fun O _=>?_⟩
      · rcases hw with rfl | ⟨t,rfl⟩
        · exact Keep.refl _ _
        · unfold Lib.bytesWorld
          have h1:=Keep.alloc (fun _=>False) w.drew (.cells (Lib.bytesCells w 5 t) 5)
          refine ((Keep.drew (fun _=>False) w).trans h1 (fun _ _ h=>h)).trans (Keep.freeze (O:=fun k=>k=w.heap.size) _ ⟨w.heap.size,_,none⟩ 1 rfl) (fun b hb h=>?_)
          subst h
          exact absurd hb (Nat.lt_irrefl _)
      · simp only [VRel]
        exact ⟨_,rfl,by simp only [VRels,VRel,and_true,true_and]; exact hb⟩
    · skip
      obtain ⟨ev,h1,h2⟩:=zm6 hg
      refine (Tryd.strconv_Atoi_syntax s (by omega) ha ev w h1 h2).mono ?_
      rintro e w' ⟨N,rfl,_,_,hw⟩
      have e1:zah s=0:=by unfold zah; rw [ha]
      have e2:zh5 s=false:=by unfold zh5; rw [ha]
      rw [e1] at hb ⊢
      rw [e2]
      refine ⟨_,rfl,Keep.below hw,fun O _=>?_⟩
      simp only [VRel]
      exact ⟨_,rfl,by simp only [VRels,VRel,and_true]; exact ⟨⟨trivial,hb⟩,_,_,rfl⟩⟩
    · skip
      obtain ⟨ev,h1,h2⟩:=zm4 hg
      refine (Tryd.strconv_Atoi_range s (by omega) ha ev w h1 h2).mono ?_
      rintro e w' ⟨N,rfl,_,_,hw⟩
      have e1:zah s=Lib.atoiSat s.data.toList:=by unfold zah; rw [ha]
      have e2:zh5 s=false:=by unfold zh5; rw [ha]
      rw [e1] at hb ⊢
      rw [e2]
      refine ⟨_,rfl,Keep.below hw,fun O _=>?_⟩
      simp only [VRel]
      exact ⟨_,rfl,by simp only [VRels,VRel,and_true]; exact ⟨⟨trivial,hb⟩,_,_,rfl⟩⟩
  · simp [R.get] at hsp
set_option maxRecDepth 100000 in
theorem zc8:z9y PR B0 20 z3v:=by
  intro w X γ vs xs r out hsp hg hx hR hV
  unfold z3v at hsp
  simp only at hsp
  split at hsp
  · rename_i s sep
    cases hc:decide (s.size < 4294967281) with
    | false=>rw [hc] at hsp; simp [R.get] at hsp
    | true=>
      rw [hc] at hsp
      simp only [R.get,Option.some.injEq,Prod.mk.injEq] at hsp
      obtain ⟨rfl,rfl⟩:=hsp
      obtain ⟨x0,x1,rfl⟩:∃ x0 x1,xs=[x0,x1]:=by
        have:=hV.length
        simp at this
        match xs,this with
        | [a,b],_=>exact ⟨a,b,rfl⟩
      simp only [List.map_cons,List.map_nil,z25,VRels,VRel,and_true] at hV
      obtain ⟨⟨rfl,hs⟩,rfl,hsep⟩:=hV
      obtain ⟨m,hm⟩:=zi8 hg
      refine z8t hR rfl rfl (Does.of_calls Tryd.func20 (by kernel_rfl) (by kernel_rfl) ((Tryd.strings_Cut s sep m w (of_decide_eq_true hc) hm).mono ?_))
      rintro e w' ⟨rfl,n,rfl⟩
      have hsz:=zb7 s sep
      refine ⟨_,rfl,Keep.drewN w n,fun O _=>?_⟩
      simp only [VRel]
      exact ⟨_,rfl,by simp only [VRels,VRel,and_true]; exact ⟨⟨rfl,by omega⟩,⟨rfl,by omega⟩,rfl⟩⟩
  · simp [R.get] at hsp
set_option maxRecDepth 100000 in
theorem z9r:z9y PR B0 21 z2p:=by
  intro w X γ vs xs r out hsp hg hx hR hV
  unfold z2p at hsp
  simp only at hsp
  split at hsp
  · rename_i s sep
    cases hc:(decide (s.size < 4294967281)&&decide (1≤sep.size)) with
    | false=>rw [hc] at hsp; simp [R.get] at hsp
    | true=>
      rw [hc] at hsp
      simp only [Bool.and_eq_true,decide_eq_true_eq] at hc
      simp only [R.get,Option.some.injEq,Prod.mk.injEq] at hsp
      obtain ⟨rfl,rfl⟩:=hsp
      obtain ⟨x0,x1,rfl⟩:∃ x0 x1,xs=[x0,x1]:=by
        have:=hV.length
        simp at this
        match xs,this with
        | [a,b],_=>exact ⟨a,b,rfl⟩
      simp only [List.map_cons,List.map_nil,z25,VRels,VRel,and_true] at hV
      obtain ⟨⟨rfl,hs⟩,rfl,hsep⟩:=hV
      obtain ⟨m,hm⟩:=zi8 hg
      have hlen:=Lib.splitB_all sep hc.2 0 _ s rfl
      have hcnt:=Lib.countB_le sep hc.2 s.size s (Nat.le_refl _)
      refine z8t hR rfl rfl (Does.of_calls Tryd.func21 (by kernel_rfl) (by kernel_rfl) ((Tryd.strings_Split s sep m w hc.1 hm hc.2).mono ?_))
      rintro e w' ⟨rfl,rfl⟩
      refine ⟨_,rfl,Keep.alloc _ w _,fun O hO=>?_⟩
      simp only [VRel]
      have:=zmp (w:=w) (w':=w.alloc (.cells ((z1d s sep).map Value.string).toArray 9)) hO (g:=w.heap.size) (Nat.le_refl _) (heap_alloc_new w _) (l:=z1d s sep) (c:=Lib.countB s sep+1) (by unfold z1d; omega) (by unfold maxLen; omega) (by unfold z1d strMax; omega) (fun p hp=>Nat.le_trans ((zag sep _ s).2 p hp) hs)
      unfold z1d at this ⊢
      rw [hlen] at this
      exact this
  · simp [R.get] at hsp
def SpsOK:List (Nat × z2a)→Prop
  | []=>True
  | (f,sp) :: r=>z9y PR B0 f sp∧SpsOK r
set_option maxRecDepth 100000 in
theorem SpsOK.get:∀ {l:List (Nat × z2a)},SpsOK l→∀ f sp,lk l f=some sp→z9y PR B0 f sp
  | [],_,f,sp,h=>by simp [lk] at h
  | (g,sg) :: r,hs,f,sp,h=>by
    simp only [lk] at h
    split at h
    · rename_i hb
      simp only [Option.some.injEq] at h
      subst h
      rw [← z0f.1 hb]
      exact hs.1
    · exact SpsOK.get hs.2 f sp h
set_option maxRecDepth 100000 in
theorem z5t {f:Nat} {fn:Func} {code:Code} {rs:List ResultVar} {nt:Nat} (sps:List (Nat × z2a)) (lp:List (Nat × KP)) (sp:z2a) (rks:List (List Kd)) (hf:PR.funcs[f]?=some fn)
    (hc:(fn.name == "runtime.NumGoroutine")=false∧fn.body=some code∧fn.ntmps=nt∧Nat.ble nt 900000=true∧fn.results.toList=rs) (hs:SpsOK sps)
    (h:∀ vs r,(z8i vs (z1e vs)→zms vs)→(sp vs).get=some r→∃ N,z6z (mkE sps lp nt N) code rs rks vs=some r):z9y PR B0 f sp:=
  znx (mkE sps lp nt) sp rks hf hc (fun _=>rfl) zp7 (fun _=>zo0 rfl zp9) (fun _=>znc rfl zp2) (fun _=>hs.get) (fun _ f p hp=>by cases hp) (fun _ h=>zn9 h) h
def IpsOK:List (Nat × Ip)→Prop
  | []=>True
  | (f,p) :: r=>zj2 PR f p∧IpsOK r
set_option maxRecDepth 100000 in
theorem IpsOK.get:∀ {l:List (Nat × Ip)},IpsOK l→∀ f p,lk l f=some p→zj2 PR f p
  | [],_,f,p,h=>by simp [lk] at h
  | (g,pg) :: r,hs,f,p,h=>by
    simp only [lk] at h
    split at h
    · rename_i hb
      simp only [Option.some.injEq] at h
      subst h
      rw [← z0f.1 hb]
      exact hs.1
    · exact IpsOK.get hs.2 f p h
open Go Go.RowKit
theorem zcd {n:Int} (h0 : -9223372036854775808≤n) (h1:n≤9223372036854775807):IntKind.wrap .i64 n=n:=by
  have e:IntKind.wrap .i64 n=(n+9223372036854775808) % 18446744073709551616 - 9223372036854775808:=by
    simp [IntKind.wrap,IntKind.bits,IntKind.signed]
    omega
  rw [e]
  omega
theorem zg1 {α:Type} {l:List α} {i:Nat} (h:i < l.length):decide ((i:Int) < ic l.length)=true:=by simp [ic]; omega
theorem zi9 {α:Type} {l:List α} {i:Nat} (h:l.length≤i):decide ((i:Int) < ic l.length)=false:=by simp [ic]; omega
theorem zm8 {i:Nat}:decide (0≤(i:Int))=true:=by simp
theorem zix {i:Nat} (h:i < 9223372036854775807):IntKind.wrap .i64 ((i:Int)+1)=((i+1:Nat):Int):=by rw [zcd (by omega) (by omega)]; rfl
theorem zfv {α:Type} [Inhabited α] {l:List α} {i:Nat} (h:i < l.length):l.getD (i:Int).toNat default=l[i]:=by simp [h]
theorem zd2 (a b:Int):decide (a≤b)=!decide (b < a):=by rw [Bool.eq_iff_iff]; simp
theorem zmv (a b:Int):decide (a > b)=decide (b < a):=rfl
theorem zn8 (a b:Int):(a==b)=decide (a=b):=rfl
theorem z1l {α:Type _} (a b:α):cond true a b=a:=Eq.trans (Eq.refl a) (Eq.refl a)
theorem z56 {α:Type _} (a b:α):cond false a b=b:=Eq.trans (Eq.refl b) (Eq.refl b)
open Go
open Go
abbrev zp3:List Kd:=[.bool,.int .i64,.int .i64]
def z73 (x:IV):Bool:=(x.cell 0).toBool
def z29 (x:IV):Int:=(x.cell 1).toInt
def ziv (x:IV):Int:=(x.cell 2).toInt
def zox (x y:IV):Bool:=z73 x==z73 y&&(z29 x==z29 y&&ziv x==ziv y)
def ziw (x:IV):Bool:=!(z73 x&&!(z29 x==0&&ziv x==0))&&(decide (0≤z29 x)&&decide (z29 x≤4))
def zc9 (l:List IV):Bool:=decide (1≤l.length)&&(decide (l.length≤65536)&&l.all ziw)
def z3c:z2a
  | [.list true [.bool,.int .i64,.int .i64] l]=>.ok (.bool (zc9 l)) []
  | _=>.no
def z2u:List IV→List IV→Bool
  | [],[]=>true
  | x :: l,y :: m=>zox x y&&z2u l m
  | _,_=>false
def z0m:z2a
  | [.list true [.bool,.int .i64,.int .i64] l,.list true [.bool,.int .i64,.int .i64] m]=>.ok (.bool (z2u l m)) []
  | _=>.no
structure Vd where
  kind:Int
  proof:List IV
  w0:Int
  w1:Int
  w2:Int
  w3:Int
  twin:Int
  spent:Int
def Vd.none:Vd:=⟨0,[],0,0,0,0,0,0⟩
def Vd.V (v:Vd):V:=.agg [.int .i64 v.kind,.list true zp3 v.proof,.int .i64 v.w0,.int .i64 v.w1,.int .i64 v.w2,.int .i64 v.w3,.int .i64 v.twin,.int .i64 v.spent]
def Vd.bare (v:Vd):Bool:=v.w0==0&&(v.w1==0&&(v.w2==0&&(v.w3==0&&v.twin==0)))
def Vd.right (v:Vd):Bool:=
  decide (0≤v.spent)&&(decide (v.spent≤65536) &&
    (v.kind==1&&(v.bare&&zc9 v.proof)||(v.kind==2&&v.proof.isEmpty||(v.kind==3||v.kind==4)&&(v.bare&&v.proof.isEmpty))))
def z1y:z2a
  | [.agg [.int .i64 k,.list true [.bool,.int .i64,.int .i64] p,.int .i64 a,.int .i64 b,.int .i64 c,.int .i64 d,.int .i64 t,.int .i64 s]]=>.ok (.bool (Vd.right ⟨k,p,a,b,c,d,t,s⟩)) []
  | _=>.no
def z7q:ByteArray→List IV→ByteArray
  | s,[]=>s
  | s,x :: l=>z7q (s.push 32++zee x.toInt) l
def z0s (s w:ByteArray) (l:List IV):ByteArray:=(z7q (s++w) l).push 10
def z3z:z2a
  | [.bor [.bld s],.str w,.list false [.int .i64] l]=>.br (decide ((z0s s w l).size≤strMax)) (.ok (.tup []) [[.bld (z0s s w l)]]) .no
  | _=>.no
def z0i (l:List IV) (i:Int):Int:=cond (decide (ic l.length≤i)) 0 (zah (l.getD i.toNat default).toStr)
def z2o:z2a
  | [.list false [.str] l,.int .i64 i]=>.br (decide (0≤i)) (.ok (.int .i64 (z0i l i)) []) .no
  | _=>.no
def zmw (b:Bool) (p a:Int):IV:=.agg [.bool b,.int p,.int a]
abbrev z4p:ByteArray:=⟨#[104,111,108,100,115]⟩
abbrev z9u:ByteArray:=⟨#[102,97,105,108,115]⟩
abbrev z4y:ByteArray:=⟨#[117,110,107,110,111,119,110]⟩
abbrev z9v:ByteArray:=⟨#[119,114,111,110,103]⟩
abbrev zgw:ByteArray:=⟨#[115,117,109]⟩
abbrev zk4:ByteArray:=⟨#[99,117,116]⟩
abbrev zk5:ByteArray:=⟨#[10]⟩
abbrev zo9:ByteArray:=⟨#[32]⟩
abbrev z0p:ByteArray:=⟨#[]⟩
def z2q (s:ByteArray):List IV:=(z1d (z90 s zk5) zo9).map IV.str
def zcc (l:List IV):ByteArray:=(l.getD 0 default).toStr
def zio (s:ByteArray):IV:=
  cond ((zcc (z2q s)).toList==zgw.toList) (zmw true 0 0) (zmw false (z0i (z2q s) 1) (z0i (z2q s) 2))
def z8l:Nat→ByteArray→List IV→List IV
  | 0,_,p=>p
  | n+1,s,p=>cond (!(s.toList==z0p.toList)&&decide (p.length≤65536)) (z8l n (zjb s zk5) (p++[zio s])) p
def z3x (s:ByteArray):Vd:=
  cond ((zcc (z2q s)).toList==z4p.toList) ⟨1,z8l ((zjb s zk5).size+1) (zjb s zk5) [],0,0,0,0,0,z0i (z2q s) 1⟩
  (cond ((zcc (z2q s)).toList==z9u.toList) ⟨2,[],z0i (z2q s) 2,z0i (z2q s) 3,z0i (z2q s) 4,z0i (z2q s) 5,z0i (z2q s) 6,z0i (z2q s) 1⟩
  (cond ((zcc (z2q s)).toList==z4y.toList) ⟨3,[],0,0,0,0,0,z0i (z2q s) 1⟩
  (cond ((zcc (z2q s)).toList==z9v.toList) ⟨4,[],0,0,0,0,0,z0i (z2q s) 1⟩
  ⟨0,[],0,0,0,0,0,z0i (z2q s) 1⟩)))
def z40:z2a
  | [.str s]=>.br (decide (s.size < 4294967281)) (.ok (.agg [.int .i64 (z3x s).kind,.list true [.bool,.int .i64,.int .i64] (z3x s).proof,.int .i64 (z3x s).w0,.int .i64 (z3x s).w1,.int .i64 (z3x s).w2,.int .i64 (z3x s).w3,.int .i64 (z3x s).twin,.int .i64 (z3x s).spent]) []) .no
  | _=>.no
def z1b:ByteArray→List IV→ByteArray
  | s,[]=>s
  | s,x :: l=>z1b (cond (z73 x) (z0s s zgw []) (z0s s zk4 [.int (z29 x),.int (ziv x)])) l
def z0j (v:Vd):ByteArray:=
  cond v.right
    (cond (v.kind==1) (z1b (z0s z0p z4p [.int v.spent,.int (ic v.proof.length)]) v.proof)
    (cond (v.kind==2) (z0s z0p z9u [.int v.spent,.int v.w0,.int v.w1,.int v.w2,.int v.w3,.int v.twin])
    (cond (v.kind==3) (z0s z0p z4y [.int v.spent])
    (z0s z0p z9v [.int v.spent]))))
    z0p
def z1f:z2a
  | [.agg [.int .i64 k,.list true [.bool,.int .i64,.int .i64] p,.int .i64 a,.int .i64 b,.int .i64 c,.int .i64 d,.int .i64 t,.int .i64 s]]=>
    .br (decide ((z0j ⟨k,p,a,b,c,d,t,s⟩).size≤strMax)) (.ok (.str (z0j ⟨k,p,a,b,c,d,t,s⟩)) []) .no
  | _=>.no
def zhp (s:ByteArray):Bool:=!(s.toList==z0p.toList)&&(z0j (z3x s)).toList==s.toList
def z8j (s:ByteArray):Vd:=cond (zhp s) (z3x s) Vd.none
def z3b:z2a
  | [.str s]=>.br (decide (s.size < 4294967281)) (.br (decide ((z0j (z3x s)).size≤strMax)) (.ok (.tup [.agg [.int .i64 (z8j s).kind,.list true [.bool,.int .i64,.int .i64] (z8j s).proof,.int .i64 (z8j s).w0,.int .i64 (z8j s).w1,.int .i64 (z8j s).w2,.int .i64 (z8j s).w3,.int .i64 (z8j s).twin,.int .i64 (z8j s).spent],.bool (zhp s)]) []) .no) .no
  | _=>.no
def zpc (a b:Vd):Bool:=a.kind==b.kind&&(z2u a.proof b.proof&&(a.w0==b.w0&&(a.w1==b.w1&&(a.w2==b.w2&&(a.w3==b.w3&&(a.twin==b.twin&&a.spent==b.spent))))))
def z12:z2a
  | [.agg [.int .i64 k,.list true [.bool,.int .i64,.int .i64] p,.int .i64 a,.int .i64 b,.int .i64 c,.int .i64 d,.int .i64 t,.int .i64 s],
     .agg [.int .i64 k',.list true [.bool,.int .i64,.int .i64] p',.int .i64 a',.int .i64 b',.int .i64 c',.int .i64 d',.int .i64 t',.int .i64 s']]=>.ok (.bool (zpc ⟨k,p,a,b,c,d,t,s⟩ ⟨k',p',a',b',c',d',t',s'⟩)) []
  | _=>.no
def z1p:z2a
  | [.agg [.int .i64 k,.list true [.bool,.int .i64,.int .i64] p,.int .i64 a,.int .i64 b,.int .i64 c,.int .i64 d,.int .i64 t,.int .i64 s]]=>.ok (.agg [.int .i64 k,.list true [.bool,.int .i64,.int .i64] (p.take 40),.int .i64 a,.int .i64 b,.int .i64 c,.int .i64 d,.int .i64 t,.int .i64 s]) []
  | _=>.no
def z0u:z2a
  | []=>.ok (.bool true) []
  | _=>.no
def z1r:z2a
  | [.agg [.int .i64 _,.list true [.bool,.int .i64,.int .i64] _,.int .i64 _,.int .i64 _,.int .i64 _,.int .i64 _,.int .i64 _,.int .i64 _]]=>.ok (.bool true) []
  | _=>.no
open Go Go.Proofs
def z19 (N:Nat):Env:=mkE [] [(4,⟨[2,13,14,15],[],[]⟩)] 37 N
theorem zer (N:Nat) (l:List IV):z6z (z19 N) z1n [.tmp 2] [[.bool]] [(.list true [.bool,.int .i64,.int .i64] l)] =
 (cond (decide (ic (List.length l) < 1))
 (some ((.bool false),[]))
 (cond (decide (ic (List.length l) > 65536))
 (some ((.bool false),[]))
 (lpE (z19 N) (z2n z1n [1,1,0,1,0,0]) ⟨[2,13,14,15],[],[]⟩ N ⟨[(2,(.bool false)),(13,(.list true [.bool,(.int .i64),(.int .i64)] l)),(14,(.int .i64 (ic (List.length l)))),(15,(.int .i64 0))],[]⟩ (z1g 0 (kSq (z19 N) (z2n z1n [1,1,1]) (zbr (z19 N) none [(ResultVar.tmp 2)] [[.bool]])))))):=by kernel_rfl
theorem z6g (N:Nat) (b2:Bool) (l13:List IV) (x14:Int) (x15:Int) (again:St→Res) (k:Out→St→Res):rnd (z19 N) (z2n z1n [1,1,0,1,0,0])
 ⟨[(2,(.bool b2)),(13,(.list true [.bool,(.int .i64),(.int .i64)] l13)),(14,(.int .i64 x14)),(15,(.int .i64 x15))],[]⟩
 (zef again ⟨[2,13,14,15],[],[]⟩ k) =
 (cond (decide (x15 < x14))
 (cond (decide (0≤x15)&&decide (x15 < ic (List.length l13)))
 (cond (IV.toBool (IV.cell (List.getD l13 (Int.toNat x15) default) 0))
 (cond (! (IV.toBool (IV.cell (List.getD l13 (Int.toNat x15) default) 0)==true&&(IV.toInt (IV.cell (List.getD l13 (Int.toNat x15) default) 1)==0&&(IV.toInt (IV.cell (List.getD l13 (Int.toNat x15) default) 2)==0&&true))))
 (k .ret ⟨[(2,(.bool false)),(13,(.list true [.bool,(.int .i64),(.int .i64)] l13)),(14,(.int .i64 x14)),(15,(.int .i64 x15))],[]⟩)
 (cond (decide (IV.toInt (IV.cell (List.getD l13 (Int.toNat x15) default) 1) < 0))
 (k .ret ⟨[(2,(.bool false)),(13,(.list true [.bool,(.int .i64),(.int .i64)] l13)),(14,(.int .i64 x14)),(15,(.int .i64 x15))],[]⟩)
 (cond (decide (IV.toInt (IV.cell (List.getD l13 (Int.toNat x15) default) 1) > 4))
 (k .ret ⟨[(2,(.bool false)),(13,(.list true [.bool,(.int .i64),(.int .i64)] l13)),(14,(.int .i64 x14)),(15,(.int .i64 x15))],[]⟩)
 (again ⟨[(2,(.bool b2)),(13,(.list true [.bool,(.int .i64),(.int .i64)] l13)),(14,(.int .i64 x14)),(15,(.int .i64 (IntKind.wrap IntKind.i64 (x15+1))))],[]⟩))))
 (cond (decide (IV.toInt (IV.cell (List.getD l13 (Int.toNat x15) default) 1) < 0))
 (k .ret ⟨[(2,(.bool false)),(13,(.list true [.bool,(.int .i64),(.int .i64)] l13)),(14,(.int .i64 x14)),(15,(.int .i64 x15))],[]⟩)
 (cond (decide (IV.toInt (IV.cell (List.getD l13 (Int.toNat x15) default) 1) > 4))
 (k .ret ⟨[(2,(.bool false)),(13,(.list true [.bool,(.int .i64),(.int .i64)] l13)),(14,(.int .i64 x14)),(15,(.int .i64 x15))],[]⟩)
 (again ⟨[(2,(.bool b2)),(13,(.list true [.bool,(.int .i64),(.int .i64)] l13)),(14,(.int .i64 x14)),(15,(.int .i64 (IntKind.wrap IntKind.i64 (x15+1))))],[]⟩))))
 none)
 (k (.exit 0) ⟨[(2,(.bool b2)),(13,(.list true [.bool,(.int .i64),(.int .i64)] l13)),(14,(.int .i64 x14)),(15,(.int .i64 x15))],[]⟩)):=by kernel_rfl
theorem z9c (N:Nat) (b2:Bool) (l13:List IV) (x14:Int) (x15:Int):(z1g 0 (kSq (z19 N) (z2n z1n [1,1,1]) (zbr (z19 N) none [(ResultVar.tmp 2)] [[.bool]]))) (.exit 0)
 ⟨[(2,(.bool b2)),(13,(.list true [.bool,(.int .i64),(.int .i64)] l13)),(14,(.int .i64 x14)),(15,(.int .i64 x15))],[]⟩ =
 (some ((.bool true),[])):=by kernel_rfl
theorem z9d (N:Nat) (b2:Bool) (l13:List IV) (x14:Int) (x15:Int):(z1g 0 (kSq (z19 N) (z2n z1n [1,1,1]) (zbr (z19 N) none [(ResultVar.tmp 2)] [[.bool]]))) .ret
 ⟨[(2,(.bool b2)),(13,(.list true [.bool,(.int .i64),(.int .i64)] l13)),(14,(.int .i64 x14)),(15,(.int .i64 x15))],[]⟩ =
 (some ((.bool b2),[])):=by kernel_rfl
def z08 (N:Nat):Env:=mkE [] [(4,⟨[0,1,4,5],[],[]⟩)] 26 N
theorem z4n (N:Nat) (a:List IV) (b:List IV):z6z (z08 N) z0e [.tmp 4] [[.bool]] [(.list true [.bool,.int .i64,.int .i64] a),(.list true [.bool,.int .i64,.int .i64] b)] =
 (cond (ic (List.length a) != ic (List.length b))
 (some ((.bool false),[]))
 (lpE (z08 N) (z2n z0e [1,1,0,1,0,0]) ⟨[0,1,4,5],[],[]⟩ N ⟨[(0,(.list true [.bool,(.int .i64),(.int .i64)] a)),(1,(.list true [.bool,(.int .i64),(.int .i64)] b)),(4,(.bool false)),(5,(.int .i64 0))],[]⟩ (z1g 0 (kSq (z08 N) (z2n z0e [1,1,1]) (zbr (z08 N) none [(ResultVar.tmp 4)] [[.bool]]))))):=by kernel_rfl
theorem z23 (N:Nat) (l0:List IV) (l1:List IV) (b4:Bool) (x5:Int) (again:St→Res) (k:Out→St→Res):rnd (z08 N) (z2n z0e [1,1,0,1,0,0])
 ⟨[(0,(.list true [.bool,(.int .i64),(.int .i64)] l0)),(1,(.list true [.bool,(.int .i64),(.int .i64)] l1)),(4,(.bool b4)),(5,(.int .i64 x5))],[]⟩
 (zef again ⟨[0,1,4,5],[],[]⟩ k) =
 (cond (decide (x5 < ic (List.length l0)))
 (cond (decide (0≤x5)&&decide (x5 < ic (List.length l0)))
 (cond (decide (0≤x5)&&decide (x5 < ic (List.length l1)))
 (cond (! (IV.toBool (IV.cell (List.getD l0 (Int.toNat x5) default) 0)==IV.toBool (IV.cell (List.getD l1 (Int.toNat x5) default) 0)&&(IV.toInt (IV.cell (List.getD l0 (Int.toNat x5) default) 1)==IV.toInt (IV.cell (List.getD l1 (Int.toNat x5) default) 1)&&(IV.toInt (IV.cell (List.getD l0 (Int.toNat x5) default) 2)==IV.toInt (IV.cell (List.getD l1 (Int.toNat x5) default) 2)&&true))))
 (k .ret ⟨[(0,(.list true [.bool,(.int .i64),(.int .i64)] l0)),(1,(.list true [.bool,(.int .i64),(.int .i64)] l1)),(4,(.bool false)),(5,(.int .i64 x5))],[]⟩)
 (again ⟨[(0,(.list true [.bool,(.int .i64),(.int .i64)] l0)),(1,(.list true [.bool,(.int .i64),(.int .i64)] l1)),(4,(.bool b4)),(5,(.int .i64 (IntKind.wrap IntKind.i64 (x5+1))))],[]⟩))
 none)
 none)
 (k (.exit 0) ⟨[(0,(.list true [.bool,(.int .i64),(.int .i64)] l0)),(1,(.list true [.bool,(.int .i64),(.int .i64)] l1)),(4,(.bool b4)),(5,(.int .i64 x5))],[]⟩)):=by kernel_rfl
theorem z3o (N:Nat) (l0:List IV) (l1:List IV) (b4:Bool) (x5:Int):(z1g 0 (kSq (z08 N) (z2n z0e [1,1,1]) (zbr (z08 N) none [(ResultVar.tmp 4)] [[.bool]]))) (.exit 0)
 ⟨[(0,(.list true [.bool,(.int .i64),(.int .i64)] l0)),(1,(.list true [.bool,(.int .i64),(.int .i64)] l1)),(4,(.bool b4)),(5,(.int .i64 x5))],[]⟩ =
 (some ((.bool true),[])):=by kernel_rfl
theorem z3p (N:Nat) (l0:List IV) (l1:List IV) (b4:Bool) (x5:Int):(z1g 0 (kSq (z08 N) (z2n z0e [1,1,1]) (zbr (z08 N) none [(ResultVar.tmp 4)] [[.bool]]))) .ret
 ⟨[(0,(.list true [.bool,(.int .i64),(.int .i64)] l0)),(1,(.list true [.bool,(.int .i64),(.int .i64)] l1)),(4,(.bool b4)),(5,(.int .i64 x5))],[]⟩ =
 (some ((.bool b4),[])):=by kernel_rfl
def zf8 (N:Nat):Env:=mkE [(8,z3c)] [] 47 N
theorem zeq (N:Nat) (v_Kind:Int) (v_Proof:List IV) (v_Witness_0:Int) (v_Witness_1:Int) (v_Witness_2:Int) (v_Witness_3:Int) (v_Twin:Int) (v_Spent:Int):z6z (zf8 N) za2 [.tmp 2] [[.bool]] [(.agg [(.int .i64 v_Kind),(.list true [.bool,.int .i64,.int .i64] v_Proof),(.int .i64 v_Witness_0),(.int .i64 v_Witness_1),(.int .i64 v_Witness_2),(.int .i64 v_Witness_3),(.int .i64 v_Twin),(.int .i64 v_Spent)])] =
 (cond (decide (v_Spent < 0))
 (some ((.bool false),[]))
 (cond (decide (v_Spent > 65536))
 (some ((.bool false),[]))
 (cond (v_Witness_0==0&&(v_Witness_1==0&&(v_Witness_2==0&&(v_Witness_3==0&&true))))
 (cond (v_Kind==1)
 (cond (v_Twin==0) (some ((.bool (zc9 v_Proof)),[])) (some ((.bool false),[])))
 (cond (v_Kind==2)
 (some ((.bool (ic (List.length v_Proof)==0)),[]))
 (cond (v_Kind==3)
 (cond (v_Twin==0) (some ((.bool (ic (List.length v_Proof)==0)),[])) (some ((.bool false),[])))
 (cond (v_Kind==4) (cond (v_Twin==0) (some ((.bool (ic (List.length v_Proof)==0)),[])) (some ((.bool false),[]))) (some ((.bool false),[]))))))
 (cond (v_Kind==1)
 (some ((.bool false),[]))
 (cond (v_Kind==2)
 (some ((.bool (ic (List.length v_Proof)==0)),[]))
 (cond (v_Kind==3) (some ((.bool false),[])) (cond (v_Kind==4) (some ((.bool false),[])) (some ((.bool false),[]))))))))):=by kernel_rfl
def z1x (N:Nat):Env:=mkE [(15,z35),(14,z0o),(13,z0l)] [(2,⟨[0,11,12,13],[900000],[]⟩)] 26 N
theorem zg7 (N:Nat) (b:ByteArray) (word:ByteArray) (l:List IV):z6z (z1x N) z2h [] [] [(.bor [.bld b]),(.str word),(.list false [.int .i64] l)] =
 (cond (decide (ByteArray.size b+ByteArray.size word≤strMax))
 (lpE (z1x N) (z2n z2h [1,0,1,0,0]) ⟨[0,11,12,13],[900000],[]⟩ N ⟨[(0,(.ptr 900000 0 0)),(11,(.list false [(.int .i64)] l)),(12,(.int .i64 (ic (List.length l)))),(13,(.int .i64 0))],[(900000,(some (.bld (b++word))))]⟩ (z1g 0 (kSq (z1x N) (z2n z2h [1,1]) (zbr (z1x N) (some [(.bld b)]) [] []))))
 none):=by kernel_rfl
theorem z7c (N:Nat) (l11:List IV) (x12:Int) (x13:Int) (so900000:ByteArray) (again:St→Res) (k:Out→St→Res):rnd (z1x N) (z2n z2h [1,0,1,0,0])
 ⟨[(0,(.ptr 900000 0 0)),(11,(.list false [(.int .i64)] l11)),(12,(.int .i64 x12)),(13,(.int .i64 x13))],[(900000,(some (.bld so900000)))]⟩
 (zef again ⟨[0,11,12,13],[900000],[]⟩ k) =
 (cond (decide (x13 < x12))
 (cond (decide (0≤x13)&&decide (x13 < ic (List.length l11)))
 (cond (decide (ByteArray.size so900000+1≤strMax))
 (cond (decide (ByteArray.size (ByteArray.push so900000 (z5p 32))+ByteArray.size (zee (IV.toInt (List.getD l11 (Int.toNat x13) default)))≤strMax))
 (again ⟨[(0,(.ptr 900000 0 0)),(11,(.list false [(.int .i64)] l11)),(12,(.int .i64 x12)),(13,(.int .i64 (IntKind.wrap IntKind.i64 (x13+1))))],[(900000,(some (.bld (ByteArray.push so900000 (z5p 32)++zee (IV.toInt (List.getD l11 (Int.toNat x13) default))))))]⟩)
 none)
 none)
 none)
 (k (.exit 0) ⟨[(0,(.ptr 900000 0 0)),(11,(.list false [(.int .i64)] l11)),(12,(.int .i64 x12)),(13,(.int .i64 x13))],[(900000,(some (.bld so900000)))]⟩)):=by kernel_rfl
theorem zak (N:Nat) (b:ByteArray) (l11:List IV) (x12:Int) (x13:Int) (so900000:ByteArray):(z1g 0 (kSq (z1x N) (z2n z2h [1,1]) (zbr (z1x N) (some [(.bld b)]) [] []))) (.exit 0)
 ⟨[(0,(.ptr 900000 0 0)),(11,(.list false [(.int .i64)] l11)),(12,(.int .i64 x12)),(13,(.int .i64 x13))],[(900000,(some (.bld so900000)))]⟩ =
 (cond (decide (ByteArray.size so900000+1≤strMax)) (some ((.tup []),[[(.bld (ByteArray.push so900000 (z5p 10)))]])) none):=by kernel_rfl
def zdt (N:Nat):Env:=mkE [(27,z34)] [] 20 N
theorem zcl (N:Nat) (l:List IV) (i:Int):z6z (zdt N) z82 [.tmp 4] [[.int .i64]] [(.list false [.str] l),(.int .i64 i)] =
 (cond (decide (i≥ic (List.length l)))
 (some ((.int .i64 0),[]))
 (cond (decide (0≤i)&&decide (i < ic (List.length l))) (some ((.int .i64 (zah (IV.toStr (List.getD l (Int.toNat i) default)))),[])) none)):=by kernel_rfl
open Go Go.Proofs
theorem zgr (N:Nat) (l:List IV) (K:Out→St→Res) (hl:l.length≤65536)
    (hx:∀ b2 x14 x15,K (.exit 0) ⟨[(2,(.bool b2)),(13,(.list true [.bool,(.int .i64),(.int .i64)] l)),(14,(.int .i64 x14)),(15,(.int .i64 x15))],[]⟩=some (.bool true,[]))
    (hr:∀ b2 x14 x15,K .ret ⟨[(2,(.bool b2)),(13,(.list true [.bool,(.int .i64),(.int .i64)] l)),(14,(.int .i64 x14)),(15,(.int .i64 x15))],[]⟩=some (.bool b2,[])) :
    ∀ (d i n:Nat),i+d=l.length→d < n→lpE (z19 N) (z2n z1n [1,1,0,1,0,0]) ⟨[2,13,14,15],[],[]⟩ n ⟨[(2,(.bool false)),(13,(.list true [.bool,(.int .i64),(.int .i64)] l)),(14,(.int .i64 (ic l.length))),(15,(.int .i64 (i:Int)))],[]⟩ K=some (.bool ((l.drop i).all ziw),[])
  | 0,i,n+1,hd,_=>by
    rw [z1i,z6g]
    rw [zi9 (by omega),List.drop_of_length_le (by omega)]
    simp only [cond_false,List.all_nil]
    exact hx ..
  | d+1,i,n+1,hd,hn=>by
    rw [z1i,z6g]
    have hi:i < l.length:=by omega
    rw [zg1 hi,zm8,zix (by omega),zfv hi,List.drop_eq_getElem_cons hi,List.all_cons]
    generalize l[i]=x
    have ih:=zgr N l K hl hx hr d (i+1) n (by omega) (by omega)
    rw [ih]
    generalize (List.drop (i+1) l).all ziw=rest
    unfold ziw z73 z29 ziv
    simp only [cond_true,Bool.and_true,zmv,zd2,zn8]
    cases hs:IV.toBool (IV.cell x 0) <;> cases hp0:decide (IV.toInt (IV.cell x 1) < 0) <;> cases hp4:decide (4 < IV.toInt (IV.cell x 1)) <;> cases hz:decide (IV.toInt (IV.cell x 1)=0) <;> cases ha:decide (IV.toInt (IV.cell x 2)=0) <;>
      (simp only [cond_true,cond_false,Bool.not_true,Bool.not_false,Bool.and_true,Bool.and_false,Bool.true_and,Bool.false_and,beq_self_eq_true,hr]
       try rfl)
  | 0,_,0,_,h=>by omega
  | _+1,_,0,_,h=>by omega
set_option maxRecDepth 100000 in
theorem zco:z9y PR B0 8 z3c:=by
  refine z5t [] [(4,⟨[2,13,14,15],[],[]⟩)] z3c [[.bool]] Tryd.func8 zg0 trivial ?_
  intro vs r hwf h
  unfold z3c at h
  split at h
  · rename_i l
    refine ⟨l.length+1,?_⟩
    rw [← h]
    refine (zer (l.length+1) l).trans ?_
    simp only [R.get_ok]
    unfold zc9
    by_cases h1:l.length < 1
    · have e1:decide (ic l.length < 1)=true:=decide_eq_true (by show ((l.length:Nat):Int) < 1; omega)
      have e2:decide (1≤l.length)=false:=decide_eq_false (by omega)
      rw [e1,e2]; rfl
    · have e1:decide (ic l.length < 1)=false:=decide_eq_false (by show ¬ ((l.length:Nat):Int) < 1; omega)
      have e2:decide (1≤l.length)=true:=decide_eq_true (by omega)
      rw [e1,e2]
      simp only [cond_false,Bool.true_and]
      by_cases h3:l.length≤65536
      · have e3:decide (ic l.length > 65536)=false:=decide_eq_false (by show ¬ ((l.length:Nat):Int) > 65536; omega)
        have e4:decide (l.length≤65536)=true:=decide_eq_true h3
        rw [e3,e4]
        simp only [cond_false,Bool.true_and]
        have:=zgr (l.length+1) l _ h3 (fun b2 x14 x15=>z9c (l.length+1) b2 l x14 x15) (fun b2 x14 x15=>z9d (l.length+1) b2 l x14 x15) l.length 0 (l.length+1) (by omega) (by omega)
        rw [List.drop_zero] at this
        exact this
      · have e3:decide (ic l.length > 65536)=true:=decide_eq_true (by show ((l.length:Nat):Int) > 65536; omega)
        have e4:decide (l.length≤65536)=false:=decide_eq_false h3
        rw [e3,e4]; rfl
  · simp [R.get] at h
theorem zgm (N:Nat) (l m:List IV) (K:Out→St→Res) (hlm:l.length=m.length) (hl:l.length≤strMax)
    (hx:∀ b4 x5,K (.exit 0) ⟨[(0,(.list true [.bool,(.int .i64),(.int .i64)] l)),(1,(.list true [.bool,(.int .i64),(.int .i64)] m)),(4,(.bool b4)),(5,(.int .i64 x5))],[]⟩=some (.bool true,[]))
    (hr:∀ b4 x5,K .ret ⟨[(0,(.list true [.bool,(.int .i64),(.int .i64)] l)),(1,(.list true [.bool,(.int .i64),(.int .i64)] m)),(4,(.bool b4)),(5,(.int .i64 x5))],[]⟩=some (.bool b4,[])) :
    ∀ (d i n:Nat),i+d=l.length→d < n→lpE (z08 N) (z2n z0e [1,1,0,1,0,0]) ⟨[0,1,4,5],[],[]⟩ n ⟨[(0,(.list true [.bool,(.int .i64),(.int .i64)] l)),(1,(.list true [.bool,(.int .i64),(.int .i64)] m)),(4,(.bool false)),(5,(.int .i64 (i:Int)))],[]⟩ K=some (.bool (z2u (l.drop i) (m.drop i)),[])
  | 0,i,n+1,hd,_=>by
    rw [z1i,z23,zi9 (by omega),List.drop_of_length_le (by omega),List.drop_of_length_le (by omega)]
    simp only [cond_false,z2u]
    exact hx ..
  | d+1,i,n+1,hd,hn=>by
    have hi:i < l.length:=by omega
    have hm:i < m.length:=by omega
    unfold strMax at hl
    rw [z1i,z23,zg1 hi,zg1 hm,zm8,zix (by omega),zfv hi,zfv hm,List.drop_eq_getElem_cons hi,List.drop_eq_getElem_cons hm]
    generalize l[i]=x
    generalize m[i]=y
    have ih:=zgm N l m K hlm (by unfold strMax; omega) hx hr d (i+1) n (by omega) (by omega)
    rw [ih]
    simp only [z2u]
    generalize z2u (List.drop (i+1) l) (List.drop (i+1) m)=rest
    unfold zox z73 z29 ziv
    simp only [cond_true,Bool.and_true]
    cases IV.toBool (IV.cell x 0)==IV.toBool (IV.cell y 0) <;> cases IV.toInt (IV.cell x 1)==IV.toInt (IV.cell y 1) <;> cases IV.toInt (IV.cell x 2)==IV.toInt (IV.cell y 2) <;>
      (simp only [cond_true,cond_false,Bool.not_true,Bool.not_false,Bool.and_true,Bool.and_false,Bool.true_and,Bool.false_and,hr]
       try rfl)
  | 0,_,0,_,h=>by omega
  | _+1,_,0,_,h=>by omega
theorem zae:∀ {l m:List IV},z2u l m=true→l.length=m.length
  | [],[],_=>rfl
  | [],_ :: _,h=>by simp [z2u] at h
  | _ :: _,[],h=>by simp [z2u] at h
  | x :: l,y :: m,h=>by
    simp only [z2u,Bool.and_eq_true] at h
    simp [zae h.2]
set_option maxRecDepth 100000 in
theorem z4e:z9y PR B0 17 z0m:=by
  refine z5t [] [(4,⟨[0,1,4,5],[],[]⟩)] z0m [[.bool]] Tryd.func17 z4s trivial ?_
  intro vs r hwf h
  unfold z0m at h
  split at h
  · rename_i l m
    refine ⟨l.length+1,?_⟩
    rw [← h]
    refine (z4n (l.length+1) l m).trans ?_
    simp only [R.get_ok]
    have hl:=(hwf (by simp [z8i])).1
    simp only [wfV,wfL] at hl
    by_cases hlm:l.length=m.length
    · have e:(ic l.length != ic m.length)=false:=by simp [ic,hlm]
      rw [e]
      simp only [cond_false]
      have:=zgm (l.length+1) l m _ hlm hl.1 (fun b4 x5=>z3o (l.length+1) l m b4 x5) (fun b4 x5=>z3p (l.length+1) l m b4 x5) l.length 0 (l.length+1) (by omega) (by omega)
      rw [List.drop_zero,List.drop_zero] at this
      exact this
    · have e:(ic l.length != ic m.length)=true:=by simp [ic]; omega
      rw [e]
      have:z2u l m=false:=by
        cases hs:z2u l m with
        | false=>rfl
        | true=>exact absurd (zae hs) hlm
      rw [this]
      rfl
  · simp [R.get] at h
open Go Go.Proofs
theorem zks (l:List IV):(ic l.length==0)=l.isEmpty:=by
  cases l with
  | nil=>rfl
  | cons a l=>
    simp only [ic,List.isEmpty_cons,List.length_cons]
    rw [beq_eq_false_iff_ne]
    omega
set_option maxRecDepth 100000 in
theorem z7b:z9y PR B0 5 z1y:=by
  refine z5t [(8,z3c)] [] z1y [[.bool]] Tryd.func5 zfz ⟨zco,trivial⟩ ?_
  intro vs r hwf h
  unfold z1y at h
  split at h
  · rename_i k p a b c d t s
    refine ⟨0,?_⟩
    rw [← h]
    refine (zeq 0 k p a b c d t s).trans ?_
    simp only [R.get_ok,zks]
    unfold Vd.right Vd.bare
    simp only [zmv,zd2,Bool.and_true]
    generalize zc9 p=sp
    generalize p.isEmpty=pe
    cases decide (s < 0) <;> cases decide (65536 < s) <;> simp only [cond_true,cond_false,Bool.not_true,Bool.not_false,Bool.true_and,Bool.false_and]
    by_cases k1:k=1
    · subst k1
      cases a==0 <;> cases b==0 <;> cases c==0 <;> cases d==0 <;> cases t==0 <;> cases sp <;> cases pe <;> rfl
    by_cases k2:k=2
    · subst k2
      cases a==0 <;> cases b==0 <;> cases c==0 <;> cases d==0 <;> cases t==0 <;> cases sp <;> cases pe <;> rfl
    by_cases k3:k=3
    · subst k3
      cases a==0 <;> cases b==0 <;> cases c==0 <;> cases d==0 <;> cases t==0 <;> cases sp <;> cases pe <;> rfl
    by_cases k4:k=4
    · subst k4
      cases a==0 <;> cases b==0 <;> cases c==0 <;> cases d==0 <;> cases t==0 <;> cases sp <;> cases pe <;> rfl
    simp only [beq_eq_false_iff_ne.2 k1,beq_eq_false_iff_ne.2 k2,beq_eq_false_iff_ne.2 k3,beq_eq_false_iff_ne.2 k4,cond_false,Bool.false_and,Bool.or_false,Bool.cond_self]
  · simp [R.get] at h
theorem z6q:∀ (l:List IV) (s:ByteArray),s.size≤(z7q s l).size
  | [],s=>Nat.le_refl _
  | x :: l,s=>by
    simp only [z7q]
    refine Nat.le_trans ?_ (z6q l _)
    simp only [ByteArray.size_append,ByteArray.size_push]
    omega
theorem zid (N:Nat) (l:List IV) (K:Out→St→Res) (hl:l.length≤strMax) (z:Res)
    (hx:∀ s x12 x13,s=z7q s []→K (.exit 0) ⟨[(0,(.ptr 900000 0 0)),(11,(.list false [(.int .i64)] l)),(12,(.int .i64 x12)),(13,(.int .i64 x13))],[(900000,(some (.bld s)))]⟩=cond (decide (s.size+1≤strMax)) (some (.tup [],[[.bld (s.push (z5p 10))]])) none) :
    ∀ (d i n:Nat) (s:ByteArray),i+d=l.length→d < n→(z7q s (l.drop i)).size≤strMax→lpE (z1x N) (z2n z2h [1,0,1,0,0]) ⟨[0,11,12,13],[900000],[]⟩ n ⟨[(0,(.ptr 900000 0 0)),(11,(.list false [(.int .i64)] l)),(12,(.int .i64 (ic l.length))),(13,(.int .i64 (i:Int)))],[(900000,(some (.bld s)))]⟩ K =
      cond (decide ((z7q s (l.drop i)).size+1≤strMax)) (some (.tup [],[[.bld ((z7q s (l.drop i)).push (z5p 10))]])) none
  | 0,i,n+1,s,hd,_,_=>by
    rw [z1i,z7c,zi9 (by omega),List.drop_of_length_le (by omega)]
    simp only [cond_false,z7q]
    exact hx s _ _ rfl
  | d+1,i,n+1,s,hd,hn,hs=>by
    have hi:i < l.length:=by omega
    unfold strMax at hl
    rw [z1i,z7c,zg1 hi,zm8,zix (by omega),zfv hi]
    rw [List.drop_eq_getElem_cons hi] at hs ⊢
    simp only [z7q] at hs ⊢
    have e32:z5p 32=32:=rfl
    rw [e32]
    have hsz:=z6q (l.drop (i+1)) (s.push 32++zee l[i].toInt)
    have h1:decide (s.size+1≤strMax)=true:=decide_eq_true (by
      simp only [ByteArray.size_append,ByteArray.size_push] at hsz
      omega)
    have h2:decide ((s.push 32).size+(zee l[i].toInt).size≤strMax)=true:=decide_eq_true (by
      simp only [ByteArray.size_append] at hsz
      omega)
    rw [h1,h2]
    simp only [cond_true,Bool.and_true]
    exact zid N l K (by unfold strMax; omega) z hx d (i+1) n _ (by omega) (by omega) hs
  | 0,_,0,_,_,h,_=>by omega
  | _+1,_,0,_,_,h,_=>by omega
set_option maxRecDepth 100000 in
theorem zf0:z9y PR B0 9 z3z:=by
  refine z5t [(13,z0l),(14,z0o),(15,z35)] [(2,⟨[0,11,12,13],[900000],[]⟩)] z3z [] Tryd.func9 zhe ⟨z33,z3r,zat,trivial⟩ ?_
  intro vs r hwf h
  unfold z3z at h
  split at h
  · rename_i s w l
    refine ⟨l.length+1,?_⟩
    rw [← h]
    refine (zg7 (l.length+1) s w l).trans ?_
    simp only [R.get_br,R.get_ok,R.get_no]
    have hwf:=hwf (by simp [z8i,z1e])
    simp only [zms,wfV,wfLs,wfL] at hwf
    rw [R.get_br,R.get_ok,R.get_no] at h
    cases hc:decide ((z0s s w l).size≤strMax) with
    | false=>rw [hc] at h; cases h
    | true=>
      have hle:=of_decide_eq_true hc
      unfold z0s at hle ⊢
      rw [ByteArray.size_push] at hle
      have h1:=z6q l (s++w)
      have e1:decide (s.size+w.size≤strMax)=true:=decide_eq_true (by rw [ByteArray.size_append] at h1; omega)
      rw [e1]
      simp only [cond_true]
      have:=zid (l.length+1) l _ hwf.2.2.1.1 none (fun s' x12 x13 _=>zak (l.length+1) s l x12 x13 s') l.length 0 (l.length+1) (s++w) (by omega) (by omega) (by rw [List.drop_zero]; omega)
      rw [List.drop_zero] at this
      refine this.trans ?_
      rw [decide_eq_true hle]
      rfl
  · simp [R.get] at h
set_option maxRecDepth 100000 in
theorem zc7:z9y PR B0 22 z2o:=by
  refine z5t [(27,z34)] [] z2o [[.int .i64]] Tryd.func22 zea ⟨zas,trivial⟩ ?_
  intro vs r hwf h
  unfold z2o at h
  split at h
  · rename_i l i
    refine ⟨0,?_⟩
    rw [← h]
    refine (zcl 0 l i).trans ?_
    simp only [R.get_br,R.get_ok,R.get_no]
    unfold z0i
    rw [R.get_br,R.get_ok,R.get_no] at h
    cases hc:decide (0≤i) with
    | false=>rw [hc] at h; cases h
    | true=>
      have h0:=of_decide_eq_true hc
      simp only [cond_true,Bool.true_and]
      have e:decide (i≥ic l.length)=decide (ic l.length≤i):=rfl
      rw [e]
      cases h2:decide (ic l.length≤i) with
      | true=>rfl
      | false=>
        have h3:=of_decide_eq_false h2
        rw [decide_eq_true (show i < ic l.length by omega)]
        rfl
  · simp [R.get] at h
open Go Go.Proofs
def z05 (N:Nat):Env:=mkE [(22,z2o),(20,z3v),(21,z2p)] [(7,⟨[2,4,7],[2,7,51],[⟨.cell 7 1,51,39,true,[.bool,.int .i64,.int .i64]⟩]⟩),(16,⟨[2,6,7,66],[2,7],[]⟩)] 87 N
theorem zg8 (N:Nat) (s:ByteArray):z6z (z05 N) z09 [.cell 2 26] [[.int .i64,.list true [.bool,.int .i64,.int .i64],.int .i64,.int .i64,.int .i64,.int .i64,.int .i64,.int .i64]] [(.str s)] =
 (cond (decide (ByteArray.size s < 4294967281))
 (cond (decide (ByteArray.size (z90 s {data:=#[10]}) < 4294967281)&&decide (1≤ByteArray.size {data:=#[32]}))
 (cond (decide (0≤0)&&decide (0 < ic (List.length (List.map IV.str (z1d (z90 s {data:=#[10]}) {data:=#[32]})))))
 (cond (ByteArray.toList (IV.toStr (List.getD (List.map IV.str (z1d (z90 s {data:=#[10]}) {data:=#[32]})) (Int.toNat 0) default))==ByteArray.toList {data:=#[104,111,108,100,115]})
 (lpE (z05 N) (z2n z09 [1,1,1,1,0,1,0,1,0,1,0,0]) ⟨[2,4,7],[2,7,51],[⟨(.cell 7 1),51,39,true,[.bool,(.int .i64),(.int .i64)]⟩]⟩ N ⟨[(2,(.ptr 2 0 0)),(4,(.str (zjb s {data:=#[10]}))),(7,(.ptr 7 0 0))],[(2,(some (.box [(.int .i64 0),.zs,(.int .i64 0),(.int .i64 0),(.int .i64 0),(.int .i64 0),(.int .i64 0),(.int .i64 0)]))),(7,(some (.box [(.int .i64 1),(.row 51 0 0),(.int .i64 0),(.int .i64 0),(.int .i64 0),(.int .i64 0),(.int .i64 0),(.int .i64 (z0i (List.map IV.str (z1d (z90 s {data:=#[10]}) {data:=#[32]})) 1))]))),(51,(some (.row true 39 true [.bool,(.int .i64),(.int .i64)] [])))]⟩ (z1g 1 (z1g 0 (kSq (z05 N) (z2n z09 [1,1,1,1,1]) (zbr (z05 N) none [(ResultVar.cell 2 26)] [[(.int .i64),(.list true [.bool,(.int .i64),(.int .i64)]),(.int .i64),(.int .i64),(.int .i64),(.int .i64),(.int .i64),(.int .i64)]])))))
 (cond (ByteArray.toList (IV.toStr (List.getD (List.map IV.str (z1d (z90 s {data:=#[10]}) {data:=#[32]})) (Int.toNat 0) default))==ByteArray.toList {data:=#[102,97,105,108,115]})
 (lpE (z05 N) (z2n z09 [1,1,1,1,0,1,0,1,1,1,0,1,0,1,0,0]) ⟨[2,6,7,66],[2,7],[]⟩ N ⟨[(2,(.ptr 2 0 0)),(6,(.list false [.str] (List.map IV.str (z1d (z90 s {data:=#[10]}) {data:=#[32]})))),(7,(.ptr 7 0 0)),(66,(.int .i64 0))],[(2,(some (.box [(.int .i64 0),.zs,(.int .i64 0),(.int .i64 0),(.int .i64 0),(.int .i64 0),(.int .i64 0),(.int .i64 0)]))),(7,(some (.box [(.int .i64 2),.zs,(.int .i64 0),(.int .i64 0),(.int .i64 0),(.int .i64 0),(.int .i64 0),(.int .i64 (z0i (List.map IV.str (z1d (z90 s {data:=#[10]}) {data:=#[32]})) 1))])))]⟩ (z1g 3 (kSq (z05 N) (z2n z09 [1,1,1,1,0,1,0,1,1,1,0,1,1]) (z1g 0 (kSq (z05 N) (z2n z09 [1,1,1,1,1]) (zbr (z05 N) none [(ResultVar.cell 2 26)] [[(.int .i64),(.list true [.bool,(.int .i64),(.int .i64)]),(.int .i64),(.int .i64),(.int .i64),(.int .i64),(.int .i64),(.int .i64)]]))))))
 (cond (ByteArray.toList (IV.toStr (List.getD (List.map IV.str (z1d (z90 s {data:=#[10]}) {data:=#[32]})) (Int.toNat 0) default))==ByteArray.toList {data:=#[117,110,107,110,111,119,110]})
 (some ((.agg [(.int .i64 3),(.list true [.bool,(.int .i64),(.int .i64)] []),(.int .i64 0),(.int .i64 0),(.int .i64 0),(.int .i64 0),(.int .i64 0),(.int .i64 (z0i (List.map IV.str (z1d (z90 s {data:=#[10]}) {data:=#[32]})) 1))]),[]))
 (cond (ByteArray.toList (IV.toStr (List.getD (List.map IV.str (z1d (z90 s {data:=#[10]}) {data:=#[32]})) (Int.toNat 0) default))==ByteArray.toList {data:=#[119,114,111,110,103]})
 (some ((.agg [(.int .i64 4),(.list true [.bool,(.int .i64),(.int .i64)] []),(.int .i64 0),(.int .i64 0),(.int .i64 0),(.int .i64 0),(.int .i64 0),(.int .i64 (z0i (List.map IV.str (z1d (z90 s {data:=#[10]}) {data:=#[32]})) 1))]),[]))
 (some ((.agg [(.int .i64 0),(.list true [.bool,(.int .i64),(.int .i64)] []),(.int .i64 0),(.int .i64 0),(.int .i64 0),(.int .i64 0),(.int .i64 0),(.int .i64 (z0i (List.map IV.str (z1d (z90 s {data:=#[10]}) {data:=#[32]})) 1))]),[]))))))
 none)
 none)
 none):=by kernel_rfl
theorem zcp (N:Nat) (s4:ByteArray) (xo2_0:Int) (xo2_2:Int) (xo2_3:Int) (xo2_4:Int) (xo2_5:Int) (xo2_6:Int) (xo2_7:Int) (xo7_0:Int) (no7_1:Nat) (xo7_2:Int) (xo7_3:Int) (xo7_4:Int) (xo7_5:Int) (xo7_6:Int) (xo7_7:Int) (lo51:List IV) (again:St→Res) (k:Out→St→Res):rnd (z05 N) (z2n z09 [1,1,1,1,0,1,0,1,0,1,0,0])
 ⟨[(2,(.ptr 2 0 0)),(4,(.str s4)),(7,(.ptr 7 0 0))],[(2,(some (.box [(.int .i64 xo2_0),.zs,(.int .i64 xo2_2),(.int .i64 xo2_3),(.int .i64 xo2_4),(.int .i64 xo2_5),(.int .i64 xo2_6),(.int .i64 xo2_7)]))),(7,(some (.box [(.int .i64 xo7_0),(.row 51 0 no7_1),(.int .i64 xo7_2),(.int .i64 xo7_3),(.int .i64 xo7_4),(.int .i64 xo7_5),(.int .i64 xo7_6),(.int .i64 xo7_7)]))),(51,(some (.row true 39 true [.bool,(.int .i64),(.int .i64)] lo51)))]⟩
 (zef again ⟨[2,4,7],[2,7,51],[⟨(.cell 7 1),51,39,true,[.bool,(.int .i64),(.int .i64)]⟩]⟩ k) =
 (cond (!ByteArray.toList s4==ByteArray.toList {data:=#[]})
 (cond (decide (ic (no7_1 - 0)≤65536))
 (cond (decide (ByteArray.size s4 < 4294967281))
 (cond (decide (ByteArray.size (z90 s4 {data:=#[10]}) < 4294967281)&&decide (1≤ByteArray.size {data:=#[32]}))
 (cond (decide (0≤0)&&decide (0 < ic (List.length (List.map IV.str (z1d (z90 s4 {data:=#[10]}) {data:=#[32]})))))
 (cond (ByteArray.toList (IV.toStr (List.getD (List.map IV.str (z1d (z90 s4 {data:=#[10]}) {data:=#[32]})) (Int.toNat 0) default))==ByteArray.toList {data:=#[115,117,109]})
 (cond (decide ((no7_1+List.length (List.drop 0 (List.take 1 [IV.agg [IV.bool true,IV.int 0,IV.int 0]])))*TI.bytes (Env.tyd (z05 N) 39)≤z0y))
 (again ⟨[(2,(.ptr 2 0 0)),(4,(.str (zjb s4 {data:=#[10]}))),(7,(.ptr 7 0 0))],[(2,(some (.box [(.int .i64 xo2_0),.zs,(.int .i64 xo2_2),(.int .i64 xo2_3),(.int .i64 xo2_4),(.int .i64 xo2_5),(.int .i64 xo2_6),(.int .i64 xo2_7)]))),(7,(some (.box [(.int .i64 xo7_0),(.row 51 0 (no7_1+List.length (List.drop 0 (List.take 1 [IV.agg [IV.bool true,IV.int 0,IV.int 0]])))),(.int .i64 xo7_2),(.int .i64 xo7_3),(.int .i64 xo7_4),(.int .i64 xo7_5),(.int .i64 xo7_6),(.int .i64 xo7_7)]))),(51,(some (.row true 39 true [.bool,(.int .i64),(.int .i64)] (List.take no7_1 lo51++List.drop 0 (List.take 1 [IV.agg [IV.bool true,IV.int 0,IV.int 0]])))))]⟩)
 none)
 (cond (decide ((no7_1+List.length (List.drop 0 (List.take 1 [IV.agg [IV.bool false,IV.int (z0i (List.map IV.str (z1d (z90 s4 {data:=#[10]}) {data:=#[32]})) 1),IV.int (z0i (List.map IV.str (z1d (z90 s4 {data:=#[10]}) {data:=#[32]})) 2)]])))*TI.bytes (Env.tyd (z05 N) 39)≤z0y))
 (again ⟨[(2,(.ptr 2 0 0)),(4,(.str (zjb s4 {data:=#[10]}))),(7,(.ptr 7 0 0))],[(2,(some (.box [(.int .i64 xo2_0),.zs,(.int .i64 xo2_2),(.int .i64 xo2_3),(.int .i64 xo2_4),(.int .i64 xo2_5),(.int .i64 xo2_6),(.int .i64 xo2_7)]))),(7,(some (.box [(.int .i64 xo7_0),(.row 51 0 (no7_1+List.length (List.drop 0 (List.take 1 [IV.agg [IV.bool false,IV.int (z0i (List.map IV.str (z1d (z90 s4 {data:=#[10]}) {data:=#[32]})) 1),IV.int (z0i (List.map IV.str (z1d (z90 s4 {data:=#[10]}) {data:=#[32]})) 2)]])))),(.int .i64 xo7_2),(.int .i64 xo7_3),(.int .i64 xo7_4),(.int .i64 xo7_5),(.int .i64 xo7_6),(.int .i64 xo7_7)]))),(51,(some (.row true 39 true [.bool,(.int .i64),(.int .i64)] (List.take no7_1 lo51++List.drop 0 (List.take 1 [IV.agg [IV.bool false,IV.int (z0i (List.map IV.str (z1d (z90 s4 {data:=#[10]}) {data:=#[32]})) 1),IV.int (z0i (List.map IV.str (z1d (z90 s4 {data:=#[10]}) {data:=#[32]})) 2)]])))))]⟩)
 none))
 none)
 none)
 none)
 (k (.exit 1) ⟨[(2,(.ptr 2 0 0)),(4,(.str s4)),(7,(.ptr 7 0 0))],[(2,(some (.box [(.int .i64 xo2_0),.zs,(.int .i64 xo2_2),(.int .i64 xo2_3),(.int .i64 xo2_4),(.int .i64 xo2_5),(.int .i64 xo2_6),(.int .i64 xo2_7)]))),(7,(some (.box [(.int .i64 xo7_0),(.row 51 0 no7_1),(.int .i64 xo7_2),(.int .i64 xo7_3),(.int .i64 xo7_4),(.int .i64 xo7_5),(.int .i64 xo7_6),(.int .i64 xo7_7)]))),(51,(some (.row true 39 true [.bool,(.int .i64),(.int .i64)] lo51)))]⟩))
 (k (.exit 1) ⟨[(2,(.ptr 2 0 0)),(4,(.str s4)),(7,(.ptr 7 0 0))],[(2,(some (.box [(.int .i64 xo2_0),.zs,(.int .i64 xo2_2),(.int .i64 xo2_3),(.int .i64 xo2_4),(.int .i64 xo2_5),(.int .i64 xo2_6),(.int .i64 xo2_7)]))),(7,(some (.box [(.int .i64 xo7_0),(.row 51 0 no7_1),(.int .i64 xo7_2),(.int .i64 xo7_3),(.int .i64 xo7_4),(.int .i64 xo7_5),(.int .i64 xo7_6),(.int .i64 xo7_7)]))),(51,(some (.row true 39 true [.bool,(.int .i64),(.int .i64)] lo51)))]⟩)):=by kernel_rfl
theorem z2f (N:Nat) (l6:List IV) (x66:Int) (xo2_0:Int) (xo2_2:Int) (xo2_3:Int) (xo2_4:Int) (xo2_5:Int) (xo2_6:Int) (xo2_7:Int) (xo7_0:Int) (xo7_2:Int) (xo7_3:Int) (xo7_4:Int) (xo7_5:Int) (xo7_6:Int) (xo7_7:Int) (again:St→Res) (k:Out→St→Res):rnd (z05 N) (z2n z09 [1,1,1,1,0,1,0,1,1,1,0,1,0,1,0,0])
 ⟨[(2,(.ptr 2 0 0)),(6,(.list false [.str] l6)),(7,(.ptr 7 0 0)),(66,(.int .i64 x66))],[(2,(some (.box [(.int .i64 xo2_0),.zs,(.int .i64 xo2_2),(.int .i64 xo2_3),(.int .i64 xo2_4),(.int .i64 xo2_5),(.int .i64 xo2_6),(.int .i64 xo2_7)]))),(7,(some (.box [(.int .i64 xo7_0),.zs,(.int .i64 xo7_2),(.int .i64 xo7_3),(.int .i64 xo7_4),(.int .i64 xo7_5),(.int .i64 xo7_6),(.int .i64 xo7_7)])))]⟩
 (zef again ⟨[2,6,7,66],[2,7],[]⟩ k) =
 (cond (decide (x66 < 4))
 (cond (decide (0≤IntKind.wrap IntKind.i64 (2+x66)))
 (cond (decide (x66=ic 0))
 (again ⟨[(2,(.ptr 2 0 0)),(6,(.list false [.str] l6)),(7,(.ptr 7 0 0)),(66,(.int .i64 (IntKind.wrap IntKind.i64 (x66+1))))],[(2,(some (.box [(.int .i64 xo2_0),.zs,(.int .i64 xo2_2),(.int .i64 xo2_3),(.int .i64 xo2_4),(.int .i64 xo2_5),(.int .i64 xo2_6),(.int .i64 xo2_7)]))),(7,(some (.box [(.int .i64 xo7_0),.zs,(.int .i64 (z0i l6 (IntKind.wrap IntKind.i64 (2+x66)))),(.int .i64 xo7_3),(.int .i64 xo7_4),(.int .i64 xo7_5),(.int .i64 xo7_6),(.int .i64 xo7_7)])))]⟩)
 (cond (decide (x66=ic 1))
 (again ⟨[(2,(.ptr 2 0 0)),(6,(.list false [.str] l6)),(7,(.ptr 7 0 0)),(66,(.int .i64 (IntKind.wrap IntKind.i64 (x66+1))))],[(2,(some (.box [(.int .i64 xo2_0),.zs,(.int .i64 xo2_2),(.int .i64 xo2_3),(.int .i64 xo2_4),(.int .i64 xo2_5),(.int .i64 xo2_6),(.int .i64 xo2_7)]))),(7,(some (.box [(.int .i64 xo7_0),.zs,(.int .i64 xo7_2),(.int .i64 (z0i l6 (IntKind.wrap IntKind.i64 (2+x66)))),(.int .i64 xo7_4),(.int .i64 xo7_5),(.int .i64 xo7_6),(.int .i64 xo7_7)])))]⟩)
 (cond (decide (x66=ic 2))
 (again ⟨[(2,(.ptr 2 0 0)),(6,(.list false [.str] l6)),(7,(.ptr 7 0 0)),(66,(.int .i64 (IntKind.wrap IntKind.i64 (x66+1))))],[(2,(some (.box [(.int .i64 xo2_0),.zs,(.int .i64 xo2_2),(.int .i64 xo2_3),(.int .i64 xo2_4),(.int .i64 xo2_5),(.int .i64 xo2_6),(.int .i64 xo2_7)]))),(7,(some (.box [(.int .i64 xo7_0),.zs,(.int .i64 xo7_2),(.int .i64 xo7_3),(.int .i64 (z0i l6 (IntKind.wrap IntKind.i64 (2+x66)))),(.int .i64 xo7_5),(.int .i64 xo7_6),(.int .i64 xo7_7)])))]⟩)
 (cond (decide (x66=ic 3))
 (again ⟨[(2,(.ptr 2 0 0)),(6,(.list false [.str] l6)),(7,(.ptr 7 0 0)),(66,(.int .i64 (IntKind.wrap IntKind.i64 (x66+1))))],[(2,(some (.box [(.int .i64 xo2_0),.zs,(.int .i64 xo2_2),(.int .i64 xo2_3),(.int .i64 xo2_4),(.int .i64 xo2_5),(.int .i64 xo2_6),(.int .i64 xo2_7)]))),(7,(some (.box [(.int .i64 xo7_0),.zs,(.int .i64 xo7_2),(.int .i64 xo7_3),(.int .i64 xo7_4),(.int .i64 (z0i l6 (IntKind.wrap IntKind.i64 (2+x66)))),(.int .i64 xo7_6),(.int .i64 xo7_7)])))]⟩)
 none))))
 none)
 (k (.exit 3) ⟨[(2,(.ptr 2 0 0)),(6,(.list false [.str] l6)),(7,(.ptr 7 0 0)),(66,(.int .i64 x66))],[(2,(some (.box [(.int .i64 xo2_0),.zs,(.int .i64 xo2_2),(.int .i64 xo2_3),(.int .i64 xo2_4),(.int .i64 xo2_5),(.int .i64 xo2_6),(.int .i64 xo2_7)]))),(7,(some (.box [(.int .i64 xo7_0),.zs,(.int .i64 xo7_2),(.int .i64 xo7_3),(.int .i64 xo7_4),(.int .i64 xo7_5),(.int .i64 xo7_6),(.int .i64 xo7_7)])))]⟩)):=by kernel_rfl
theorem zal (N:Nat) (s4:ByteArray) (xo2_0:Int) (xo2_2:Int) (xo2_3:Int) (xo2_4:Int) (xo2_5:Int) (xo2_6:Int) (xo2_7:Int) (xo7_0:Int) (no7_1:Nat) (xo7_2:Int) (xo7_3:Int) (xo7_4:Int) (xo7_5:Int) (xo7_6:Int) (xo7_7:Int) (lo51:List IV):(z1g 1 (z1g 0 (kSq (z05 N) (z2n z09 [1,1,1,1,1]) (zbr (z05 N) none [(ResultVar.cell 2 26)] [[(.int .i64),(.list true [.bool,(.int .i64),(.int .i64)]),(.int .i64),(.int .i64),(.int .i64),(.int .i64),(.int .i64),(.int .i64)]])))) (.exit 1)
 ⟨[(2,(.ptr 2 0 0)),(4,(.str s4)),(7,(.ptr 7 0 0))],[(2,(some (.box [(.int .i64 xo2_0),.zs,(.int .i64 xo2_2),(.int .i64 xo2_3),(.int .i64 xo2_4),(.int .i64 xo2_5),(.int .i64 xo2_6),(.int .i64 xo2_7)]))),(7,(some (.box [(.int .i64 xo7_0),(.row 51 0 no7_1),(.int .i64 xo7_2),(.int .i64 xo7_3),(.int .i64 xo7_4),(.int .i64 xo7_5),(.int .i64 xo7_6),(.int .i64 xo7_7)]))),(51,(some (.row true 39 true [.bool,(.int .i64),(.int .i64)] lo51)))]⟩ =
 (some ((.agg [(.int .i64 xo7_0),(.list true [.bool,(.int .i64),(.int .i64)] (List.drop 0 (List.take no7_1 lo51))),(.int .i64 xo7_2),(.int .i64 xo7_3),(.int .i64 xo7_4),(.int .i64 xo7_5),(.int .i64 xo7_6),(.int .i64 xo7_7)]),[])):=by kernel_rfl
theorem zam (N:Nat) (l6:List IV) (x66:Int) (xo2_0:Int) (xo2_2:Int) (xo2_3:Int) (xo2_4:Int) (xo2_5:Int) (xo2_6:Int) (xo2_7:Int) (xo7_0:Int) (xo7_2:Int) (xo7_3:Int) (xo7_4:Int) (xo7_5:Int) (xo7_6:Int) (xo7_7:Int):(z1g 3 (kSq (z05 N) (z2n z09 [1,1,1,1,0,1,0,1,1,1,0,1,1]) (z1g 0 (kSq (z05 N) (z2n z09 [1,1,1,1,1]) (zbr (z05 N) none [(ResultVar.cell 2 26)] [[(.int .i64),(.list true [.bool,(.int .i64),(.int .i64)]),(.int .i64),(.int .i64),(.int .i64),(.int .i64),(.int .i64),(.int .i64)]]))))) (.exit 3)
 ⟨[(2,(.ptr 2 0 0)),(6,(.list false [.str] l6)),(7,(.ptr 7 0 0)),(66,(.int .i64 x66))],[(2,(some (.box [(.int .i64 xo2_0),.zs,(.int .i64 xo2_2),(.int .i64 xo2_3),(.int .i64 xo2_4),(.int .i64 xo2_5),(.int .i64 xo2_6),(.int .i64 xo2_7)]))),(7,(some (.box [(.int .i64 xo7_0),.zs,(.int .i64 xo7_2),(.int .i64 xo7_3),(.int .i64 xo7_4),(.int .i64 xo7_5),(.int .i64 xo7_6),(.int .i64 xo7_7)])))]⟩ =
 (some ((.agg [(.int .i64 xo7_0),(.list true [.bool,(.int .i64),(.int .i64)] []),(.int .i64 xo7_2),(.int .i64 xo7_3),(.int .i64 xo7_4),(.int .i64 xo7_5),(.int .i64 (z0i l6 6)),(.int .i64 xo7_7)]),[])):=by kernel_rfl
def z1m (N:Nat):Env:=mkE [(5,z1y),(9,z3z),(10,z0x)] [(9,⟨[2,3,25,26,27],[3],[]⟩)] 61 N
theorem zep (N:Nat) (v_Kind:Int) (v_Proof:List IV) (v_Witness_0:Int) (v_Witness_1:Int) (v_Witness_2:Int) (v_Witness_3:Int) (v_Twin:Int) (v_Spent:Int):z6z (z1m N) z1z [.tmp 2] [[.str]] [(.agg [(.int .i64 v_Kind),(.list true [.bool,.int .i64,.int .i64] v_Proof),(.int .i64 v_Witness_0),(.int .i64 v_Witness_1),(.int .i64 v_Witness_2),(.int .i64 v_Witness_3),(.int .i64 v_Twin),(.int .i64 v_Spent)])] =
 (cond (!Vd.right {kind:=v_Kind,proof:=v_Proof,w0:=v_Witness_0,w1:=v_Witness_1,w2:=v_Witness_2,w3:=v_Witness_3,twin:=v_Twin,spent:=v_Spent})
 (some ((.str ({data:=#[]})),[]))
 (cond (v_Kind==1)
 (cond (decide (ByteArray.size (z0s ByteArray.empty {data:=#[104,111,108,100,115]} (List.drop 0 (List.take 2 [IV.int v_Spent,IV.int (ic (List.length v_Proof))])))≤strMax))
 (lpE (z1m N) (z2n z1z [1,1,1,0,1,0,1,0,1,1,0,0]) ⟨[2,3,25,26,27],[3],[]⟩ N ⟨[(2,(.str ({data:=#[]}))),(3,(.ptr 3 0 0)),(25,(.list true [.bool,(.int .i64),(.int .i64)] v_Proof)),(26,(.int .i64 (ic (List.length v_Proof)))),(27,(.int .i64 0))],[(3,(some (.bld (z0s ByteArray.empty {data:=#[104,111,108,100,115]} (List.drop 0 (List.take 2 [IV.int v_Spent,IV.int (ic (List.length v_Proof))]))))))]⟩ (z1g 1 (z1g 0 (kSq (z1m N) (z2n z1z [1,1,1,1]) (zbr (z1m N) none [(ResultVar.tmp 2)] [[.str]])))))
 none)
 (cond (v_Kind==2)
 (cond (decide (ByteArray.size (z0s ByteArray.empty {data:=#[102,97,105,108,115]} (List.drop 0 (List.take (1+List.length [IV.int v_Witness_0,IV.int v_Witness_1,IV.int v_Witness_2,IV.int v_Witness_3]+List.length (List.drop 0 (List.take 1 [IV.int v_Twin]))) (List.take (1+List.length [IV.int v_Witness_0,IV.int v_Witness_1,IV.int v_Witness_2,IV.int v_Witness_3]) (List.take 1 [IV.int v_Spent]++[IV.int v_Witness_0,IV.int v_Witness_1,IV.int v_Witness_2,IV.int v_Witness_3])++List.drop 0 (List.take 1 [IV.int v_Twin])))))≤strMax))
 (some ((.str (z0s ByteArray.empty {data:=#[102,97,105,108,115]} (List.drop 0 (List.take (1+List.length [IV.int v_Witness_0,IV.int v_Witness_1,IV.int v_Witness_2,IV.int v_Witness_3]+List.length (List.drop 0 (List.take 1 [IV.int v_Twin]))) (List.take (1+List.length [IV.int v_Witness_0,IV.int v_Witness_1,IV.int v_Witness_2,IV.int v_Witness_3]) (List.take 1 [IV.int v_Spent]++[IV.int v_Witness_0,IV.int v_Witness_1,IV.int v_Witness_2,IV.int v_Witness_3])++List.drop 0 (List.take 1 [IV.int v_Twin])))))),[]))
 none)
 (cond (v_Kind==3)
 (cond (decide (ByteArray.size (z0s ByteArray.empty {data:=#[117,110,107,110,111,119,110]} (List.drop 0 (List.take 1 [IV.int v_Spent])))≤strMax))
 (some ((.str (z0s ByteArray.empty {data:=#[117,110,107,110,111,119,110]} (List.drop 0 (List.take 1 [IV.int v_Spent])))),[]))
 none)
 (cond (decide (ByteArray.size (z0s ByteArray.empty {data:=#[119,114,111,110,103]} (List.drop 0 (List.take 1 [IV.int v_Spent])))≤strMax))
 (some ((.str (z0s ByteArray.empty {data:=#[119,114,111,110,103]} (List.drop 0 (List.take 1 [IV.int v_Spent])))),[]))
 none))))):=by kernel_rfl
theorem z6f (N:Nat) (s2:ByteArray) (l25:List IV) (x26:Int) (x27:Int) (so3:ByteArray) (again:St→Res) (k:Out→St→Res):rnd (z1m N) (z2n z1z [1,1,1,0,1,0,1,0,1,1,0,0])
 ⟨[(2,(.str s2)),(3,(.ptr 3 0 0)),(25,(.list true [.bool,(.int .i64),(.int .i64)] l25)),(26,(.int .i64 x26)),(27,(.int .i64 x27))],[(3,(some (.bld so3)))]⟩
 (zef again ⟨[2,3,25,26,27],[3],[]⟩ k) =
 (cond (decide (x27 < x26))
 (cond (decide (0≤x27)&&decide (x27 < ic (List.length l25)))
 (cond (IV.toBool (IV.cell (List.getD l25 (Int.toNat x27) default) 0))
 (cond (decide (ByteArray.size (z0s so3 {data:=#[115,117,109]} [])≤strMax))
 (again ⟨[(2,(.str s2)),(3,(.ptr 3 0 0)),(25,(.list true [.bool,(.int .i64),(.int .i64)] l25)),(26,(.int .i64 x26)),(27,(.int .i64 (IntKind.wrap IntKind.i64 (x27+1))))],[(3,(some (.bld (z0s so3 {data:=#[115,117,109]} []))))]⟩)
 none)
 (cond (decide (ByteArray.size (z0s so3 {data:=#[99,117,116]} (List.drop 0 (List.take 2 [IV.int (IV.toInt (IV.cell (List.getD l25 (Int.toNat x27) default) 1)),IV.int (IV.toInt (IV.cell (List.getD l25 (Int.toNat x27) default) 2))])))≤strMax))
 (again ⟨[(2,(.str s2)),(3,(.ptr 3 0 0)),(25,(.list true [.bool,(.int .i64),(.int .i64)] l25)),(26,(.int .i64 x26)),(27,(.int .i64 (IntKind.wrap IntKind.i64 (x27+1))))],[(3,(some (.bld (z0s so3 {data:=#[99,117,116]} (List.drop 0 (List.take 2 [IV.int (IV.toInt (IV.cell (List.getD l25 (Int.toNat x27) default) 1)),IV.int (IV.toInt (IV.cell (List.getD l25 (Int.toNat x27) default) 2))]))))))]⟩)
 none))
 none)
 (k (.exit 1) ⟨[(2,(.str s2)),(3,(.ptr 3 0 0)),(25,(.list true [.bool,(.int .i64),(.int .i64)] l25)),(26,(.int .i64 x26)),(27,(.int .i64 x27))],[(3,(some (.bld so3)))]⟩)):=by kernel_rfl
theorem z9b (N:Nat) (s2:ByteArray) (l25:List IV) (x26:Int) (x27:Int) (so3:ByteArray):(z1g 1 (z1g 0 (kSq (z1m N) (z2n z1z [1,1,1,1]) (zbr (z1m N) none [(ResultVar.tmp 2)] [[.str]])))) (.exit 1)
 ⟨[(2,(.str s2)),(3,(.ptr 3 0 0)),(25,(.list true [.bool,(.int .i64),(.int .i64)] l25)),(26,(.int .i64 x26)),(27,(.int .i64 x27))],[(3,(some (.bld so3)))]⟩ =
 (some ((.str so3),[])):=by kernel_rfl
def zf7 (N:Nat):Env:=mkE [(6,z1f),(16,z40)] [] 17 N
theorem zeo (N:Nat) (s:ByteArray):z6z (zf7 N) za1 [.cell 2 26,.tmp 3] [[.int .i64,.list true [.bool,.int .i64,.int .i64],.int .i64,.int .i64,.int .i64,.int .i64,.int .i64,.int .i64],[.bool]] [(.str s)] =
 (cond (decide (ByteArray.size s < 4294967281))
 (cond (ByteArray.toList s==ByteArray.toList {data:=#[]})
 (some ((.tup [(.agg [(.int .i64 0),(.list true [.bool,(.int .i64),(.int .i64)] []),(.int .i64 0),(.int .i64 0),(.int .i64 0),(.int .i64 0),(.int .i64 0),(.int .i64 0)]),(.bool false)]),[]))
 (cond (decide (ByteArray.size (z0j (z3x s))≤strMax))
 (cond (!ByteArray.toList (z0j (z3x s))==ByteArray.toList s)
 (some ((.tup [(.agg [(.int .i64 0),(.list true [.bool,(.int .i64),(.int .i64)] []),(.int .i64 0),(.int .i64 0),(.int .i64 0),(.int .i64 0),(.int .i64 0),(.int .i64 0)]),(.bool false)]),[]))
 (some ((.tup [(.agg [(.int .i64 (Vd.kind (z3x s))),(.list true [.bool,(.int .i64),(.int .i64)] (Vd.proof (z3x s))),(.int .i64 (Vd.w0 (z3x s))),(.int .i64 (Vd.w1 (z3x s))),(.int .i64 (Vd.w2 (z3x s))),(.int .i64 (Vd.w3 (z3x s))),(.int .i64 (Vd.twin (z3x s))),(.int .i64 (Vd.spent (z3x s)))]),(.bool true)]),[])))
 none))
 none):=by kernel_rfl
def z6y (N:Nat):Env:=mkE [(17,z0m)] [] 38 N
theorem z6b (N:Nat) (a_Kind:Int) (a_Proof:List IV) (a_Witness_0:Int) (a_Witness_1:Int) (a_Witness_2:Int) (a_Witness_3:Int) (a_Twin:Int) (a_Spent:Int) (b_Kind:Int) (b_Proof:List IV) (b_Witness_0:Int) (b_Witness_1:Int) (b_Witness_2:Int) (b_Witness_3:Int) (b_Twin:Int) (b_Spent:Int):z6z (z6y N) z3t [.tmp 4] [[.bool]] [(.agg [(.int .i64 a_Kind),(.list true [.bool,.int .i64,.int .i64] a_Proof),(.int .i64 a_Witness_0),(.int .i64 a_Witness_1),(.int .i64 a_Witness_2),(.int .i64 a_Witness_3),(.int .i64 a_Twin),(.int .i64 a_Spent)]),(.agg [(.int .i64 b_Kind),(.list true [.bool,.int .i64,.int .i64] b_Proof),(.int .i64 b_Witness_0),(.int .i64 b_Witness_1),(.int .i64 b_Witness_2),(.int .i64 b_Witness_3),(.int .i64 b_Twin),(.int .i64 b_Spent)])] =
 (cond (a_Kind==b_Kind)
 (cond (z2u a_Proof b_Proof)
 (cond (a_Witness_0==b_Witness_0&&(a_Witness_1==b_Witness_1&&(a_Witness_2==b_Witness_2&&(a_Witness_3==b_Witness_3&&true))))
 (cond (a_Twin==b_Twin) (some ((.bool (a_Spent==b_Spent)),[])) (some ((.bool false),[])))
 (some ((.bool false),[])))
 (some ((.bool false),[])))
 (some ((.bool false),[]))):=by kernel_rfl
def z3l (N:Nat):Env:=mkE [] [] 14 N
theorem z9l (N:Nat) (v_Kind:Int) (v_Proof:List IV) (v_Witness_0:Int) (v_Witness_1:Int) (v_Witness_2:Int) (v_Witness_3:Int) (v_Twin:Int) (v_Spent:Int):z6z (z3l N) z5q [.cell 2 26] [[.int .i64,.list true [.bool,.int .i64,.int .i64],.int .i64,.int .i64,.int .i64,.int .i64,.int .i64,.int .i64]] [(.agg [(.int .i64 v_Kind),(.list true [.bool,.int .i64,.int .i64] v_Proof),(.int .i64 v_Witness_0),(.int .i64 v_Witness_1),(.int .i64 v_Witness_2),(.int .i64 v_Witness_3),(.int .i64 v_Twin),(.int .i64 v_Spent)])] =
 (cond (decide (0≤min (ic (List.length v_Proof)) 40)&&decide (min (ic (List.length v_Proof)) 40≤ic (List.length v_Proof)))
 (cond (decide ((0+List.length (List.drop 0 (List.take (Int.toNat (min (ic (List.length v_Proof)) 40)) v_Proof)))*TI.bytes (Env.tyd (z3l N) 39)≤z0y))
 (some ((.agg [(.int .i64 v_Kind),(.list true [.bool,(.int .i64),(.int .i64)] (List.drop 0 (List.take (0+List.length (List.drop 0 (List.take (Int.toNat (min (ic (List.length v_Proof)) 40)) v_Proof))) (List.take 0 []++List.drop 0 (List.take (Int.toNat (min (ic (List.length v_Proof)) 40)) v_Proof))))),(.int .i64 v_Witness_0),(.int .i64 v_Witness_1),(.int .i64 v_Witness_2),(.int .i64 v_Witness_3),(.int .i64 v_Twin),(.int .i64 v_Spent)]),[]))
 none)
 none):=by kernel_rfl
open Go Go.Proofs
theorem zla (s sep:ByteArray) (h:1≤sep.size):0 < ((z1d s sep).map IV.str).length:=by
  rw [List.length_map]
  unfold z1d
  rw [Lib.splitB_all sep h 0 _ s rfl]
  omega
theorem zdq (s:ByteArray):decide (0 < ic (List.length (List.map IV.str (z1d s zo9))))=true:=decide_eq_true (by
  have:=zla s zo9 (by decide)
  simp only [ic]
  omega)
theorem zd1 {s sep:ByteArray} (h:s.size < 4294967281):decide (ByteArray.size (z90 s sep) < 4294967281)=true:=decide_eq_true (by
  have:=(zb7 s sep).1
  omega)
theorem znb {s:ByteArray} (h:(s.toList==z0p.toList)=false):(zjb s zk5).size < s.size:=by
  have h0:0 < s.size:=by
    rcases Nat.eq_zero_or_pos s.size with e | e
    · exfalso
      have:s=z0p:=ByteArray.ext (Array.eq_empty_of_size_eq_zero e)
      rw [this] at h
      simp at h
    · exact e
  have h0:0 < s.data.toList.length:=h0
  show (Lib.cut s.data.toList zk5.data.toList).2.1.toArray.size < s.data.toList.length
  rw [List.size_toArray]
  unfold Lib.cut
  split
  · have e1:(zk5.data.toList).length=1:=rfl
    rw [List.length_drop,e1]
    omega
  · exact h0
theorem dsp:decide (1≤ByteArray.size zo9)=true:=rfl
theorem zip (N:Nat) (a0 a2 a3 a4 a5 a6 a7 b0 b2 b3 b4 b5 b6 b7:Int) (K:Out→St→Res)
    (hx:∀ s (p:List IV),K (.exit 1) ⟨[(2,(.ptr 2 0 0)),(4,(.str s)),(7,(.ptr 7 0 0))],[(2,(some (.box [(.int .i64 a0),.zs,(.int .i64 a2),(.int .i64 a3),(.int .i64 a4),(.int .i64 a5),(.int .i64 a6),(.int .i64 a7)]))),(7,(some (.box [(.int .i64 b0),(.row 51 0 p.length),(.int .i64 b2),(.int .i64 b3),(.int .i64 b4),(.int .i64 b5),(.int .i64 b6),(.int .i64 b7)]))),(51,(some (.row true 39 true [.bool,(.int .i64),(.int .i64)] p)))]⟩=some ((.agg [(.int .i64 b0),(.list true [.bool,(.int .i64),(.int .i64)] (List.drop 0 (List.take p.length p))),(.int .i64 b2),(.int .i64 b3),(.int .i64 b4),(.int .i64 b5),(.int .i64 b6),(.int .i64 b7)]),[])) :
    ∀ (m n:Nat) (s:ByteArray) (p:List IV),s.size < m→m≤n→s.size < 4294967281 →
      lpE (z05 N) (z2n z09 [1,1,1,1,0,1,0,1,0,1,0,0]) ⟨[2,4,7],[2,7,51],[⟨(.cell 7 1),51,39,true,[.bool,(.int .i64),(.int .i64)]⟩]⟩ n ⟨[(2,(.ptr 2 0 0)),(4,(.str s)),(7,(.ptr 7 0 0))],[(2,(some (.box [(.int .i64 a0),.zs,(.int .i64 a2),(.int .i64 a3),(.int .i64 a4),(.int .i64 a5),(.int .i64 a6),(.int .i64 a7)]))),(7,(some (.box [(.int .i64 b0),(.row 51 0 p.length),(.int .i64 b2),(.int .i64 b3),(.int .i64 b4),(.int .i64 b5),(.int .i64 b6),(.int .i64 b7)]))),(51,(some (.row true 39 true [.bool,(.int .i64),(.int .i64)] p)))]⟩ K =
      some ((.agg [(.int .i64 b0),(.list true [.bool,(.int .i64),(.int .i64)] (z8l m s p)),(.int .i64 b2),(.int .i64 b3),(.int .i64 b4),(.int .i64 b5),(.int .i64 b6),(.int .i64 b7)]),[])
  | m+1,n+1,s,p,hm,hn,hs=>by
    rw [z1i,zcp]
    have ep:List.drop 0 (List.take p.length p)=p:=by rw [List.drop_zero,List.take_length]
    have e65:decide (ic (p.length - 0)≤65536)=decide (p.length≤65536):=by
      rw [Bool.eq_iff_iff]
      simp only [decide_eq_true_eq,ic]
      omega
    unfold z8l
    rw [e65]
    cases h1:(s.toList==z0p.toList) with
    | true=>
      simp only [Bool.not_true,z56,Bool.false_and]
      refine (hx s p).trans ?_
      rw [ep]
    | false=>
      simp only [Bool.not_false,z1l,Bool.true_and]
      cases h2:decide (p.length≤65536) with
      | false=>
        simp only [z56]
        refine (hx s p).trans ?_
        rw [ep]
      | true=>
        have h2:=of_decide_eq_true h2
        simp only [z1l]
        have hlt:=znb h1
        rw [decide_eq_true hs,zd1 hs,dsp,zdq]
        simp only [Nat.le_refl,decide_true,Bool.and_true,z1l]
        have et:TI.bytes (Env.tyd (z05 N) 39)=24:=rfl
        rw [et]
        have eb:∀ x:IV,decide ((p.length+List.length (List.drop 0 (List.take 1 [x])))*24≤z0y)=true:=fun x=>decide_eq_true (by
          show (p.length+1)*24≤70368744177664
          omega)
        rw [eb,eb]
        simp only [z1l]
        have el:∀ x:IV,p.length+List.length (List.drop 0 (List.take 1 [x]))=(p++[x]).length:=fun x=>by
          rw [List.length_append]; rfl
        have er:∀ x:IV,List.take p.length p++List.drop 0 (List.take 1 [x])=p++[x]:=fun x=>by
          rw [List.take_length]; rfl
        have ih:=fun x:IV=>zip N a0 a2 a3 a4 a5 a6 a7 b0 b2 b3 b4 b5 b6 b7 K hx m n (zjb s zk5) (p++[x]) (by omega) (by omega) (by omega)
        unfold zio zcc
        have ez:Int.toNat 0=0:=rfl
        rw [ez]
        unfold z2q
        cases h3:(ByteArray.toList (IV.toStr (List.getD (List.map IV.str (z1d (z90 s zk5) zo9)) 0 default))==ByteArray.toList zgw) with
        | true=>
          simp only [z1l]
          rw [el,er]
          exact ih _
        | false=>
          simp only [z56]
          rw [el,er]
          exact ih _
  | 0,_,_,_,h,_,_=>by omega
  | _+1,0,_,_,_,h,_=>by omega
theorem zn2 {a b c:Int} (h:IntKind.wrap .i64 (a+b)=c):IntKind.wrap .i64 (a+b)=c:=h
theorem znp (N n:Nat) (l:List IV) (x w0 w1 w2 w3:Int) (K:Out→St→Res):lpE (z05 N) (z2n z09 [1,1,1,1,0,1,0,1,1,1,0,1,0,1,0,0]) ⟨[2,6,7,66],[2,7],[]⟩ (n+1) ⟨[(2,(.ptr 2 0 0)),(6,(.list false [.str] l)),(7,(.ptr 7 0 0)),(66,(.int .i64 0))],[(2,(some (.box [(.int .i64 0),.zs,(.int .i64 0),(.int .i64 0),(.int .i64 0),(.int .i64 0),(.int .i64 0),(.int .i64 0)]))),(7,(some (.box [(.int .i64 2),.zs,(.int .i64 w0),(.int .i64 w1),(.int .i64 w2),(.int .i64 w3),(.int .i64 0),(.int .i64 x)])))]⟩ K =
    lpE (z05 N) (z2n z09 [1,1,1,1,0,1,0,1,1,1,0,1,0,1,0,0]) ⟨[2,6,7,66],[2,7],[]⟩ n ⟨[(2,(.ptr 2 0 0)),(6,(.list false [.str] l)),(7,(.ptr 7 0 0)),(66,(.int .i64 1))],[(2,(some (.box [(.int .i64 0),.zs,(.int .i64 0),(.int .i64 0),(.int .i64 0),(.int .i64 0),(.int .i64 0),(.int .i64 0)]))),(7,(some (.box [(.int .i64 2),.zs,(.int .i64 (z0i l 2)),(.int .i64 w1),(.int .i64 w2),(.int .i64 w3),(.int .i64 0),(.int .i64 x)])))]⟩ K:=by
  rw [z1i,z2f,zn2 (a:=2) (b:=0) (c:=2) rfl,zn2 (a:=0) (b:=1) (c:=1) rfl]
  simp only [show decide ((0:Int) < 4)=true from rfl,show decide ((0:Int)≤2)=true from rfl,show decide ((0:Int)=ic 0)=true from rfl,z1l]
theorem znq (N n:Nat) (l:List IV) (x w0 w1 w2 w3:Int) (K:Out→St→Res):lpE (z05 N) (z2n z09 [1,1,1,1,0,1,0,1,1,1,0,1,0,1,0,0]) ⟨[2,6,7,66],[2,7],[]⟩ (n+1) ⟨[(2,(.ptr 2 0 0)),(6,(.list false [.str] l)),(7,(.ptr 7 0 0)),(66,(.int .i64 1))],[(2,(some (.box [(.int .i64 0),.zs,(.int .i64 0),(.int .i64 0),(.int .i64 0),(.int .i64 0),(.int .i64 0),(.int .i64 0)]))),(7,(some (.box [(.int .i64 2),.zs,(.int .i64 w0),(.int .i64 w1),(.int .i64 w2),(.int .i64 w3),(.int .i64 0),(.int .i64 x)])))]⟩ K =
    lpE (z05 N) (z2n z09 [1,1,1,1,0,1,0,1,1,1,0,1,0,1,0,0]) ⟨[2,6,7,66],[2,7],[]⟩ n ⟨[(2,(.ptr 2 0 0)),(6,(.list false [.str] l)),(7,(.ptr 7 0 0)),(66,(.int .i64 2))],[(2,(some (.box [(.int .i64 0),.zs,(.int .i64 0),(.int .i64 0),(.int .i64 0),(.int .i64 0),(.int .i64 0),(.int .i64 0)]))),(7,(some (.box [(.int .i64 2),.zs,(.int .i64 w0),(.int .i64 (z0i l 3)),(.int .i64 w2),(.int .i64 w3),(.int .i64 0),(.int .i64 x)])))]⟩ K:=by
  rw [z1i,z2f,zn2 (a:=2) (b:=1) (c:=3) rfl,zn2 (a:=1) (b:=1) (c:=2) rfl]
  simp only [show decide ((1:Int) < 4)=true from rfl,show decide ((0:Int)≤3)=true from rfl,show decide ((1:Int)=ic 0)=false from rfl,show decide ((1:Int)=ic 1)=true from rfl,z1l,z56]
theorem znr (N n:Nat) (l:List IV) (x w0 w1 w2 w3:Int) (K:Out→St→Res):lpE (z05 N) (z2n z09 [1,1,1,1,0,1,0,1,1,1,0,1,0,1,0,0]) ⟨[2,6,7,66],[2,7],[]⟩ (n+1) ⟨[(2,(.ptr 2 0 0)),(6,(.list false [.str] l)),(7,(.ptr 7 0 0)),(66,(.int .i64 2))],[(2,(some (.box [(.int .i64 0),.zs,(.int .i64 0),(.int .i64 0),(.int .i64 0),(.int .i64 0),(.int .i64 0),(.int .i64 0)]))),(7,(some (.box [(.int .i64 2),.zs,(.int .i64 w0),(.int .i64 w1),(.int .i64 w2),(.int .i64 w3),(.int .i64 0),(.int .i64 x)])))]⟩ K =
    lpE (z05 N) (z2n z09 [1,1,1,1,0,1,0,1,1,1,0,1,0,1,0,0]) ⟨[2,6,7,66],[2,7],[]⟩ n ⟨[(2,(.ptr 2 0 0)),(6,(.list false [.str] l)),(7,(.ptr 7 0 0)),(66,(.int .i64 3))],[(2,(some (.box [(.int .i64 0),.zs,(.int .i64 0),(.int .i64 0),(.int .i64 0),(.int .i64 0),(.int .i64 0),(.int .i64 0)]))),(7,(some (.box [(.int .i64 2),.zs,(.int .i64 w0),(.int .i64 w1),(.int .i64 (z0i l 4)),(.int .i64 w3),(.int .i64 0),(.int .i64 x)])))]⟩ K:=by
  rw [z1i,z2f,zn2 (a:=2) (b:=2) (c:=4) rfl,zn2 (a:=2) (b:=1) (c:=3) rfl]
  simp only [show decide ((2:Int) < 4)=true from rfl,show decide ((0:Int)≤4)=true from rfl,show decide ((2:Int)=ic 0)=false from rfl,show decide ((2:Int)=ic 1)=false from rfl,show decide ((2:Int)=ic 2)=true from rfl,z1l,z56]
theorem zns (N n:Nat) (l:List IV) (x w0 w1 w2 w3:Int) (K:Out→St→Res):lpE (z05 N) (z2n z09 [1,1,1,1,0,1,0,1,1,1,0,1,0,1,0,0]) ⟨[2,6,7,66],[2,7],[]⟩ (n+1) ⟨[(2,(.ptr 2 0 0)),(6,(.list false [.str] l)),(7,(.ptr 7 0 0)),(66,(.int .i64 3))],[(2,(some (.box [(.int .i64 0),.zs,(.int .i64 0),(.int .i64 0),(.int .i64 0),(.int .i64 0),(.int .i64 0),(.int .i64 0)]))),(7,(some (.box [(.int .i64 2),.zs,(.int .i64 w0),(.int .i64 w1),(.int .i64 w2),(.int .i64 w3),(.int .i64 0),(.int .i64 x)])))]⟩ K =
    lpE (z05 N) (z2n z09 [1,1,1,1,0,1,0,1,1,1,0,1,0,1,0,0]) ⟨[2,6,7,66],[2,7],[]⟩ n ⟨[(2,(.ptr 2 0 0)),(6,(.list false [.str] l)),(7,(.ptr 7 0 0)),(66,(.int .i64 4))],[(2,(some (.box [(.int .i64 0),.zs,(.int .i64 0),(.int .i64 0),(.int .i64 0),(.int .i64 0),(.int .i64 0),(.int .i64 0)]))),(7,(some (.box [(.int .i64 2),.zs,(.int .i64 w0),(.int .i64 w1),(.int .i64 w2),(.int .i64 (z0i l 5)),(.int .i64 0),(.int .i64 x)])))]⟩ K:=by
  rw [z1i,z2f,zn2 (a:=2) (b:=3) (c:=5) rfl,zn2 (a:=3) (b:=1) (c:=4) rfl]
  simp only [show decide ((3:Int) < 4)=true from rfl,show decide ((0:Int)≤5)=true from rfl,show decide ((3:Int)=ic 0)=false from rfl,show decide ((3:Int)=ic 1)=false from rfl,show decide ((3:Int)=ic 2)=false from rfl,show decide ((3:Int)=ic 3)=true from rfl,z1l,z56]
theorem znt (N n:Nat) (l:List IV) (x w0 w1 w2 w3:Int):lpE (z05 N) (z2n z09 [1,1,1,1,0,1,0,1,1,1,0,1,0,1,0,0]) ⟨[2,6,7,66],[2,7],[]⟩ (n+1) ⟨[(2,(.ptr 2 0 0)),(6,(.list false [.str] l)),(7,(.ptr 7 0 0)),(66,(.int .i64 4))],[(2,(some (.box [(.int .i64 0),.zs,(.int .i64 0),(.int .i64 0),(.int .i64 0),(.int .i64 0),(.int .i64 0),(.int .i64 0)]))),(7,(some (.box [(.int .i64 2),.zs,(.int .i64 w0),(.int .i64 w1),(.int .i64 w2),(.int .i64 w3),(.int .i64 0),(.int .i64 x)])))]⟩ (z1g 3 (kSq (z05 N) (z2n z09 [1,1,1,1,0,1,0,1,1,1,0,1,1]) (z1g 0 (kSq (z05 N) (z2n z09 [1,1,1,1,1]) (zbr (z05 N) none [(ResultVar.cell 2 26)] [[(.int .i64),(.list true [.bool,(.int .i64),(.int .i64)]),(.int .i64),(.int .i64),(.int .i64),(.int .i64),(.int .i64),(.int .i64)]]))))) =
    some ((.agg [(.int .i64 2),(.list true [.bool,(.int .i64),(.int .i64)] []),(.int .i64 w0),(.int .i64 w1),(.int .i64 w2),(.int .i64 w3),(.int .i64 (z0i l 6)),(.int .i64 x)]),[]):=by
  rw [z1i,z2f]
  simp only [show decide ((4:Int) < 4)=false from rfl,z56]
  exact zam N _ _ _ _ _ _ _ _ _ _ _ _ _ _ _ _
theorem zjv (N n:Nat) (l:List IV) (x:Int):lpE (z05 N) (z2n z09 [1,1,1,1,0,1,0,1,1,1,0,1,0,1,0,0]) ⟨[2,6,7,66],[2,7],[]⟩ (n+1+1+1+1+1) ⟨[(2,(.ptr 2 0 0)),(6,(.list false [.str] l)),(7,(.ptr 7 0 0)),(66,(.int .i64 0))],[(2,(some (.box [(.int .i64 0),.zs,(.int .i64 0),(.int .i64 0),(.int .i64 0),(.int .i64 0),(.int .i64 0),(.int .i64 0)]))),(7,(some (.box [(.int .i64 2),.zs,(.int .i64 0),(.int .i64 0),(.int .i64 0),(.int .i64 0),(.int .i64 0),(.int .i64 x)])))]⟩ (z1g 3 (kSq (z05 N) (z2n z09 [1,1,1,1,0,1,0,1,1,1,0,1,1]) (z1g 0 (kSq (z05 N) (z2n z09 [1,1,1,1,1]) (zbr (z05 N) none [(ResultVar.cell 2 26)] [[(.int .i64),(.list true [.bool,(.int .i64),(.int .i64)]),(.int .i64),(.int .i64),(.int .i64),(.int .i64),(.int .i64),(.int .i64)]]))))) =
    some ((.agg [(.int .i64 2),(.list true [.bool,(.int .i64),(.int .i64)] []),(.int .i64 (z0i l 2)),(.int .i64 (z0i l 3)),(.int .i64 (z0i l 4)),(.int .i64 (z0i l 5)),(.int .i64 (z0i l 6)),(.int .i64 x)]),[]):=
  (znp N (n+1+1+1+1) l x 0 0 0 0 _).trans ((znq N (n+1+1+1) l x _ 0 0 0 _).trans ((znr N (n+1+1) l x _ _ 0 0 _).trans ((zns N (n+1) l x _ _ _ 0 _).trans (znt N n l x _ _ _ _))))
set_option maxRecDepth 100000 in
theorem zf1:z9y PR B0 16 z40:=by
  refine z5t [(22,z2o),(20,z3v),(21,z2p)] [(7,⟨[2,4,7],[2,7,51],[⟨.cell 7 1,51,39,true,[.bool,.int .i64,.int .i64]⟩]⟩),(16,⟨[2,6,7,66],[2,7],[]⟩)] z40 [[.int .i64,.list true [.bool,.int .i64,.int .i64],.int .i64,.int .i64,.int .i64,.int .i64,.int .i64,.int .i64]] Tryd.func16 zhf ⟨zc7,zc8,z9r,trivial⟩ ?_
  intro vs r hwf h
  unfold z40 at h
  split at h
  · rename_i s
    refine ⟨s.size+1+1+1+1+1+1,?_⟩
    rw [← h]
    refine (zg8 (s.size+1+1+1+1+1+1) s).trans ?_
    simp only [R.get_br,R.get_ok,R.get_no]
    cases hs:decide (s.size < 4294967281) with
    | false=>rfl
    | true=>
      have hs:=of_decide_eq_true hs
      simp only [z1l]
      rw [zd1 hs,dsp,zdq]
      simp only [Nat.le_refl,decide_true,Bool.and_true,z1l]
      have ez:Int.toNat 0=0:=rfl
      rw [ez]
      unfold z3x zcc z2q
      have hlt:=(zb7 s zk5).2
      generalize List.map IV.str (z1d (z90 s zk5) zo9)=l
      generalize (ByteArray.toList (IV.toStr (List.getD l 0 default))==ByteArray.toList z4p)=q1
      generalize (ByteArray.toList (IV.toStr (List.getD l 0 default))==ByteArray.toList z9u)=q2
      generalize (ByteArray.toList (IV.toStr (List.getD l 0 default))==ByteArray.toList z4y)=q3
      generalize (ByteArray.toList (IV.toStr (List.getD l 0 default))==ByteArray.toList z9v)=q4
      cases q1
      · cases q2
        · cases q3
          · cases q4 <;> simp only [z1l,z56]
          · simp only [z1l,z56]
        · simp only [z1l,z56]
          exact zjv _ (s.size+1) _ _
      · simp only [z1l]
        exact zip _ _ _ _ _ _ _ _ _ _ _ _ _ _ _ _ (fun s' p=>zal _ s' _ _ _ _ _ _ _ _ _ _ _ _ _ _ _ p) ((zjb s zk5).size+1) _ (zjb s zk5) [] (by omega) (by omega) (by omega)
  · simp [R.get] at h
theorem zdb (s w:ByteArray) (l:List IV):s.size≤(z0s s w l).size:=by
  unfold z0s
  have:=z6q l (s++w)
  rw [ByteArray.size_append] at this
  rw [ByteArray.size_push]
  omega
theorem z4a:∀ (l:List IV) (s:ByteArray),s.size≤(z1b s l).size
  | [],s=>Nat.le_refl _
  | x :: l,s=>by
    unfold z1b
    refine Nat.le_trans ?_ (z4a l _)
    cases z73 x
    · exact zdb _ _ _
    · exact zdb _ _ _
theorem zdk (N:Nat) (l:List IV) (t:ByteArray) (K:Out→St→Res) (hl:l.length≤65536)
    (hx:∀ s x26 x27,K (.exit 1) ⟨[(2,(.str t)),(3,(.ptr 3 0 0)),(25,(.list true [.bool,(.int .i64),(.int .i64)] l)),(26,(.int .i64 x26)),(27,(.int .i64 x27))],[(3,(some (.bld s)))]⟩=some (.str s,[])) :
    ∀ (d i n:Nat) (s:ByteArray),i+d=l.length→d < n→(z1b s (l.drop i)).size≤strMax →
      lpE (z1m N) (z2n z1z [1,1,1,0,1,0,1,0,1,1,0,0]) ⟨[2,3,25,26,27],[3],[]⟩ n ⟨[(2,(.str t)),(3,(.ptr 3 0 0)),(25,(.list true [.bool,(.int .i64),(.int .i64)] l)),(26,(.int .i64 (ic l.length))),(27,(.int .i64 (i:Int)))],[(3,(some (.bld s)))]⟩ K=some (.str (z1b s (l.drop i)),[])
  | 0,i,n+1,s,hd,_,_=>by
    rw [z1i,z6f,zi9 (by omega),List.drop_of_length_le (l:=l) (i:=i) (by omega)]
    simp only [z56,z1b]
    exact hx s _ _
  | d+1,i,n+1,s,hd,hn,hs=>by
    have hi:i < l.length:=by omega
    rw [z1i,z6f,zg1 hi,zm8,zix (by omega),zfv hi]
    rw [List.drop_eq_getElem_cons hi] at hs ⊢
    simp only [z1b] at hs ⊢
    simp only [z1l,Bool.and_true]
    have hsz:=z4a (l.drop (i+1)) (cond (z73 l[i]) (z0s s zgw []) (z0s s zk4 [.int (z29 l[i]),.int (ziv l[i])]))
    have ih:=fun s' h'=>zdk N l t K hl hx d (i+1) n s' (by omega) (by omega) h'
    have es:(l[i].cell 0).toBool=z73 l[i]:=rfl
    rw [es]
    cases hc:z73 l[i] with
    | true=>
      rw [hc] at hsz hs
      simp only [z1l] at hsz hs ⊢
      rw [decide_eq_true (show (z0s s zgw []).size≤strMax by omega)]
      simp only [z1l]
      exact ih _ hs
    | false=>
      rw [hc] at hsz hs
      simp only [z56] at hsz hs ⊢
      have e2:List.drop 0 (List.take 2 [IV.int (IV.toInt (IV.cell l[i] 1)),IV.int (IV.toInt (IV.cell l[i] 2))])=[.int (z29 l[i]),.int (ziv l[i])]:=rfl
      rw [e2,decide_eq_true (show (z0s s zk4 [.int (z29 l[i]),.int (ziv l[i])]).size≤strMax by omega)]
      simp only [z1l]
      exact ih _ hs
  | 0,_,0,_,_,h,_=>by omega
  | _+1,_,0,_,_,h,_=>by omega
theorem zl4 {v:Vd} (h:v.right=true):v.proof.length≤65536:=by
  unfold Vd.right at h
  simp only [Bool.and_eq_true,Bool.or_eq_true] at h
  rcases h.2.2 with h1 | h1 | h1
  · have:=h1.2.2
    unfold zc9 at this
    simp only [Bool.and_eq_true,decide_eq_true_eq] at this
    exact this.2.1
  · have:=h1.2
    cases hp:v.proof with
    | nil=>simp
    | cons a b=>rw [hp] at this; cases this
  · have:=h1.2.2
    cases hp:v.proof with
    | nil=>simp
    | cons a b=>rw [hp] at this; cases this
set_option maxRecDepth 100000 in
theorem z4o:z9y PR B0 6 z1f:=by
  refine z5t [(5,z1y),(9,z3z),(10,z0x)] [(9,⟨[2,3,25,26,27],[3],[]⟩)] z1f [[.str]] Tryd.func6 zfy ⟨z7b,zf0,z4f,trivial⟩ ?_
  intro vs r hwf h
  unfold z1f at h
  split at h
  · rename_i k p a b c d t s
    refine ⟨p.length+1,?_⟩
    rw [← h]
    refine (zep (p.length+1) k p a b c d t s).trans ?_
    rw [R.get_br,R.get_ok,R.get_no] at h
    simp only [R.get_br,R.get_ok,R.get_no]
    cases hc:decide ((z0j ⟨k,p,a,b,c,d,t,s⟩).size≤strMax) with
    | false=>rw [hc] at h; cases h
    | true=>
      have hle:=of_decide_eq_true hc
      simp only [z1l]
      unfold z0j at hle ⊢
      cases hr:Vd.right ⟨k,p,a,b,c,d,t,s⟩ with
      | false=>rfl
      | true=>
        rw [hr] at hle
        simp only [Bool.not_true,z1l,z56] at hle ⊢
        have e2:∀ x y:IV,List.drop 0 (List.take 2 [x,y])=[x,y]:=fun _ _=>rfl
        have e1:∀ x:IV,List.drop 0 (List.take 1 [x])=[x]:=fun _=>rfl
        have e0:ByteArray.empty=z0p:=rfl
        simp only [e1,e2,e0]
        cases k1:k==1 with
        | true=>
          rw [k1] at hle
          simp only [z1l] at hle ⊢
          have h1:=z4a p (z0s z0p z4p [.int s,.int (ic p.length)])
          rw [decide_eq_true (show (z0s z0p z4p [.int s,.int (ic p.length)]).size≤strMax by omega)]
          simp only [z1l]
          have:=zdk (p.length+1) p z0p _ (zl4 hr) (fun s' x26 x27=>z9b (p.length+1) z0p p x26 x27 s') p.length 0 (p.length+1) (z0s z0p z4p [.int s,.int (ic p.length)]) (by omega) (by omega) (by rw [List.drop_zero]; exact hle)
          rw [List.drop_zero] at this
          exact this
        | false=>
          rw [k1] at hle
          simp only [z56] at hle ⊢
          cases k2:k==2 with
          | true=>
            rw [k2] at hle
            simp only [z1l] at hle ⊢
            have ew:(List.drop 0 (List.take (1+List.length [IV.int a,IV.int b,IV.int c,IV.int d]+List.length (List.drop 0 (List.take 1 [IV.int t]))) (List.take (1+List.length [IV.int a,IV.int b,IV.int c,IV.int d]) (List.take 1 [IV.int s]++[IV.int a,IV.int b,IV.int c,IV.int d])++List.drop 0 (List.take 1 [IV.int t]))))=[.int s,.int a,.int b,.int c,.int d,.int t]:=rfl
            simp only [e1] at ew
            rw [ew,decide_eq_true hle]
            rfl
          | false=>
            rw [k2] at hle
            simp only [z56] at hle ⊢
            cases k3:k==3 with
            | true=>
              rw [k3] at hle
              simp only [z1l] at hle ⊢
              rw [decide_eq_true hle]
              rfl
            | false=>
              rw [k3] at hle
              simp only [z56] at hle ⊢
              rw [decide_eq_true hle]
              rfl
  · simp [R.get] at h
set_option maxRecDepth 100000 in
theorem zcn:z9y PR B0 11 z3b:=by
  refine z5t [(6,z1f),(16,z40)] [] z3b [[.int .i64,.list true [.bool,.int .i64,.int .i64],.int .i64,.int .i64,.int .i64,.int .i64,.int .i64,.int .i64],[.bool]] Tryd.func11 zfx ⟨z4o,zf1,trivial⟩ ?_
  intro vs r hwf h
  unfold z3b at h
  split at h
  · rename_i s
    refine ⟨0,?_⟩
    rw [← h]
    refine (zeo 0 s).trans ?_
    simp only [R.get_br,R.get_ok,R.get_no] at h ⊢
    cases h1:decide (s.size < 4294967281) with
    | false=>rfl
    | true=>
      rw [h1] at h
      simp only [z1l] at h ⊢
      cases h2:decide ((z0j (z3x s)).size≤strMax) with
      | false=>rw [h2] at h; cases h
      | true=>
        simp only [z1l]
        unfold z8j zhp
        cases h3:(s.toList==z0p.toList) with
        | true=>rfl
        | false=>
          cases h4:((z0j (z3x s)).toList==s.toList) with
          | true=>rfl
          | false=>rfl
  · simp [R.get] at h
set_option maxRecDepth 100000 in
theorem z5z:z9y PR B0 12 z12:=by
  refine z5t [(17,z0m)] [] z12 [[.bool]] Tryd.func12 z72 ⟨z4e,trivial⟩ ?_
  intro vs r hwf h
  unfold z12 at h
  split at h
  · rename_i k p a b c d t s k' p' a' b' c' d' t' s'
    refine ⟨0,?_⟩
    rw [← h]
    refine (z6b 0 k p a b c d t s k' p' a' b' c' d' t' s').trans ?_
    simp only [R.get_ok]
    unfold zpc
    simp only [Bool.and_true]
    cases k==k'
    · rfl
    cases z2u p p'
    · rfl
    cases a==a' <;> cases b==b' <;> cases c==c' <;> cases d==d' <;> cases t==t' <;> rfl
  · simp [R.get] at h
set_option maxRecDepth 100000 in
theorem z8s:z9y PR B0 4 z1p:=by
  refine z5t [] [] z1p [[.int .i64,.list true [.bool,.int .i64,.int .i64],.int .i64,.int .i64,.int .i64,.int .i64,.int .i64,.int .i64]] Tryd.func4 zan trivial ?_
  intro vs r hwf h
  unfold z1p at h
  split at h
  · rename_i k p a b c d t s
    refine ⟨0,?_⟩
    rw [← h]
    refine (z9l 0 k p a b c d t s).trans ?_
    simp only [R.get_ok]
    have e0:(min (ic p.length) 40:Int)=((min p.length 40:Nat):Int):=by simp only [ic]; omega
    rw [e0]
    have e1:Int.toNat ((min p.length 40:Nat):Int)=min p.length 40:=rfl
    rw [e1]
    have e2:List.take (min p.length 40) p=List.take 40 p:=by rw [List.take_eq_take_iff]; omega
    rw [e2]
    have et:TI.bytes (Env.tyd (z3l 0) 39)=24:=rfl
    rw [et,List.drop_zero,decide_eq_true (show (0:Int)≤((min p.length 40:Nat):Int) by omega),decide_eq_true (show ((min p.length 40:Nat):Int)≤ic p.length by simp only [ic]; omega),decide_eq_true (show (0+(List.take 40 p).length)*24≤z0y by simp only [List.length_take,z0y]; omega)]
    simp only [Bool.and_true,z1l,List.take_zero,List.nil_append,Nat.zero_add,List.drop_zero,List.take_length]
  · simp [R.get] at h
open Go Go.Proofs
def z60 (N:Nat):Env:=mkE [(11,z3b),(6,z1f),(12,z12)] [] 33 N
theorem z5x (N:Nat):z6z (z60 N) z3d [.tmp 0] [[.bool]] [] =
 (some ((.bool true),[])):=by kernel_rfl
open Go Go.Proofs
set_option maxRecDepth 100000 in
theorem z5l:z9y PR B0 7 z0u:=by
  refine z5t [(11,z3b),(6,z1f),(12,z12)] [] z0u [[.bool]] Tryd.func7 z67 ⟨zcn,z4o,z5z,trivial⟩ ?_
  intro vs r hwf h
  unfold z0u at h
  split at h
  · refine ⟨0,?_⟩
    rw [← h]
    exact z5x 0
  · simp [R.get] at h
open Go
theorem zcw {s t:ByteArray} (h:s.data.toList=t.data.toList):s=t:=ByteArray.ext (Array.ext' h)
theorem zcv (s t:ByteArray):(s.toList==t.toList)=decide (s=t):=by
  rw [Lib.toList_data,Lib.toList_data]
  by_cases h:s=t
  · subst h; simp
  · rw [decide_eq_false h,beq_eq_false_iff_ne]
    exact fun e=>h (zcw e)
theorem z4w (s:ByteArray):s.size=s.data.toList.length:=by rw [Array.length_toList]; rfl
theorem z86 (u:Nat):∀ c∈Lib.decDigits u,48≤c.toNat∧c.toNat≤57:=by
  induction u using Nat.strongRecOn with
  | _ u ih=>
    intro c hc
    rw [Lib.decDigits] at hc
    split at hc
    · rename_i h
      simp only [List.mem_singleton] at hc
      subst hc
      rw [UInt8.toNat_ofNat_of_lt' (by simp [UInt8.size]; omega)]
      omega
    · rename_i h
      rw [List.mem_append,List.mem_singleton] at hc
      rcases hc with hc | hc
      · exact ih (u / 10) (by omega) c hc
      · subst hc
        rw [UInt8.toNat_ofNat_of_lt' (by simp [UInt8.size]; omega)]
        omega
theorem zmb (n:Int):∀ c∈Lib.itoa n,c.toNat=45∨(48≤c.toNat∧c.toNat≤57):=by
  intro c hc
  unfold Lib.itoa at hc
  split at hc
  · rcases List.mem_cons.1 hc with h | h
    · subst h; exact .inl rfl
    · exact .inr (z86 _ c h)
  · exact .inr (z86 _ c hc)
theorem zmc (n:Int) (c:UInt8) (hc:c.toNat < 45):c ∉ Lib.itoa n:=by
  intro h
  rcases zmb n c h with h1 | h1 <;> omega
def lnL (w:List UInt8) (l:List Int):List UInt8:=w++l.flatMap fun n=>32 :: Lib.itoa n
theorem zme (w:List UInt8) (n:Int) (l:List Int):lnL w (n :: l)=w++32 :: lnL (Lib.itoa n) l:=by simp [lnL]
theorem zoh (c:UInt8) (hc:c.toNat < 32) {w:List UInt8} (hw:c ∉ w) (l:List Int):c ∉ lnL w l:=by
  unfold lnL
  rw [List.mem_append,List.mem_flatMap]
  rintro (h | ⟨n,_,h⟩)
  · exact hw h
  · rcases List.mem_cons.1 h with e | e
    · subst e
      have:(32:UInt8).toNat=32:=rfl
      omega
    · exact zmc n c (by omega) e
open Go
theorem zfm (s t:ByteArray):(s++t).data.toList=s.data.toList++t.data.toList:=by simp
theorem zfn (s:ByteArray) (c:UInt8):(s.push c).data.toList=s.data.toList++[c]:=by simp [ByteArray.push]
theorem zjh (n:Int):(zee n).data.toList=Lib.itoa n:=rfl
theorem zde:∀ (l:List IV) (s:ByteArray),(z7q s l).data.toList=s.data.toList++(l.map IV.toInt).flatMap fun n=>32 :: Lib.itoa n
  | [],s=>by simp [z7q]
  | x :: l,s=>by
    rw [z7q,zde l,zfm,zfn,zjh]
    simp
theorem z2y (s w:ByteArray) (l:List IV):(z0s s w l).data.toList=s.data.toList++(lnL w.data.toList (l.map IV.toInt)++[10]):=by
  unfold z0s lnL
  rw [zfn,zde,zfm]
  simp
def zk0 (x:IV):List UInt8:=cond (z73 x) (lnL zgw.data.toList []) (lnL zk4.data.toList [z29 x,ziv x])
def z2m:List IV→List UInt8
  | []=>[]
  | x :: l=>zk0 x++10 :: z2m l
theorem z6e:∀ (l:List IV) (s:ByteArray),(z1b s l).data.toList=s.data.toList++z2m l
  | [],s=>by simp [z1b,z2m]
  | x :: l,s=>by
    rw [z1b,z6e l,z2m]
    unfold zk0
    cases z73 x
    · simp only [cond_false]
      rw [z2y]
      simp [IV.toInt]
    · simp only [cond_true]
      rw [z2y]
      simp
def z7n (n:Int):Prop := -9223372036854775808≤n∧n≤9223372036854775807
def zop (x:IV):Prop:=z7n (z29 x)∧z7n (ziv x)
structure Vd.rng (v:Vd):Prop where
  w0:z7n v.w0
  w1:z7n v.w1
  w2:z7n v.w2
  w3:z7n v.w3
  twin:z7n v.twin
  spent:z7n v.spent
  proof:∀ x∈v.proof,zop x
theorem zii:∀ (l:List IV) (s:ByteArray),(∀ x∈l,z7n x.toInt)→(z7q s l).size≤s.size+22*l.length
  | [],s,_=>Nat.le_refl _
  | x :: l,s,h=>by
    rw [z7q]
    refine Nat.le_trans (zii l _ (fun y hy=>h y (List.mem_cons_of_mem _ hy))) ?_
    have hx:=h x (List.mem_cons_self ..)
    have:=zd8 (n:=x.toInt) hx.1 hx.2
    rw [ByteArray.size_append,ByteArray.size_push,List.length_cons]
    omega
theorem z6o (s w:ByteArray) (l:List IV) (h:∀ x∈l,z7n x.toInt):(z0s s w l).size≤s.size+w.size+22*l.length+1:=by
  unfold z0s
  have:=zii l (s++w) h
  rw [ByteArray.size_append] at this
  rw [ByteArray.size_push]
  omega
theorem z8k:∀ (l:List IV) (s:ByteArray),(∀ x∈l,zop x)→(z1b s l).size≤s.size+48*l.length
  | [],s,_=>Nat.le_refl _
  | x :: l,s,h=>by
    rw [z1b]
    refine Nat.le_trans (z8k l _ (fun y hy=>h y (List.mem_cons_of_mem _ hy))) ?_
    have hx:=h x (List.mem_cons_self ..)
    rw [List.length_cons]
    cases z73 x
    · have:=z6o s zk4 [.int (z29 x),.int (ziv x)] (fun y hy=>by
        simp only [List.mem_cons,List.mem_nil_iff,or_false] at hy
        rcases hy with rfl | rfl
        · exact hx.1
        · exact hx.2)
      have e:zk4.size=3:=rfl
      simp only [cond_false,List.length_cons,List.length_nil] at this ⊢
      omega
    · have:=z6o s zgw [] (fun y hy=>by cases hy)
      have e:zgw.size=3:=rfl
      simp only [cond_true,List.length_nil] at this ⊢
      omega
open Go
theorem zhs {v:Vd} (h:v.right=true):v.proof.length≤65536:=by
  unfold Vd.right at h
  simp only [Bool.and_eq_true,Bool.or_eq_true] at h
  rcases h.2.2 with h1 | h1 | h1
  · have:=h1.2.2
    unfold zc9 at this
    simp only [Bool.and_eq_true,decide_eq_true_eq] at this
    exact this.2.1
  · have:=h1.2
    cases hp:v.proof with
    | nil=>simp
    | cons a b=>rw [hp] at this; cases this
  · have:=h1.2.2
    cases hp:v.proof with
    | nil=>simp
    | cons a b=>rw [hp] at this; cases this
theorem zhg {l:List Int} (h:∀ n∈l,z7n n):∀ x∈l.map IV.int,z7n x.toInt:=by
  intro x hx
  obtain ⟨n,hn,rfl⟩:=List.mem_map.1 hx
  exact h n hn
theorem zog {n:Nat} (h:n≤65536):z7n (ic n):=by unfold z7n ic; omega
theorem zl2 {v:Vd} (hr:v.rng):(z0j v).size≤4000000:=by
  unfold z0j
  cases h:v.right with
  | false=>simp only [cond_false]; decide
  | true=>
    simp only [cond_true]
    have hp:=zhs h
    cases v.kind==1 with
    | true=>
      simp only [cond_true]
      have h1:=z8k v.proof (z0s z0p z4p [.int v.spent,.int (ic v.proof.length)]) hr.proof
      have h2:=z6o z0p z4p [.int v.spent,.int (ic v.proof.length)] (zhg (l:=[v.spent,ic v.proof.length]) (by
        intro n hn
        simp only [List.mem_cons,List.mem_nil_iff,or_false] at hn
        rcases hn with rfl | rfl
        · exact hr.spent
        · exact zog hp))
      have e1:z0p.size=0:=rfl
      have e2:z4p.size=5:=rfl
      simp only [List.length_cons,List.length_nil] at h2
      omega
    | false=>
      simp only [cond_false]
      cases v.kind==2 with
      | true=>
        simp only [cond_true]
        have h2:=z6o z0p z9u [.int v.spent,.int v.w0,.int v.w1,.int v.w2,.int v.w3,.int v.twin] (zhg (l:=[v.spent,v.w0,v.w1,v.w2,v.w3,v.twin]) (by
          intro n hn
          simp only [List.mem_cons,List.mem_nil_iff,or_false] at hn
          rcases hn with rfl | rfl | rfl | rfl | rfl | rfl
          · exact hr.spent
          · exact hr.w0
          · exact hr.w1
          · exact hr.w2
          · exact hr.w3
          · exact hr.twin))
        have e1:z0p.size=0:=rfl
        have e2:z9u.size=5:=rfl
        simp only [List.length_cons,List.length_nil] at h2
        omega
      | false=>
        simp only [cond_false]
        have hs:∀ x∈[IV.int v.spent],z7n x.toInt:=zhg (l:=[v.spent]) (by
          intro n hn
          simp only [List.mem_cons,List.mem_nil_iff,or_false] at hn
          subst hn
          exact hr.spent)
        have e1:z0p.size=0:=rfl
        cases v.kind==3 with
        | true=>
          simp only [cond_true]
          have h2:=z6o z0p z4y [.int v.spent] hs
          have e2:z4y.size=7:=rfl
          simp only [List.length_cons,List.length_nil] at h2
          omega
        | false=>
          simp only [cond_false]
          have h2:=z6o z0p z9v [.int v.spent] hs
          have e2:z9v.size=5:=rfl
          simp only [List.length_cons,List.length_nil] at h2
          omega
open Go
theorem z8u {x y:IV}:zox x y=true↔z73 x=z73 y∧z29 x=z29 y∧ziv x=ziv y:=by simp [zox]
theorem zdn:∀ {l m:List IV},z2u l m=true→z2u m l=true
  | [],[],_=>rfl
  | [],_ :: _,h=>by simp [z2u] at h
  | _ :: _,[],h=>by simp [z2u] at h
  | x :: l,y :: m,h=>by
    simp only [z2u,Bool.and_eq_true] at h ⊢
    obtain ⟨h1,h2,h3⟩:=z8u.1 h.1
    exact ⟨z8u.2 ⟨h1.symm,h2.symm,h3.symm⟩,zdn h.2⟩
theorem zc3:∀ {l m n:List IV},z2u l m=true→z2u m n=true→z2u l n=true
  | [],[],[],_,_=>rfl
  | [],[],_ :: _,_,h=>by simp [z2u] at h
  | [],_ :: _,_,h,_=>by simp [z2u] at h
  | _ :: _,[],_,h,_=>by simp [z2u] at h
  | _ :: _,_ :: _,[],_,h=>by simp [z2u] at h
  | x :: l,y :: m,z :: n,h,k=>by
    simp only [z2u,Bool.and_eq_true] at h k ⊢
    obtain ⟨h1,h2,h3⟩:=z8u.1 h.1
    obtain ⟨k1,k2,k3⟩:=z8u.1 k.1
    exact ⟨z8u.2 ⟨h1.trans k1,h2.trans k2,h3.trans k3⟩,zc3 h.2 k.2⟩
structure VSame (a b:Vd):Prop where
  kind:a.kind=b.kind
  proof:z2u a.proof b.proof=true
  w0:a.w0=b.w0
  w1:a.w1=b.w1
  w2:a.w2=b.w2
  w3:a.w3=b.w3
  twin:a.twin=b.twin
  spent:a.spent=b.spent
theorem VSame.symm {a b:Vd} (h:VSame a b):VSame b a:=⟨h.kind.symm,zdn h.proof,h.w0.symm,h.w1.symm,h.w2.symm,h.w3.symm,h.twin.symm,h.spent.symm⟩
theorem VSame.trans {a b c:Vd} (h:VSame a b) (k:VSame b c):VSame a c:=⟨h.kind.trans k.kind,zc3 h.proof k.proof,h.w0.trans k.w0,h.w1.trans k.w1,h.w2.trans k.w2,h.w3.trans k.w3,h.twin.trans k.twin,h.spent.trans k.spent⟩
theorem zgi {v:Vd} (h:v.right=false):z0j v=z0p:=by
  unfold z0j
  rw [h]
  rfl
open Go
theorem zkt {w:List UInt8} (hw:(10:UInt8) ∉ w) (l:List Int):(lnL w l).count 10=0:=List.count_eq_zero_of_not_mem (zoh 10 (by decide) hw l)
theorem zgs:∀ l:List IV,(z2m l).count 10=l.length
  | []=>rfl
  | x :: l=>by
    rw [z2m,List.count_append,List.count_cons,zgs l]
    have:(zk0 x).count 10=0:=by
      unfold zk0
      cases z73 x
      · exact zkt (by decide) _
      · exact zkt (by decide) _
    rw [this,List.length_cons]
    simp
theorem zdr:∀ (l:List IV) (r:List UInt8),(r++10 :: z2m l).getLast?=some 10
  | [],r=>by simp [z2m]
  | x :: l,r=>by
    rw [z2m,show r++10 :: (zk0 x++10 :: z2m l)=(r++10 :: zk0 x)++10 :: z2m l by simp]
    exact zdr l _
def zm7 (k:Int):ByteArray:=cond (k==1) ⟨#[104,111,108,100,115,32]⟩ (cond (k==2) ⟨#[102,97,105,108,115,32]⟩ (cond (k==3) ⟨#[117,110,107,110,111,119,110,32]⟩ (cond (k==4) ⟨#[119,114,111,110,103,32]⟩ z0p)))
theorem zhq {v:Vd} (hr':v.right=true):(zm7 v.kind).size≠0∧∃ r,(z0j v).data.toList=(zm7 v.kind).data.toList++r∧r≠[]∧(z0j v).data.toList.count 10=1+v.proof.length∧(z0j v).data.toList.getLast?=some 10:=by
  have hr:=hr'
  unfold Vd.right at hr
  simp only [Bool.and_eq_true,Bool.or_eq_true,beq_iff_eq] at hr
  have key:∀ (w:List UInt8) (n:Int) (l:List Int) (p:List IV) (h:List UInt8),(10:UInt8) ∉ w→h=w++[32]→(z0j v).data.toList=lnL w (n :: l)++10 :: z2m p→p.length=v.proof.length →
      ∃ r,(z0j v).data.toList=h++r∧r≠[]∧(z0j v).data.toList.count 10=1+v.proof.length∧(z0j v).data.toList.getLast?=some 10:=by
    intro w n l p h hw e he hp
    refine ⟨lnL (Lib.itoa n) l++10 :: z2m p,?_,by simp,?_,?_⟩
    · rw [he,e,zme]
      simp
    · rw [he,List.count_append,zkt hw,List.count_cons,zgs,hp]
      simp
      omega
    · rw [he]
      exact zdr _ _
  rcases hr.2.2 with ⟨hk,hb,hs⟩ | ⟨hk,he⟩ | ⟨hk,hb,he⟩
  · have hd:(z0j v).data.toList=lnL z4p.data.toList [v.spent,ic v.proof.length]++10 :: z2m v.proof:=by
      unfold z0j
      rw [hr',hk]
      have e1:((1:Int)==1)=true:=rfl
      simp only [cond_true,e1]
      rw [z6e,z2y]
      simp [IV.toInt]
    rw [hk]
    exact ⟨by decide,key _ _ _ _ _ (by decide) rfl hd rfl⟩
  · have hp:v.proof=[]:=by simpa using he
    have hd:(z0j v).data.toList=lnL z9u.data.toList [v.spent,v.w0,v.w1,v.w2,v.w3,v.twin]++10 :: z2m []:=by
      unfold z0j
      rw [hr',hk]
      have e1:((2:Int)==1)=false:=rfl
      have e2:((2:Int)==2)=true:=rfl
      simp only [cond_true,cond_false,e1,e2]
      rw [z2y]
      simp [IV.toInt,z2m]
    rw [hk]
    exact ⟨by decide,key _ _ _ _ _ (by decide) rfl hd (by rw [hp])⟩
  · have hp:v.proof=[]:=by simpa using he
    rcases hk with hk | hk
    · have hd:(z0j v).data.toList=lnL z4y.data.toList [v.spent]++10 :: z2m []:=by
        unfold z0j
        rw [hr',hk]
        have e1:((3:Int)==1)=false:=rfl
        have e2:((3:Int)==2)=false:=rfl
        have e3:((3:Int)==3)=true:=rfl
        simp only [cond_true,cond_false,e1,e2,e3]
        rw [z2y]
        simp [IV.toInt,z2m]
      rw [hk]
      exact ⟨by decide,key _ _ _ _ _ (by decide) rfl hd (by rw [hp])⟩
    · have hd:(z0j v).data.toList=lnL z9v.data.toList [v.spent]++10 :: z2m []:=by
        unfold z0j
        rw [hr',hk]
        have e1:((4:Int)==1)=false:=rfl
        have e2:((4:Int)==2)=false:=rfl
        have e3:((4:Int)==3)=false:=rfl
        simp only [cond_true,cond_false,e1,e2,e3]
        rw [z2y]
        simp [IV.toInt,z2m]
      rw [hk]
      exact ⟨by decide,key _ _ _ _ _ (by decide) rfl hd (by rw [hp])⟩
open Go Go.Proofs
def z0b (N:Nat):Env:=mkE [(6,z1f),(5,z1y),(7,z0u),(4,z1p)] [(7,⟨[1,2,3,4,21,22],[1],[]⟩)] 73 N
theorem z5g (N:Nat) (v_Kind:Int) (v_Proof:List IV) (v_Witness_0:Int) (v_Witness_1:Int) (v_Witness_2:Int) (v_Witness_3:Int) (v_Twin:Int) (v_Spent:Int):z6z (z0b N) z0g [.tmp 2] [[.bool]] [(.agg [(.int .i64 v_Kind),(.list true [.bool,.int .i64,.int .i64] v_Proof),(.int .i64 v_Witness_0),(.int .i64 v_Witness_1),(.int .i64 v_Witness_2),(.int .i64 v_Witness_3),(.int .i64 v_Twin),(.int .i64 v_Spent)])] =
 (cond (!Vd.right {kind:=v_Kind,proof:=List.take 40 v_Proof,w0:=v_Witness_0,w1:=v_Witness_1,w2:=v_Witness_2,w3:=v_Witness_3,twin:=v_Twin,spent:=v_Spent})
 (cond (decide (ByteArray.size (z0j {kind:=v_Kind,proof:=List.take 40 v_Proof,w0:=v_Witness_0,w1:=v_Witness_1,w2:=v_Witness_2,w3:=v_Witness_3,twin:=v_Twin,spent:=v_Spent})≤strMax))
 (cond (ByteArray.toList (z0j {kind:=v_Kind,proof:=List.take 40 v_Proof,w0:=v_Witness_0,w1:=v_Witness_1,w2:=v_Witness_2,w3:=v_Witness_3,twin:=v_Twin,spent:=v_Spent})==ByteArray.toList {data:=#[]})
 (some ((.bool true),[]))
 (some ((.bool false),[])))
 none)
 (cond (decide (ByteArray.size (z0j {kind:=v_Kind,proof:=List.take 40 v_Proof,w0:=v_Witness_0,w1:=v_Witness_1,w2:=v_Witness_2,w3:=v_Witness_3,twin:=v_Twin,spent:=v_Spent})≤strMax))
 (lpE (z0b N) (z2n z0g [1,1,1,1,1,0,1,0,0]) ⟨[1,2,3,4,21,22],[1],[]⟩ N ⟨[(1,(.ptr 1 0 0)),(2,(.bool false)),(3,(.str (z0j {kind:=v_Kind,proof:=List.take 40 v_Proof,w0:=v_Witness_0,w1:=v_Witness_1,w2:=v_Witness_2,w3:=v_Witness_3,twin:=v_Twin,spent:=v_Spent}))),(4,(.int .i64 0)),(21,(.int .i64 (ic (ByteArray.size (z0j {kind:=v_Kind,proof:=List.take 40 v_Proof,w0:=v_Witness_0,w1:=v_Witness_1,w2:=v_Witness_2,w3:=v_Witness_3,twin:=v_Twin,spent:=v_Spent}))))),(22,(.int .i64 0))],[(1,(some (.box [(.int .i64 v_Kind),(.list true [.bool,(.int .i64),(.int .i64)] (List.take 40 v_Proof)),(.int .i64 v_Witness_0),(.int .i64 v_Witness_1),(.int .i64 v_Witness_2),(.int .i64 v_Witness_3),(.int .i64 v_Twin),(.int .i64 v_Spent)])))]⟩ (z1g 0 (kSq (z0b N) (z2n z0g [1,1,1,1,1,1]) (zbr (z0b N) none [(ResultVar.tmp 2)] [[.bool]]))))
 none)):=by kernel_rfl
theorem z2g (N:Nat) (b2:Bool) (s3:ByteArray) (x4:Int) (x21:Int) (x22:Int) (xo1_0:Int) (lo1_1:List IV) (xo1_2:Int) (xo1_3:Int) (xo1_4:Int) (xo1_5:Int) (xo1_6:Int) (xo1_7:Int) (again:St→Res) (k:Out→St→Res):rnd (z0b N) (z2n z0g [1,1,1,1,1,0,1,0,0])
 ⟨[(1,(.ptr 1 0 0)),(2,(.bool b2)),(3,(.str s3)),(4,(.int .i64 x4)),(21,(.int .i64 x21)),(22,(.int .i64 x22))],[(1,(some (.box [(.int .i64 xo1_0),(.list true [.bool,(.int .i64),(.int .i64)] lo1_1),(.int .i64 xo1_2),(.int .i64 xo1_3),(.int .i64 xo1_4),(.int .i64 xo1_5),(.int .i64 xo1_6),(.int .i64 xo1_7)])))]⟩
 (zef again ⟨[1,2,3,4,21,22],[1],[]⟩ k) =
 (cond (decide (x22 < x21))
 (cond (decide (0≤x22)&&decide (x22 < ic (ByteArray.size s3)))
 (cond (ic (UInt8.toNat (List.getD (Array.toList (ByteArray.data s3)) (Int.toNat x22) 0))==10)
 (again ⟨[(1,(.ptr 1 0 0)),(2,(.bool b2)),(3,(.str s3)),(4,(.int .i64 (IntKind.wrap IntKind.i64 (x4+1)))),(21,(.int .i64 x21)),(22,(.int .i64 (IntKind.wrap IntKind.i64 (x22+1))))],[(1,(some (.box [(.int .i64 xo1_0),(.list true [.bool,(.int .i64),(.int .i64)] lo1_1),(.int .i64 xo1_2),(.int .i64 xo1_3),(.int .i64 xo1_4),(.int .i64 xo1_5),(.int .i64 xo1_6),(.int .i64 xo1_7)])))]⟩)
 (again ⟨[(1,(.ptr 1 0 0)),(2,(.bool b2)),(3,(.str s3)),(4,(.int .i64 x4)),(21,(.int .i64 x21)),(22,(.int .i64 (IntKind.wrap IntKind.i64 (x22+1))))],[(1,(some (.box [(.int .i64 xo1_0),(.list true [.bool,(.int .i64),(.int .i64)] lo1_1),(.int .i64 xo1_2),(.int .i64 xo1_3),(.int .i64 xo1_4),(.int .i64 xo1_5),(.int .i64 xo1_6),(.int .i64 xo1_7)])))]⟩))
 none)
 (k (.exit 0) ⟨[(1,(.ptr 1 0 0)),(2,(.bool b2)),(3,(.str s3)),(4,(.int .i64 x4)),(21,(.int .i64 x21)),(22,(.int .i64 x22))],[(1,(some (.box [(.int .i64 xo1_0),(.list true [.bool,(.int .i64),(.int .i64)] lo1_1),(.int .i64 xo1_2),(.int .i64 xo1_3),(.int .i64 xo1_4),(.int .i64 xo1_5),(.int .i64 xo1_6),(.int .i64 xo1_7)])))]⟩)):=by kernel_rfl
theorem z44 (N:Nat) (b2:Bool) (s3:ByteArray) (x4:Int) (x21:Int) (x22:Int) (xo1_0:Int) (lo1_1:List IV) (xo1_2:Int) (xo1_3:Int) (xo1_4:Int) (xo1_5:Int) (xo1_6:Int) (xo1_7:Int):(z1g 0 (kSq (z0b N) (z2n z0g [1,1,1,1,1,1]) (zbr (z0b N) none [(ResultVar.tmp 2)] [[.bool]]))) (.exit 0)
 ⟨[(1,(.ptr 1 0 0)),(2,(.bool b2)),(3,(.str s3)),(4,(.int .i64 x4)),(21,(.int .i64 x21)),(22,(.int .i64 x22))],[(1,(some (.box [(.int .i64 xo1_0),(.list true [.bool,(.int .i64),(.int .i64)] lo1_1),(.int .i64 xo1_2),(.int .i64 xo1_3),(.int .i64 xo1_4),(.int .i64 xo1_5),(.int .i64 xo1_6),(.int .i64 xo1_7)])))]⟩ =
 (cond (x4==IntKind.wrap IntKind.i64 (1+ic (List.length lo1_1)))
 (cond (decide (ic (ByteArray.size s3) > ic (ByteArray.size (IV.toStr (zgz Kd.str (z5r (z5r (z5r (z5r [] 1 (IV.str {data:=#[104,111,108,100,115,32]})) 2 (IV.str {data:=#[102,97,105,108,115,32]})) 3 (IV.str {data:=#[117,110,107,110,111,119,110,32]})) 4 (IV.str {data:=#[119,114,111,110,103,32]})) xo1_0)))))
 (cond (!ByteArray.toList (IV.toStr (zgz Kd.str (z5r (z5r (z5r (z5r [] 1 (IV.str {data:=#[104,111,108,100,115,32]})) 2 (IV.str {data:=#[102,97,105,108,115,32]})) 3 (IV.str {data:=#[117,110,107,110,111,119,110,32]})) 4 (IV.str {data:=#[119,114,111,110,103,32]})) xo1_0))==ByteArray.toList {data:=#[]})
 (cond (decide (0≤ic (ByteArray.size (IV.toStr (zgz Kd.str (z5r (z5r (z5r (z5r [] 1 (IV.str {data:=#[104,111,108,100,115,32]})) 2 (IV.str {data:=#[102,97,105,108,115,32]})) 3 (IV.str {data:=#[117,110,107,110,111,119,110,32]})) 4 (IV.str {data:=#[119,114,111,110,103,32]})) xo1_0))))&&decide (ic (ByteArray.size (IV.toStr (zgz Kd.str (z5r (z5r (z5r (z5r [] 1 (IV.str {data:=#[104,111,108,100,115,32]})) 2 (IV.str {data:=#[102,97,105,108,115,32]})) 3 (IV.str {data:=#[117,110,107,110,111,119,110,32]})) 4 (IV.str {data:=#[119,114,111,110,103,32]})) xo1_0)))≤ic (ByteArray.size s3)))
 (cond (ByteArray.toList (ByteArray.extract s3 0 (Int.toNat (ic (ByteArray.size (IV.toStr (zgz Kd.str (z5r (z5r (z5r (z5r [] 1 (IV.str {data:=#[104,111,108,100,115,32]})) 2 (IV.str {data:=#[102,97,105,108,115,32]})) 3 (IV.str {data:=#[117,110,107,110,111,119,110,32]})) 4 (IV.str {data:=#[119,114,111,110,103,32]})) xo1_0))))))==ByteArray.toList (IV.toStr (zgz Kd.str (z5r (z5r (z5r (z5r [] 1 (IV.str {data:=#[104,111,108,100,115,32]})) 2 (IV.str {data:=#[102,97,105,108,115,32]})) 3 (IV.str {data:=#[117,110,107,110,111,119,110,32]})) 4 (IV.str {data:=#[119,114,111,110,103,32]})) xo1_0)))
 (cond (decide (0≤IntKind.wrap IntKind.i64 (ic (ByteArray.size s3) - 1))&&decide (IntKind.wrap IntKind.i64 (ic (ByteArray.size s3) - 1) < ic (ByteArray.size s3)))
 (cond (ic (UInt8.toNat (List.getD (Array.toList (ByteArray.data s3)) (Int.toNat (IntKind.wrap IntKind.i64 (ic (ByteArray.size s3) - 1))) 0))==10)
 (some ((.bool true),[]))
 (some ((.bool false),[])))
 none)
 (some ((.bool false),[])))
 none)
 (some ((.bool false),[])))
 (some ((.bool false),[])))
 (some ((.bool false),[]))):=by kernel_rfl
open Go Go.Proofs
abbrev xsC (v:Vd) (s:ByteArray) (c i:Int):St:=
  ⟨[(1,(.ptr 1 0 0)),(2,(.bool false)),(3,(.str s)),(4,(.int .i64 c)),(21,(.int .i64 (ic s.size))),(22,(.int .i64 i))],[(1,(some (.box [(.int .i64 v.kind),(.list true [.bool,(.int .i64),(.int .i64)] v.proof),(.int .i64 v.w0),(.int .i64 v.w1),(.int .i64 v.w2),(.int .i64 v.w3),(.int .i64 v.twin),(.int .i64 v.spent)])))]⟩
theorem zkc (c:UInt8):(ic (UInt8.toNat c)==10)=(c==10):=by
  rw [Bool.eq_iff_iff,beq_iff_eq,beq_iff_eq]
  constructor
  · intro h
    apply UInt8.toNat_inj.1
    have h:((c.toNat:Nat):Int)=10:=h
    show c.toNat=10
    omega
  · intro h
    subst h
    rfl
theorem z9i (N:Nat) (v:Vd) (s:ByteArray) (hs:s.size≤4000000) (K:Out→St→Res):∀ (d i n c:Nat),i+d=s.size→d < n→c≤i →
    lpE (z0b N) (z2n z0g [1,1,1,1,1,0,1,0,0]) ⟨[1,2,3,4,21,22],[1],[]⟩ n (xsC v s (c:Int) (i:Int)) K =
      K (.exit 0) (xsC v s ((c+(s.data.toList.drop i).count 10:Nat):Int) (ic s.size))
  | d,i,0,c,_,h,_=>absurd h (by omega)
  | 0,i,n+1,c,hd,_,_=>by
    have hi:i=s.size:=by omega
    subst hi
    rw [z1i,z2g,decide_eq_false (show ¬ (s.size:Int) < ic s.size by simp only [ic]; omega),z56]
    have:List.drop s.size s.data.toList=[]:=by rw [z4w]; exact List.drop_length
    rw [this]
    rfl
  | d+1,i,n+1,c,hd,hn,hc=>by
    have hil:i < s.data.toList.length:=by rw [← z4w]; omega
    have ei:IntKind.wrap IntKind.i64 ((i:Int)+1)=((i+1:Nat):Int):=by
      rw [zcd (by omega) (by omega)]
      omega
    have ec:IntKind.wrap IntKind.i64 ((c:Int)+1)=((c+1:Nat):Int):=by
      rw [zcd (by omega) (by omega)]
      omega
    have hg:s.data.toList.getD (Int.toNat (i:Int)) 0=s.data.toList[i]:=by
      rw [Int.toNat_natCast,List.getD_eq_getElem?_getD,List.getElem?_eq_getElem hil]
      rfl
    rw [z1i,z2g,ei,ec,hg,zkc,decide_eq_true (show (i:Int) < ic s.size by simp only [ic]; omega),z1l,decide_eq_true (show (0:Int)≤(i:Int) by omega),Bool.and_self,z1l,List.drop_eq_getElem_cons hil,List.count_cons]
    cases (s.data.toList[i]==10) with
    | true=>
      rw [z1l]
      refine (z9i N v s hs K d (i+1) n (c+1) (by omega) (by omega) (by omega)).trans ?_
      have:c+1+List.count 10 (List.drop (i+1) s.data.toList)=c+(List.count 10 (List.drop (i+1) s.data.toList)+if true=true then 1 else 0):=by
        rw [if_pos rfl]
        omega
      rw [this]
    | false=>
      rw [z56]
      exact z9i N v s hs K d (i+1) n c (by omega) (by omega) (by omega)
theorem zmt {k:Int} (h:k=1∨k=2∨k=3∨k=4) :
    IV.toStr (zgz Kd.str (z5r (z5r (z5r (z5r [] 1 (IV.str {data:=#[104,111,108,100,115,32]})) 2 (IV.str {data:=#[102,97,105,108,115,32]})) 3 (IV.str {data:=#[117,110,107,110,111,119,110,32]})) 4 (IV.str {data:=#[119,114,111,110,103,32]})) k)=zm7 k:=by
  rcases h with rfl | rfl | rfl | rfl <;> rfl
theorem zjx {v:Vd} (h:v.right=true):v.kind=1∨v.kind=2∨v.kind=3∨v.kind=4:=by
  unfold Vd.right at h
  simp only [Bool.and_eq_true,Bool.or_eq_true,beq_iff_eq] at h
  rcases h.2.2 with ⟨h,_⟩ | ⟨h,_⟩ | ⟨h | h,_⟩
  · exact .inl h
  · exact .inr (.inl h)
  · exact .inr (.inr (.inl h))
  · exact .inr (.inr (.inr h))
theorem zfs (s:ByteArray) (n:Nat):(s.extract 0 n).data.toList=s.data.toList.take n:=by
  rw [ByteArray.data_extract,Array.toList_extract]
  simp [List.extract]
set_option maxRecDepth 100000 in
theorem z4x:z9y PR B0 3 z1r:=by
  refine z5t [(6,z1f),(5,z1y),(7,z0u),(4,z1p)] [(7,⟨[1,2,3,4,21,22],[1],[]⟩)] z1r [[.bool]] Tryd.func3 z5v ⟨z4o,z7b,z5l,z8s,trivial⟩ ?_
  intro vs r hwf h
  unfold z1r at h
  split at h
  · rename_i k p a b c d t s
    rw [R.get_ok] at h
    refine ⟨4000001,?_⟩
    rw [← h]
    refine (z5g 4000001 k p a b c d t s).trans ?_
    have hw:=hwf trivial
    simp only [zms,wfV,wfLs,wfL,and_true] at hw
    obtain ⟨hk,⟨hp0,hp⟩,ha,hb,hc,hd,ht,hs⟩:=hw
    have hrng:Vd.rng ⟨k,p.take 40,a,b,c,d,t,s⟩:=⟨ha,hb,hc,hd,ht,hs,fun x hx=>by
      have:=hp x (List.mem_of_mem_take hx)
      simp only [zn3,wfK,and_true,true_and,z13] at this
      exact this⟩
    have hle:=zl2 hrng
    have hsz:decide (ByteArray.size (z0j ⟨k,p.take 40,a,b,c,d,t,s⟩)≤strMax)=true:=decide_eq_true (by unfold strMax; omega)
    cases hr:Vd.right ⟨k,p.take 40,a,b,c,d,t,s⟩ with
    | false=>
      rw [Bool.not_false,z1l,hsz,z1l,zgi hr,show (ByteArray.toList z0p==ByteArray.toList { data:=#[] })=true from beq_self_eq_true _]
      rfl
    | true=>
      rw [Bool.not_true,z56,hsz,z1l]
      generalize hv:(⟨k,p.take 40,a,b,c,d,t,s⟩:Vd)=v at *
      have hpr:p.take 40=v.proof:=by rw [← hv]
      have run:=z9i 4000001 v (z0j v) hle (z1g 0 (kSq (z0b 4000001) (z2n z0g [1,1,1,1,1,1]) (zbr (z0b 4000001) none [(ResultVar.tmp 2)] [[.bool]]))) (z0j v).size 0 4000001 0 (by omega) (by omega) (by omega)
      subst hv
      refine run.trans ?_
      refine (z44 4000001 _ _ _ _ _ _ _ _ _ _ _ _ _).trans ?_
      obtain ⟨h0,r,h1,h2,h3,h4⟩:=zhq hr
      have hkd:=zjx hr
      simp only at hkd h3 h1 h0
      rw [List.drop_zero,Nat.zero_add,h3,zmt hkd]
      have hl40:(p.take 40).length≤40:=by rw [List.length_take]; omega
      have e1:IntKind.wrap IntKind.i64 (1+ic (p.take 40).length)=((1+(p.take 40).length:Nat):Int):=by
        simp only [ic]
        rw [zcd (by omega) (by omega)]
        omega
      rw [e1,beq_self_eq_true,z1l]
      generalize zm7 k=hd' at *
      generalize z0j ⟨k,p.take 40,a,b,c,d,t,s⟩=P at *
      have hPs:P.size=hd'.size+r.length:=by rw [z4w,z4w,h1,List.length_append]
      have hr0:0 < r.length:=List.length_pos_iff.2 h2
      rw [decide_eq_true (show ic P.size > ic hd'.size by simp only [ic]; omega),z1l]
      have e2:(ByteArray.toList hd'==ByteArray.toList { data:=#[] })=false:=by
        rw [zcv]
        refine decide_eq_false (fun e=>?_)
        rw [e] at h0
        exact h0 rfl
      have e3:(ByteArray.toList (P.extract 0 (Int.toNat (ic hd'.size)))==ByteArray.toList hd')=true:=by
        rw [zcv]
        refine decide_eq_true (zcw ?_)
        rw [zfs,h1]
        simp only [ic,Int.toNat_natCast]
        rw [z4w]
        exact List.take_left
      have e4:IntKind.wrap IntKind.i64 (ic P.size - 1)=((P.size - 1:Nat):Int):=by
        simp only [ic]
        rw [zcd (by omega) (by omega)]
        omega
      have e5:P.data.toList.getD (Int.toNat ((P.size - 1:Nat):Int)) 0=10:=by
        rw [List.getLast?_eq_getElem?] at h4
        rw [Int.toNat_natCast,List.getD_eq_getElem?_getD,z4w,h4]
        rfl
      rw [e2,Bool.not_false,z1l,decide_eq_true (show (0:Int)≤ic hd'.size by simp only [ic]; omega),decide_eq_true (show ic hd'.size≤ic P.size by simp only [ic]; omega),Bool.and_self,z1l,e3,z1l,e4,
        decide_eq_true (show (0:Int)≤((P.size - 1:Nat):Int) by omega),decide_eq_true (show ((P.size - 1:Nat):Int) < ic P.size by simp only [ic]; omega),Bool.and_self,z1l,e5]
      rfl
  · simp [R.get] at h
open Go Go.Proofs Go.RowKit
set_option maxRecDepth 100000 in
theorem zbc {P:Program} {w:World} {name:String} {g:Nat} {cs:Array Value} (hn:P.globalNamed name=some g) (hv:w.var? P name=some cs):∃ T fr,w.heap[g]?=some (.cells cs T fr):=by
  unfold World.var? at hv
  rw [hn] at hv
  simp only [Option.bind_some] at hv
  split at hv
  · rename_i c T fr hh
    simp only [Option.some.injEq] at hv
    subst hv
    exact ⟨T,fr,hh⟩
  · cases hv
set_option maxRecDepth 100000 in
theorem zi5 {w:World} {name:String} {g t:Nat} {ms:Array (String × TypeId)} {tn:String} {d:DataW Unit} (h:Lib.VarReads Tryd.prog w name (.iface tn d)) (hn:Tryd.prog.globalNamed name=some g)
    (ht:(Tryd.prog.globals[g]?).map (·.type)=some t) (hu:Tryd.prog.underlying t=some (.interface ms)):∃ c T fr te pe,w.heap[g]?=some (.cells c T fr)∧c[0]?=some (.iface te pe):=by
  obtain ⟨g',t',cs,fuel,p,h1,h2,h3,h4⟩:=h
  obtain rfl:=Option.some.inj (hn.symm.trans h1)
  obtain rfl:=Option.some.inj (ht.symm.trans h2)
  obtain ⟨f',u,v,hcs,_,_⟩:=iface_of_trod hu h4
  obtain ⟨T,fr,hh⟩:=zbc hn h3
  refine ⟨cs,T,fr,u,v,hh,?_⟩
  have:cs = #[.iface u v]:=by
    apply Array.ext'
    rw [hcs]
  rw [this]
  rfl
set_option maxRecDepth 100000 in
theorem zm5 {W:World} {l:List (String × DataW Unit)} (hL:laidMet Tryd.prog l W) (hsh:W.ShapedOpen Tryd.prog)
    (hp:("internal/strconv.uint64pow10", Lib.tabData .u64 Lib.pow10Tab)∈l)
    {n1:String} {d1:DataW Unit} (h1:("strconv.ErrRange", .iface n1 d1)∈l)
    {n2:String} {d2:DataW Unit} (h2:("strconv.ErrSyntax", .iface n2 d2)∈l)
    : Glob B0 W:=by
  have hz:∀ g,g < 4→g < Tryd.prog.globals.size→g < W.heap.size:=fun g _ hg=>by
    have hb:((List.range Tryd.prog.globals.size).all fun g=>(((begin Tryd.prog (fun _ _=>0) default).world.heap[g]?).bind Obj.row?).isSome)=true:=by kernel_rfl
    have:=List.all_eq_true.1 hb g (List.mem_range.2 hg)
    obtain ⟨⟨z,t⟩,hz⟩:=Option.isSome_iff_exists.1 this
    obtain ⟨cs,hh,_⟩:=hsh.1 g z t hg hz
    exact (Array.getElem?_eq_some_iff.1 hh).1
  have hsize:4≤W.heap.size:=by
    first
    | exact Nat.zero_le _
    | (
       have:=hz (4 - 1) (by decide) (of_decide_eq_true (by kernel_rfl))
       omega)
  have low:∀ {g:Nat},g < 4→(fun b=>if b < B0.ng then W.heap[b]? else none) g=W.heap[g]?:=fun h=>if_pos (show _ < B0.ng from h)
  refine ⟨hsize,?_⟩
  show GF _
  constructor
  first | exact trivial | skip
  case gm=>
    obtain ⟨m,hm⟩:=cell_of_shapedOpen_int (P:=Tryd.prog) (g:=1) (t:=3) (zero:=#[.int .i64 0]) hsh (of_decide_eq_true (by kernel_rfl)) (by kernel_rfl) rfl (by kernel_rfl) (by kernel_rfl) Tryd.underlying3
    simp only [World.cell?] at hm
    split at hm
    · rename_i c T fr' hh
      exact ⟨c,T,fr',m,(low (by decide)).trans hh,hm⟩
    · cases hm
  case gp=>
    have gp:Tryd.prog.globalNamed "internal/strconv.uint64pow10" = some 0:=by kernel_rfl
    obtain ⟨g',t',cp,fuel,p,e1,e2,e3,e4⟩:=Lib.laidMet.reads hL hp
    obtain rfl:=Option.some.inj (gp.symm.trans e1)
    obtain ⟨T,fr',hh⟩:=zbc gp e3
    refine ⟨T,fr',(low (by decide)).trans ?_⟩
    rw [hh]
    have et:(Tryd.prog.globals[0]?).map (·.type)=some 74:=by kernel_rfl
    obtain rfl:=Option.some.inj (et.symm.trans e2)
    have:=Lib.cells_of_tab (e:=64) (n:=20) (by kernel_rfl) (by kernel_rfl) (by kernel_rfl) (by kernel_rfl) e4
    congr 1
    congr 1
    apply Array.ext'
    exact this
  case gs=>
    obtain ⟨cs,Ts,fs,tes,pes,hs1,hs2⟩:=zi5 (g:=2) (Lib.laidMet.reads hL h2) (by kernel_rfl) (show _=some 46 by kernel_rfl) Tryd.underlying46
    exact ⟨cs,Ts,fs,tes,pes,(low (by decide)).trans hs1,hs2⟩
  case gr=>
    obtain ⟨cr,Tr,fr,ter,per,hr1,hr2⟩:=zi5 (g:=3) (Lib.laidMet.reads hL h1) (by kernel_rfl) (show _=some 46 by kernel_rfl) Tryd.underlying46
    exact ⟨cr,Tr,fr,ter,per,(low (by decide)).trans hr1,hr2⟩
def X0:Zone:=⟨fun _=>False,fun _=>False⟩
def γ0:Nat→Value:=fun _=>.nilIface
abbrev O0:Nat→Prop:=z02 X0 γ0 []
set_option maxRecDepth 100000 in
theorem zoz (b:Nat):¬ O0 b:=by
  rintro (⟨n,ob,h,_⟩ | h)
  · simp [z01,lkd] at h
  · exact h
set_option maxRecDepth 100000 in
theorem zpb (W:World):Rel B0.base 0 W X0 γ0 ⟨[],[]⟩ zdu W:=by
  have no:∀ n ob,z01 ([]:Store) n≠some ob:=fun n ob h=>by simp [z01,lkd] at h
  refine ⟨rfl,rfl,fun i=>by simp only [St.get,lkd,VRel],fun n ob h=>absurd h (no n ob),fun b h=>?_,fun n m ob ob' b _ h=>absurd h (no n ob),Keep.refl _ _,fun b h=>?_,fun b h=>h.elim,fun p _ ob h=>absurd h (no _ ob)⟩
  · obtain ⟨n,ob,h,_⟩:=h
    exact absurd h (no n ob)
  · obtain ⟨n,ob,h,_⟩:=h
    exact absurd h (no n ob)
set_option maxRecDepth 100000 in
theorem ze2 {f:Nat} {fn:Func} (hf:PR.funcs[f]?=some fn) (hn:(fn.name == "runtime.NumGoroutine")=false) (hb:fn.body.isNone=false) {xs:List Value} {w:World} {R:Ending→World→Prop} (h:Does PR f xs w R):Calls PR f xs.toArray w R:=by
  have:(callFunc f xs.toArray).run PR w = .ok (.enter f xs.toArray) w:=by
    unfold callFunc
    have hn':¬ fn.name = "runtime.NumGoroutine":=by simpa using hn
    have hb':¬ fn.body=none:=fun h=>by rw [h] at hb; cases hb
    simp [hf,hn',hb']
  unfold Does at h
  rw [this] at h
  exact h
set_option maxRecDepth 100000 in
theorem zj7 {f:Nat} {fn:Func} {sp:z2a} (hS:z9y PR B0 f sp) (hf:PR.funcs[f]?=some fn) (hn:(fn.name == "runtime.NumGoroutine")=false) (hb:fn.body.isNone=false) {vs:List V} {xs:List Value} {W:World}
    (hsp:(sp vs).get=some (.bool true,[])) (hbor:z1e vs=none) (hG:Glob B0 W) (hV:VRels γ0 [] W O0 (vs.map z25) xs) :
    Calls PR f xs.toArray W fun e w'=>e = .returned (.bool true)∧Below W.heap.size W w':=by
  refine ze2 hf hn hb ?_
  have em:z48 vs=[]:=by unfold z48; rw [hbor]
  refine Does.mono (hS W X0 γ0 vs xs (.bool true) [] hsp hG (fun b h=>h.elim) (by rw [em]; exact zpb W) (by rw [em]; exact hV)) ?_
  rintro e w' ⟨x,rfl,γ',hR,hx,_⟩
  simp only [zit,z25,VRel] at hx
  subst hx
  exact ⟨rfl,hR.keep.os,hR.keep.tape,hR.keep.output,hR.keep.size,fun b hb=>hR.keep.block b hb (fun h=>h)⟩
open Go
def agT (P:Program) (e:TypeId):Bool:=match P.underlying e with | some (.struct _)=>true | some (.array _ _)=>true | _=>false
def zo6 (f:TypeId→Option (List Kd)) (cell:TypeId→Nat):Nat→List (TypeId × Nat)→Option (List Kd)
  | _,[]=>some []
  | off,(t,o) :: r=>match Nat.beq o off with
    | true=>match f t with
      | some ks=>match Nat.beq (cell t) ks.length with
        | true=>match zo6 f cell (off+ks.length) r with
          | some ks'=>some (ks++ks')
          | none=>none
        | false=>none
      | none=>none
    | false=>none
def kdT (P:Program):Nat→TypeId→Option (List Kd)
  | 0,_=>none
  | n+1,t=>match P.underlying t with
    | some .bool=>some [.bool]
    | some (.int k)=>some [.int k]
    | some .string=>some [.str]
    | some (.slice e)=>match kdT P n e with
      | some ks=>match Nat.ble 1 (P.bytesOf e)&&(Nat.beq (P.cellsOf e) ks.length&&(Nat.ble 1 ks.length&&(agT P e||Nat.beq ks.length 1))) with
        | true=>some [.list (agT P e) ks]
        | false=>none
      | none=>none
    | some (.struct fs)=>match zo6 (kdT P n) P.cellsOf 0 (fs.toList.map fun f=>(f.type,f.offset)) with
      | some ks=>match Nat.beq (P.cellsOf t) ks.length with | true=>some ks | false=>none
      | none=>none
    | some (.array m e)=>match zo6 (kdT P n) P.cellsOf 0 ((List.range m).map fun i=>(e,i*P.cellsOf e)) with
      | some ks=>match Nat.beq (P.cellsOf t) ks.length with | true=>some ks | false=>none
      | none=>none
    | _=>none
def CellsK (w:World) (O:Nat→Prop):List Kd→List IV→List Value→Prop
  | [],[],[]=>True
  | k :: ks,x :: f,v :: cs=>Kd.Rel w O k x v∧CellsK w O ks f cs
  | _,_,_=>False
section
variable {w:World} {O:Nat→Prop}
set_option maxRecDepth 100000 in
theorem CellsK.append:∀ {ks:List Kd} {f:List IV} {cs:List Value} {ks':List Kd} {f':List IV} {cs':List Value},CellsK w O ks f cs→CellsK w O ks' f' cs'→CellsK w O (ks++ks') (f++f') (cs++cs')
  | [],[],[],_,_,_,_,h'=>h'
  | _ :: ks,_ :: f,_ :: cs,_,_,_,h,h'=>by
    simp only [CellsK] at h
    simp only [List.cons_append,CellsK]
    exact ⟨h.1,h.2.append h'⟩
  | [],_ :: _,_,_,_,_,h,_=>by simp [CellsK] at h
  | [],[],_ :: _,_,_,_,h,_=>by simp [CellsK] at h
  | _ :: _,[],_,_,_,_,h,_=>by simp [CellsK] at h
  | _ :: _,_ :: _,[],_,_,_,h,_=>by simp [CellsK] at h
set_option maxRecDepth 100000 in
theorem CellsK.get:∀ {ks:List Kd} {f:List IV} {cs:List Value},CellsK w O ks f cs→∀ (j:Nat) (k:Kd),ks[j]?=some k→∃ v,cs[j]?=some v∧Kd.Rel w O k (nth f j) v
  | [],_,_,_,j,k,h=>by simp at h
  | k :: ks,x :: f,v :: cs,h,j,k',hj=>by
    simp only [CellsK] at h
    cases j with
    | zero=>
      simp only [List.getElem?_cons_zero,Option.some.injEq] at hj
      subst hj
      exact ⟨v,rfl,by simpa only [nth] using h.1⟩
    | succ j=>
      obtain ⟨u,h1,h2⟩:=h.2.get j k' (by simpa using hj)
      exact ⟨u,by simpa using h1,by simpa only [nth] using h2⟩
  | _ :: _,[],_,h,_,_,_=>by simp [CellsK] at h
  | _ :: _,_ :: _,[],h,_,_,_=>by simp [CellsK] at h
set_option maxRecDepth 100000 in
theorem zb6 {α:Type} {Q:Nat→α→Prop}:∀ n,(∀ i,i < n→∃ x,Q i x)→∃ L:List α,L.length=n∧∀ i x,L[i]?=some x→Q i x
  | 0,_=>⟨[],rfl,fun i x h=>by simp at h⟩
  | n+1,h=>by
    obtain ⟨L,hl,hL⟩:=zb6 n (fun i hi=>h i (by omega))
    obtain ⟨x,hx⟩:=h n (by omega)
    refine ⟨L++[x],by simp [hl],fun i y hy=>?_⟩
    rw [List.getElem?_append] at hy
    split at hy
    · exact hL i y hy
    · rename_i hi
      have:i - L.length=0:=by
        rcases Nat.eq_zero_or_pos (i - L.length) with e | e
        · exact e
        · rw [List.getElem?_eq_none (by simp; omega)] at hy
          cases hy
      rw [this] at hy
      simp only [List.getElem?_cons_zero,Option.some.injEq] at hy
      subst hy
      have:i=n:=by omega
      subst this
      exact hx
end
set_option maxRecDepth 100000 in
theorem zem {H:Type} {P:Program}:∀ {ts:List TypeId} {ds:List (DataW H)} {i:Nat} {t:TypeId} {d:DataW H},ts[i]?=some t→ds[i]?=some d→∀ y∈d.weights P t,y∈DataW.weightsEach P ts ds
  | [],_,i,_,_,h,_,_,_=>by simp at h
  | _ :: _,[],i,_,_,_,h,_,_=>by simp at h
  | t0 :: ts,d0 :: ds,0,t,d,h,h',y,hy=>by
    simp only [List.getElem?_cons_zero,Option.some.injEq] at h h'
    subst h; subst h'
    simp only [DataW.weightsEach,List.mem_append]
    exact .inl hy
  | t0 :: ts,d0 :: ds,i+1,t,d,h,h',y,hy=>by
    simp only [DataW.weightsEach,List.mem_append]
    exact .inr (zem (by simpa using h) (by simpa using h') y hy)
set_option maxRecDepth 100000 in
theorem zel {H:Type} {P:Program} {e:TypeId}:∀ {ds:List (DataW H)} {d:DataW H},d∈ds→∀ y∈d.weights P e,y∈DataW.weightsAll P e ds
  | [],_,h,_,_=>by cases h
  | d0 :: ds,d,h,y,hy=>by
    simp only [DataW.weightsAll,List.mem_append]
    rcases List.mem_cons.1 h with rfl | h
    · exact .inl hy
    · exact .inr (zel h y hy)
section
variable {H:Type} {enc:TypeId × Value→H} {P:Program} {w:World} {base:Nat} {sp:Nat→Bool} {held:Bool} {O:Nat→Prop}
set_option maxRecDepth 100000 in
theorem z7t {f:TypeId→Option (List Kd)} {n:Nat} {cs:List Value}
    (ih:∀ (t:TypeId) (ks:List Kd) (cs:List Value) (d:DataW H) (p:List MemPlace),f t=some ks→DataW.trod enc P w base sp held n t cs=some (d,p)→(∀ y∈d.weights P t,y≤reachBytes)→∃ g,CellsK w O ks g cs) :
    ∀ (parts:List (TypeId × Nat)) (off:Nat) (ks:List Kd) (xs:List (DataW H × List MemPlace)),zo6 f P.cellsOf off parts=some ks→xs.length=parts.length →
      (∀ (i:Nat) (t:TypeId) (o:Nat),parts[i]?=some (t,o)→DataW.trod enc P w base sp held n t ((cs.drop o).take (P.cellsOf t))=xs[i]?) →
      (∀ (i:Nat) (t:TypeId) (o:Nat) (x:DataW H × List MemPlace),parts[i]?=some (t,o)→xs[i]?=some x→∀ y∈x.1.weights P t,y≤reachBytes)→∃ g,CellsK w O ks g ((cs.drop off).take ks.length)
  | [],off,ks,xs,h,_,_,_=>by
    simp only [zo6,Option.some.injEq] at h
    subst h
    exact ⟨[],by simp only [List.length_nil,List.take_zero,CellsK]⟩
  | (t,o) :: r,off,ks,[],h,hl,_,_=>by simp at hl
  | (t,o) :: r,off,ks,x :: xs,h,hl,ht,hw=>by
    simp only [zo6] at h
    split at h
    case h_2=>cases h
    rename_i ho
    obtain rfl:=Nat.eq_of_beq_eq_true ho
    split at h
    case h_2=>cases h
    rename_i k1 hk1
    split at h
    case h_2=>cases h
    rename_i hc
    have hc:=Nat.eq_of_beq_eq_true hc
    split at h
    case h_2=>cases h
    rename_i k2 hk2
    simp only [Option.some.injEq] at h
    subst h
    have h0:=ht 0 t o rfl
    simp only [List.getElem?_cons_zero] at h0
    obtain ⟨d,p⟩:=x
    obtain ⟨g1,hg1⟩:=ih t k1 _ d p hk1 h0 (hw 0 t o (d,p) rfl rfl)
    obtain ⟨g2,hg2⟩:=z7t ih r (o+k1.length) k2 xs hk2 (by simpa using hl) (fun i t' o' hi=>by simpa using ht (i+1) t' o' (by simpa using hi)) (fun i t' o' x hi hx=>hw (i+1) t' o' x (by simpa using hi) (by simpa using hx))
    refine ⟨g1++g2,?_⟩
    rw [List.length_append,List.take_add,List.drop_drop]
    rw [hc] at hg1
    exact hg1.append hg2
set_option maxRecDepth 100000 in
theorem zny {a:Addr} {v:Value} (h:w.cell? a=some v):a.spot=none∧a.block < w.heap.size:=by
  unfold World.cell? at h
  split at h
  · rename_i c _ _ hc
    split at h
    · cases h
    · rename_i hs
      exact ⟨by simpa using hs,(Array.getElem?_eq_some_iff.1 hc).1⟩
  · cases h
set_option maxRecDepth 100000 in
theorem zf3 (hO:∀ b,¬ O b):∀ (n:Nat) (t:TypeId) (ks:List Kd) (fuel:Nat) (cs:List Value) (d:DataW H) (p:List MemPlace),kdT P n t=some ks →
    DataW.trod enc P w base sp held fuel t cs=some (d,p)→(∀ y∈d.weights P t,y≤reachBytes)→∃ g,CellsK w O ks g cs
  | 0,_,_,_,_,_,_,h,_,_=>by simp [kdT] at h
  | n+1,t,ks,fuel,cs,d,p,h,ht,hw=>by
    simp only [kdT] at h
    split at h
    · rename_i hu
      simp only [Option.some.injEq] at h
      subst h
      obtain ⟨b,rfl,_⟩:=DataW.trod_bool hu ht
      exact ⟨[.bool b],by simp only [CellsK,Kd.Rel,IV.toBool,and_self]⟩
    · rename_i k hu
      simp only [Option.some.injEq] at h
      subst h
      obtain ⟨m,rfl,_,hm⟩:=DataW.trod_int hu ht
      simp only [Lit.wf,Bool.and_eq_true,decide_eq_true_eq] at hm
      exact ⟨[.int m],by simp only [CellsK,Kd.Rel,IV.toInt,and_true,true_and]; exact hm⟩
    · rename_i hu
      simp only [Option.some.injEq] at h
      subst h
      obtain ⟨s,rfl,hd,hs⟩:=DataW.trod_string hu ht
      simp only [Prod.mk.injEq] at hd
      refine ⟨[.str s],?_⟩
      simp only [CellsK,Kd.Rel,IV.toStr,and_true,true_and]
      rw [hd.1] at hw
      have:=hw s.data.toList.length (by simp [DataW.weights])
      have e:s.data.toList.length=s.size:=by rw [Array.length_toList]; rfl
      rw [e] at this
      unfold reachBytes at this
      unfold strMax
      omega
    · rename_i e hu
      split at h
      case h_2=>cases h
      rename_i k1 hk1
      split at h
      case h_2=>cases h
      rename_i hc
      simp only [Option.some.injEq] at h
      subst h
      simp only [Bool.and_eq_true,Bool.or_eq_true] at hc
      obtain ⟨hb,hce,hk0,hag⟩:=hc
      have hb:=Nat.le_of_ble_eq_true hb
      have hce:=Nat.eq_of_beq_eq_true hce
      have hk0:=Nat.le_of_ble_eq_true hk0
      rcases DataW.trod_slice hu ht with ⟨rfl,_⟩ | ⟨a,len,cap,elems,rest,m,_,rfl,hx,_,hlc,hcap,hlen,hel,_⟩
      · refine ⟨[.list []],?_⟩
        simp only [CellsK,Kd.Rel,IV.toList,and_true]
        exact ⟨none,0,rfl,Nat.le_refl _,Nat.zero_le _,Nat.zero_le _,fun i y hi=>by simp at hi⟩
      · simp only [Prod.mk.injEq] at hx
        obtain ⟨rfl,_⟩:=hx
        simp only [DataW.weights,hu,List.mem_cons,List.mem_append] at hw
        have hsz:len≤strMax:=by
          have:=hw _ (.inl rfl)
          rw [List.length_map,hlen] at this
          have h1:len*1≤(len+(rest.map (·.1)).length)*P.bytesOf e:=Nat.mul_le_mul (by omega) hb
          unfold reachBytes at this
          unfold strMax
          omega
        have hex:∀ i,i < len→∃ g:List IV,∃ ci,w.cells? base (a.add (i*k1.length)) k1.length=some ci∧CellsK w O k1 g ci:=by
          intro i hi
          have h1:=hel i hi
          have hi':i < elems.length:=by omega
          rw [List.getElem?_eq_getElem hi',hce] at h1
          simp only [Option.bind_eq_some_iff] at h1
          obtain ⟨ci,h2,h3⟩:=h1
          obtain ⟨g,hg⟩:=zf3 hO n e k1 m ci elems[i].1 elems[i].2 hk1 h3 (fun y hy=>hw y (.inr (.inl (zel (List.mem_map_of_mem (List.getElem_mem hi')) y hy))))
          exact ⟨g,ci,h2,hg⟩
        obtain ⟨L,hL,hLi⟩:=zb6 len hex
        refine ⟨[.list (L.map fun g=>match agT P e with | true=>IV.agg g | false=>nth g 0)],?_⟩
        simp only [CellsK,Kd.Rel,IV.toList,and_true,List.length_map,hL]
        refine ⟨some a,cap,rfl,hlc,hcap,hsz,fun i y hi=>?_⟩
        rw [List.getElem?_map,Option.map_eq_some_iff] at hi
        obtain ⟨g,hg,rfl⟩:=hi
        obtain ⟨ci,hci,hgc⟩:=hLi i g hg
        have hil:i < len:=by rw [← hL]; exact (List.getElem?_eq_some_iff.1 hg).1
        have cellAt:∀ j k,k1[j]?=some k→∃ u,w.cell? ((a.add (i*k1.length)).add j)=some u∧Kd.Rel w O k (nth g j) u:=by
          intro j k hk
          obtain ⟨u,h1,h2⟩:=hgc.get j k hk
          refine ⟨u,?_,h2⟩
          have hj:j < k1.length:=(List.getElem?_eq_some_iff.1 hk).1
          unfold World.cells? at hci
          split at hci
          · obtain ⟨b,hb1,hb2⟩:=Lib.mapM_at hci j j (by simp [hj])
            rw [h1] at hb1
            simp only [Option.some.injEq] at hb1
            rw [hb2,hb1]
          · cases hci
        have hspot:a.spot=none∧a.block < w.heap.size:=by
          obtain ⟨g0,hg0⟩:∃ g0,L[0]?=some g0:=⟨L[0]'(by omega),List.getElem?_eq_getElem (by omega)⟩
          obtain ⟨c0,hc0,hgc0⟩:=hLi 0 g0 hg0
          obtain ⟨u,h1,_⟩:=hgc0.get 0 k1[0] (List.getElem?_eq_getElem (by omega))
          unfold World.cells? at hc0
          split at hc0
          · obtain ⟨b,_,hb2⟩:=Lib.mapM_at hc0 0 0 (List.getElem?_range (show 0 < k1.length by omega))
            have:=zny hb2
            rw [Nat.zero_mul] at this
            simpa [Addr.add] using this
          · cases hc0
        obtain ⟨ab,ao,asp⟩:=a
        obtain ⟨hs1,hs2⟩:=hspot
        simp only at hs1 hs2
        subst hs1
        refine ⟨ab,ao,rfl,hO ab,hs2,?_⟩
        rw [Kd.RelAll_iff]
        intro j k hk
        obtain ⟨u,h1,h2⟩:=cellAt j k hk
        rw [Lib.add_plain,Lib.add_plain] at h1
        rw [Nat.zero_add]
        refine ⟨u,h1,?_⟩
        cases hat:agT P e with
        | true=>
          show Kd.Rel w O k (nth g j) u
          exact h2
        | false=>
          rw [hat] at hag
          have h1l:k1.length=1:=Nat.eq_of_beq_eq_true (by simpa using hag)
          have hj:j < k1.length:=(List.getElem?_eq_some_iff.1 hk).1
          have:j=0:=by omega
          subst this
          exact h2
    · rename_i fs hu
      split at h
      case h_2=>cases h
      rename_i k1 hk1
      split at h
      case h_2=>cases h
      rename_i hc
      have hc:=Nat.eq_of_beq_eq_true hc
      simp only [Option.some.injEq] at h
      subst h
      obtain ⟨xs,m,_,hx,hcl,hxl,hall⟩:=DataW.trod_struct hu ht
      simp only [Prod.mk.injEq] at hx
      obtain ⟨rfl,_⟩:=hx
      simp only [DataW.weights,hu] at hw
      have key:=z7t (enc:=enc) (P:=P) (w:=w) (base:=base) (sp:=sp) (held:=held) (O:=O) (f:=kdT P n) (n:=m) (cs:=cs) (fun t ks cs d p h1 h2 h3=>zf3 hO n t ks m cs d p h1 h2 h3) (fs.toList.map fun f=>(f.type,f.offset)) 0 k1 xs hk1 (by simp [hxl]) (fun i t o hi=>by
          rw [List.getElem?_map,Option.map_eq_some_iff] at hi
          obtain ⟨f,hf,he⟩:=hi
          simp only [Prod.mk.injEq] at he
          obtain ⟨rfl,rfl⟩:=he
          exact hall i f (by simpa using hf)) (fun i t o x hi hx y hy=>by
          rw [List.getElem?_map,Option.map_eq_some_iff] at hi
          obtain ⟨f,hf,he⟩:=hi
          simp only [Prod.mk.injEq] at he
          obtain ⟨rfl,rfl⟩:=he
          exact hw y (zem (i:=i) (by rw [List.getElem?_map,hf]; rfl) (by rw [List.getElem?_map,hx]; rfl) y hy))
      obtain ⟨g,hg⟩:=key
      rw [List.drop_zero,List.take_of_length_le (by omega)] at hg
      exact ⟨g,hg⟩
    · rename_i m0 e hu
      split at h
      case h_2=>cases h
      rename_i k1 hk1
      split at h
      case h_2=>cases h
      rename_i hc
      have hc:=Nat.eq_of_beq_eq_true hc
      simp only [Option.some.injEq] at h
      subst h
      obtain ⟨xs,m,_,hx,hcl,hxl,hall⟩:=DataW.trod_array hu ht
      simp only [Prod.mk.injEq] at hx
      obtain ⟨rfl,_⟩:=hx
      simp only [DataW.weights,hu] at hw
      have key:=z7t (enc:=enc) (P:=P) (w:=w) (base:=base) (sp:=sp) (held:=held) (O:=O) (f:=kdT P n) (n:=m) (cs:=cs) (fun t ks cs d p h1 h2 h3=>zf3 hO n t ks m cs d p h1 h2 h3) ((List.range m0).map fun i=>(e,i*P.cellsOf e)) 0 k1 xs hk1 (by simp [hxl]) (fun i t o hi=>by
          rw [List.getElem?_map,Option.map_eq_some_iff] at hi
          obtain ⟨f,hf,he⟩:=hi
          simp only [Prod.mk.injEq] at he
          obtain ⟨rfl,rfl⟩:=he
          have hfi:=List.getElem?_eq_some_iff.1 hf
          obtain ⟨hl,he⟩:=hfi
          rw [List.getElem_range] at he
          subst he
          exact hall i (by simpa using hl)) (fun i t o x hi hx y hy=>by
          rw [List.getElem?_map,Option.map_eq_some_iff] at hi
          obtain ⟨f,hf,he⟩:=hi
          simp only [Prod.mk.injEq] at he
          obtain ⟨rfl,rfl⟩:=he
          exact hw y (zel (List.mem_map_of_mem (List.mem_of_getElem? hx)) y hy))
      obtain ⟨g,hg⟩:=key
      rw [List.drop_zero,List.take_of_length_le (by omega)] at hg
      exact ⟨g,hg⟩
    · cases h
end
open Go Go.Proofs Go.RowKit Go.ChangeShapes Go.WideShapes
def vOf:Kd→IV→V
  | .int k,x=>.int k x.toInt
  | .bool,x=>.bool x.toBool
  | .str,x=>.str x.toStr
  | .list ag ks,x=>.list ag ks x.toList
set_option maxRecDepth 100000 in
theorem zo3 {γ:Nat→Value} {o:Store} {w:World} {O:Nat→Prop} {k:Kd} {x:IV} {v:Value} (h:Kd.Rel w O k x v):VRel γ o w O (vOf k x) v:=by
  cases k with
  | int k=>simpa only [vOf,VRel,Kd.Rel] using h
  | bool=>simpa only [vOf,VRel,Kd.Rel] using h
  | str=>simpa only [vOf,VRel,Kd.Rel] using h
  | list ag ks=>
    simp only [vOf,VRel]
    simpa only [Kd.Rel,IV.toList] using h
def zor:List Kd→List IV→List V
  | k :: ks,x :: f=>vOf k x :: zor ks f
  | _,_=>[]
set_option maxRecDepth 100000 in
theorem zj1 {γ:Nat→Value} {o:Store} {w:World} {O:Nat→Prop}:∀ {ks:List Kd} {f:List IV} {cs:List Value},CellsK w O ks f cs→VRels γ o w O (zor ks f) cs
  | [],[],[],_=>by simp only [zor,VRels]
  | _ :: _,_ :: _,_ :: _,h=>by
    simp only [CellsK] at h
    simp only [zor,VRels]
    exact ⟨zo3 h.1,zj1 h.2⟩
  | [],_ :: _,_,h=>by simp [CellsK] at h
  | [],[],_ :: _,h=>by simp [CellsK] at h
  | _ :: _,[],_,h=>by simp [CellsK] at h
  | _ :: _,_ :: _,[],h=>by simp [CellsK] at h
set_option maxRecDepth 100000 in
theorem CellsK.len {w:World} {O:Nat→Prop}:∀ {ks:List Kd} {f:List IV} {cs:List Value},CellsK w O ks f cs→f.length=ks.length
  | [],[],[],_=>rfl
  | _ :: _,_ :: _,_ :: _,h=>by
    simp only [CellsK] at h
    simp only [List.length_cons,h.2.len]
  | [],_ :: _,_,h=>by simp [CellsK] at h
  | [],[],_ :: _,h=>by simp [CellsK] at h
  | _ :: _,[],_,h=>by simp [CellsK] at h
  | _ :: _,_ :: _,[],h=>by simp [CellsK] at h
section
variable {H:Type} {enc:TypeId × Value→H} {P:Program} {W:World} {base b0:Nat} {sp:Nat→Bool} {held:Bool}
set_option maxRecDepth 100000 in
theorem zn7 {n:Nat} {t:TypeId} {ks:List Kd} {v:Value} {d:DataW H} {p:List MemPlace} (hk:kdT P n t=some ks) (hu:agT P t=true) (hval:Value.okWide P W .any base t v)
    (h:DataW.Trod enc P W b0 sp held t v d p) (hw:∀ y∈d.weights P t,y≤reachBytes):∃ g:List IV,g.length=ks.length∧VRel γ0 [] W O0 (.agg (zor ks g)) v:=by
  obtain ⟨cs,rfl⟩:∃ cs,v = .agg cs:=by
    unfold agT at hu
    unfold Value.okWide at hval
    split at hu
    · rename_i hh; rw [hh] at hval; exact hval.imp (fun _ h=>h.1)
    · rename_i hh; rw [hh] at hval; exact hval.imp (fun _ h=>h.1)
    · cases hu
  obtain ⟨fuel,hf⟩:=h
  obtain ⟨g,hg⟩:=zf3 (O:=O0) zoz n t ks fuel _ d p hk hf hw
  refine ⟨g,hg.len,?_⟩
  simp only [VRel]
  exact ⟨cs,rfl,zj1 hg⟩
set_option maxRecDepth 100000 in
theorem z8w (hl:laidOutB P=true) {W':World} (hb:Below W.heap.size W W'):∀ {ts:List TypeId} {vs:List Value} {ds:List (DataW H)} {ps:List MemPlace},DataW.TrodAll enc P W 0 (fun _=>true) true ts vs ds ps →
    (∀ t∈ts,P.readableRec t=true∧t < P.types.size)→(∀ x∈ps,x.block < W.heap.size)→DataW.TrodAll enc P W' 0 (fun b=>decide (b < W.heap.size)) true ts vs ds ps
  | [],vs,ds,ps,h,_,_=>by
    obtain ⟨rfl,rfl,rfl⟩:=trodAll_nil h
    rfl
  | t :: ts,vs,ds,ps,h,ht,hp=>by
    obtain ⟨v,vs1,d,ds1,a,b,rfl,rfl,rfl,h1,h2⟩:=trodAll_cons h
    have hh:=ht t (List.mem_cons_self ..)
    exact ⟨a,b,Below.trod hl hh.1 hh.2 h1 hb (fun x hx=>hp x (List.mem_append.2 (.inl hx))),z8w hl hb h2 (fun t' h'=>ht t' (List.mem_cons_of_mem _ h')) (fun x hx=>hp x (List.mem_append.2 (.inr hx))),rfl⟩
end
set_option maxRecDepth 100000 in
theorem zl6:ownKnob Tryd.prog.godebug=none:=by kernel_rfl
set_option maxRecDepth 100000 in
theorem zc5:laidOutB Tryd.prog=true:=by kernel_rfl
set_option maxRecDepth 100000 in
theorem zji {os:Os} (started:os.Started) {H:Type} {enc:TypeId × Value→H} {spec:ChangeSpec} {f:Nat} {fn:Func} {sp:z2a} {laid:List (String × DataW Unit)} (hS:z9y PR B0 f sp) (hf:Tryd.prog.funcs[f]?=some fn)
    (hn:(fn.name == "runtime.NumGoroutine")=false) (hb:fn.body.isNone=false) (hini:Tryd.prog.inits.idxOf? f=none) (hres:fn.resultTypes = #[4]) (hvars:spec.vars=[])
    (hspec:∀ (ds:List (DataW H)),ds.length=fn.params.toList.length→spec.fn H ds={ results:=[.lit (.bool true)],args:=ds })
    (hpar:fn.params.toList.all (fun t=>Tryd.prog.readableRec t&&decide (t < Tryd.prog.types.size))=true)
    (hglob:∀ W:World,laidMetH Tryd.prog laid W→W.ShapedOpen Tryd.prog→Glob B0 W)
    (witness:∃ (w:World) (tape:Tape) (i:Input),w.os=os∧(w.forCall tape i).Shaped Tryd.prog∧i.vars=[]∧Input.okWide Tryd.prog (w.forCall tape i) .any w.heap.size f i ∧
      (OpenSpec.ofChange spec).preRow enc Tryd.prog fn [] false laid (w.forCall tape i).memory i.args∧({}:Assume).holds Tryd.prog (lone (Frame.enter Tryd.prog f i.args .normal) [] (w.forCall tape i)))
    (harg:∀ (W:World) (base:Nat) (vs:List Value) (ds:List (DataW H)) (p:List MemPlace),DataW.TrodAll enc Tryd.prog W 0 (fun _=>true) true fn.params.toList vs ds p →
      (∀ (j:Nat) t v,fn.params.toList[j]?=some t→vs[j]?=some v→Value.okWide Tryd.prog W .any base t v) →
      (∀ (j:Nat) t d,fn.params.toList[j]?=some t→ds[j]?=some d→∀ y∈d.weights Tryd.prog t,y≤reachBytes) →
      ∃ l:List V,(sp l).get=some (.bool true,[])∧z1e l=none∧VRels γ0 [] W O0 (l.map z25) vs) :
    ReturnsInHanded {} Tryd.checked os f .any ((OpenSpec.ofChange spec).preRow enc Tryd.prog fn [] false laid) (spec.post enc Tryd.prog fn false true false false):=by
  refine returnsInHanded_of_row (C:=Tryd.checked) (s:=OpenSpec.ofChange spec) (F:=fun _ _ _=>0) zl6 started hini hf witness ?_
  intro W base args ds gs before hval hW _ _ hwt hL hsh _
  have hW':=hW
  obtain ⟨p,q,hA,hV,rfl,_,_⟩:=hW
  have hvars':(OpenSpec.ofChange spec).vars=[]:=hvars
  rw [hvars'] at hV
  obtain ⟨rfl,rfl⟩:=trodVars_none hV
  have hlen:ds.length=fn.params.toList.length:=by
    have:∀ {ts:List TypeId} {vs:List Value} {ds:List (DataW H)} {ps:List MemPlace},DataW.TrodAll enc Tryd.prog W 0 (fun _=>true) true ts vs ds ps→ds.length=ts.length:=by
      intro ts
      induction ts with
      | nil=>intro vs ds ps h; obtain ⟨_,rfl,_⟩:=trodAll_nil h; rfl
      | cons t ts ih=>
        intro vs ds ps h
        obtain ⟨v,vs1,d,ds1,a,b,rfl,rfl,rfl,h1,h2⟩:=trodAll_cons h
        simp only [List.length_cons,ih h2]
    exact this hA
  simp only [List.append_nil] at hW' hwt
  obtain ⟨l,hl,hbor,hrel⟩:=harg W base args.toList ds p hA (fun j t v h1 h2=>hval j t v (by simpa using h1) (by simpa using h2)) (fun j t d h1 h2 y hy=>by
    have hm:=zem (P:=Tryd.prog) (ts:=fn.params.toList++(OpenSpec.ofChange spec).bare.plain.varTypes Tryd.prog) (ds:=ds) (i:=j) (t:=t) (d:=d) (by
      rw [List.getElem?_append_left (by rw [← hlen]; exact (List.getElem?_eq_some_iff.1 h2).1)]
      exact h1) h2 y hy
    have:=List.all_eq_true.1 hwt y hm
    simpa using this)
  have hc:=zj7 hS hf hn hb hl hbor (hglob W hL hsh) hrel
  have ea:args.toList.toArray=args:=by simp
  rw [ea] at hc
  refine hc.mono ?_
  rintro e W' ⟨rfl,bel⟩
  have hfn:spec.fn H (ds++[])={ results:=[.lit (.bool true)],args:=ds }:=by rw [List.append_nil]; exact hspec ds hlen
  have hlt:∀ x∈p,x.block < W.heap.size:=fun x hx=>hW'.lt x hx
  have post:spec.post enc Tryd.prog fn false true false false W args (.bool true) W':=by
    refine ⟨ds,[],p,[],p,[],hW',?_,?_,?_,bel.frame _,fun h=>by cases h⟩
    · rw [hfn,hres]
      exact trodAll_mk1 (shut_bool Tryd.underlying4 _)
    · rw [hfn]
      exact z8w zc5 bel hA (fun t ht=>by
        have:=List.all_eq_true.1 hpar t ht
        simpa using this) hlt
    · rw [hvars,hfn]
      rfl
  exact ⟨_,rfl,post⟩
end Go.FM
namespace Go.Proofs.YtddhdnbgagcfjaaDoor
open Go Go.ChangeShapes Go.WideShapes Go.ChangeAt Go.RowKit Go.FM
theorem zl6:ownKnob Tryd.prog.godebug=none:=by kernel_rfl
theorem zc5:laidOutB Tryd.prog=true:=by kernel_rfl
abbrev z8p:List (String × DataW Unit):=Rows.certLinesRow.laid
noncomputable def zgp (os:Os):World:=
  let w0:=World.doorLaid Tryd.prog 72 os
  { w0 with heap:=w0.heap.modify 6 fun
      | .cells _ t frozen=>.cells (Lib.firstTab.map fun z=>Value.int .u8 z).toArray t frozen
      | o=>o }
theorem zmo (os:Os) (args:Array Value):laidMetH Tryd.prog z8p ((zgp os).forCall (fun _ _=>0) ⟨#[],args,[]⟩).memory:=
  laidMetH_of_parts3 (fuel:=8) (laidMet_of_run' 8 (by kernel_rfl) (by kernel_rfl)) (by kernel_rfl) (by kernel_rfl)
theorem zl7 {W:World} (hL:laidMetH Tryd.prog z8p W) (hsh:W.ShapedOpen Tryd.prog):Glob B0 W:=by
  have hL':laidMet Tryd.prog z8p W:=by
    rw [MakeChecks.laidMetH_plain _ _ _ (by kernel_rfl)] at hL
    exact hL
  exact zm5 hL' hsh (n1 := "*errors.errorString") (n2 := "*errors.errorString") (.tail _ (.tail _ (.head _))) (.tail _ (.tail _ (.tail _ (.tail _ (.head _))))) (.tail _ (.tail _ (.tail _ (.tail _ (.tail _ (.head _))))))
end Go.Proofs.YtddhdnbgagcfjaaDoor
