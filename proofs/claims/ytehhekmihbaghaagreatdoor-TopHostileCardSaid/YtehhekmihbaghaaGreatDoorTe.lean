/-
  A small machine that reads a function of the program and reckons what a call of it comes to; what Go's library on the road comes to; the functions of the program, one by one. No conditions beyond each specification's own. (GOALS AND CUTS: plain law: what is closed is not broken; a b, A FOREST AND AN ASK OF NUMBERS, AS STRUCTURES: what copsekee, SEARCHES, IN PLAIN LEAN: boxes that stay right; each step de, and so on.)
-/
import Derived.Test.YtehhekmihbaghaaGreatDoorTd
import Derived.Test.YtehhekmihbaghaaGreatDoorTc
import Derived.Test.YtehhekmihbaghaaGreatDoorTb
import Derived.Shelf.Vars
import Derived.Lib.LaidU8
import Derived.Lib.LaidTab
import Derived.Carry
set_option linter.all false
set_option maxRecDepth 100000
namespace Go.FM
open Go
theorem zrg {m:Md} (hm:z2g m=true) {t:IV} (ht:t∈m.ts):zav (zcm t) 4=true:=by
 have h:=z2n hm;exact yhr (ztp (v35.1 h.2.2.2.2 t ht)).2 h.1.2
theorem ycs (g:List IV→Int) (k:Int) (p:Pt):∀ (ts:List IV) (s s':Int),(∀ t∈ts,g (zcm t)≤zmm (zcm t) p)→s≤s'→zvv g k ts s≤evF k p ts s'
 | [],_,_,_,h=>h
 | t :: r,s,s',hg,h=>by
  rw [zvv,evF];have h1:=hg t (v09 ..);refine ycs g k p r _ _ (fun u hu=>hg u (v0b _ hu)) ?_
  cases (ypa t==k) <;> simp only [v1e,v18] <;> omega
theorem ybu (g:List IV→Int) (k:Int) (p:Pt):∀ (ts:List IV) (s s':Int),(∀ t∈ts,zmm (zcm t) p≤g (zcm t))→s'≤s→evF k p ts s'≤zvv g k ts s
 | [],_,_,_,h=>h
 | t :: r,s,s',hg,h=>by
  rw [zvv,evF];have h1:=hg t (v09 ..);refine ybu g k p r _ _ (fun u hu=>hg u (v0b _ hu)) ?_
  cases (ypa t==k) <;> simp only [v1e,v18] <;> omega
theorem zxi {m:Md} {k:Int} {b:Bx} (h:sOK m k b=true):z2g m=true∧zd7 m k=true∧b.emp=false:=by
 unfold sOK at h;simp only [v02,v12] at h;exact h
theorem yff {m:Md} {k:Int} (hm:z2g m=true) (hk:zd7 m k=true) (p:Pt):z3j m k p=evF k p m.ts (zep m k):=by
 unfold z3j;rw [hm,hk]
 rfl
theorem yuv {m:Md} {k:Int} {b:Bx} (h:sOK m k b=true) (hok:b.ok) {p:Pt} {t:Int} (hh:b.has p t=true):sLo m k b≤z3j m k p∧z3j m k p≤sHi m k b:=by
 obtain ⟨hm,hk,hb⟩:=zxi h;unfold sLo sHi;rw [h,z00,z00,yff hm hk];exact ⟨ycs _ k p m.ts _ _ (fun t ht=>((ybv (zrg hm ht) hb hok).1 p _ hh).1) (v2b _),ybu _ k p m.ts _ _ (fun t ht=>((ybv (zrg hm ht) hb hok).1 p _ hh).2) (v2b _)⟩
theorem yqp {m:Md} {k:Int} {b:Bx} (h:sOK m k b=true) (hok:b.ok) {p:Pt} {t:Int} (hh:b.has p t=true) (hc:∀ u∈m.ts,∀ p' t',b.has p' t'=true→zmm (zcm u) p'=zmm (zcm u) p):sLo m k b=z3j m k p∧sHi m k b=z3j m k p:=by
 obtain ⟨hm,hk,hb⟩:=zxi h;have h1:=yuv h hok hh;have h2:z3j m k p≤sLo m k b∧sHi m k b≤z3j m k p:=by
  unfold sLo sHi;rw [h,z00,z00,yff hm hk];refine ⟨ybu _ k p m.ts _ _ (fun u hu=>?_) (v2b _),ycs _ k p m.ts _ _ (fun u hu=>?_) (v2b _)⟩
  ·obtain ⟨_,⟨p',t',q1,q2⟩,_⟩:=ybv (zrg hm hu) hb hok
   rw [← hc u hu p' t' q1];exact Int.le_of_eq q2
  ·obtain ⟨_,_,⟨p',t',q1,q2⟩⟩:=ybv (zrg hm hu) hb hok
   rw [← hc u hu p' t' q1];exact Int.le_of_eq q2.symm
 omega
theorem zxd {x:Int}:∀ {l:List Int} {p:Int},x∈l→x=p∨x∈ycz p l
 | y :: r,p,h=>by
  rw [ycz];cases hb:(y==p) with
  | true=>
   have hb:=v1h.1 hb;rw [z00];rcases v17.1 h with h | h
   ·exact .inl (h.trans hb)
   ·rcases zxd (p:=y) h with h1 | h1
    ·exact .inl (h1.trans hb)
    ·exact .inr h1
  | false=>
   rw [z01];rcases v17.1 h with h | h
   ·exact .inr (h ▸ v09 ..)
   ·rcases zxd (p:=y) h with h1 | h1
    ·exact .inr (h1 ▸ v09 ..)
    ·exact .inr (v0b _ h1)
theorem yml {x:Int} {l:List Int} (h:x∈l):x∈y68 l:=by
 cases l with
 | nil=>cases h
 | cons y r=>
  rw [y68];rcases v17.1 h with h | h
  ·exact h ▸ v09 ..
  ·rcases zxd (p:=y) h with h1 | h1
   ·exact h1 ▸ v09 ..
   ·exact v0b _ h1
theorem ys0 {ts:List IV} {f a:Int}:a∈y08 ts f↔∃ t∈ts,∃ w∈zcm t,(z07 w.toInt).lf=false∧(z07 w.toInt).f=f∧(z07 w.toInt).a=a:=by
 have e:a∈y08 ts f↔a∈z8d ts f:=by
  unfold y08;exact ⟨fun h=>(z9q _).mem_iff.1 (yg3 h),fun h=>yml ((z9q _).mem_iff.2 h)⟩
 rw [e];unfold z8d;simp only [List.mem_flatMap];constructor
 ·rintro ⟨t,ht,w,hw,h⟩
  unfold zvq at h;cases hc:(!(z07 w.toInt).lf&&(z07 w.toInt).f==f) with
  | false=>rw [hc,z01] at h; cases h
  | true=>
   rw [hc,z00] at h;simp only [v02,v12,v1h] at hc;exact ⟨t,ht,w,hw,hc.1,hc.2,(v1v.1 h).symm⟩
 ·rintro ⟨t,ht,w,hw,h1,h2,h3⟩
  refine ⟨t,ht,w,hw,?_⟩;unfold zvq;rw [h1,h2,v2f];exact v1v.2 h3.symm
def y2z (m:Md) (s:Sp) (f:Int):Prop:=∀ a∈y08 m.ts f,¬ (s.lo≤a∧a < s.hi)
theorem yo3 {lo hi a:Int} {l:List Int}:a∈zkr lo hi l↔a∈l∧lo≤a∧a < hi:=by
 unfold zkr;rw [List.mem_filter];simp only [v12,v1z,v15];constructor
 ·rintro ⟨h,h1,h2⟩; exact ⟨h,by omega,by omega⟩
 ·rintro ⟨h,h1,h2⟩; exact ⟨h,by omega,by omega⟩
theorem zic {m:Md} {q:Qy} {b:Bx} {i:Nat} {a:Int}:a∈z4g m q b i↔0≤zew q (i:Int)∧a∈y08 m.ts (zew q (i:Int))∧(b.g i).lo≤a∧a < (b.g i).hi:=by
 unfold z4g;cases hd:decide (zew q (i:Int) < 0) with
 | true=>
  have:=v0c hd
  rw [z00];constructor
  ·intro h; cases h
  ·rintro ⟨h,_⟩; omega
 | false=>
  have:=v0r hd
  rw [z01,yo3];constructor
  ·intro h; exact ⟨by omega,h⟩
  ·exact fun h=>h.2
theorem yj9 {m:Md} {q:Qy} {b:Bx} {i:Nat} (h:z4g m q b i=[]) (hf:0≤zew q (i:Int)):y2z m (b.g i) (zew q (i:Int)):=by
 intro a ha hr
 have:a∈z4g m q b i:=zic.2 ⟨hf,ha,hr⟩
 rw [h] at this;cases this
theorem y3g {q:Qy} {i:Nat} (hi:i < 4):zew q (i:Int)=(i:Int):=by
 unfold zew;rw [v01 (show (i:Int)≥0 by omega),v01 (show (i:Int) < 4 by omega)]
 rfl
theorem y4p {l:List IV} {p p':Pt} (h:∀ w∈l,zbi w.toInt=true→(z07 w.toInt).lf=false→(p.g (z07 w.toInt).f.toNat≤(z07 w.toInt).a↔p'.g (z07 w.toInt).f.toNat≤(z07 w.toInt).a)):∀ (n:Nat) (a:Int),zv9 l p n a=zv9 l p' n a
 | 0,_=>rfl
 | n+1,a=>by
  rw [zv9,zv9];cases decide (a≥ic l.length) with
  | true=>rfl
  | false=>
   rw [z01,z01]
   by_cases hlt:a.toNat < l.length
   ·have hw:l.getD a.toNat default∈l:=by rw [zw5 hlt]; exact v1x hlt
    generalize l.getD a.toNat default=w at hw ⊢
    cases hb:zbi w.toInt with
    | false=>rfl
    | true=>
     rw [v0e,z01,z01];cases hl:(z07 w.toInt).lf with
     | true=>rfl
     | false=>
      have:=h w hw hb hl
      have ed:decide (p.g (z07 w.toInt).f.toNat≤(z07 w.toInt).a)=decide (p'.g (z07 w.toInt).f.toNat≤(z07 w.toInt).a):=by
       rw [v2s,v07,v07];exact this
      rw [z01,z01,ed,y4p h n _,y4p h n _]
   ·have e:l.getD a.toNat default=default:=by
     rw [v0n,v0t (by omega)]
     rfl
    rw [e]
    rfl
theorem ync {m:Md} {b:Bx} (hf:∀ f:Nat,f < 4→y2z m (b.g f) (f:Int)) {u:IV} (hu:u∈m.ts) {p p':Pt} {t t':Int} (h:b.has p t=true) (h':b.has p' t'=true):zmm (zcm u) p'=zmm (zcm u) p:=by
 unfold zmm yns;rw [y4p (p:=p') (p':=p) fun w hw hb hl=>?_]
 obtain ⟨⟨f0,f4⟩,_⟩:=zwf hb hl;have ef:(z07 w.toInt).f=(((z07 w.toInt).f.toNat:Nat):Int):=by omega
 have hlt:(z07 w.toInt).f.toNat < 4:=by omega
 have h1:=zj6.1 (zmj.1 h _ (show (z07 w.toInt).f.toNat < 5 by omega))
 have h2:=zj6.1 (zmj.1 h' _ (show (z07 w.toInt).f.toNat < 5 by omega))
 rw [y6m _ _ hlt] at h1 h2;have h3:=hf _ hlt (z07 w.toInt).a (ys0.2 ⟨u,hu,w,hw,hl,ef,rfl⟩);omega
theorem y7p {m:Md} {k:Int} {b:Bx} (h:sOK m k b=true) (hok:b.ok) (hf:∀ f:Nat,f < 4→y2z m (b.g f) (f:Int)) {p:Pt} {t:Int} (hh:b.has p t=true):sLo m k b=z3j m k p∧sHi m k b=z3j m k p:=
 yqp h hok hh fun _ hu _ _ h'=>ync hf hu hh h'
theorem zyc {m:Md} {c lo:Int} {b:Bx}:∀ (d:Nat) (i a:Int) (z:Bool),(0 < zzj m c lo b d i a z↔(z=true∨∃ j:Nat,j < d∧i+j≠c)∧(z=true→0 < a)∧∀ j:Nat,j < d→i+j≠c→sHi m (i+j) b < lo)∨(z=false∧∀ j:Nat,j < d→i+j=c)
 | 0,i,a,z=>by
  cases z with
  | false=>exact .inr ⟨rfl,fun j hj=>absurd hj (Nat.not_lt_zero j)⟩
  | true=>
   refine .inl ?_;rw [zzj];exact ⟨fun h=>⟨.inl rfl,fun _=>h,fun j hj=>absurd hj (Nat.not_lt_zero j)⟩,fun h=>h.2.1 rfl⟩
 | d+1,i,a,z=>by
  rw [zzj];have sh:∀ j:Nat,i+1+(j:Int)=i+((j+1:Nat):Int):=fun j=>by omega
  cases hc:(i==c) with
  | true=>
   have hc:=v1h.1 hc;rw [z00];rcases zyc (m:=m) (c:=c) (lo:=lo) (b:=b) d (i+1) a z with h | ⟨h1,h2⟩
   ·refine .inl (h.trans ?_)
    constructor
    ·rintro ⟨q1,q2,q3⟩
     refine ⟨q1.imp_right ?_,q2,fun j hj hne=>?_⟩
     ·rintro ⟨j,hj,hne⟩; exact ⟨j+1,by omega,by rw [← sh j]; exact hne⟩
     ·cases j with
      | zero=>exact absurd (by simpa using hc) hne
      | succ j=>rw [← sh j] at hne ⊢; exact q3 j (by omega) hne
    ·rintro ⟨q1,q2,q3⟩
     refine ⟨q1.imp_right ?_,q2,fun j hj hne=>?_⟩
     ·rintro ⟨j,hj,hne⟩
      cases j with
      | zero=>exact absurd (by simpa using hc) hne
      | succ j=>exact ⟨j,by omega,by rw [sh j]; exact hne⟩
     ·rw [sh j] at hne ⊢; exact q3 (j+1) (by omega) hne
   ·refine .inr ⟨h1,fun j hj=>?_⟩
    cases j with
    | zero=>simpa using hc
    | succ j=>rw [← sh j]; exact h2 j (by omega)
  | false=>
   have hc:i≠c:=fun e=>by rw [e,v2f] at hc; cases hc
   rw [z01];refine .inl ?_;have key:∀ (a':Int),(0 < a'↔(z=true→0 < a)∧sHi m i b < lo)→(0 < zzj m c lo b d (i+1) a' true↔(z=true∨∃ j:Nat,j < d+1∧i+(j:Int)≠c)∧(z=true→0 < a)∧∀ j:Nat,j < d+1→i+(j:Int)≠c→sHi m (i+j) b < lo):=fun a' ha'=>by
    rcases zyc (m:=m) (c:=c) (lo:=lo) (b:=b) d (i+1) a' true with h | ⟨h1,_⟩
    ·rw [h]
     constructor
     ·rintro ⟨_,q2,q3⟩
      obtain ⟨r1,r2⟩:=ha'.1 (q2 rfl);refine ⟨.inr ⟨0,by omega,by simpa using hc⟩,r1,fun j hj hne=>?_⟩
      cases j with
      | zero=>simpa using r2
      | succ j=>rw [← sh j] at hne ⊢; exact q3 j (by omega) hne
     ·rintro ⟨_,q2,q3⟩
      have r2:=q3 0 (by omega) (by simpa using hc)
      refine ⟨.inl rfl,fun _=>ha'.2 ⟨q2,by simpa using r2⟩,fun j hj hne=>?_⟩
      rw [sh j] at hne ⊢
      exact q3 (j+1) (by omega) hne
    ·cases h1
   cases z with
   | false=>
    rw [v0j,v4a,z00];exact key _ ⟨fun h=>⟨fun h=>(by cases h),by omega⟩,fun h=>by have:=h.2; omega⟩
   | true=>
    rw [v0e,v2t];cases hd:decide (lo - sHi m i b < a) with
    | true=>
     have hd:=v0c hd;rw [z00];exact key _ ⟨fun h=>⟨fun _=>by omega,by omega⟩,fun h=>by have:=h.2; omega⟩
    | false=>
     have hd:=v0r hd;rw [z01];exact key _ ⟨fun h=>⟨fun _=>h,by omega⟩,fun h=>h.1 rfl⟩
theorem ygb {m:Md} {c:Int} {b:Bx} (h:yfs m c b=true):0 < ypy m c b↔∀ j:Nat,(j:Int) < m.c→(j:Int)≠c→sHi m (j:Int) b < sLo m c b:=by
 have h0:=h;unfold yfs at h0;rw [v02,v07] at h0;obtain ⟨hs,h2⟩:=h0;have hc:=yfz (zxi hs).2.1;unfold ypy;rw [h,z00];rcases zyc (m:=m) (c:=c) (lo:=sLo m c b) (b:=b) m.c.toNat 0 0 false with h1 | ⟨_,h1⟩
 ·rw [h1]
  simp only [Int.zero_add];constructor
  ·rintro ⟨_,_,q⟩ j hj hne
   exact q j (by omega) hne
  ·intro q
   refine ⟨.inr ?_,fun h=>(by cases h),fun j hj hne=>q j (by omega) hne⟩
   by_cases e:c=0
   ·exact ⟨1,by omega,by omega⟩
   ·exact ⟨0,by omega,by omega⟩
 ·have q0:=h1 0 (by omega)
  have q1:=h1 1 (by omega)
  omega
theorem yth (p:Pt) (x t:Int):∀ {f i:Nat},f < 4→i < 5→co (p.p x f) t i=if i=f then x else co p t i
 | 0,0,_,_=>rfl
 | 0,1,_,_=>rfl
 | 0,2,_,_=>rfl
 | 0,3,_,_=>rfl
 | 0,4,_,_=>rfl
 | 1,0,_,_=>rfl
 | 1,1,_,_=>rfl
 | 1,2,_,_=>rfl
 | 1,3,_,_=>rfl
 | 1,4,_,_=>rfl
 | 2,0,_,_=>rfl
 | 2,1,_,_=>rfl
 | 2,2,_,_=>rfl
 | 2,3,_,_=>rfl
 | 2,4,_,_=>rfl
 | 3,0,_,_=>rfl
 | 3,1,_,_=>rfl
 | 3,2,_,_=>rfl
 | 3,3,_,_=>rfl
 | 3,4,_,_=>rfl
 | f+4,_,h,_=>absurd h (by omega)
 | _,i+5,_,h=>absurd h (by omega)
theorem yv5 (p:Pt) (t t':Int):∀ {i:Nat},i < 4→co p t i=co p t' i
 | 0,_=>rfl
 | 1,_=>rfl
 | 2,_=>rfl
 | 3,_=>rfl
 | i+4,h=>absurd h (by omega)
theorem ymg {q:Qy} {b:Bx} (hp:z5s q=true) {p:Pt} {t:Int} (h:b.has p t=true):(zb8 q b).has p 0=true:=by
 rw [zmj] at h ⊢
 intro i hi;unfold zb8;rw [hp,z00,zej _ _ (by omega) hi]
 by_cases e:i=4
 ·subst e
  rw [v1b rfl]
  rfl
 ·rw [v0y e,yv5 p 0 t (by omega)]
  exact h i hi
theorem yi9 {q:Qy} {b:Bx} (hp:z5s q=true) {p:Pt} {t:Int} (h:b.has p t=true):(z7f q b).has (z6b q p t) 0=true:=by
 have hf:q.ft.toNat < 4:=by rcases za2 hp with e | e | e | e <;> rw [e] <;> decide
 rw [zmj] at h ⊢
 intro i hi;unfold z7f z6b;rw [hp,z00,z00,zej _ _ (by omega) hi]
 by_cases e:i=4
 ·subst e
  rw [v1b rfl]
  have:co (p.p t q.ft.toNat) 0 4=0:=rfl
  rw [this]
  rfl
 ·rw [v0y e,zej _ _ (by omega) hi,yth p t 0 hf hi]
  by_cases e2:i=q.ft.toNat
  ·rw [v1b e2,v1b e2]
   exact h 4 (by omega)
  ·rw [v0y e2,v0y e2,yv5 p 0 t (by omega)]
   exact h i hi
theorem yon {q:Qy} {b:Bx} (hb:b.ok):(zb8 q b).ok:=by
 unfold zb8;cases z5s q with
 | true=>exact ytx (s:=⟨0,0⟩) (i:=4) hb (show (0:Int)≤2147483647 by omega) (by omega)
 | false=>exact hb
theorem yjr {q:Qy} {b:Bx} (hb:b.ok):(z7f q b).ok:=by
 unfold z7f;cases hp:z5s q with
 | true=>
  have hf:q.ft.toNat < 5:=by rcases za2 hp with e | e | e | e <;> rw [e] <;> decide
  exact ytx (s:=⟨0,0⟩) (i:=4) (ytx hb (hb 4 (by omega)) hf) (show (0:Int)≤2147483647 by omega) (by omega)
 | false=>exact hb
theorem y6i {m:Md} {k:Int} (h0:0≤k) (h1:k < m.c):zd7 m k=true:=by
 unfold zd7;rw [v01 h0,v01 h1]
 rfl
theorem zwl {m:Md} {k:Int} {b:Bx} (hm:z2g m=true) (hk:zd7 m k=true) (hb:b.emp=false):sOK m k b=true:=by
 unfold sOK;rw [hm,hk,hb]
 rfl
theorem zxv {m:Md} {q:Qy} (hm:z2g m=true) (hk:q.k=3) (hf:0≤q.ft∧q.ft < m.d):z5s q=true:=by
 have:=(z2n hm).1
 unfold z5s;rw [hk,v01 (show q.ft≥0 by omega),v01 (show q.ft < 4 by omega)]
 rfl
theorem yii {m:Md} {q:Qy} {p:Pt} {own:Int}:zq2 m q p own=true↔∃ j:Nat,(j:Int) < m.c∧(j:Int)≠q.c∧z3j m (j:Int) p≥own:=by
 unfold zq2;rw [List.any_eq_true];constructor
 ·rintro ⟨c,hc,h⟩
  simp only [v02,v12,v0v,v07] at h;exact ⟨c,by have:=List.mem_range.1 hc; omega,h.1,h.2⟩
 ·rintro ⟨j,h1,h2,h3⟩
  refine ⟨j,List.mem_range.2 (by omega),?_⟩
  simp only [v02,v12,v0v,v07];exact ⟨h2,h3⟩
theorem y7d {m:Md} {q:Qy} {b:Bx} (hr:z2b m q=true) (hb:b.emp=false) (hok:b.ok) (hn:∀ i,i < 5→z4g m q b i=[]):z2r m q b=true∨z3u m q b.low b.s4.hi=true:=by
 obtain ⟨hm,⟨c0,c1⟩,_,_,hk⟩:=z91 hr;have hcl:=y6i c0 c1;have hs:=zwl hm hcl hb;have hh:=y20 b hb;have hfl:∀ f:Nat,f < 4→y2z m (b.g f) (f:Int):=fun f hf=>by
  have:=yj9 (hn f (by omega)) (by rw [y3g hf]; omega)
  rwa [y3g hf] at this
 unfold z2r z3u;rw [hr,hb,v0k,v0k,z01];rcases zlk hk with ⟨e,_⟩ | ⟨e,h2,_⟩ | ⟨e,hf,_⟩
 ·rw [e]
  obtain ⟨q1,q2⟩:=y7p hs hok hfl hh;show (sOK m q.c b&&(decide (q.lo≤sLo m q.c b)&&decide (sHi m q.c b≤q.hi)))=true∨(!(Sp.has ⟨q.lo,q.hi⟩ (z3j m q.c b.low)))=true;rw [hs,q1,q2,v0k];unfold Sp.has;cases (decide (q.lo≤z3j m q.c b.low)&&decide (z3j m q.c b.low≤q.hi)) with
  | true=>exact .inl rfl
  | false=>exact .inr rfl
 ·rw [e]
  show (yfs m q.c b&&decide (ypy m q.c b > 0))=true∨zq2 m q b.low (z3j m q.c b.low)=true;have hg:yfs m q.c b=true:=by unfold yfs; rw [hs,v01 (show m.c≥2 from h2)]; rfl
  rw [hg,v0k];cases ho:zq2 m q b.low (z3j m q.c b.low) with
  | true=>exact .inr rfl
  | false=>
   refine .inl (v01 ((ygb hg).2 fun j hj hne=>?_))
   have q1:=(y7p hs hok hfl hh).1;have q2:=(y7p (zwl hm (y6i (k:=(j:Int)) (by omega) hj) hb) hok hfl hh).2
   have q3:¬ z3j m (j:Int) b.low≥z3j m q.c b.low:=fun h=>by
    rw [yii.2 ⟨j,hj,hne,h⟩] at ho;cases ho
   omega
 ·rw [e]
  have hp:=zxv hm e hf;have hf5:q.ft.toNat < 4:=by rcases za2 hp with e | e | e | e <;> rw [e] <;> decide
  have ef:q.ft=((q.ft.toNat:Nat):Int):=by omega
  show cond (!(zg2 q b)) true (cond q.fl (y97 m q b&&decide (yn1 m q b≤0)) (y97 m q b&&decide (yn2 m q b≥0)))=true∨cond (decide (b.low.g q.ft.toNat≥b.s4.hi)) false (cond q.fl (decide (z3j m q.c (z6b q b.low b.s4.hi) > z3j m q.c b.low)) (decide (z3j m q.c (z6b q b.low b.s4.hi) < z3j m q.c b.low)))=true;cases ho:zg2 q b with
  | false=>exact .inl rfl
  | true=>
   have hlt:b.low.g q.ft.toNat < b.s4.hi:=by
    unfold zg2 at ho;simp only [v02,v07] at ho;have h1:=ho.2.2
    have:b.low.g q.ft.toNat=(b.g q.ft.toNat).lo:=by
     match q.ft.toNat,hf5 with
     | 0,_=>rfl
     | 1,_=>rfl
     | 2,_=>rfl
     | 3,_=>rfl
     | n+4,h=>exact absurd h (by omega)
    omega
   have f1:=ymg (b:=b) hp hh;have f2:=yi9 (b:=b) hp hh;have k1:=zwl hm hcl (y34 f1);have k2:=zwl hm hcl (y34 f2);have fl1:∀ f:Nat,f < 4→y2z m ((zb8 q b).g f) (f:Int):=fun f hf=>by
    unfold zb8;rw [hp,z00,zej _ _ (by omega) (by omega),v0y (by omega)]
    exact hfl f hf
   have fl2:∀ f:Nat,f < 4→y2z m ((z7f q b).g f) (f:Int):=fun f hf=>by
    unfold z7f;rw [hp,z00,zej _ _ (by omega) (by omega),v0y (by omega),zej _ _ (by omega) (by omega)]
    by_cases e2:f=q.ft.toNat
    ·rw [v1b e2]
     have e4:zew q ((4:Nat):Int)=q.ft:=by unfold zew; rw [e]; rfl
     have:=yj9 (hn 4 (by omega)) (by rw [e4]; omega)
     rw [e4,ef,← e2] at this;exact this
    ·rw [v0y e2]
     exact hfl f hf
   obtain ⟨q1,q2⟩:=y7p k1 (yon hok) fl1 f1;obtain ⟨q3,q4⟩:=y7p k2 (yjr hok) fl2 f2;have hch:y97 m q b=true:=by unfold y97; rw [hp,k1,k2]; rfl
   rw [v0e,z01,hch,v0k,v0k,v05 (show ¬ b.low.g q.ft.toNat≥b.s4.hi by omega),z01]
   unfold yn1 yn2;rw [hch,z00,z00,q1,q2,q3,q4];cases q.fl with
   | true=>
    rw [z00,z00]
    by_cases hd:z3j m q.c (z6b q b.low b.s4.hi) > z3j m q.c b.low
    ·exact .inr (v01 hd)
    ·exact .inl (v01 (by omega))
   | false=>
    rw [z01,z01]
    by_cases hd:z3j m q.c (z6b q b.low b.s4.hi) < z3j m q.c b.low
    ·exact .inr (v01 hd)
    ·exact .inl (v01 (by omega))
theorem yg1 {m:Md} {q:Qy} {b:Bx}:∀ (d i:Nat),(spR m q b d i).isSome=false→∀ j,i≤j→j < i+d→z4g m q b j=[]
 | 0,i,_,j,h1,h2=>by omega
 | d+1,i,h,j,h1,h2=>by
  rw [spR] at h;cases hc:decide ((z4g m q b i).length > 0) with
  | true=>rw [hc,z00] at h; cases h
  | false=>
   rw [hc,z01] at h;have hc:=v0r hc
   by_cases e:j=i
   ·subst e
    exact List.length_eq_zero_iff.1 (by omega)
   ·exact yg1 d (i+1) h j (by omega) (by omega)
theorem yij {m:Md} {q:Qy} {b:Bx} (h:(z1p m q b).isSome=false):∀ i,i < 5→z4g m q b i=[]:=fun i hi=>yg1 5 0 h i (v0x _) (by omega)
theorem ygj {m:Md} {q:Qy} {b:Bx}:∀ (d i:Nat),(spR m q b d i).isSome=true→∃ j:Nat,i≤j∧j < i+d∧spI (spR m q b d i)=(j:Int)∧0 < (z4g m q b j).length∧zxz (spR m q b d i)=(z4g m q b j).getD (((z4g m q b j).length - 1) / 2) 0∧∀ k,i≤k→k < j→z4g m q b k=[]
 | 0,i,h=>by rw [spR] at h; cases h
 | d+1,i,h=>by
  rw [spR] at h ⊢
  cases hc:decide ((z4g m q b i).length > 0) with
  | true=>exact ⟨i,v0a _,by omega,rfl,v0c hc,rfl,fun k h1 h2=>absurd h1 (by omega)⟩
  | false=>
   rw [hc,z01] at h;rw [z01];have hc:=v0r hc;obtain ⟨j,h1,h2,h3,h4,h5,h6⟩:=ygj d (i+1) h;refine ⟨j,by omega,by omega,h3,h4,h5,fun k hk1 hk2=>?_⟩
   by_cases e:k=i
   ·subst e
    exact List.length_eq_zero_iff.1 (by omega)
   ·exact h6 k (by omega) hk2
theorem zs3 {m:Md} {q:Qy} {b:Bx} (h:(z1p m q b).isSome=true):∃ j:Nat,j < 5∧spI (z1p m q b)=(j:Int)∧0 < (z4g m q b j).length∧zxz (z1p m q b)=(z4g m q b j).getD (((z4g m q b j).length - 1) / 2) 0∧zxz (z1p m q b)∈z4g m q b j:=by
 obtain ⟨j,_,h2,h3,h4,h5,_⟩:=ygj 5 0 h;refine ⟨j,by omega,h3,h4,h5,?_⟩
 have hlt:((z4g m q b j).length - 1) / 2 < (z4g m q b j).length:=by omega
 have:zxz (z1p m q b)=(z4g m q b j)[((z4g m q b j).length - 1) / 2]:=by
  refine v4b h5 ?_;simp [hlt]
 rw [this];exact v1x hlt
open Go
abbrev kFt:List Kd:=[.int .i64,.list false [.int .i64],.list false [.int .i64],.list false [.int .i64],.list false [.int .i64]]
structure Ft where
 d:Int
 c:Int
 bias:List IV
 ts:List IV
def Ft.cs (f:Ft):List FM.V:=[.int .i64 f.d,.int .i64 f.c,.list false [.int .i64] f.bias,.list true kFt f.ts]
def Ft.V (f:Ft):FM.V:=.agg f.cs
def Ft.M (f:Ft):Md:=ytz f.d f.c f.bias f.ts
def ftOf?:List FM.V→Option Ft
 | [.int .i64 d,.int .i64 c,.list false [.int .i64] b,.list true [.int .i64,.list false [.int .i64],.list false [.int .i64],.list false [.int .i64],.list false [.int .i64]] t]=>some ⟨d,c,b,t⟩
 | _=>none
def akOf?:List FM.V→Option Ak
 | [.int .i64 k,.int .i64 c,.int .i64 lo,.int .i64 size,.int .i64 ft,.int .i64 bu,.bool fl,.list false [.int .i64] sp]=>some ⟨k,c,lo,size,ft,bu,fl,sp⟩
 | _=>none
abbrev ysq (v:FM.V) (k:Ft→R):R:=zzx ftOf? v k
abbrev ysw (v:FM.V) (k:Ak→R):R:=zzx akOf? v k
theorem yjm {v:FM.V} {k:Ft→R} {z:FM.V × List (List FM.V)} (h:(ysq v k).get=some z):∃ x:Ft,v=x.V∧(k x).get=some z:=by
 obtain ⟨l,x,rfl,hx,h⟩:=zdb h;unfold ftOf? at hx
 split at hx
 ·simp only [v00] at hx
  subst hx;exact ⟨_,rfl,h⟩
 ·cases hx
theorem yjp {v:FM.V} {k:Ak→R} {z:FM.V × List (List FM.V)} (h:(ysw v k).get=some z):∃ x:Ak,v=x.V∧(k x).get=some z:=by
 obtain ⟨l,x,rfl,hx,h⟩:=zdb h;unfold akOf? at hx
 split at hx
 ·simp only [v00] at hx
  subst hx;exact ⟨_,rfl,h⟩
 ·cases hx
def yuy (a:Ak) (m:Md):Qy:=zc0 a m.d m.c
def yvl (m:Md):Bool:=(decide (1≤m.d)&&decide (m.d≤4))&&(decide (1≤m.c)&&decide (m.c≤3))
def z3n:z0o
 | [f]=>ysq f fun f=>.ok f.M.V []
 | _=>.no
def z4u:z0o
 | [a,m]=>ysw a fun a=>zgw m fun m=>.br (yvl m) (.ok (yuy a m).V []) .no
 | _=>.no
theorem ymd {vs:List FM.V} {z:FM.V × List (List FM.V)} (h:(z3n vs).get=some z):(z54 vs).get=some z:=by
 unfold z3n at h
 split at h
 ·replace h:=yjm h
  obtain ⟨f,rfl,h⟩:=h;exact h
 ·simp [R.get] at h
theorem yl4 {vs:List FM.V} {z:FM.V × List (List FM.V)} (h:(z4u vs).get=some z):(z6l vs).get=some z:=by
 unfold z4u at h
 split at h
 ·replace h:=yjp h
  obtain ⟨a,rfl,h⟩:=h;replace h:=z3q h;obtain ⟨m,rfl,h⟩:=h;exact h
 ·simp [R.get] at h
open Go
def Bx.good (b:Bx):Prop:=∀ i,i < 5 → -2147483648≤(b.g i).lo∧(b.g i).lo≤(b.g i).hi∧(b.g i).hi≤2147483647
theorem Bx.good.emp {b:Bx} (h:b.good):b.emp=false:=yjc.2 fun i hi=>(h i hi).2.1
theorem Bx.good.ok {b:Bx} (h:b.good):b.ok:=fun i hi=>(h i hi).2.2
def Sp.good (s:Sp):Prop := -2147483648≤s.lo∧s.lo≤s.hi∧s.hi≤2147483647
theorem ztw {b:Bx} (hb:b.good) {s:Sp} (hs:s.good) {i:Nat} (hi:i < 5):(b.p s i).good:=by
 intro j hj;rw [zej b s hi hj]
 by_cases h:j=i
 ·rw [v1b h]; exact hs
 ·rw [v0y h]; exact hb j hj
theorem yb1 {lo hi:Int} (h0 : -2147483648≤lo) (h1:lo≤hi) (h2:hi≤2147483647):(yc8 lo hi).good:=by
 unfold yc8;rw [v05 (by omega),z01]
 exact ⟨h0,h1,h2⟩
theorem y8c {b:Bx} (hb:b.good) {i:Nat} (hi:i < 5) {a:Int} (h1:(b.g i).lo≤a) (h2:a < (b.g i).hi):(b.cutL (i:Int) a).good:=by
 unfold Bx.cutL;rw [v0g];have h:=hb i hi;refine ztw hb (yb1 h.1 ?_ ?_) hi <;> omega
theorem yb5 {b:Bx} (hb:b.good) {i:Nat} (hi:i < 5) {a:Int} (h1:(b.g i).lo≤a) (h2:a < (b.g i).hi):(b.cutH (i:Int) a).good:=by
 unfold Bx.cutH;rw [v0g];have h:=hb i hi;have e:zex (a+1)=a+1:=z0s (by omega) (by omega)
 refine ztw hb ?_ hi;unfold Sp.cutH;rw [v05 (by omega),z01,e]
 exact yb1 (by omega) (by omega) h.2.2
theorem zld {d i:Int} {s:Sp} (h:yek d i s=true):s.good:=by
 unfold yek at h;simp only [v02,v12,z2c,Sp.emp,v07,v15] at h;obtain ⟨_,h1,h2,h3⟩:=h;exact ⟨h2.1,by omega,h3.2⟩
theorem zcx {m:Md} {q:Qy} (h:z2b m q=true):z2g m=true∧(0≤q.c∧q.c < m.c)∧(0≤q.bu∧q.bu≤65536)∧y6l q.bx m.d=true∧y9o m q=true:=by
 unfold z2b at h;simp only [v02,v07] at h;exact ⟨h.1,⟨h.2.1,h.2.2.1⟩,⟨h.2.2.2.1,h.2.2.2.2.1⟩,h.2.2.2.2.2.1,h.2.2.2.2.2.2⟩
theorem yox {b:Bx} {d:Int} (h:y6l b d=true):b.good:=by
 unfold y6l at h;simp only [v02] at h;intro i hi
 match i,hi with
 | 0,_=>exact zld h.1
 | 1,_=>exact zld h.2.1
 | 2,_=>exact zld h.2.2.1
 | 3,_=>exact zld h.2.2.2.1
 | 4,_=>exact zld h.2.2.2.2
 | n+5,hi=>omega
theorem zqt {m:Md} {q:Qy} (h:z2b m q=true):(z4f q).good:=by
 have hb:=yox (zcx h).2.2.2.1;unfold z4f;refine ztw hb ?_ (by omega)
 cases hp:z5s q with
 | false=>rw [z01]; exact ⟨by decide,by decide,by decide⟩
 | true=>
  rw [z00];unfold z5s at hp;simp only [v02,v07] at hp;exact hb q.ft.toNat (by omega)
def yh0 (s:Sr):Prop:=∀ x∈s.left,(bxI x).good
theorem zvb {s:Sr} (h:yh0 s) (hl:0 < s.left.length):(z3s s.left).good:=by
 unfold z3s;refine h _ ?_;rw [v0n,v0h (by omega)]
 exact v1x _
theorem ym5 {m:Md} {q:Qy} (h:z2b m q=true):yh0 ⟨[(z4f q).I],[],Vd.none,0⟩:=by
 intro x hx;obtain rfl:=v1v.1 hx;rw [zv8];exact zqt h
theorem y1s {m:Md} {q:Qy} {s:Sr} (hr:z2b m q=true) (hg:yh0 s) (hl:0 < s.left.length) (h1:z2r m q (z3s s.left)=false) (h2:z3u m q (z3s s.left).low (z3s s.left).s4.hi=false) :
  (z1p m q (z3s s.left)).isSome=true:=by
 have ht:=zvb hg hl;cases hs:(z1p m q (z3s s.left)).isSome with
 | true=>rfl
 | false=>
  rcases y7d hr ht.emp ht.ok (yij hs) with h | h
  ·rw [h1] at h; cases h
  ·rw [h2] at h; cases h
theorem zr3 {l:List IV} {x:IV} (h:x∈zgz l):x∈l:=v33 h
theorem yho {m:Md} {q:Qy} {s:Sr} (hg:yh0 s) (hl:0 < s.left.length):yh0 (z7k m q s):=by
 have hp:∀ x∈zgz s.left,(bxI x).good:=fun x hx=>hg x (zr3 hx)
 unfold z7k;cases z2r m q (z3s s.left) with
 | true=>exact hp
 | false=>
  cases z3u m q (z3s s.left).low (z3s s.left).s4.hi with
  | true=>exact hp
  | false=>
   cases hs:(z1p m q (z3s s.left)).isSome with
   | false=>exact hp
   | true=>
    obtain ⟨j,hj,ei,_,_,hm⟩:=zs3 hs;have hc:=zic.1 hm;have ht:=zvb hg hl;intro x hx;rw [z01,z01,z00] at hx;rcases v0o.1 hx with hx | hx
    ·exact hp x hx
    ·rw [ei] at hx
     rcases v17.1 hx with rfl | hx
     ·rw [zv8]; exact yb5 ht hj hc.2.2.1 hc.2.2.2
     ·obtain rfl:=v1v.1 hx
      rw [zv8]; exact y8c ht hj hc.2.2.1 hc.2.2.2
open Go
abbrev yu0:List Kd:=[.int .i64,.int .i64,.int .i64,.int .i64,.int .i64,.int .i64,.int .i64,.int .i64,.int .i64,.int .i64,.int .i64]
def yla (a:Int) (b:Bx):IV:=.agg [.int a,.int b.s0.lo,.int b.s0.hi,.int b.s1.lo,.int b.s1.hi,.int b.s2.lo,.int b.s2.hi,.int b.s3.lo,.int b.s3.hi,.int b.s4.lo,.int b.s4.hi]
abbrev zql (x:IV):Int:=cI x 0
def zzq (x:IV):Bx:=⟨⟨cI x 1,cI x 2⟩,⟨cI x 3,cI x 4⟩,⟨cI x 5,cI x 6⟩,⟨cI x 7,cI x 8⟩,⟨cI x 9,cI x 10⟩⟩
theorem yee (a:Int) (b:Bx):zql (yla a b)=a:=rfl
theorem y3l (a:Int) (b:Bx):zzq (yla a b)=b:=rfl
structure En where
 todo:List IV
 lo:Int
 hi:Int
 any:Bool
def z41 (l:List IV):IV:=l.getD (l.length - 1) default
def zbx (l:List IV) (e:En):Nd:=z07 (l.getD (zql (z41 e.todo)).toNat default).toInt
def y8w (l:List IV) (e:En):En:=
 cond (!(zbi (l.getD (zql (z41 e.todo)).toNat default).toInt)||(zzq (z41 e.todo)).emp) ⟨zgz e.todo,e.lo,e.hi,e.any⟩
  (cond (!(zbx l e).lf)
   ⟨zgz e.todo++[yla (zbx l e).l ((zzq (z41 e.todo)).cutL (zbx l e).f (zbx l e).a),yla (zbx l e).r ((zzq (z41 e.todo)).cutH (zbx l e).f (zbx l e).a)],e.lo,e.hi,e.any⟩
   ⟨zgz e.todo,min (cond e.any e.lo (zbx l e).v) (zbx l e).v,max (cond e.any e.hi (zbx l e).v) (zbx l e).v,true⟩)
def en0 (b:Bx):En:=⟨[yla 0 b],0,0,false⟩
structure EnI (l:List IV) (b:Bx) (e:En):Prop where
 at_:∀ (j:Nat) (x:IV),e.todo[j]?=some x→(j:Int)≤zql x∧zql x < ic l.length
 ok:∀ x∈e.todo,(zzq x).ok
 val:∀ x∈e.todo,∀ p t,(zzq x).has p t=true→b.has p t=true∧zmm l p=yl8 l p (zql x).toNat
 all:∀ p t,b.has p t=true→(∃ x∈e.todo,(zzq x).has p t=true)∨(e.any=true∧e.lo≤zmm l p∧zmm l p≤e.hi)
 lo:e.any=true→∃ p t,b.has p t=true∧zmm l p=e.lo
 hi:e.any=true→∃ p t,b.has p t=true∧zmm l p=e.hi
theorem zxr {l:List IV} {j:Nat} {x:IV} (h:(zgz l)[j]?=some x):l[j]?=some x:=by
 unfold zgz at h;rw [v1a] at h
 split at h
 ·exact h
 ·cases h
theorem zqq {l:List IV} {x:IV} (hl:0 < l.length) (h:x∈l):x∈zgz l∨x=z41 l:=by
 obtain ⟨j,hj⟩:=v3c h;have hjl:=(List.getElem?_eq_some_iff.1 hj).1
 by_cases hc:j < l.length - 1
 ·refine .inl (v1r (i:=j) ?_)
  unfold zgz;rw [v1a,v1b hc];exact hj
 ·have:j=l.length - 1:=by omega
  subst this;refine .inr ?_;unfold z41;rw [v0n,hj]
  rfl
theorem zke {l:List IV} (hl:0 < l.length):z41 l∈l∧l[l.length - 1]?=some (z41 l):=by
 unfold z41;rw [v0n,v0h (by omega)]
 exact ⟨v1x _,rfl⟩
theorem z8w (l:List IV):(zgz l).length=l.length - 1:=by
 unfold zgz;rw [v0l]; omega
theorem yri {l:List IV} (ht:TreeOK l) {b:Bx} {e:En} (h:EnI l b e) (hl:0 < e.todo.length):EnI l b (y8w l e):=by
 obtain ⟨hm,hg⟩:=zke hl;have ha:=h.at_ _ _ hg;have h31:=ht.len.2;have hpm:∀ x∈zgz e.todo,x∈e.todo:=fun x hx=>zr3 hx
 have e0:((zql (z41 e.todo)).toNat:Int)=zql (z41 e.todo):=by omega
 have hlt:(zql (z41 e.todo)).toNat < l.length:=by have:=ha.2; simp only [ic] at this; omega
 have hn:=ht.node _ hlt;have hv:=h.val _ hm;have hok:=h.ok _ hm;unfold y8w;rw [hn,v0e,v2t];cases he:(zzq (z41 e.todo)).emp with
 | true=>
  rw [z00];refine ⟨fun j x hj=>h.at_ j x (zxr hj),fun x hx=>h.ok x (hpm x hx),fun x hx=>h.val x (hpm x hx),fun p t hh=>?_,h.lo,h.hi⟩
  rcases h.all p t hh with ⟨x,hx,hxh⟩ | hr
  ·rcases zqq hl hx with hx | rfl
   ·exact .inl ⟨x,hx,hxh⟩
   ·have:=y34 hxh
    rw [he] at this; cases this
  ·exact .inr hr
 | false=>
  rw [z01];cases hlf:(zbx l e).lf with
  | true=>
   rw [v0e,z01];have hvl:∀ p t,(zzq (z41 e.todo)).has p t=true→b.has p t=true∧zmm l p=(zbx l e).v:=fun p t hh=>by
    obtain ⟨h1,h2⟩:=hv p t hh;exact ⟨h1,h2.trans (ygl ht p hlt hlf)⟩
   have hlow:=hvl _ _ (y20 _ he);refine ⟨fun j x hj=>h.at_ j x (zxr hj),fun x hx=>h.ok x (hpm x hx),fun x hx=>h.val x (hpm x hx),fun p t hh=>?_,fun _=>?_,fun _=>?_⟩
   ·rcases h.all p t hh with ⟨x,hx,hxh⟩ | ⟨h1,h2,h3⟩
    ·rcases zqq hl hx with hx | rfl
     ·exact .inl ⟨x,hx,hxh⟩
     ·refine .inr ⟨rfl,?_,?_⟩
      ·rw [(hvl p t hxh).2]; show min _ _≤_; omega
      ·rw [(hvl p t hxh).2]; show _≤max _ _; omega
    ·refine .inr ⟨rfl,?_,?_⟩
     ·show min (cond e.any e.lo _) _≤_
      rw [h1,z00]; omega
     ·show _≤max (cond e.any e.hi _) _
      rw [h1,z00]; omega
   ·show ∃ p t,b.has p t=true∧zmm l p=min (cond e.any e.lo (zbx l e).v) (zbx l e).v
    cases hany:e.any with
    | false=>exact ⟨_,_,hlow.1,by rw [hlow.2,z01]; omega⟩
    | true=>
     rw [z00]
     by_cases hc:e.lo≤(zbx l e).v
     ·obtain ⟨p,t,h1,h2⟩:=h.lo hany
      exact ⟨p,t,h1,by omega⟩
     ·exact ⟨_,_,hlow.1,by rw [hlow.2]; omega⟩
   ·show ∃ p t,b.has p t=true∧zmm l p=max (cond e.any e.hi (zbx l e).v) (zbx l e).v
    cases hany:e.any with
    | false=>exact ⟨_,_,hlow.1,by rw [hlow.2,z01]; omega⟩
    | true=>
     rw [z00]
     by_cases hc:(zbx l e).v≤e.hi
     ·obtain ⟨p,t,h1,h2⟩:=h.hi hany
      exact ⟨p,t,h1,by omega⟩
     ·exact ⟨_,_,hlow.1,by rw [hlow.2]; omega⟩
  | false=>
   rw [v0j,z00];obtain ⟨⟨f0,f4⟩,fa,⟨l1,l2⟩,⟨r1,r2⟩,_⟩:=ht.fork _ hlt hlf;replace f0:0≤(zbx l e).f:=f0;replace f4:(zbx l e).f < 4:=f4;replace l1:((zql (z41 e.todo)).toNat:Int) < (zbx l e).l:=l1;replace l2:(zbx l e).l < ic l.length:=l2;replace r1:((zql (z41 e.todo)).toNat:Int) < (zbx l e).r:=r1;replace r2:(zbx l e).r < ic l.length:=r2;have ef:(zbx l e).f=(((zbx l e).f.toNat:Nat):Int):=by omega
   have hfl:(zbx l e).f.toNat < 5:=by omega
   have fa' : -2147483648≤(zbx l e).a:=by
    have:z2c (zbx l e).a=true:=fa
    unfold z2c at this;simp only [v02,v07] at this;exact this.1
   have vf:∀ p:Pt,yl8 l p (zql (z41 e.todo)).toNat=yl8 l p (cond (decide (p.g (zbx l e).f.toNat≤(zbx l e).a)) (zbx l e).l.toNat (zbx l e).r.toNat):=fun p=>yfu ht p hlt hlf
   have hL:∀ p t,((zzq (z41 e.todo)).cutL (zbx l e).f (zbx l e).a).has p t=true↔(zzq (z41 e.todo)).has p t=true∧co p t (zbx l e).f.toNat≤(zbx l e).a:=fun p t=>by
    have:=yck (b:=zzq (z41 e.todo)) hfl (a:=(zbx l e).a) (p:=p) (t:=t)
    rwa [← ef] at this
   have hH:∀ p t,((zzq (z41 e.todo)).cutH (zbx l e).f (zbx l e).a).has p t=true↔(zzq (z41 e.todo)).has p t=true∧(zbx l e).a < co p t (zbx l e).f.toNat:=fun p t=>by
    have:=ye3 hok hfl fa' (p:=p) (t:=t)
    rwa [← ef] at this
   have okL:((zzq (z41 e.todo)).cutL (zbx l e).f (zbx l e).a).ok:=by
    have:=yj5 hok hfl (zbx l e).a
    rwa [← ef] at this
   have okH:((zzq (z41 e.todo)).cutH (zbx l e).f (zbx l e).a).ok:=by
    have:=yke hok hfl (zbx l e).a
    rwa [← ef] at this
   have hco:∀ p t,co p t (zbx l e).f.toNat=p.g (zbx l e).f.toNat:=fun p t=>y6m p t (by omega)
   refine ⟨fun j x hj=>?_,fun x hx=>?_,fun x hx=>?_,fun p t hh=>?_,h.lo,h.hi⟩
   ·rw [v1q,z8w] at hj
    split at hj
    ·exact h.at_ j x (zxr hj)
    ·rename_i hc
     have h1:=ha.1;rcases v1y (j - (e.todo.length - 1)) 1 with h0 | h0
     ·have:j - (e.todo.length - 1)=0:=by omega
      rw [this] at hj;simp only [v0s,v00] at hj;subst hj;rw [yee];omega
     ·rcases v1y (j - (e.todo.length - 1)) 2 with h2 | h2
      ·have:j - (e.todo.length - 1)=1:=by omega
       rw [this] at hj;simp only [v1l,v0s,v00] at hj;subst hj;rw [yee];omega
      ·rw [v0t (by simpa using h2)] at hj
       cases hj
   ·rcases v0o.1 hx with hx | hx
    ·exact h.ok x (hpm x hx)
    ·rcases v17.1 hx with rfl | hx
     ·rw [y3l]; exact okL
     ·obtain rfl:=v1v.1 hx
      rw [y3l]; exact okH
   ·rcases v0o.1 hx with hx | hx
    ·exact h.val x (hpm x hx)
    ·rcases v17.1 hx with rfl | hx
     ·intro p t hh
      rw [y3l] at hh;obtain ⟨h1,h2⟩:=(hL p t).1 hh;obtain ⟨h3,h4⟩:=hv p t h1;rw [hco] at h2;rw [yee];exact ⟨h3,by rw [h4,vf,v01 h2,z00]⟩
     ·obtain rfl:=v1v.1 hx
      intro p t hh;rw [y3l] at hh;obtain ⟨h1,h2⟩:=(hH p t).1 hh;obtain ⟨h3,h4⟩:=hv p t h1;rw [hco] at h2;rw [yee];exact ⟨h3,by rw [h4,vf,v05 (by omega),z01]⟩
   ·rcases h.all p t hh with ⟨x,hx,hxh⟩ | hr
    ·rcases zqq hl hx with hx | rfl
     ·exact .inl ⟨x,v0o.2 (.inl hx),hxh⟩
     ·by_cases hc:co p t (zbx l e).f.toNat≤(zbx l e).a
      ·exact .inl ⟨_,v0o.2 (.inr (v09 ..)),by rw [y3l]; exact (hL p t).2 ⟨hxh,hc⟩⟩
      ·exact .inl ⟨_,v0o.2 (.inr (v0b _ (v09 ..))),by rw [y3l]; exact (hH p t).2 ⟨hxh,by omega⟩⟩
    ·exact .inr hr
theorem ytn {l:List IV} (ht:TreeOK l) {b:Bx} (hb:b.ok):EnI l b (en0 b):=by
 have h1:=ht.len.1;refine ⟨fun j x hj=>?_,fun x hx=>?_,fun x hx=>?_,fun p t hh=>.inl ⟨_,v09 ..,by rw [y3l]; exact hh⟩,(fun h=>by cases h),(fun h=>by cases h)⟩
 ·match j,hj with
  | 0,hj=>
   obtain rfl:yla 0 b=x:=by simpa [en0] using hj
   rw [yee];simp only [ic];omega
  | j+1,hj=>simp [en0] at hj
 ·obtain rfl:=v1v.1 hx
  rw [y3l]; exact hb
 ·obtain rfl:=v1v.1 hx
  intro p t hh;rw [y3l] at hh;exact ⟨hh,rfl⟩
def enW (l:List IV):Nat:=(l.map fun x=>3 ^ (31 - (zql x).toNat)).sum
theorem EnI.depth {l:List IV} (ht:TreeOK l) {b:Bx} {e:En} (h:EnI l b e):e.todo.length≤31:=by
 by_cases hc:e.todo.length≤31
 ·exact hc
 ·obtain ⟨x,hx⟩:∃ x,e.todo[31]?=some x:=⟨_,v0h (by omega)⟩
  have:=h.at_ 31 x hx
  have h2:=ht.len.2;simp only [ic] at this;omega
theorem yqh {l:List IV} (hl:0 < l.length):enW l=enW (zgz l)+3 ^ (31 - (zql (z41 l)).toNat):=by
 have e:l=zgz l++[z41 l]:=by
  have h2:=(zke hl).2;have h3:l[l.length - 1]=z41 l:=v1p ((v0h (by omega)).symm.trans h2)
  unfold zgz;rw [← h3,List.take_append_getElem,v13 (by omega)]
 unfold enW
 conv=>lhs; rw [e]
 rw [v3x,List.sum_append];simp
theorem yk6 {a b c:Nat} (h1:a < b) (h2:a < c) (ha:a < 31):3 ^ (31 - b)+3 ^ (31 - c)+1≤3 ^ (31 - a):=by
 have e:3 ^ (31 - a)=3*3 ^ (30 - a):=by
  rw [show 31 - a=(30 - a)+1 by omega,Nat.pow_succ]; omega
 have e1:3 ^ (31 - b)≤3 ^ (30 - a):=Nat.pow_le_pow_right (by omega) (by omega)
 have e2:3 ^ (31 - c)≤3 ^ (30 - a):=Nat.pow_le_pow_right (by omega) (by omega)
 have e3:0 < 3 ^ (30 - a):=Nat.pow_pos (by omega)
 omega
theorem yr0 {l:List IV} (ht:TreeOK l) {b:Bx} {e:En} (h:EnI l b e) (hl:0 < e.todo.length):enW (y8w l e).todo+1≤enW e.todo:=by
 obtain ⟨hm,hg⟩:=zke hl;have ha:=h.at_ _ _ hg;have h31:=ht.len.2;have hlt:(zql (z41 e.todo)).toNat < l.length:=by have:=ha.2; simp only [ic] at this; omega
 have hpos:0 < 3 ^ (31 - (zql (z41 e.todo)).toNat):=Nat.pow_pos (by omega)
 rw [yqh hl];unfold y8w;cases !zbi (l.getD (zql (z41 e.todo)).toNat default).toInt||(zzq (z41 e.todo)).emp with
 | true=>rw [z00]; show enW (zgz e.todo)+1≤_; omega
 | false=>
  rw [z01];cases hlf:(zbx l e).lf with
  | true=>rw [v0e,z01]; show enW (zgz e.todo)+1≤_; omega
  | false=>
   rw [v0j,z00];obtain ⟨_,_,⟨l1,l2⟩,⟨r1,r2⟩,_⟩:=ht.fork _ hlt hlf;replace l1:((zql (z41 e.todo)).toNat:Int) < (zbx l e).l:=l1;replace r1:((zql (z41 e.todo)).toNat:Int) < (zbx l e).r:=r1
   have:=yk6 (a:=(zql (z41 e.todo)).toNat) (b:=(zbx l e).l.toNat) (c:=(zbx l e).r.toNat) (by omega) (by omega) (by omega)
   unfold enW at *;rw [v3x,List.sum_append];simp only [v0d,v16,v3t,List.sum_nil,yee];omega
theorem ysz {l:List IV} (hT:zav l 4=true) {b:Bx} (hb:b.emp=false) (hok:b.ok) {e:En} (h:EnI l b e) (hl:e.todo=[]):e.lo=tLo l b∧e.hi=tHi l b:=by
 obtain ⟨t1,⟨p1,u1,q1,q2⟩,⟨p2,u2,q3,q4⟩⟩:=ybv hT hb hok;have hall:∀ p t,b.has p t=true→e.any=true∧e.lo≤zmm l p∧zmm l p≤e.hi:=fun p t hh=>by
  rcases h.all p t hh with ⟨x,hx,_⟩ | hr
  ·rw [hl] at hx; cases hx
  ·exact hr
 have hany:=(hall _ _ q1).1;obtain ⟨p3,u3,q5,q6⟩:=h.lo hany;obtain ⟨p4,u4,q7,q8⟩:=h.hi hany;have a1:=hall _ _ q1;have a2:=hall _ _ q3;have a3:=t1 _ _ q5;have a4:=t1 _ _ q7;omega
theorem ytt {l:List IV} (hT:zav l 4=true) {b c:Bx} (hb:b.emp=false) (hok:b.ok) (hc:c.emp=false) (hokc:c.ok) (h:∀ p,(∃ t,b.has p t=true)↔∃ t,c.has p t=true):tLo l b=tLo l c∧tHi l b=tHi l c:=by
 obtain ⟨t1,⟨p1,u1,q1,q2⟩,⟨p2,u2,q3,q4⟩⟩:=ybv hT hb hok;obtain ⟨s1,⟨p3,u3,q5,q6⟩,⟨p4,u4,q7,q8⟩⟩:=ybv hT hc hokc;obtain ⟨v1,w1⟩:=(h p1).1 ⟨u1,q1⟩;obtain ⟨v2,w2⟩:=(h p2).1 ⟨u2,q3⟩;obtain ⟨v3,w3⟩:=(h p3).2 ⟨u3,q5⟩;obtain ⟨v4,w4⟩:=(h p4).2 ⟨u4,q7⟩;have a1:=s1 _ _ w1;have a2:=s1 _ _ w2;have a3:=t1 _ _ w3;have a4:=t1 _ _ w4;omega
open Go
theorem yjj:∀ {l:List IV} {st st':List IV × List IV} {x:IV},ztr l st=some st'→ztr (l++[x]) st=zd8 st' x
 | [],st,st',x,h=>by
  obtain rfl:=v1p h;rw [v29,ztr];cases zd8 st x <;> rfl
 | y :: r,st,st',x,h=>by
  rw [v1u,ztr];rw [ztr] at h;cases hs:zd8 st y with
  | none=>rw [hs] at h; cases h
  | some s1=>rw [hs] at h; exact yjj h
theorem yja:∀ {l:List IV} {st st':Int × Int} {x:IV},zz3 l st=some st'→zz3 (l++[x]) st=zds st' x
 | [],st,st',x,h=>by
  obtain rfl:=v1p h;rw [v29,zz3];cases zds st x <;> rfl
 | y :: r,st,st',x,h=>by
  rw [v1u,zz3];rw [zz3] at h;cases hs:zds st y with
  | none=>rw [hs] at h; cases h
  | some s1=>rw [hs] at h; exact yja h
def pot (m:Md) (q:Qy) (b:Bx):Nat:=(z4g m q b 0).length+(z4g m q b 1).length+(z4g m q b 2).length+(z4g m q b 3).length+(z4g m q b 4).length
theorem y9p {α:Type} {p q:α→Bool}:∀ {l:List α},(∀ x∈l,p x=true→q x=true)→(l.filter p).length≤(l.filter q).length
 | [],_=>v0a _
 | x :: l,h=>by
  have ih:=y9p (l:=l) (p:=p) (q:=q) fun y hy=>h y (v0b _ hy)
  have hx:=h x (v09 ..);rw [List.filter_cons,List.filter_cons];cases hp:p x with
  | true=>rw [hx hp,v1b rfl,v1b rfl]; simp only [v03]; omega
  | false=>
   rw [v0y (by decide)]
   cases q x with
   | true=>rw [v1b rfl]; simp only [v03]; omega
   | false=>rw [v0y (by decide)]; exact ih
theorem y8l {α:Type} {p q:α→Bool} {a:α}:∀ {l:List α},a∈l→p a=false→q a=true→(∀ x∈l,p x=true→q x=true)→(l.filter p).length < (l.filter q).length
 | [],h,_,_,_=>by cases h
 | x :: l,hm,h1,h2,h=>by
  have hx:=h x (v09 ..);have hr:=fun y hy=>h y (v0b _ hy)
  rw [List.filter_cons,List.filter_cons];rcases v17.1 hm with rfl | hm
  ·rw [h1,h2,v0y (by decide),v1b rfl]
   have:=y9p hr
   simp only [v03]; omega
  ·have ih:=y8l hm h1 h2 hr
   cases hp:p x with
   | true=>rw [hx hp,v1b rfl,v1b rfl]; simp only [v03]; omega
   | false=>
    rw [v0y (by decide)]
    cases q x with
    | true=>rw [v1b rfl]; simp only [v03]; omega
    | false=>rw [v0y (by decide)]; exact ih
theorem yrl {m:Md} {q:Qy} {b c:Bx} {i:Nat} (h:c.g i=b.g i):z4g m q c i=z4g m q b i:=by unfold z4g; rw [h]
theorem ylh {m:Md} {q:Qy} {b c:Bx} {i:Nat} {a:Int} (ha:a∈z4g m q b i) (h1:(b.g i).lo≤(c.g i).lo) (h2:(c.g i).hi≤(b.g i).hi) (h3:a < (c.g i).lo∨(c.g i).hi≤a):(z4g m q c i).length < (z4g m q b i).length:=by
 obtain ⟨hf,hm,hl,hh⟩:=zic.1 ha;unfold z4g;rw [v05 (by omega),z01,z01]
 unfold zkr;refine y8l hm ?_ ?_ ?_
 ·simp only [Bool.not_eq_false',v2n,v07]; omega
 ·simp only [v12,v1z,v15]; omega
 ·intro x _
  simp only [v12,v1z,v15]; omega
theorem ypz {m:Md} {q:Qy} {b c:Bx} {j:Nat} (hj:j < 5) (h1:(z4g m q c j).length < (z4g m q b j).length) (h2:∀ i,i < 5→i≠j→c.g i=b.g i):pot m q c < pot m q b:=by
 have e:∀ i,i < 5→i≠j→(z4g m q c i).length=(z4g m q b i).length:=fun i hi hn=>by rw [yrl (h2 i hi hn)]
 unfold pot
 match j,hj with
 | 0,_=>have:=e 1 (by omega) (by omega); have:=e 2 (by omega) (by omega); have:=e 3 (by omega) (by omega); have:=e 4 (by omega) (by omega); omega
 | 1,_=>have:=e 0 (by omega) (by omega); have:=e 2 (by omega) (by omega); have:=e 3 (by omega) (by omega); have:=e 4 (by omega) (by omega); omega
 | 2,_=>have:=e 0 (by omega) (by omega); have:=e 1 (by omega) (by omega); have:=e 3 (by omega) (by omega); have:=e 4 (by omega) (by omega); omega
 | 3,_=>have:=e 0 (by omega) (by omega); have:=e 1 (by omega) (by omega); have:=e 2 (by omega) (by omega); have:=e 4 (by omega) (by omega); omega
 | 4,_=>have:=e 0 (by omega) (by omega); have:=e 1 (by omega) (by omega); have:=e 2 (by omega) (by omega); have:=e 3 (by omega) (by omega); omega
 | n+5,h=>omega
theorem ylq {lo hi:Int} (h:lo≤hi):yc8 lo hi=⟨lo,hi⟩:=by unfold yc8; rw [v05 (by omega),z01]
theorem yep {m:Md} {q:Qy} {b:Bx} {j:Nat} (hj:j < 5) {a:Int} (ha:a∈z4g m q b j):pot m q (b.cutL (j:Int) a) < pot m q b:=by
 obtain ⟨hf,hm,hl,hh⟩:=zic.1 ha;have e:∀ i,i < 5→(b.cutL (j:Int) a).g i=if i=j then ⟨(b.g j).lo,a⟩ else b.g i:=fun i hi=>by
  unfold Bx.cutL;rw [v0g,zej b _ hj hi];unfold Sp.cutL;rw [show min (b.g j).hi a=a by omega,ylq hl]
 refine ypz hj (ylh ha ?_ ?_ ?_) fun i hi hn=>by rw [e i hi,v0y hn]
 ·rw [e j hj,v1b rfl]; exact v2b _
 ·rw [e j hj,v1b rfl]; show a≤_; omega
 ·rw [e j hj,v1b rfl]; exact .inr (v2b _)
theorem ynb {m:Md} {q:Qy} {b:Bx} (hb:b.good) {j:Nat} (hj:j < 5) {a:Int} (ha:a∈z4g m q b j):pot m q (b.cutH (j:Int) a) < pot m q b:=by
 obtain ⟨hf,hm,hl,hh⟩:=zic.1 ha;have hg:=hb j hj;have e:∀ i,i < 5→(b.cutH (j:Int) a).g i=if i=j then ⟨a+1,(b.g j).hi⟩ else b.g i:=fun i hi=>by
  unfold Bx.cutH;rw [v0g,zej b _ hj hi];unfold Sp.cutH;rw [v05 (by omega),z01,show zex (a+1)=a+1 from z0s (by omega) (by omega),show max (b.g j).lo (a+1)=a+1 by omega,ylq (by omega)]
 refine ypz hj (ylh ha ?_ ?_ ?_) fun i hi hn=>by rw [e i hi,v0y hn]
 ·rw [e j hj,v1b rfl]; show _≤a+1; omega
 ·rw [e j hj,v1b rfl]; exact v2b _
 ·rw [e j hj,v1b rfl]; exact .inl (by show a < a+1; omega)
structure Rp (m:Md) (q:Qy) (s:Sr):Prop where
 left:yh0 s
 pt:∀ (j:Nat) (x:IV),s.left[j]?=some x→pot m q (bxI x)+j≤pot m q (z4f q)
 ps:∃ outs,ztr s.proof ([(z4f q).I],[])=some (s.left,outs)∧∀ x∈outs,z2r m q (bxI x)=true
 dp:∃ most,zz3 s.proof (1,1)=some (ic s.left.length,most)∧1≤most∧most≤(pot m q (z4f q):Int)+1
theorem yty {m:Md} {q:Qy} (h:z2b m q=true):Rp m q ⟨[(z4f q).I],[],Vd.none,0⟩ where
 left:=ym5 h
 pt j x hj:=by
  match j,hj with
  | 0,hj=>
   obtain rfl:(z4f q).I=x:=by simpa using hj
   rw [zv8]; omega
  | j+1,hj=>simp at hj
 ps:=⟨[],rfl,fun x hx=>by cases hx⟩
 dp:=⟨1,rfl,by omega,by omega⟩
theorem ymb {m:Md} {q:Qy} {s:Sr} (hr:z2b m q=true) (h:Rp m q s) (hl:0 < s.left.length) (hn:z2r m q (z3s s.left)=false→z3u m q (z3s s.left).low (z3s s.left).s4.hi=false):Rp m q (z7k m q s):=by
 obtain ⟨outs,hps,hout⟩:=h.ps;obtain ⟨most,hdp,hm1,hm2⟩:=h.dp;have hg:=yho (m:=m) (q:=q) h.left hl;have ht:=zvb h.left hl;have htop:s.left[s.left.length - 1]?=some (z41 s.left):=(zke hl).2;have ept:z3s s.left=bxI (z41 s.left):=rfl;have hpt:=h.pt _ _ htop;rw [← ept] at hpt;cases hc:z2r m q (z3s s.left) with
 | true=>
  have e:(z7k m q s).left=zgz s.left∧(z7k m q s).proof=s.proof++[stI true 0 0]:=by
   unfold z7k;rw [hc,z00];exact ⟨rfl,rfl⟩
  refine ⟨hg,fun j x hj=>?_,⟨outs++[(z3s s.left).I],?_,fun x hx=>?_⟩,⟨most,?_,hm1,hm2⟩⟩
  ·rw [e.1] at hj
   exact h.pt j x (zxr hj)
  ·rw [e.2,yjj hps,e.1]
   rfl
  ·rcases v0o.1 hx with hx | hx
   ·exact hout x hx
   ·obtain rfl:=v1v.1 hx
    rw [zv8]; exact hc
  ·rw [e.2,yja hdp,e.1,z8w]
   unfold zds;have h1:(ic s.left.length==0)=false:=v0v.2 (by simp only [ic]; omega)
   show cond ((ic s.left.length==0)||!true) none (some (ic s.left.length - 1,most))=_;rw [h1];show some (ic s.left.length - 1,most)=_;rw [show ic s.left.length - 1=ic (s.left.length - 1) by simp only [ic]; omega]
 | false=>
  have hb:=hn hc;have hs:=y1s hr h.left hl hc hb;obtain ⟨j,hj,ei,_,_,hm⟩:=zs3 hs;have hcut:=zic.1 hm;have e:(z7k m q s).left=zgz s.left++[((z3s s.left).cutH (j:Int) (zxz (z1p m q (z3s s.left)))).I,((z3s s.left).cutL (j:Int) (zxz (z1p m q (z3s s.left)))).I]∧(z7k m q s).proof=s.proof++[stI false (j:Int) (zxz (z1p m q (z3s s.left)))]:=by
   unfold z7k;rw [hc,z01,hb,z01,hs,z00,ei];exact ⟨rfl,rfl⟩
  generalize zxz (z1p m q (z3s s.left))=a at hm hcut e;refine ⟨hg,fun k x hk=>?_,⟨outs,?_,hout⟩,⟨max most (ic s.left.length+1),?_,by omega,?_⟩⟩
  ·rw [e.1,v1q,z8w] at hk
   split at hk
   ·exact h.pt k x (zxr hk)
   ·rcases v1y (k - (s.left.length - 1)) 1 with h0 | h0
    ·rw [show k - (s.left.length - 1)=0 by omega] at hk
     simp only [v0s,v00] at hk;subst hk;rw [zv8]
     have:=ynb ht hj hm
     omega
    ·rcases v1y (k - (s.left.length - 1)) 2 with h2 | h2
     ·rw [show k - (s.left.length - 1)=1 by omega] at hk
      simp only [v1l,v0s,v00] at hk;subst hk;rw [zv8]
      have:=yep (q:=q) hj hm
      omega
     ·rw [v0t (by simpa using h2)] at hk
      cases hk
  ·rw [e.2,yjj hps,e.1]
   unfold zd8;show cond false _ (cond (decide (a < ((z3s s.left).g ((j:Int)).toNat).lo)||decide (a≥((z3s s.left).g ((j:Int)).toNat).hi)) none _)=_;rw [z01,v0g,v05 (by omega),v05 (by omega)]
   rfl
  ·rw [e.2,yja hdp,e.1]
   unfold zds;have h1:(ic s.left.length==0)=false:=v0v.2 (by simp only [ic]; omega)
   have h2:z6c (stI false (j:Int) a)=true:=by
    show (decide ((0:Int)≤(j:Int))&&decide ((j:Int)≤4))=true;rw [v01 (by omega),v01 (by omega)]; rfl
   show cond ((ic s.left.length==0)||!(z6c (stI false (j:Int) a))) none (some (ic s.left.length+1,max most (ic s.left.length+1)))=_;rw [h1,h2];show some (ic s.left.length+1,max most (ic s.left.length+1))=_;rw [v08,z8w]
   have:ic (s.left.length - 1+[((z3s s.left).cutH (j:Int) a).I,((z3s s.left).cutL (j:Int) a).I].length)=ic s.left.length+1:=by simp only [ic,v03,v0i]; omega
   rw [this]
  ·have h3:0 < pot m q (z3s s.left):=v3b (v0x _) (yep (q:=q) hj hm)
   simp only [ic];omega
open Go
def ndN (ts:List IV):Nat:=(ts.map fun t=>(zcm t).length).sum
theorem ynw (w:IV):(zvq 0 w).length+(zvq 1 w).length+(zvq 2 w).length+(zvq 3 w).length≤1:=by
 unfold zvq;cases (z07 w.toInt).lf with
 | true=>simp
 | false=>
  generalize (z07 w.toInt).f=f
  by_cases h0:f=0
  ·subst h0; exact v0a _
  by_cases h1:f=1
  ·subst h1; exact v0a _
  by_cases h2:f=2
  ·subst h2; exact v0a _
  by_cases h3:f=3
  ·subst h3; exact v0a _
  rw [v0v.2 h0,v0v.2 h1,v0v.2 h2,v0v.2 h3];simp
theorem yqs (f:Int) (w:IV):(zvq f w).length≤1:=by
 unfold zvq;cases (!(z07 w.toInt).lf&&(z07 w.toInt).f==f) <;> simp
theorem yaa:∀ (l:List IV),(l.flatMap (zvq 0)).length+(l.flatMap (zvq 1)).length+(l.flatMap (zvq 2)).length+(l.flatMap (zvq 3)).length≤l.length
 | []=>v0a _
 | w :: l=>by
  have:=yaa l
  have:=ynw w
  simp only [v2p,v08,v03];omega
theorem ygc (f:Int):∀ (l:List IV),(l.flatMap (zvq f)).length≤l.length
 | []=>v0a _
 | w :: l=>by
  have:=ygc f l
  have:=yqs f w
  simp only [v2p,v08,v03];omega
theorem ykd:∀ (ts:List IV),(z8d ts 0).length+(z8d ts 1).length+(z8d ts 2).length+(z8d ts 3).length≤ndN ts
 | []=>v0a _
 | t :: ts=>by
  have:=ykd ts
  have:=yaa (zcm t)
  unfold z8d ndN at *;simp only [v2p,v08,v0d,v3t];omega
theorem ypw (f:Int):∀ (ts:List IV),(z8d ts f).length≤ndN ts
 | []=>v0a _
 | t :: ts=>by
  have:=ypw f ts
  have:=ygc f (zcm t)
  unfold z8d ndN at *;simp only [v2p,v08,v0d,v3t];omega
theorem zwt (m:Md) (q:Qy) (b:Bx) (i:Nat):(z4g m q b i).length≤(z8d m.ts (zew q (i:Int))).length:=by
 unfold z4g;cases decide (zew q (i:Int) < 0) with
 | true=>rw [z00]; exact v0x _
 | false=>
  rw [z01];unfold zkr y08;refine v1n (v3y ..) ?_;rw [← (z9q (z8d m.ts (zew q (i:Int)))).length_eq];exact zv4 _
theorem ysv (m:Md) (q:Qy) (b:Bx):pot m q b≤2*ndN m.ts:=by
 have h0:=zwt m q b 0;have h1:=zwt m q b 1;have h2:=zwt m q b 2;have h3:=zwt m q b 3;have h4:=zwt m q b 4;have h5:=ypw (zew q ((4:Nat):Int)) m.ts;have h6:=ykd m.ts;rw [y3g (by omega)] at h0 h1 h2 h3
 unfold pot;simp only [Int.natCast_zero] at *;have e1:((1:Nat):Int)=1:=rfl;have e2:((2:Nat):Int)=2:=rfl;have e3:((3:Nat):Int)=3:=rfl;rw [e1] at h1;rw [e2] at h2;rw [e3] at h3;omega
open Go
def yvk (q:Qy) (s:Sr):Prop:=∀ x∈s.left,∀ p t,(bxI x).has p t=true→(z4f q).has p t=true
structure Ri (m:Md) (q:Qy) (s:Sr):Prop where
 sp:0≤s.spent∧s.spent≤q.bu
 opn:s.v.kind=0→Rp m q s∧0 < s.left.length∧s.spent=ic s.proof.length∧s.v.proof=[]∧yvk q s
 holds:s.v.kind=1→Rp m q s∧s.left=[]∧s.spent=ic s.proof.length∧s.v.proof=s.proof
 fails:s.v.kind=2→s.v.proof=[]∧1≤s.spent∧(z4f q).has ⟨s.v.w0,s.v.w1,s.v.w2,s.v.w3⟩ s.v.twin=true∧z3u m q ⟨s.v.w0,s.v.w1,s.v.w2,s.v.w3⟩ s.v.twin=true
 kinds:s.v.kind=0∨s.v.kind=1∨s.v.kind=2
theorem ypi {m:Md} {q:Qy} (h:z2b m q=true):Ri m q ⟨[(z4f q).I],[],Vd.none,0⟩ where
 sp:=⟨v2b _,(zcx h).2.2.1.1⟩
 opn _:=⟨yty h,by simp,rfl,rfl,fun x hx p t hh=>by
  obtain rfl:=v1v.1 hx;rw [zv8] at hh; exact hh⟩
 holds h:=absurd (show (0:Int)=1 from h) (by decide)
 fails h:=absurd (show (0:Int)=2 from h) (by decide)
 kinds:=.inl rfl
theorem yq6 {m:Md} {q:Qy} {s:Sr} (hr:z2b m q=true) (h:Ri m q s) (ho:zgy q s=false):Ri m q (z7k m q s):=by
 unfold zgy at ho;rw [v1z] at ho;have hk:s.v.kind=0:=by simpa using ho.1
 have hs:¬ s.spent≥q.bu:=v0r ho.2;obtain ⟨hrp,hl,hsp,hvp,hsub⟩:=h.opn hk;have hsp0:=h.sp;have ht:=zvb hrp.left hl;have htm:z41 s.left∈s.left:=(zke hl).1;have ept:z3s s.left=bxI (z41 s.left):=rfl;cases hc:z2r m q (z3s s.left) with
 | true=>
  have hrp':=ymb hr hrp hl (fun h=>by rw [hc] at h; cases h)
  have e:z7k m q s=⟨zgz s.left,s.proof++[stI true 0 0],cond (ic (s.left.length - 1)==0) ⟨1,s.proof++[stI true 0 0],0,0,0,0,0,0⟩ s.v,s.spent+1⟩:=by
   unfold z7k;rw [hc,z00]
  rw [e] at hrp' ⊢
  have hlen:s.spent+1=ic (s.proof++[stI true 0 0]).length:=by
   rw [hsp]; simp only [ic,v08,v03,v0i]; omega
  cases he:(ic (s.left.length - 1)==0) with
  | true=>
   rw [he] at hrp';have h1:s.left.length=1:=by
    have:ic (s.left.length - 1)=0:=by simpa using he
    simp only [ic] at this; omega
   have hnil:zgz s.left=[]:=List.length_eq_zero_iff.1 (by rw [z8w]; omega)
   exact ⟨⟨by show 0≤s.spent+1; omega,by show s.spent+1≤_; omega⟩,fun h=>absurd (show (1:Int)=0 from h) (by decide),fun _=>⟨hrp',hnil,hlen,rfl⟩,fun h=>absurd (show (1:Int)=2 from h) (by decide),.inr (.inl rfl)⟩
  | false=>
   rw [he] at hrp';have h1:s.left.length - 1≠0:=fun h=>by rw [h] at he; exact absurd he (by decide)
   refine ⟨⟨by show 0≤s.spent+1; omega,by show s.spent+1≤_; omega⟩,fun _=>⟨hrp',?_,hlen,hvp,fun x hx=>hsub x (zr3 hx)⟩,fun h=>?_,fun h=>?_,.inl hk⟩
   ·show 0 < (zgz s.left).length
    rw [z8w]; omega
   ·replace h:s.v.kind=1:=h
    omega
   ·replace h:s.v.kind=2:=h
    omega
 | false=>
  cases hb:z3u m q (z3s s.left).low (z3s s.left).s4.hi with
  | true=>
   have e:z7k m q s=⟨zgz s.left,s.proof,⟨2,[],(z3s s.left).s0.lo,(z3s s.left).s1.lo,(z3s s.left).s2.lo,(z3s s.left).s3.lo,(z3s s.left).s4.hi,0⟩,s.spent+1⟩:=by
    unfold z7k;rw [hc,z01,hb,z00]
   rw [e];refine ⟨⟨by show 0≤s.spent+1; omega,by show s.spent+1≤_; omega⟩,fun h=>absurd (show (2:Int)=0 from h) (by decide),fun h=>absurd (show (2:Int)=1 from h) (by decide),fun _=>⟨rfl,by show 1≤s.spent+1; omega,?_,hb⟩,.inr (.inr rfl)⟩
   exact hsub _ htm _ _ (by rw [← ept]; exact y20 _ ht.emp)
  | false=>
   have hrp':=ymb hr hrp hl (fun _=>hb)
   have hs2:=y1s hr hrp.left hl hc hb;obtain ⟨j,hj,ei,_,_,hm⟩:=zs3 hs2;have hcut:=zic.1 hm;have hg:=ht j hj;have e:z7k m q s=⟨zgz s.left++[((z3s s.left).cutH (j:Int) (zxz (z1p m q (z3s s.left)))).I,((z3s s.left).cutL (j:Int) (zxz (z1p m q (z3s s.left)))).I],
     s.proof++[stI false (j:Int) (zxz (z1p m q (z3s s.left)))],s.v,s.spent+1⟩:=by
    unfold z7k;rw [hc,z01,hb,z01,hs2,z00,ei]
   rw [e] at hrp' ⊢
   generalize zxz (z1p m q (z3s s.left))=a at hm hcut hrp';refine ⟨⟨by show 0≤s.spent+1; omega,by show s.spent+1≤_; omega⟩,fun _=>⟨hrp',by simp,?_,hvp,fun x hx p t hh=>?_⟩,fun h=>?_,fun h=>?_,.inl hk⟩
   ·show s.spent+1=_
    rw [hsp]; simp only [ic,v08,v03,v0i]; omega
   ·rcases v0o.1 hx with hx | hx
    ·exact hsub x (zr3 hx) p t hh
    ·rcases v17.1 hx with rfl | hx
     ·rw [zv8] at hh
      exact hsub _ htm p t (by rw [← ept]; exact ((ye3 ht.ok hj (by omega)).1 hh).1)
     ·obtain rfl:=v1v.1 hx
      rw [zv8] at hh;exact hsub _ htm p t (by rw [← ept]; exact ((yck hj).1 hh).1)
   ·replace h:s.v.kind=1:=h
    omega
   ·replace h:s.v.kind=2:=h
    omega
theorem yk2 {m:Md} {q:Qy} (hr:z2b m q=true):∀ (d:Nat) (s:Sr),Ri m q s→q.bu < s.spent+d→Ri m q (yb0 m q d s)∧zgy q (yb0 m q d s)=true
 | 0,s,h,hd=>⟨h,by
  unfold zgy
  have:yb0 m q 0 s=s:=rfl
  rw [this,v01 (show s.spent≥q.bu by omega)]
  simp⟩
 | d+1,s,h,hd=>by
  rw [yb0];cases ho:zgy q s with
  | true=>rw [z00]; exact ⟨h,ho⟩
  | false=>
   rw [z01];refine yk2 hr d (z7k m q s) (yq6 hr h ho) ?_
   have:(z7k m q s).spent=s.spent+1:=by
    unfold z7k;cases z2r m _ _ <;> cases z3u m _ _ _ <;> cases (z1p m _ _).isSome <;> rfl
   omega
theorem yov {m:Md} {q:Qy} (hr:z2b m q=true) (hp:pot m q (z4f q)≤199) :
  ((zd3 m q).kind=1→z7d m q (zd3 m q)=true∧ic (zd3 m q).proof.length=(zd3 m q).spent∧0 < zio (zd3 m q).proof) ∧
  ((zd3 m q).kind=2→z7d m q (zd3 m q)=true∧(zd3 m q).proof=[]∧1≤(zd3 m q).spent) ∧
  ((zd3 m q).kind=3→(zd3 m q).spent=q.bu∧(zd3 m q).proof=[]) ∧
  ((zd3 m q).kind=1∨(zd3 m q).kind=2∨(zd3 m q).kind=3)∧0≤(zd3 m q).spent∧(zd3 m q).spent≤q.bu:=by
 have h3:=(zcx hr).2.2.1;have hnew:ymy m q=⟨[(z4f q).I],[],Vd.none,0⟩:=by unfold ymy; rw [hr,z00]
 obtain ⟨hi,ho⟩:=yk2 hr (q.bu.toNat+1) _ (ypi hr) (by show q.bu < 0+_; omega)
 unfold zd3;rw [hnew];generalize yb0 m q (q.bu.toNat+1) _=s at hi ho;rcases hi.kinds with hk | hk | hk
 ·have ek:(z8i s).kind=3:=by simp [z8i,hk]
  have hsp:s.spent=q.bu:=by
   unfold zgy at ho;rw [hk] at ho
   have:s.spent≥q.bu:=by simpa using ho
   have:=hi.sp
   omega
  exact ⟨fun h=>by omega,fun h=>by omega,fun _=>⟨hsp,(hi.opn hk).2.2.2.1⟩,.inr (.inr ek),hi.sp.1,hi.sp.2⟩
 ·have ek:(z8i s).kind=1:=by simp [z8i,hk]
  obtain ⟨hrp,hl,hsp,hvp⟩:=hi.holds hk;obtain ⟨outs,hps,hout⟩:=hrp.ps;obtain ⟨most,hdp,hm1,hm2⟩:=hrp.dp;have hlen:=hi.sp;rw [hl] at hps hdp;have hdeep:zio s.proof=most:=by
   unfold zio;rw [v05 (by omega),z01,hdp]
   show cond (!((ic ([]:List IV).length)==0)||decide (most > 200)) 0 most=most;rw [v05 (by omega)]
   rfl
  have epr:(z8i s).proof=s.proof:=hvp;refine ⟨fun _=>⟨?_,?_,?_⟩,fun h=>by omega,fun h=>by omega,.inl ek,hi.sp.1,hi.sp.2⟩
  ·unfold z7d
   rw [hr,ek,epr];show (true&&cond true (match psF (z4f q) s.proof with | some l=>l.all fun x=>z2r m q (bxI x) | none=>false) _)=true
   unfold psF;rw [hdeep,v01 (show most > 0 by omega),z00,hps]
   show (true&&(outs.all fun x=>z2r m q (bxI x)))=true
   rw [v0k,v35];exact hout
  ·rw [epr]; exact hsp.symm
  ·rw [epr,hdeep]; omega
 ·have ek:(z8i s).kind=2:=by simp [z8i,hk]
  obtain ⟨hvp,hsp,hh,hb⟩:=hi.fails hk;refine ⟨fun h=>by omega,fun _=>⟨?_,hvp,hsp⟩,fun h=>by omega,.inr (.inl ek),hi.sp.1,hi.sp.2⟩
  unfold z7d;rw [hr,ek];show (true&&((z4f q).has ⟨s.v.w0,s.v.w1,s.v.w2,s.v.w3⟩ s.v.twin&&z3u m q ⟨s.v.w0,s.v.w1,s.v.w2,s.v.w3⟩ s.v.twin))=true;rw [hh,hb]
  rfl
open Go
theorem yi7 {s:Sp}:zxb s=true↔s.good:=by
 unfold zxb Sp.good;simp only [v02,v07]
theorem zh9 {b:Bx}:z77 b=true↔b.good:=by
 unfold z77;simp only [v02,yi7];constructor
 ·rintro ⟨h0,h1,h2,h3,h4⟩ i hi
  match i,hi with
  | 0,_=>exact h0
  | 1,_=>exact h1
  | 2,_=>exact h2
  | 3,_=>exact h3
  | 4,_=>exact h4
  | n+5,hi=>omega
 ·intro h
  exact ⟨h 0 (by omega),h 1 (by omega),h 2 (by omega),h 3 (by omega),h 4 (by omega)⟩
theorem ynu {b:Bx} (h4:b.s4.lo≤b.s4.hi) (p:Pt):(∃ t,(b.p ⟨0,0⟩ 4).has p t=true)↔∃ t,b.has p t=true:=by
 constructor
 ·rintro ⟨t,h⟩
  refine ⟨b.s4.lo,?_⟩;unfold Bx.has at h ⊢
  simp only [v02] at h ⊢
  exact ⟨h.1,h.2.1,h.2.2.1,h.2.2.2.1,zj6.2 ⟨v2b _,h4⟩⟩
 ·rintro ⟨t,h⟩
  refine ⟨0,?_⟩;unfold Bx.has at h ⊢
  simp only [v02] at h ⊢
  exact ⟨h.1,h.2.1,h.2.2.1,h.2.2.2.1,zj6.2 ⟨v2b _,v2b _⟩⟩
theorem ye1 {g g':List IV→Int} (k:Int):∀ (ts:List IV) (s:Int),(∀ t∈ts,g (zcm t)=g' (zcm t))→zvv g k ts s=zvv g' k ts s
 | [],_,_=>rfl
 | t :: ts,s,h=>by
  rw [zvv,zvv,h t (v09 ..)];exact ye1 k ts _ fun u hu=>h u (v0b _ hu)
theorem ypp {m:Md} (hm:z2g m=true) (k:Int) {b:Bx} (hb:b.good):sLo m k (b.p ⟨0,0⟩ 4)=sLo m k b∧sHi m k (b.p ⟨0,0⟩ 4)=sHi m k b:=by
 have hg:(b.p ⟨0,0⟩ 4).good:=ztw hb ⟨by decide,by decide,by decide⟩ (by omega)
 have ht:∀ t∈m.ts,tLo (zcm t) (b.p ⟨0,0⟩ 4)=tLo (zcm t) b∧tHi (zcm t) (b.p ⟨0,0⟩ 4)=tHi (zcm t) b:=fun t ht=>
  ytt (zrg hm ht) hg.emp hg.ok hb.emp hb.ok (ynu (hb 4 (by omega)).2.1)
 have es:sOK m k (b.p ⟨0,0⟩ 4)=sOK m k b:=by unfold sOK; rw [hg.emp,hb.emp]
 unfold sLo sHi;rw [es];cases sOK m k b with
 | false=>exact ⟨rfl,rfl⟩
 | true=>
  rw [z00,z00,z00,z00];exact ⟨ye1 k m.ts _ fun t h=>(ht t h).1,ye1 k m.ts _ fun t h=>(ht t h).2⟩
def ybz (m:Md) (q:Qy) (b:Bx):Nat→Nat→Bool
 | 0,_=>true
 | d+1,i=>cond (!((i:Int)==q.c)&&decide (sHi m (i:Int) b≥sLo m q.c b)) false (ybz m q b d (i+1))
def y6r (q:Qy) (b:Bx):Bx:=b.p b.s4 q.ft.toNat
def yly (m:Md) (q:Qy) (b:Bx):Bool:=
 cond b.emp true
  (cond (q.k==1) (decide (q.lo≤sLo m q.c b)&&decide (sHi m q.c b≤q.hi))
   (cond (q.k==2) (ybz m q b m.c.toNat 0)
    (cond (decide ((b.g q.ft.toNat).lo≥b.s4.hi)) true
     (cond q.fl (decide (sHi m q.c (y6r q b)≤sLo m q.c b)) (decide (sLo m q.c (y6r q b)≥sHi m q.c b))))))
theorem y8x {m:Md} {q:Qy} {b:Bx}:∀ (d i:Nat),ybz m q b d i=true↔∀ j:Nat,i≤j→j < i+d→(j:Int)≠q.c→sHi m (j:Int) b < sLo m q.c b
 | 0,i=>⟨fun _ j h1 h2=>by omega,fun _=>rfl⟩
 | d+1,i=>by
  rw [ybz];cases hc:(!((i:Int)==q.c)&&decide (sHi m (i:Int) b≥sLo m q.c b)) with
  | true=>
   rw [z00];simp only [v02,v12,v0v,v07] at hc;refine ⟨(fun h=>by cases h),fun h=>?_⟩
   have:=h i (v0a _) (by omega) hc.1
   omega
  | false=>
   rw [z01,y8x d (i+1)];rw [Bool.and_eq_false_iff,Bool.not_eq_false',v1h,v15] at hc;constructor
   ·intro h j h1 h2 hn
    rcases v1y i j with h3 | h3
    ·exact h j h3 (by omega) hn
    ·have:j=i:=by omega
     subst this;rcases hc with hc | hc
     ·exact absurd hc hn
     ·omega
   ·intro h j h1 h2 hn
    exact h j (by omega) (by omega) hn
theorem y93 {m:Md} {q:Qy} {b:Bx} (hr:z2b m q=true) (hb:b.emp=true∨b.good):yly m q b=z2r m q b:=by
 unfold yly z2r;rw [hr,v0k];cases he:b.emp with
 | true=>rfl
 | false=>
  rw [z01,z01];have hg:b.good:=by
   rcases hb with h | h
   ·rw [he] at h; cases h
   ·exact h
  obtain ⟨hm,⟨c0,c1⟩,_,_,hk⟩:=zcx hr;have hcl:=y6i c0 c1;have hs:=zwl hm hcl he;rcases zlk hk with ⟨e,_⟩ | ⟨e,h2,_⟩ | ⟨e,hf,_⟩
  ·rw [e]
   show (decide (q.lo≤sLo m q.c b)&&decide (sHi m q.c b≤q.hi))=(sOK m q.c b&&(decide (q.lo≤sLo m q.c b)&&decide (sHi m q.c b≤q.hi)));rw [hs,v0k]
  ·rw [e]
   show ybz m q b m.c.toNat 0=(yfs m q.c b&&decide (ypy m q.c b > 0));have hmg:yfs m q.c b=true:=by unfold yfs; rw [hs,v01 (by omega)]; rfl
   rw [hmg,v0k,v2s,y8x,v07]
   have:=ygb hmg
   constructor
   ·intro h
    exact this.2 fun j hj hn=>h j (v0x _) (by omega) hn
   ·intro h j _ h2 hn
    exact this.1 h j (by omega) hn
  ·rw [e]
   have hp:=zxv hm e hf;have h44:=hg 4 (by omega)
   have hg2:(y6r q b).good:=ztw hg h44 (by have:=hf; have:=(zcx hr).1; rcases za2 hp with e | e | e | e <;> rw [e] <;> decide)
   have s1:=ypp hm q.c hg;have s2:=ypp hm q.c hg2;have f1:zb8 q b=b.p ⟨0,0⟩ 4:=by unfold zb8; rw [hp,z00]
   have f2:z7f q b=(y6r q b).p ⟨0,0⟩ 4:=by unfold z7f; rw [hp,z00]; rfl
   have hch:y97 m q b=true:=by
    unfold y97;rw [hp,f1,f2,zwl hm hcl (ztw hg ⟨by decide,by decide,by decide⟩ (by omega)).emp,zwl hm hcl (ztw hg2 ⟨by decide,by decide,by decide⟩ (by omega)).emp]
    rfl
   have e1:yn1 m q b=sHi m q.c (y6r q b) - sLo m q.c b:=by unfold yn1; rw [hch,z00,f1,f2,s1.1,s2.2]
   have e2:yn2 m q b=sLo m q.c (y6r q b) - sHi m q.c b:=by unfold yn2; rw [hch,z00,f1,f2,s1.2,s2.1]
   have eo:zg2 q b=!decide ((b.g q.ft.toNat).lo≥b.s4.hi):=by
    unfold zg2;rw [hp,he]
    by_cases h:(b.g q.ft.toNat).lo < b.s4.hi
    ·rw [v01 h,v05 (by omega)]; rfl
    ·rw [v05 h,v01 (by omega)]; rfl
   show cond (decide ((b.g q.ft.toNat).lo≥b.s4.hi)) true _=cond (!(zg2 q b)) true (cond q.fl (y97 m q b&&decide (yn1 m q b≤0)) (y97 m q b&&decide (yn2 m q b≥0)));rw [eo,Bool.not_not,hch,v0k,v0k,e1,e2];have d1:decide (sHi m q.c (y6r q b) - sLo m q.c b≤0)=decide (sHi m q.c (y6r q b)≤sLo m q.c b):=by
    rw [v2s,v07,v07]; omega
   have d2:decide (sLo m q.c (y6r q b) - sHi m q.c b≥0)=decide (sLo m q.c (y6r q b)≥sHi m q.c b):=by
    rw [v2s,v07,v07]; omega
   rw [d1,d2]
open Go
theorem y53 {x:IV} {left most:Int} {st:Int × Int} (h:zds (left,most) x=some st):left≠0∧z6c x=true∧((z9d x=true∧st=(left - 1,most))∨(z9d x=false∧st=(left+1,max most (left+1)))):=by
 unfold zds at h;cases hz:(left==0) with
 | true=>simp only [hz,v4a,v1e] at h; cases h
 | false=>
  have hne:left≠0:=by simpa using hz
  simp only [hz,v2t] at h;cases hr:z6c x with
  | false=>rw [hr] at h; cases h
  | true=>
   rw [hr] at h;simp only [v0e,v18] at h;cases hs:z9d x with
   | true=>rw [hs] at h; exact ⟨hne,rfl,.inl ⟨rfl,(v1p h).symm⟩⟩
   | false=>rw [hs] at h; exact ⟨hne,rfl,.inr ⟨rfl,(v1p h).symm⟩⟩
theorem znv {x:IV} (h:z6c x=true) (hs:z9d x=false):0≤z17 x∧z17 x≤4:=by
 unfold z6c at h;rw [hs,z01,v02,v07,v07] at h;exact h
theorem ztd {x:IV} {left out:List IV} {most:Int} {st:Int × Int} {lo:List IV × List IV} (hl:∀ y∈left,(bxI y).good) (ho:∀ y∈out,(bxI y).good) (hd:zds (ic left.length,most) x=some st) (hp:zd8 (left,out) x=some lo) :
  (∀ y∈lo.1,(bxI y).good)∧(∀ y∈lo.2,(bxI y).good)∧st.1=ic lo.1.length:=by
 obtain ⟨hne,hr,hd⟩:=y53 hd;have hlen:0 < left.length:=by simp only [ic] at hne; omega
 have ht:(z3s left).good:=hl _ (zke hlen).1;unfold zd8 at hp;rcases hd with ⟨hs,rfl⟩ | ⟨hs,rfl⟩
 ·rw [hs] at hp
  obtain rfl:=v1p hp;refine ⟨fun y hy=>hl y (zr3 hy),fun y hy=>?_,?_⟩
  ·rcases v0o.1 hy with hy | hy
   ·exact ho y hy
   ·obtain rfl:=v1v.1 hy
    rw [zv8]; exact ht
  ·show ic left.length - 1=ic (zgz left).length
   rw [z8w]; simp only [ic]; omega
 ·rw [hs] at hp
  have hpl:=znv hr hs;have ej:z17 x=(((z17 x).toNat:Nat):Int):=by omega
  cases hc:(decide (zfv x < ((z3s left).g (z17 x).toNat).lo)||decide (zfv x≥((z3s left).g (z17 x).toNat).hi)) with
  | true=>simp only [hc,v18,v1e] at hp; cases hp
  | false=>
   simp only [hc,v18] at hp;obtain rfl:=v1p hp;simp only [v1z,v15] at hc;refine ⟨fun y hy=>?_,ho,?_⟩
   ·rcases v0o.1 hy with hy | hy
    ·exact hl y (zr3 hy)
    ·rcases v17.1 hy with rfl | hy
     ·rw [zv8,ej]; exact yb5 ht (by omega) (by omega) (by omega)
     ·obtain rfl:=v1v.1 hy
      rw [zv8,ej]; exact y8c ht (by omega) (by omega) (by omega)
   ·show ic left.length+1=ic (zgz left++[_,_]).length
    rw [v08,z8w];simp only [ic,v03,v0i]; omega
theorem yl5:∀ {l:List IV} {left out:List IV} {most:Int} {st:Int × Int} {lo:List IV × List IV},(∀ y∈left,(bxI y).good)→(∀ y∈out,(bxI y).good)→zz3 l (ic left.length,most)=some st→ztr l (left,out)=some lo→∀ y∈lo.2,(bxI y).good
 | [],left,out,most,st,lo,_,ho,_,hp=>by
  obtain rfl:=v1p hp;exact ho
 | x :: l,left,out,most,st,lo,hl,ho,hd,hp=>by
  rw [zz3] at hd;rw [ztr] at hp;cases h1:zds (ic left.length,most) x with
  | none=>rw [h1] at hd; cases hd
  | some s1=>
   cases h2:zd8 (left,out) x with
   | none=>rw [h2] at hp; cases hp
   | some l1=>
    rw [h1] at hd;rw [h2] at hp;obtain ⟨g1,g2,g3⟩:=ztd hl ho h1 h2;obtain ⟨a,b⟩:=l1;obtain ⟨c,d⟩:=s1;obtain rfl:c=ic a.length:=g3;exact yl5 g1 g2 hd hp
theorem yas {l:List IV} (h:zio l > 0):∃ st,zz3 l (1,1)=some st:=by
 unfold zio at h;cases hc:decide (ic l.length > 65536) with
 | true=>rw [hc,z00] at h; omega
 | false=>
  rw [hc,z01] at h;cases hd:zz3 l (1,1) with
  | none=>rw [hd] at h; exact absurd h (by decide)
  | some st=>exact ⟨st,rfl⟩
theorem yn7 {b:Bx} (hb:b.good) {l outs:List IV} (h:psF b l=some outs):∀ y∈outs,(bxI y).good:=by
 unfold psF at h;cases hd:decide (zio l > 0) with
 | false=>rw [hd,z01] at h; cases h
 | true=>
  rw [hd,z00] at h;obtain ⟨st,hst⟩:=yas (v0c hd);cases hp:ztr l ([b.I],[]) with
  | none=>rw [hp] at h; cases h
  | some lo=>
   rw [hp] at h;obtain rfl:=v1p h;refine yl5 (left:=[b.I]) (out:=[]) (most:=1) (fun y hy=>?_) (fun y hy=>by cases hy) hst hp
   obtain rfl:=v1v.1 hy;rw [zv8]; exact hb
open Go Go.Proofs
def zb5 (N:Nat):Env:=mkE [(111,z92),(112,z2u),(55,z2i)] [(3,⟨[0,4,5,6,7,8,9],[500],[⟨.tmp 9,500,252,true,yu0⟩]⟩)] 88 N
open Go Go.Proofs
set_option maxRecDepth 100000
def y01 (l O:List IV) (n:Nat) (lo hi:Int) (any:Bool):St:=⟨[(0,.list false [.int .u64] l),(4,.int .i64 0),(5,.int .i64 0),(6,.int .i64 lo),(7,.int .i64 hi),(8,.bool any),(9,.row 500 0 n)],[(500,some (.row true 252 true yu0 O))]⟩
abbrev yux:KP:=⟨[0,4,5,6,7,8,9],[500],[⟨.tmp 9,500,252,true,yu0⟩]⟩
noncomputable abbrev yuh (N:Nat):Out→St→Res:=z05 0 (kSq (zb5 N) (z0f zba [1,1,1,1]) (z2s (zb5 N) none [.tmp 4,.tmp 5] [[.int .i64],[.int .i64]]))
def eW (n:Nat):Int:=IntKind.wrap IntKind.i64 (ic (n - 0) - 1)
def eX (O:List IV) (n:Nat):IV:=O.getD (0+(eW n).toNat) default
def eWd (l:List IV) (x:IV):Int:=(l.getD (zql x).toNat default).toInt
theorem yrp (N:Nat) (l:List IV) (b:Bx):z0z (zb5 N) zba [.tmp 4,.tmp 5] [[.int .i64],[.int .i64]] [.list false [.int .u64] l,b.V] =
 lpE (zb5 N) (z0f zba [1,1,1,0,0,0]) yux N (y01 l [yla 0 b] 1 0 0 false) (yuh N):=by kernel_rfl
theorem ykq (N:Nat) (l O:List IV) (n:Nat) (lo hi:Int) (any:Bool) (again:St→Res) (k:Out→St→Res):rnd (zb5 N) (z0f zba [1,1,1,0,0,0]) (y01 l O n lo hi any) (z3t again yux k) =
 cond (decide (ic (n - 0) > 0)) (cond (decide (0≤eW n)&&decide (eW n < ic (n - 0))) (cond (decide (0≤eW n)&&decide (eW n≤ic (n - 0)))
 (cond (decide (0≤zql (eX O n))&&decide (zql (eX O n) < ic l.length))
 (cond (!(zbi (eWd l (eX O n)))) (again (y01 l O (0+(eW n).toNat) lo hi any))
 (cond (zzq (eX O n)).emp (again (y01 l O (0+(eW n).toNat) lo hi any))
 (cond (!(z07 (eWd l (eX O n))).lf)
 (cond (zse (z07 (eWd l (eX O n))).f) (cond (decide ((0+(eW n).toNat+2)*88≤z08))
 (again (y01 l (O.take (0+(eW n).toNat)++[yla (z07 (eWd l (eX O n))).l ((zzq (eX O n)).cutL (z07 (eWd l (eX O n))).f (z07 (eWd l (eX O n))).a),yla (z07 (eWd l (eX O n))).r ((zzq (eX O n)).cutH (z07 (eWd l (eX O n))).f (z07 (eWd l (eX O n))).a)]) (0+(eW n).toNat+2) lo hi any)) none) none)
 (cond (!any) (again (y01 l O (0+(eW n).toNat) (min (z07 (eWd l (eX O n))).v (z07 (eWd l (eX O n))).v) (max (z07 (eWd l (eX O n))).v (z07 (eWd l (eX O n))).v) true))
 (again (y01 l O (0+(eW n).toNat) (min lo (z07 (eWd l (eX O n))).v) (max hi (z07 (eWd l (eX O n))).v) any)))))) none) none) none)
 (k (.exit 0) (y01 l O n lo hi any)):=by kernel_rfl
theorem yrt (N:Nat) (l O:List IV) (n:Nat) (lo hi:Int) (any:Bool):yuh N (.exit 0) (y01 l O n lo hi any)=some (.tup [.int .i64 lo,.int .i64 hi],[]):=by kernel_rfl
theorem zlv (N:Nat) {l:List IV} (hT:zav l 4=true) {b:Bx} (hb:b.good):∀ (c:Nat) (O:List IV) (n:Nat) (lo hi:Int) (any:Bool),n≤O.length→EnI l b ⟨O.take n,lo,hi,any⟩→enW (O.take n) < c →
  lpE (zb5 N) (z0f zba [1,1,1,0,0,0]) yux c (y01 l O n lo hi any) (yuh N)=some (.tup [.int .i64 (tLo l b),.int .i64 (tHi l b)],[])
 | 0,_,_,_,_,_,_,_,h=>absurd h (by omega)
 | c+1,O,0,lo,hi,any,hn,h,hc=>by
  obtain ⟨e1,e2⟩:=ysz hT hb.emp hb.ok h rfl;replace e1:lo=tLo l b:=e1;replace e2:hi=tHi l b:=e2;rw [z06,ykq,show decide (ic (0 - 0) > 0)=false from rfl,z01,yrt,e1,e2]
 | c+1,O,j+1,lo,hi,any,hn,h,hc=>by
  have ht:=zvi hT;have hlen:(O.take (j+1)).length=j+1:=by rw [v0l]; omega
  have hl:0 < (En.mk (O.take (j+1)) lo hi any).todo.length:=by show 0 < (O.take (j+1)).length; omega
  have hd:=h.depth ht;replace hd:(O.take (j+1)).length≤31:=hd;have hs:=yri ht h hl;have hw:=yr0 ht h hl;have htop:z41 (O.take (j+1))=O.getD j default:=by
   unfold z41;rw [hlen,v0n,v0n,v1a,v1b (by omega)]
   rfl
  have hpop:zgz (O.take (j+1))=O.take j:=by
   unfold zgz;rw [hlen,v3u]
   congr 1
   omega
  have ew:eW (j+1)=(j:Int):=by
   unfold eW;rw [show ic (j+1 - 0) - 1=(j:Int) by simp only [ic]; omega]
   exact z0s (by omega) (by omega)
  have ej:0+(eW (j+1)).toNat=j:=by rw [ew]; omega
  have ex:eX O (j+1)=z41 (O.take (j+1)):=by unfold eX; rw [ej,htop]
  have ha:=h.at_ _ _ (zke hl).2;replace ha:((((O.take (j+1)).length - 1:Nat)):Int)≤zql (z41 (O.take (j+1)))∧zql (z41 (O.take (j+1))) < ic l.length:=ha;have i1:decide (ic (j+1 - 0) > 0)=true:=v01 (by simp only [ic]; omega)
  have i2:(decide (0≤eW (j+1))&&decide (eW (j+1) < ic (j+1 - 0)))=true:=by rw [ew,v01 (by omega),v01 (by simp only [ic]; omega)]; rfl
  have i3:(decide (0≤eW (j+1))&&decide (eW (j+1)≤ic (j+1 - 0)))=true:=by rw [ew,v01 (by omega),v01 (by simp only [ic]; omega)]; rfl
  rw [z06,ykq,i1,z00,i2,z00,i3,z00,ej,ex,v01 (show 0≤zql (z41 (O.take (j+1))) by omega),v01 ha.2,v0w,z00]
  unfold y8w at hs hw;simp only [zbx,hpop] at hs hw;have eWdef:eWd l (z41 (O.take (j+1)))=(l.getD (zql (z41 (O.take (j+1)))).toNat default).toInt:=rfl;rw [← eWdef] at hs hw;have hfk:(z07 (eWd l (z41 (O.take (j+1))))).lf=false→zse (z07 (eWd l (z41 (O.take (j+1))))).f=true:=fun hf=>by
   have hk:(zql (z41 (O.take (j+1)))).toNat < l.length:=by have:=ha.2; simp only [ic] at this; omega
   have:=(ht.fork _ hk hf).1
   replace this:0≤(z07 (eWd l (z41 (O.take (j+1))))).f∧(z07 (eWd l (z41 (O.take (j+1))))).f < 4:=this;unfold zse;rw [v01 this.1,v01 (by omega)]
   rfl
  generalize eWd l (z41 (O.take (j+1)))=wd at hs hw hfk ⊢
  generalize zzq (z41 (O.take (j+1)))=vb at hs hw ⊢
  cases hnb:zbi wd with
  | false=>
   rw [v0j,z00];simp only [hnb,v0j,v4a,v1e] at hs hw;exact zlv N hT hb c O j lo hi any (by omega) hs (by omega)
  | true=>
   rw [v0e,z01];simp only [hnb,v0e,v2t] at hs hw;cases he:vb.emp with
   | true=>
    rw [z00];simp only [he,v1e] at hs hw;exact zlv N hT hb c O j lo hi any (by omega) hs (by omega)
   | false=>
    rw [z01];simp only [he,v18] at hs hw;cases hlf:(z07 wd).lf with
    | true=>
     rw [v0e,z01];simp only [hlf,v0e,v18] at hs hw;cases any with
     | false=>
      rw [v0j,z00];exact zlv N hT hb c O j _ _ true (by omega) hs (by omega)
     | true=>
      rw [v0e,z01];exact zlv N hT hb c O j _ _ true (by omega) hs (by omega)
    | false=>
     rw [v0j,z00];simp only [hlf,v0j,v1e] at hs hw;have e2:∀ v1 v2:IV,(O.take j++[v1,v2]).take (j+2)=O.take j++[v1,v2]:=fun v1 v2=>v13 (by simp only [v08,v0l,v03,v0i]; omega)
     rw [hfk hlf,z00,v01 (show (j+2)*88≤z08 by unfold z08; omega),z00]
     refine zlv N hT hb c _ (j+2) lo hi any (by simp only [v08,v0l,v03,v0i]; omega) ?_ ?_
     ·rw [e2]; exact hs
     ·rw [e2]; omega
theorem y0x:z32 PR B0 158 zdi:=by
 refine z0h [(111,z92),(112,z2u),(55,z2i)] [(3,⟨[0,4,5,6,7,8,9],[500],[⟨.tmp 9,500,252,true,yu0⟩]⟩)] zdi [[.int .i64],[.int .i64]] Tryz.func158 yah ⟨zhu,z7z,z7c,trivial⟩ ?_;intro vs r hwf h;unfold zdi at h
 split at h
 ·rename_i l b
  replace h:=z3i h;obtain ⟨b,rfl,h⟩:=h;cases hg:(zav l 4&&z77 b) with
  | false=>rw [hg] at h; simp [R.get] at h
  | true=>
  rw [hg,R.get_br,z00,R.get_ok] at h;rw [v02] at hg;refine ⟨3 ^ 31+1,(yrp (3 ^ 31+1) l b).trans ?_⟩;rw [← h];have hgd:=zh9.1 hg.2;refine zlv (3 ^ 31+1) hg.1 hgd (3 ^ 31+1) [yla 0 b] 1 0 0 false (v0a _) (ytn (zvi hg.1) hgd.ok) ?_;show enW [yla 0 b] < 3 ^ 31+1;unfold enW;simp only [v0d,v16,v3t,List.sum_nil,yee];show 3 ^ 31+0 < 3 ^ 31+1;omega
 ·simp [R.get] at h
open Go Go.Proofs
def zb6 (N:Nat):Env:=mkE [(111,z92),(110,zbk)] [(6,⟨[4,5,6,7,19,20,21],[500,501],[⟨.tmp 6,500,36,true,zch⟩,⟨.tmp 7,501,36,true,zch⟩]⟩)] 75 N
open Go Go.Proofs
set_option maxRecDepth 100000
def ymz (l L:List IV) (n:Nat) (out:List IV) (m:Nat) (i:Int):St:=⟨[(4,.zs),(5,.bool false),(6,.row 500 0 n),(7,.row 501 0 m),(19,.list true z1k l),(20,.int .i64 (ic l.length)),(21,.int .i64 i)],[(500,some (.row true 36 true zch L)),(501,some (.row true 36 true zch out))]⟩
abbrev yup:KP:=⟨[4,5,6,7,19,20,21],[500,501],[⟨.tmp 6,500,36,true,zch⟩,⟨.tmp 7,501,36,true,zch⟩]⟩
def plK (p:Int) (f:Nat→Res):Res:=cond (decide (p=ic 0)) (f 0) (cond (decide (p=ic 1)) (f 1) (cond (decide (p=ic 2)) (f 2) (cond (decide (p=ic 3)) (f 3) (cond (decide (p=ic 4)) (f 4) none))))
def eW' (n:Nat):Int:=IntKind.wrap IntKind.i64 (ic (n - 0) - 1)
def pX (L:List IV) (n:Nat):IV:=L.getD (0+(eW' n).toNat) default
noncomputable abbrev kPs (N:Nat):Out→St→Res:=z05 0 (kSq (zb6 N) (z0f zbc [1,1,1,1,1]) (z2s (zb6 N) none [.tmp 4,.tmp 5] [[.list true zch],[.bool]]))
theorem yuf (N:Nat) (l:List IV) (b:Bx):z0z (zb6 N) zbc [.tmp 4,.tmp 5] [[.list true zch],[.bool]] [b.V,.list true z1k l] =
 cond (!decide (zio l > 0)) (some (.tup [.list true zch [],.bool false],[])) (lpE (zb6 N) (z0f zbc [1,1,1,1,0,1,0,0]) yup N (ymz l [b.I] 1 [] 0 0) (kPs N)):=by kernel_rfl
theorem yuu (N:Nat) (l L out:List IV) (n m:Nat) (i:Int):kPs N (.exit 0) (ymz l L n out m i)=some (.tup [.list true zch (List.take m out),.bool true],[]):=by kernel_rfl
theorem ypb (N:Nat) (l L out:List IV) (n m:Nat) (i:Int):kPs N .ret (ymz l L n out m i)=some (.tup [.list true zch [],.bool false],[]):=by kernel_rfl
theorem ysp (N:Nat) (l L out:List IV) (n m:Nat) (i:Int) (again:St→Res) (k:Out→St→Res):rnd (zb6 N) (z0f zbc [1,1,1,1,0,1,0,0]) (ymz l L n out m i) (z3t again yup k) =
 cond (decide (i < ic l.length)) (cond (decide (0≤i)&&decide (i < ic l.length)) (cond (decide (0≤eW' n)&&decide (eW' n < ic (n - 0))) (cond (decide (0≤eW' n)&&decide (eW' n≤ic (n - 0)))
 (cond (z9d (l.getD i.toNat default)) (cond (decide ((m+1)*80≤z08)) (again (ymz l L (0+(eW' n).toNat) (out.take m++[(bxI (pX L n)).I]) (m+1) (zex (i+1)))) none)
 (plK (z17 (l.getD i.toNat default)) fun j=>cond (decide (zfv (l.getD i.toNat default) < cI (pX L n) (2*j))) (k .ret (ymz l L (0+(eW' n).toNat) out m i))
 (plK (z17 (l.getD i.toNat default)) fun j=>cond (decide (zfv (l.getD i.toNat default)≥cI (pX L n) (2*j+1))) (k .ret (ymz l L (0+(eW' n).toNat) out m i))
 (cond (zse (z17 (l.getD i.toNat default))) (cond (decide ((0+(eW' n).toNat+2)*80≤z08))
 (again (ymz l (L.take (0+(eW' n).toNat)++[((bxI (pX L n)).cutH (z17 (l.getD i.toNat default)) (zfv (l.getD i.toNat default))).I,((bxI (pX L n)).cutL (z17 (l.getD i.toNat default)) (zfv (l.getD i.toNat default))).I]) (0+(eW' n).toNat+2) out m (zex (i+1)))) none) none)))) none) none) none)
 (k (.exit 0) (ymz l L n out m i)):=by kernel_rfl
theorem ypx {p:Int} {a:Nat} (h:p=(a:Int)) (ha:a < 5) (f:Nat→Res):plK p f=f a:=by
 subst h
 match a,ha with
 | 0,_=>rfl
 | 1,_=>rfl
 | 2,_=>rfl
 | 3,_=>rfl
 | 4,_=>rfl
 | n+5,h=>omega
theorem yv0 (x:IV):∀ {a:Nat},a < 5→(bxI x).g a=⟨cI x (2*a),cI x (2*a+1)⟩
 | 0,_=>rfl
 | 1,_=>rfl
 | 2,_=>rfl
 | 3,_=>rfl
 | 4,_=>rfl
 | n+5,h=>by omega
def yr7 (o:Option (List IV × List IV)):Res:=match o with
 | some lo=>some (.tup [.list true zch lo.2,.bool true],[])
 | none=>some (.tup [.list true zch [],.bool false],[])
theorem yjd (N:Nat) (l:List IV) (hl:l.length≤65536):∀ (d c i:Nat) (L:List IV) (n:Nat) (out:List IV) (most:Int) (st:Int × Int),i+d=l.length→d < c→n≤L.length→n≤i+1→out.length≤i→zz3 (l.drop i) (ic n,most)=some st →
  lpE (zb6 N) (z0f zbc [1,1,1,1,0,1,0,0]) yup c (ymz l L n out out.length (i:Int)) (kPs N)=yr7 (ztr (l.drop i) (L.take n,out))
 | d,0,_,_,_,_,_,_,_,h,_,_,_,_=>absurd h (by omega)
 | 0,c+1,i,L,n,out,most,st,hd,_,_,_,_,_=>by
  rw [z06,ysp,zdj (by omega),z01,v1i (by omega),yuu,v0q]
  rfl
 | d+1,c+1,i,L,n,out,most,st,hd,hc,hn,hn2,ho,hdp=>by
  have hi:i < l.length:=by omega
  rw [v0m hi,zz3] at hdp;rw [z06,ysp,zbm hi,z00,zjl,v0w,z00,zda hi,v0m hi,ztr];have ei:zex ((i:Int)+1)=((i+1:Nat):Int):=z7r (by omega)
  rw [ei];generalize l[i]=x at hdp ⊢
  cases h1:zds (ic n,most) x with
  | none=>rw [h1] at hdp; cases hdp
  | some s1=>
   rw [h1] at hdp;obtain ⟨hne,hr,hcase⟩:=y53 h1;obtain ⟨j,rfl⟩:∃ j,n=j+1:=⟨n - 1,by simp only [ic] at hne; omega⟩
   have hlen:(L.take (j+1)).length=j+1:=by rw [v0l]; omega
   have htop:z41 (L.take (j+1))=L.getD j default:=by
    unfold z41;rw [hlen,v0n,v0n,v1a,v1b (by omega)]
    rfl
   have hpop:zgz (L.take (j+1))=L.take j:=by
    unfold zgz;rw [hlen,v3u]
    congr 1
    omega
   have ew:eW' (j+1)=(j:Int):=by
    unfold eW';rw [show ic (j+1 - 0) - 1=(j:Int) by simp only [ic]; omega]
    exact z0s (by omega) (by omega)
   have ej:0+(eW' (j+1)).toNat=j:=by rw [ew]; omega
   have ex:pX L (j+1)=z41 (L.take (j+1)):=by unfold pX; rw [ej,htop]
   have i2:(decide (0≤eW' (j+1))&&decide (eW' (j+1) < ic (j+1 - 0)))=true:=by rw [ew,v01 (by omega),v01 (by simp only [ic]; omega)]; rfl
   have i3:(decide (0≤eW' (j+1))&&decide (eW' (j+1)≤ic (j+1 - 0)))=true:=by rw [ew,v01 (by omega),v01 (by simp only [ic]; omega)]; rfl
   have et:z3s (L.take (j+1))=bxI (z41 (L.take (j+1))):=rfl;rw [i2,z00,i3,z00,ej,ex];unfold zd8;simp only [hpop,et];generalize z41 (L.take (j+1))=y;rcases hcase with ⟨hs,rfl⟩ | ⟨hs,rfl⟩
   ·rw [hs,z00,z00,v01 (show (out.length+1)*80≤z08 by unfold z08; omega),z00,v0q]
    have:=yjd N l hl d c (i+1) L j (out++[(bxI y).I]) most st (by omega) (by omega) (by omega) (by omega) (by simp only [v08,v03,v0i]; omega) (by rw [show ic j=ic (j+1) - 1 by simp only [ic]; omega]; exact hdp)
    rw [show (out++[(bxI y).I]).length=out.length+1 by simp] at this
    exact this
   ·have hpl:=znv hr hs
    obtain ⟨a,ha⟩:∃ a:Nat,z17 x=(a:Int):=⟨(z17 x).toNat,by omega⟩
    have ha5:a < 5:=by omega
    rw [hs,z01,z01,ypx ha ha5,ypx ha ha5];have eg:=yv0 y ha5;rw [show (z17 x).toNat=a by omega,eg]
    show cond (decide (zfv x < cI y (2*a))) _ _=yr7 (match cond (decide (zfv x < cI y (2*a))||decide (zfv x≥cI y (2*a+1))) none _ with | some st'=>ztr (l.drop (i+1)) st' | none=>none)
    cases decide (zfv x < cI y (2*a)) with
    | true=>rw [z00,ypb,v4a,z00]; rfl
    | false=>
     rw [z01,v2t];cases decide (zfv x≥cI y (2*a+1)) with
     | true=>rw [z00,ypb,z00]; rfl
     | false=>
      have hin:zse (z17 x)=true:=by unfold zse; rw [v01 hpl.1,v01 (by omega)]; rfl
      rw [z01,z01,hin,z00,v01 (show (j+2)*80≤z08 by unfold z08; omega),z00]
      have e2:∀ v1 v2:IV,(L.take j++[v1,v2]).take (j+2)=L.take j++[v1,v2]:=fun v1 v2=>v13 (by simp only [v08,v0l,v03,v0i]; omega)
      have:=yjd N l hl d c (i+1) (L.take j++[((bxI y).cutH (z17 x) (zfv x)).I,((bxI y).cutL (z17 x) (zfv x)).I]) (j+2) out (max most (ic (j+1)+1)) st (by omega) (by omega) (by simp only [v08,v0l,v03,v0i]; omega) (by omega) (by omega) (by rw [show ic (j+2)=ic (j+1)+1 by simp only [ic]; omega]; exact hdp)
      rw [e2] at this;exact this
theorem y0d:z32 PR B0 67 zdw:=by
 refine z0h [(111,z92),(110,zbk)] [(6,⟨[4,5,6,7,19,20,21],[500,501],[⟨.tmp 6,500,36,true,zch⟩,⟨.tmp 7,501,36,true,zch⟩]⟩)] zdw [[.list true [.int .i64,.int .i64,.int .i64,.int .i64,.int .i64,.int .i64,.int .i64,.int .i64,.int .i64,.int .i64]],[.bool]] Tryz.func67 yae ⟨zhu,zyp,trivial⟩ ?_;intro vs r hwf h;unfold zdw at h
 split at h
 ·rename_i b l
  replace h:=z3i h;obtain ⟨b,rfl,h⟩:=h;rw [R.get_br] at h;refine ⟨l.length+1,(yuf (l.length+1) l b).trans ?_⟩;cases hd:decide (zio l > 0) with
  | false=>
   have e:psF b l=none:=by unfold psF; rw [hd,z01]
   rw [e] at h;rw [v0j,z00];exact h
  | true=>
   obtain ⟨st,hst⟩:=yas (v0c hd);have hl:l.length≤65536:=by
    have:=v0c hd
    unfold zio at this
    by_cases hc:ic l.length > 65536
    ·rw [v01 hc,z00] at this; omega
    ·simp only [ic] at hc; omega
   have run:=yjd (l.length+1) l hl l.length (l.length+1) 0 [b.I] 1 [] 1 st (by omega) (by omega) (v0a _) (by omega) (v0a _) hst
   rw [v0z] at run;have e:psF b l=(ztr l ([b.I],[])).map (·.2):=by unfold psF; rw [hd,z00]
   rw [v0e,z01];refine v4b run ?_;show yr7 (ztr l ([b.I],[]))=_;rw [e] at h;cases hp:ztr l ([b.I],[]) with
   | none=>rw [hp] at h; exact h
   | some lo=>rw [hp] at h; exact h
 ·simp [R.get] at h
open Go Go.Proofs
theorem yds (N:Nat) (ts:List IV) (b:Bx) (k:Int) (hts:ts.length≤8) (hT:∀ t∈ts,zav (zcm t) 4=true) (hb:z77 b=true):∀ (m i n:Nat) (lo hi:Int),i+m=ts.length→m < n→(-2147483648*(i+1)≤lo∧lo≤2147483648*(i+1))→(-2147483648*(i+1)≤hi∧hi≤2147483648*(i+1)) →
  lpE (z0j N) (z0f z18 [1,1,1,0,1,0,0]) ⟨[1,5,6,7,8,9,40,41,42],[5],[]⟩ n ⟨[(1,(.int .i64 k)),(5,(.ptr 5 0 0)),(6,(.int .i64 0)),(7,(.int .i64 0)),(8,(.int .i64 lo)),(9,(.int .i64 hi)),(40,(.list true zns ts)),(41,(.int .i64 (ic ts.length))),(42,(.int .i64 (i:Int)))],[(5,(some (.box (Bx.cs b))))]⟩ (z05 0 (kSq (z0j N) (z0f z18 [1,1,1,1]) (z2s (z0j N) none [(ResultVar.tmp 6),(ResultVar.tmp 7)] [[(.int .i64)],[(.int .i64)]]))) =
   some (.tup [.int .i64 (zvv (fun l=>tLo l b) k (ts.drop i) lo),.int .i64 (zvv (fun l=>tHi l b) k (ts.drop i) hi)],[])
 | m,i,0,_,_,_,h,_,_=>absurd h (by omega)
 | 0,i,n+1,lo,hi,hd,_,_,_=>by
  have hlt:i=ts.length:=by omega
  subst hlt;rw [z06,zl2,zdj (v0a _),z01,v2e];exact zsj N b _ _ _ _ _ _ _ _
 | m+1,i,n+1,lo,hi,hd,hn,h1,h2=>by
  have hlt:i < ts.length:=by omega
  have ei:IntKind.wrap IntKind.i64 ((i:Int)+1)=((i+1:Nat):Int):=z7r (by omega)
  rw [z06,zl2,ei,zbm hlt,z00,zjl,v0w,z00,zda hlt,v0m hlt,zvv,zvv];obtain ⟨q1,q2⟩:=yu5 (zcm ts[i]) b;have q1:=z6q q1;have q2:=z6q q2;have hti:zav (IV.toList (IV.cell ts[i] 1)) 4=true:=hT _ (v1x hlt);cases ((ts[i].cell 0).toInt==k) with
  | true=>
   rw [z00,z00,z00,hti,hb,v0w,z00];have ew:IntKind.wrap IntKind.i64 (lo+tLo (zcm ts[i]) b)=lo+tLo (zcm ts[i]) b:=z0s (by omega) (by omega)
   have ew2:IntKind.wrap IntKind.i64 (hi+tHi (zcm ts[i]) b)=hi+tHi (zcm ts[i]) b:=z0s (by omega) (by omega)
   have ih:=yds N ts b k hts hT hb m (i+1) n (lo+tLo (zcm ts[i]) b) (hi+tHi (zcm ts[i]) b) (by omega) (by omega) (by omega) (by omega)
   rw [← ew,← ew2] at ih;refine v4b ih ?_;rw [ew,ew2]
  | false=>
   rw [z01,z01,z01];exact yds N ts b k hts hT hb m (i+1) n lo hi (by omega) (by omega) (by omega) (by omega)
theorem zzz:z32 PR B0 113 zdl:=by
 refine z0h [(112,z2u),(158,zdi),(53,z2j)] [(5,⟨[1,5,6,7,8,9,40,41,42],[5],[]⟩)] zdl [[.int .i64],[.int .i64]] Tryz.func113 ya5 ⟨z7z,y0x,z7e,trivial⟩ ?_;intro vs r hwf h;unfold zdl at h
 split at h
 ·rename_i m k b
  replace h:=z3q h;obtain ⟨m,rfl,h⟩:=h;replace h:=z3i h;obtain ⟨b,rfl,h⟩:=h;cases hg:(b.emp||z77 b) with
  | false=>rw [hg] at h; simp [R.get] at h
  | true=>
  rw [hg,R.get_br,z00,R.get_ok] at h;refine ⟨10,?_⟩;rw [← h];refine (y40 10 m k b).trans ?_;unfold sLo sHi sOK;cases hm:z2g m with
  | false=>rfl
  | true=>
   rw [v0e,z01];cases h0:decide (k < 0) with
   | true=>
    have:zd7 m k=false:=by unfold zd7; rw [v05 (show ¬ 0≤k by have:=v0c h0; omega)]; rfl
    rw [this]
    rfl
   | false=>
    rw [z01];cases h1:decide (k≥m.c) with
    | true=>
     have:zd7 m k=false:=by unfold zd7; rw [v05 (show ¬ k < m.c by have:=v0c h1; omega),v2o]
     rw [this]
     rfl
    | false=>
     have hc:zd7 m k=true:=by unfold zd7; rw [v01 (show 0≤k by have:=v0r h0; omega),v01 (show k < m.c by have:=v0r h1; omega)]; rfl
     rw [z01,hc];cases he:b.emp with
     | true=>rfl
     | false=>
      rw [he,v2t] at hg;have hb:=y3c hm k;have run:=yds 10 m.ts b k (z2n hm).2.2.1 (fun t ht=>zrg hm ht) hg m.ts.length 0 10 (zep m k) (zep m k) (by omega) (by have:=(z2n hm).2.2.1; omega) (by omega) (by omega)
      rw [z01];rcases zyq hm hc with rfl | rfl | rfl <;> exact run
 ·simp [R.get] at h
theorem zxf (N:Nat) (m:Md) (q:Qy) (b:Bx) (hb:(b.emp||z77 b)=true):∀ (d i n:Nat),((i+d:Nat):Int)=m.c→d < n→m.c < 1000 →
  lpE (z26 N) (z0f z38 [1,1,1,0,1,0,1,1,1,0,0,1,0,0]) ⟨[3,4,5,6,7,42,43],[3,4,5],[]⟩ n ⟨[(3,(.ptr 3 0 0)),(4,(.ptr 4 0 0)),(5,(.ptr 5 0 0)),(6,(.bool false)),(7,(.int .i64 (sLo m q.c b))),(42,(.int .i64 m.c)),(43,(.int .i64 (i:Int)))],[(3,(some (.box (Md.cs m)))),(4,(some (.box (Qy.cs q)))),(5,(some (.box (Bx.cs b))))]⟩ (z05 1 (kSq (z26 N) (z0f z38 [1,1,1,0,1,0,1,1,1,0,1]) (z05 0 (kSq (z26 N) (z0f z38 [1,1,1,1]) (z2s (z26 N) none [(ResultVar.tmp 6)] [[.bool]])))))=some (.bool (ybz m q b d i),[])
 | d,i,0,_,h,_=>absurd h (by omega)
 | 0,i,n+1,hd,_,_=>by
  rw [z06,zj7,v05 (show ¬ (i:Int) < m.c by omega),z01]
  exact zov N m q b _ _ _ _
 | d+1,i,n+1,hd,hn,hc=>by
  have ei:IntKind.wrap IntKind.i64 ((i:Int)+1)=((i+1:Nat):Int):=z7r (by omega)
  rw [z06,zj7,ei,v01 (show (i:Int) < m.c by omega),z00,hb,z00,ybz]
  have en:((i:Int) != q.c)=!((i:Int)==q.c):=rfl;rw [en];cases ((i:Int)==q.c) with
  | true=>
   rw [v0e,z01,v0u,z01];exact zxf N m q b hb d (i+1) n (by omega) (by omega) hc
  | false=>
   rw [v0j,z00,v0k];cases decide (sHi m (i:Int) b≥sLo m q.c b) with
   | true=>
    rw [z00,z00];exact zpp N m q b _ _ _ _
   | false=>
    rw [z01,z01];exact zxf N m q b hb d (i+1) n (by omega) (by omega) hc
theorem zx8:z32 PR B0 68 zbl:=by
 refine z0h [(112,z2u),(113,zdl)] [(9,⟨[3,4,5,6,7,42,43],[3,4,5],[]⟩)] zbl [[.bool]] Tryz.func68 y3s ⟨z7z,zzz,trivial⟩ ?_;intro vs r hwf h;unfold zbl at h
 split at h
 ·rename_i m q b
  replace h:=z3q h;obtain ⟨m,rfl,h⟩:=h;replace h:=z3z h;obtain ⟨q,rfl,h⟩:=h;replace h:=z3i h;obtain ⟨b,rfl,h⟩:=h;cases hg:(z2b m q&&(b.emp||z77 b)) with
  | false=>rw [hg] at h; simp [R.get] at h
  | true=>
  rw [hg,R.get_br,z00,R.get_ok] at h;rw [v02] at hg;obtain ⟨hr,hb⟩:=hg;have hb':b.emp=true∨b.good:=by
   rw [v2n] at hb;exact hb.imp id zh9.1
  refine ⟨1000,?_⟩;rw [← h,← y93 hr hb'];refine (y0n 1000 m q b).trans ?_;obtain ⟨hm,_,_,_,hk⟩:=zcx hr;unfold yly;cases he:b.emp with
  | true=>rfl
  | false=>
   have hgd:z77 b=true:=by rw [he,v2t] at hb; exact hb
   rw [z01,z01,hgd,v2t,z00];rcases zlk hk with ⟨e,_⟩ | ⟨e,h2,_⟩ | ⟨e,hf,_⟩
   ·rw [e]
    show cond (decide (q.lo≤sLo m q.c b)) (some (V.bool (decide (sHi m q.c b≤q.hi)),[])) (some (V.bool false,[]))=some (V.bool (decide (q.lo≤sLo m q.c b)&&decide (sHi m q.c b≤q.hi)),[]);cases decide (q.lo≤sLo m q.c b) <;> rfl
   ·rw [e]
    have hc:=(z2n hm).2.1;exact zxf 1000 m q b (by rw [he,hgd]; rfl) m.c.toNat 0 1000 (by omega) (by omega) (by omega)
   ·rw [e]
    have hp:=zxv hm e hf;have hg2:z77 (y6r q b)=true:=zh9.2 (ztw (zh9.1 hgd) ((zh9.1 hgd) 4 (by omega)) (by rcases za2 hp with e | e | e | e <;> rw [e] <;> decide))
    have fin:(cond (decide ((b.g q.ft.toNat).lo≥b.s4.hi)) (some (V.bool true,[])) (cond ((y6r q b).emp||z77 (y6r q b)) (cond q.fl (some (V.bool (decide (sHi m q.c (y6r q b)≤sLo m q.c b)),[])) (some (V.bool (decide (sLo m q.c (y6r q b)≥sHi m q.c b)),[]))) none):Res) =
      some (V.bool (cond (decide ((b.g q.ft.toNat).lo≥b.s4.hi)) true (cond q.fl (decide (sHi m q.c (y6r q b)≤sLo m q.c b)) (decide (sLo m q.c (y6r q b)≥sHi m q.c b)))),[]):=by
     rw [hg2,Bool.or_true,z00];cases decide ((b.g q.ft.toNat).lo≥b.s4.hi) <;> cases q.fl <;> rfl
    refine v4b ?_ fin;unfold y6r;rcases za2 hp with e | e | e | e <;> rw [e] <;> rfl
 ·simp [R.get] at h
theorem y2b (N:Nat) (m:Md) (q:Qy) (hr:z2b m q=true) (l:List IV) (hl:l.length < 100000) (hg:∀ y∈l,(bxI y).good):∀ (d i n:Nat),i+d=l.length→d < n →
  lpE (z15 N) (z0f z1n [1,1,1,0,1,0,1,0,1,0,1,0,0]) ⟨[3,4,6,9,29,30,31],[3,4],[]⟩ n ⟨[(3,(.ptr 3 0 0)),(4,(.ptr 4 0 0)),(6,(.bool false)),(9,(.bool true)),(29,(.list true zch l)),(30,(.int .i64 (ic l.length))),(31,(.int .i64 (i:Int)))],[(3,(some (.box (Md.cs m)))),(4,(some (.box (Qy.cs q))))]⟩ (z05 1 (kSq (z15 N) (z0f z1n [1,1,1,0,1,0,1,0,1,1]) (z05 0 (kSq (z15 N) (z0f z1n [1,1,1,1]) (z2s (z15 N) none [(ResultVar.tmp 6)] [[.bool]]))))) =
   some (.bool ((l.drop i).all fun x=>z2r m q (bxI x)),[])
 | d,i,0,_,h=>absurd h (by omega)
 | 0,i,n+1,hd,_=>by
  rw [z06,zcq,zdj (by omega),z01,v1i (by omega)]
  exact zf4 N m q _ _ l _ _
 | d+1,i,n+1,hd,hn=>by
  have hi:i < l.length:=by omega
  have hgi:=hg _ (v1x hi);rw [z06,zcq,zbm hi,z00,zjl,v0w,z00,z7r (by omega),zda hi,v0m hi,v30,hr,zh9.2 hgi,Bool.or_true,v0w,z00]
  cases z2r m q (bxI l[i]) with
  | false=>
   rw [v0j,z00];exact zn9 N m q _ _ l _ _
  | true=>
   rw [v0e,z01,v0k];exact y2b N m q hr l hl hg d (i+1) n (by omega) (by omega)
theorem yqy {b:Bx} {l outs:List IV} (h:psF b l=some outs):outs.length≤65536:=by
 have key:∀ {l:List IV} {st lo:List IV × List IV},ztr l st=some lo→lo.2.length≤st.2.length+l.length:=by
  intro l
  induction l with
  | nil=>intro st lo h; obtain rfl:=v1p h; exact v0a _
  | cons x l ih=>
   intro st lo h;rw [ztr] at h;cases h1:zd8 st x with
   | none=>rw [h1] at h; cases h
   | some s1=>
    rw [h1] at h
    have:=ih h
    have h2:s1.2.length≤st.2.length+1:=by
     unfold zd8 at h1;cases hs:z9d x with
     | true=>rw [hs] at h1; obtain rfl:=v1p h1; simp
     | false=>
      rw [hs,z01] at h1;cases hc:(decide (zfv x < ((z3s st.1).g (z17 x).toNat).lo)||decide (zfv x≥((z3s st.1).g (z17 x).toNat).hi)) with
      | true=>rw [hc] at h1; cases h1
      | false=>rw [hc] at h1; obtain rfl:=v1p h1; exact Nat.le_succ _
    simp only [v03];omega
 unfold psF at h;cases hd:decide (zio l > 0) with
 | false=>rw [hd,z01] at h; cases h
 | true=>
  rw [hd,z00] at h;have hl:l.length≤65536:=by
   have:=v0c hd
   unfold zio at this
   by_cases hc:ic l.length > 65536
   ·rw [v01 hc,z00] at this; omega
   ·simp only [ic] at hc; omega
  cases hp:ztr l ([b.I],[]) with
  | none=>rw [hp] at h; cases h
  | some lo=>
   rw [hp] at h;obtain rfl:=v1p h
   have:=key hp
   simp only [v0i] at this;show lo.2.length≤65536;omega
theorem ze9:z32 PR B0 26 z4n:=by
 refine z0h [(69,zlh),(68,zbl),(67,zdw),(70,z71),(65,z2k),(66,z89)] [(8,⟨[3,4,6,9,29,30,31],[3,4],[]⟩)] z4n [[.bool]] Tryz.func26 zzw ⟨ydt,zx8,y0d,zj1,z7g,zkw,trivial⟩ ?_;intro vs r hwf h;unfold z4n at h
 split at h
 ·rename_i m q v
  replace h:=z3q h;obtain ⟨m,rfl,h⟩:=h;replace h:=z3z h;obtain ⟨q,rfl,h⟩:=h;replace h:=y6y h;obtain ⟨v,rfl,h⟩:=h;rw [R.get_ok] at h;refine ⟨70000,?_⟩;rw [← h];refine (zwb 70000 m q v).trans ?_;unfold z7d;cases hr:z2b m q with
  | false=>rfl
  | true=>
   rw [v0e,z01,v0k];cases v.kind==1 with
   | true=>
    rw [z00,z00];cases hp:psF (z4f q) v.proof with
    | none=>
     show cond false _ _=_;rw [z01,z06,zcq];exact zf4 70000 m q _ _ [] _ _
    | some l=>
     show cond true _ _=_;rw [z00];have hl:=yqy hp
     have:=y2b 70000 m q hr l (by omega) (yn7 (zqt hr) hp) l.length 0 70000 (by omega) (by omega)
     rw [v0z] at this;exact this
   | false=>
    rw [z01,z01];cases v.kind==2 with
    | false=>rfl
    | true=>
     rw [z00,z00];show cond ((z4f q).has v.p v.twin) (some (V.bool (z3u m q v.p v.twin),[])) (some (V.bool false,[]))=some (V.bool ((z4f q).has v.p v.twin&&z3u m q v.p v.twin),[]);cases (z4f q).has v.p v.twin <;> rfl
 ·simp [R.get] at h
open Go Go.Proofs
def z5o (N:Nat):Env:=mkE [] [(4,⟨[2,13,14,15],[],[]⟩)] 37 N
abbrev z30 (b2:Bool) (l13:List IV) (x14 x15:Int):St:=⟨[(2,(.bool b2)),(13,(.list true [.bool,(.int .i64),(.int .i64)] l13)),(14,(.i x14)),(15,(.i x15))],[]⟩
theorem y39 (N:Nat) (l:List IV):z0z (z5o N) z7m [.tmp 2] [[.bool]] [(.list true [.bool,.int .i64,.int .i64] l)]=(cond (decide (ic (List.length l) < 1)) (some ((.bool false),[])) (cond (decide (ic (List.length l) > 65536)) (some ((.bool false),[])) (lpE (z5o N) (z0f z7m [1,1,0,1,0,0]) ⟨[2,13,14,15],[],[]⟩ N (z30 false l (ic (List.length l)) 0) (z05 0 (kSq (z5o N) (z0f z7m [1,1,1]) (z2s (z5o N) none [(ResultVar.tmp 2)] [[.bool]])))))):=by kernel_rfl
theorem zle (N:Nat) (b2:Bool) (l13:List IV) (x14 x15:Int) (again:St→Res) (k:Out→St→Res):rnd (z5o N) (z0f z7m [1,1,0,1,0,0]) (z30 b2 l13 x14 x15) (z3t again ⟨[2,13,14,15],[],[]⟩ k)=(cond (decide (x15 < x14)) (cond (decide (0≤x15)&&decide (x15 < ic (List.length l13))) (cond (IV.toBool (IV.cell (List.getD l13 (Int.toNat x15) default) 0)) (cond (! (IV.toBool (IV.cell (List.getD l13 (Int.toNat x15) default) 0)==true&&(IV.toInt (IV.cell (List.getD l13 (Int.toNat x15) default) 1)==0&&(IV.toInt (IV.cell (List.getD l13 (Int.toNat x15) default) 2)==0&&true)))) (k .ret (z30 false l13 x14 x15)) (cond (decide (IV.toInt (IV.cell (List.getD l13 (Int.toNat x15) default) 1) < 0)) (k .ret (z30 false l13 x14 x15)) (cond (decide (IV.toInt (IV.cell (List.getD l13 (Int.toNat x15) default) 1) > 4)) (k .ret (z30 false l13 x14 x15)) (again (z30 b2 l13 x14 (IntKind.wrap IntKind.i64 (x15+1))))))) (cond (decide (IV.toInt (IV.cell (List.getD l13 (Int.toNat x15) default) 1) < 0)) (k .ret (z30 false l13 x14 x15)) (cond (decide (IV.toInt (IV.cell (List.getD l13 (Int.toNat x15) default) 1) > 4)) (k .ret (z30 false l13 x14 x15)) (again (z30 b2 l13 x14 (IntKind.wrap IntKind.i64 (x15+1))))))) none) (k (.exit 0) (z30 b2 l13 x14 x15))):=by kernel_rfl
theorem zs6 (N:Nat) (b2:Bool) (l13:List IV) (x14 x15:Int):(z05 0 (kSq (z5o N) (z0f z7m [1,1,1]) (z2s (z5o N) none [(ResultVar.tmp 2)] [[.bool]]))) (.exit 0) (z30 b2 l13 x14 x15)=(some ((.bool true),[])):=by kernel_rfl
theorem zrn (N:Nat) (b2:Bool) (l13:List IV) (x14 x15:Int):(z05 0 (kSq (z5o N) (z0f z7m [1,1,1]) (z2s (z5o N) none [(ResultVar.tmp 2)] [[.bool]]))) .ret (z30 b2 l13 x14 x15)=(some ((.bool b2),[])):=by kernel_rfl
def y7h (N:Nat):Env:=mkE [(106,zdy)] [] 47 N
theorem y46 (N:Nat) (u00:Int) (u01:List IV) (u04 u05 u06 u07 u03 u02:Int):z0z (y7h N) ztv [.tmp 2] [[.bool]] [(.agg [(.i u00),(.list true [.bool,.int .i64,.int .i64] u01),(.i u04),(.i u05),(.i u06),(.i u07),(.i u03),(.i u02)])]=(cond (decide (u02 < 0)) (some ((.bool false),[])) (cond (decide (u02 > 65536)) (some ((.bool false),[])) (cond (u04==0&&(u05==0&&(u06==0&&(u07==0&&true)))) (cond (u00==1) (cond (u03==0) (some ((.bool (zj3 u01)),[])) (some ((.bool false),[]))) (cond (u00==2) (some ((.bool (ic (List.length u01)==0)),[])) (cond (u00==3) (cond (u03==0) (some ((.bool (ic (List.length u01)==0)),[])) (some ((.bool false),[]))) (cond (u00==4) (cond (u03==0) (some ((.bool (ic (List.length u01)==0)),[])) (some ((.bool false),[]))) (some ((.bool false),[])))))) (cond (u00==1) (some ((.bool false),[])) (cond (u00==2) (some ((.bool (ic (List.length u01)==0)),[])) (cond (u00==3) (some ((.bool false),[])) (cond (u00==4) (some ((.bool false),[])) (some ((.bool false),[]))))))))):=by kernel_rfl
def z8v (N:Nat):Env:=mkE [(43,z2y),(97,z29),(60,z14)] [(2,⟨[0,11,12,13],[900000],[]⟩)] 26 N
abbrev zbq (l11:List IV) (x12 x13:Int) (u00:ByteArray):St:=⟨[(0,(.ptr 900000 0 0)),(11,(.list false [(.int .i64)] l11)),(12,(.i x12)),(13,(.i x13))],[(900000,(some (.bld u00)))]⟩
theorem ya3 (N:Nat) (b word:ByteArray) (l:List IV):z0z (z8v N) zb0 [] [] [(.bor [.bld b]),(.str word),(.list false [.int .i64] l)]=(cond (decide (ByteArray.size b+ByteArray.size word≤strMax)) (lpE (z8v N) (z0f zb0 [1,0,1,0,0]) ⟨[0,11,12,13],[900000],[]⟩ N (zbq l (ic (List.length l)) 0 (b++word)) (z05 0 (kSq (z8v N) (z0f zb0 [1,1]) (z2s (z8v N) (some [(.bld b)]) [] [])))) none):=by kernel_rfl
theorem zn2 (N:Nat) (l11:List IV) (x12 x13:Int) (u00:ByteArray) (again:St→Res) (k:Out→St→Res):rnd (z8v N) (z0f zb0 [1,0,1,0,0]) (zbq l11 x12 x13 u00) (z3t again ⟨[0,11,12,13],[900000],[]⟩ k)=(cond (decide (x13 < x12)) (cond (decide (0≤x13)&&decide (x13 < ic (List.length l11))) (cond (decide (ByteArray.size u00+1≤strMax)) (cond (decide (ByteArray.size (ByteArray.push u00 (zgd 32))+ByteArray.size (z0n (IV.toInt (List.getD l11 (Int.toNat x13) default)))≤strMax)) (again (zbq l11 x12 (IntKind.wrap IntKind.i64 (x13+1)) (ByteArray.push u00 (zgd 32)++z0n (IV.toInt (List.getD l11 (Int.toNat x13) default))))) none) none) none) (k (.exit 0) (zbq l11 x12 x13 u00))):=by kernel_rfl
theorem zud (N:Nat) (b:ByteArray) (l11:List IV) (x12 x13:Int) (u00:ByteArray):(z05 0 (kSq (z8v N) (z0f zb0 [1,1]) (z2s (z8v N) (some [(.bld b)]) [] []))) (.exit 0) (zbq l11 x12 x13 u00)=(cond (decide (ByteArray.size u00+1≤strMax)) (some ((.tup []),[[(.bld (ByteArray.push u00 (zgd 10)))]])) none):=by kernel_rfl
def y3q (N:Nat):Env:=mkE [(90,z3w)] [] 20 N
theorem zz6 (N:Nat) (l:List IV) (i:Int):z0z (y3q N) zph [.tmp 4] [[.int .i64]] [(.list false [.str] l),(.i i)]=(cond (decide (i≥ic (List.length l))) (some ((.i 0),[])) (cond (decide (0≤i)&&decide (i < ic (List.length l))) (some ((.i (z58 (IV.toStr (List.getD l (Int.toNat i) default)))),[])) none)):=by kernel_rfl
open Go Go.Proofs
theorem y8d (N:Nat) (l:List IV) (K:Out→St→Res) (hl:l.length≤65536)
  (hx:∀ b2 x14 x15,K (.exit 0) ⟨[(2,(.bool b2)),(13,(.list true [.bool,(.int .i64),(.int .i64)] l)),(14,(.int .i64 x14)),(15,(.int .i64 x15))],[]⟩=some (.bool true,[]))
  (hr:∀ b2 x14 x15,K .ret ⟨[(2,(.bool b2)),(13,(.list true [.bool,(.int .i64),(.int .i64)] l)),(14,(.int .i64 x14)),(15,(.int .i64 x15))],[]⟩=some (.bool b2,[])) :
  ∀ (d i n:Nat),i+d=l.length→d < n→lpE (z5o N) (z0f z7m [1,1,0,1,0,0]) ⟨[2,13,14,15],[],[]⟩ n ⟨[(2,(.bool false)),(13,(.list true [.bool,(.int .i64),(.int .i64)] l)),(14,(.int .i64 (ic l.length))),(15,(.int .i64 (i:Int)))],[]⟩ K=some (.bool ((l.drop i).all zj8),[])
 | 0,i,n+1,hd,_=>by
  rw [z06,zle];rw [zdj (by omega),v1i (by omega)]
  simp only [v18,List.all_nil];exact hx ..
 | d+1,i,n+1,hd,hn=>by
  rw [z06,zle];have hi:i < l.length:=by omega
  rw [zbm hi,zjl,z7r (by omega),zda hi,v0m hi,v30]
  generalize l[i]=x;have ih:=y8d N l K hl hx hr d (i+1) n (by omega) (by omega)
  rw [ih];generalize (List.drop (i+1) l).all zj8=rest;unfold zj8 z9d z17 zfv;simp only [v1e,v1d,ylw,zrd,zl9];cases hs:IV.toBool (IV.cell x 0) <;> cases hp0:decide (IV.toInt (IV.cell x 1) < 0) <;> cases hp4:decide (4 < IV.toInt (IV.cell x 1)) <;> cases hz:decide (IV.toInt (IV.cell x 1)=0) <;> cases ha:decide (IV.toInt (IV.cell x 2)=0) <;>
   (simp only [v1e,v18,v0e,v0j,v1d,v2o,v0k,v0u,v2f,hr]
    try rfl)
 | 0,_,0,_,h=>by omega
 | _+1,_,0,_,h=>by omega
theorem y10:z32 PR B0 106 zdy:=by
 refine z0h [] [(4,⟨[2,13,14,15],[],[]⟩)] zdy [[.bool]] Tryz.func106 y7r trivial ?_;intro vs r hwf h;unfold zdy at h
 split at h
 ·rename_i l
  refine ⟨l.length+1,?_⟩;rw [← h];refine (y39 (l.length+1) l).trans ?_;simp only [R.get_ok];unfold zj3
  by_cases h1:l.length < 1
  ·have e1:decide (ic l.length < 1)=true:=v01 (by show ((l.length:Nat):Int) < 1; omega)
   have e2:decide (1≤l.length)=false:=v05 (by omega)
   rw [e1,e2]; rfl
  ·have e1:decide (ic l.length < 1)=false:=v05 (by show ¬ ((l.length:Nat):Int) < 1; omega)
   have e2:decide (1≤l.length)=true:=v01 (by omega)
   rw [e1,e2];simp only [v18,v0k]
   by_cases h3:l.length≤65536
   ·have e3:decide (ic l.length > 65536)=false:=v05 (by show ¬ ((l.length:Nat):Int) > 65536; omega)
    have e4:decide (l.length≤65536)=true:=v01 h3;rw [e3,e4];simp only [v18,v0k]
    have:=y8d (l.length+1) l _ h3 (fun b2 x14 x15=>zs6 (l.length+1) b2 l x14 x15) (fun b2 x14 x15=>zrn (l.length+1) b2 l x14 x15) l.length 0 (l.length+1) (by omega) (by omega)
    rw [v0z] at this;exact this
   ·have e3:decide (ic l.length > 65536)=true:=v01 (by show ((l.length:Nat):Int) > 65536; omega)
    have e4:decide (l.length≤65536)=false:=v05 h3;rw [e3,e4]; rfl
 ·simp [R.get] at h
theorem ymt (l:List IV):(ic l.length==0)=l.isEmpty:=by
 cases l with
 | nil=>rfl
 | cons a l=>
  simp only [ic,List.isEmpty_cons,v03];rw [v0v];omega
theorem zzn:z32 PR B0 62 ze4:=by
 refine z0h [(106,zdy)] [] ze4 [[.bool]] Tryz.func62 y80 ⟨y10,trivial⟩ ?_;intro vs r hwf h;unfold ze4 at h
 split at h
 ·rename_i k p a b c d t s
  refine ⟨0,?_⟩;rw [← h];refine (y46 0 k p a b c d t s).trans ?_;simp only [R.get_ok,ymt];unfold Vd.right Vd.bare;simp only [ylw,zrd,v1d];generalize zj3 p=sp;generalize p.isEmpty=pe;cases decide (s < 0) <;> cases decide (65536 < s) <;> simp only [v1e,v18,v0e,v0j,v0k,v0u]
  by_cases k1:k=1
  ·subst k1
   cases a==0 <;> cases b==0 <;> cases c==0 <;> cases d==0 <;> cases t==0 <;> cases sp <;> cases pe <;> rfl
  by_cases k2:k=2
  ·subst k2
   cases a==0 <;> cases b==0 <;> cases c==0 <;> cases d==0 <;> cases t==0 <;> cases sp <;> cases pe <;> rfl
  by_cases k3:k=3
  ·subst k3
   cases a==0 <;> cases b==0 <;> cases c==0 <;> cases d==0 <;> cases t==0 <;> cases sp <;> cases pe <;> rfl
  by_cases k4:k=4
  ·subst k4
   cases a==0 <;> cases b==0 <;> cases c==0 <;> cases d==0 <;> cases t==0 <;> cases sp <;> cases pe <;> rfl
  simp only [v0v.2 k1,v0v.2 k2,v0v.2 k3,v0v.2 k4,v18,v0u,v3s,Bool.cond_self]
 ·simp [R.get] at h
theorem zln:∀ (l:List IV) (s:ByteArray),s.size≤(zo3 s l).size
 | [],s=>v0a _
 | x :: l,s=>by
  simp only [zo3];refine v1n ?_ (zln l _);simp only [v0f,v2u];omega
theorem yeu (N:Nat) (l:List IV) (K:Out→St→Res) (hl:l.length≤strMax) (z:Res)
  (hx:∀ s x12 x13,s=zo3 s []→K (.exit 0) ⟨[(0,(.ptr 900000 0 0)),(11,(.list false [(.int .i64)] l)),(12,(.int .i64 x12)),(13,(.int .i64 x13))],[(900000,(some (.bld s)))]⟩=cond (decide (s.size+1≤strMax)) (some (.tup [],[[.bld (s.push (zgd 10))]])) none) :
  ∀ (d i n:Nat) (s:ByteArray),i+d=l.length→d < n→(zo3 s (l.drop i)).size≤strMax→lpE (z8v N) (z0f zb0 [1,0,1,0,0]) ⟨[0,11,12,13],[900000],[]⟩ n ⟨[(0,(.ptr 900000 0 0)),(11,(.list false [(.int .i64)] l)),(12,(.int .i64 (ic l.length))),(13,(.int .i64 (i:Int)))],[(900000,(some (.bld s)))]⟩ K =
   cond (decide ((zo3 s (l.drop i)).size+1≤strMax)) (some (.tup [],[[.bld ((zo3 s (l.drop i)).push (zgd 10))]])) none
 | 0,i,n+1,s,hd,_,_=>by
  rw [z06,zn2,zdj (by omega),v1i (by omega)]
  simp only [v18,zo3];exact hx s _ _ rfl
 | d+1,i,n+1,s,hd,hn,hs=>by
  have hi:i < l.length:=by omega
  unfold strMax at hl;rw [z06,zn2,zbm hi,zjl,z7r (by omega),zda hi]
  rw [v0m hi] at hs ⊢
  simp only [zo3] at hs ⊢
  have e32:zgd 32=32:=rfl;rw [e32];have hsz:=zln (l.drop (i+1)) (s.push 32++z0n l[i].toInt);have h1:decide (s.size+1≤strMax)=true:=v01 (by
   simp only [v0f,v2u] at hsz;omega)
  have h2:decide ((s.push 32).size+(z0n l[i].toInt).size≤strMax)=true:=v01 (by
   simp only [v0f] at hsz;omega)
  rw [h1,h2];simp only [v1e,v1d];exact yeu N l K (by unfold strMax; omega) z hx d (i+1) n _ (by omega) (by omega) hs
 | 0,_,0,_,_,h,_=>by omega
 | _+1,_,0,_,_,h,_=>by omega
theorem y5c:z32 PR B0 63 zfu:=by
 refine z0h [(43,z2y),(97,z29),(60,z14)] [(2,⟨[0,11,12,13],[900000],[]⟩)] zfu [] Tryz.func63 ydd ⟨z8e,z8h,z4k,trivial⟩ ?_;intro vs r hwf h;unfold zfu at h
 split at h
 ·rename_i s w l
  refine ⟨l.length+1,?_⟩;rw [← h];refine (ya3 (l.length+1) s w l).trans ?_;simp only [R.get_br,R.get_ok,R.get_no];have hwf:=hwf (by simp [zfa,z82])
  simp only [yn9,wfV,wfLs,wfL] at hwf;rw [R.get_br,R.get_ok,R.get_no] at h;cases hc:decide ((z43 s w l).size≤strMax) with
  | false=>rw [hc] at h; cases h
  | true=>
   have hle:=v0c hc;unfold z43 at hle ⊢
   rw [v2u] at hle;have h1:=zln l (s++w);have e1:decide (s.size+w.size≤strMax)=true:=v01 (by rw [v0f] at h1; omega)
   rw [e1];simp only [v1e]
   have:=yeu (l.length+1) l _ hwf.2.2.1.1 none (fun s' x12 x13 _=>zud (l.length+1) s l x12 x13 s') l.length 0 (l.length+1) (s++w) (by omega) (by omega) (by rw [v0z]; omega)
   rw [v0z] at this;refine this.trans ?_;rw [v01 hle]
   rfl
 ·simp [R.get] at h
theorem zwg:z32 PR B0 105 zc5:=by
 refine z0h [(90,z3w)] [] zc5 [[.int .i64]] Tryz.func105 y5r ⟨zao,trivial⟩ ?_;intro vs r hwf h;unfold zc5 at h
 split at h
 ·rename_i l i
  refine ⟨0,?_⟩;rw [← h];refine (zz6 0 l i).trans ?_;simp only [R.get_br,R.get_ok,R.get_no];unfold z2f;rw [R.get_br,R.get_ok,R.get_no] at h;cases hc:decide (0≤i) with
  | false=>rw [hc] at h; cases h
  | true=>
   have h0:=v0c hc;simp only [v1e,v0k];have e:decide (i≥ic l.length)=decide (ic l.length≤i):=rfl;rw [e];cases h2:decide (ic l.length≤i) with
   | true=>rfl
   | false=>
    have h3:=v0r h2;rw [v01 (show i < ic l.length by omega)]
    rfl
 ·simp [R.get] at h
open Go Go.Proofs
def z0v (N:Nat):Env:=mkE [(105,zc5),(104,z6g),(46,z1t)] [(7,⟨[2,4,7],[2,7,51],[⟨.cell 7 1,51,127,true,[.bool,.int .i64,.int .i64]⟩]⟩),(16,⟨[2,6,7,66],[2,7],[]⟩)] 87 N
abbrev z7v (s4:ByteArray) (u01 u02 u03 u04 u05 u06 u07 u08:Int) (u00:Nat) (u09 u0a u0b u0c u0d u0e:Int) (lo51:List IV):St:=⟨[(2,(.ptr 2 0 0)),(4,(.str s4)),(7,(.ptr 7 0 0))],[(2,(some (.box [(.i u01),.zs,(.i u02),(.i u03),(.i u04),(.i u05),(.i u06),(.i u07)]))),(7,(some (.box [(.i u08),(.row 51 0 u00),(.i u09),(.i u0a),(.i u0b),(.i u0c),(.i u0d),(.i u0e)]))),(51,(some (.row true 127 true z1k lo51)))]⟩
abbrev z6r (l6:List IV) (x66 u00 u01 u02 u03 u04 u05 u06 u07 u08 u09 u0a u0b u0c u0d:Int):St:=⟨[(2,(.ptr 2 0 0)),(6,(.list false [.str] l6)),(7,(.ptr 7 0 0)),(66,(.i x66))],[(2,(some (.box [(.i u00),.zs,(.i u01),(.i u02),(.i u03),(.i u04),(.i u05),(.i u06)]))),(7,(some (.box [(.i u07),.zs,(.i u08),(.i u09),(.i u0a),(.i u0b),(.i u0c),(.i u0d)])))]⟩
theorem y7k (N:Nat) (s:ByteArray):z0z (z0v N) z19 [.cell 2 55] [[.int .i64,.list true [.bool,.int .i64,.int .i64],.int .i64,.int .i64,.int .i64,.int .i64,.int .i64,.int .i64]] [(.str s)]=(cond (decide (ByteArray.size s < 4294967281)) (cond (decide (ByteArray.size (cutL s {data:=#[10]}) < 4294967281)&&decide (1≤ByteArray.size {data:=#[32]})) (cond (decide (0≤0)&&decide (0 < ic (List.length (List.map IV.str (z0d (cutL s {data:=#[10]}) {data:=#[32]}))))) (cond (ByteArray.toList (IV.toStr (List.getD (List.map IV.str (z0d (cutL s {data:=#[10]}) {data:=#[32]})) (Int.toNat 0) default))==ByteArray.toList {data:=#[104,111,108,100,115]}) (lpE (z0v N) (z0f z19 [1,1,1,1,0,1,0,1,0,1,0,0]) ⟨[2,4,7],[2,7,51],[⟨(.cell 7 1),51,127,true,z1k⟩]⟩ N (z7v (zgp s {data:=#[10]}) 0 0 0 0 0 0 0 1 0 0 0 0 0 0 (z2f (List.map IV.str (z0d (cutL s {data:=#[10]}) {data:=#[32]})) 1) []) (z05 1 (z05 0 (kSq (z0v N) (z0f z19 [1,1,1,1,1]) (z2s (z0v N) none [(ResultVar.cell 2 55)] [[(.int .i64),(.list true z1k),(.int .i64),(.int .i64),(.int .i64),(.int .i64),(.int .i64),(.int .i64)]]))))) (cond (ByteArray.toList (IV.toStr (List.getD (List.map IV.str (z0d (cutL s {data:=#[10]}) {data:=#[32]})) (Int.toNat 0) default))==ByteArray.toList {data:=#[102,97,105,108,115]}) (lpE (z0v N) (z0f z19 [1,1,1,1,0,1,0,1,1,1,0,1,0,1,0,0]) ⟨[2,6,7,66],[2,7],[]⟩ N (z6r (List.map IV.str (z0d (cutL s {data:=#[10]}) {data:=#[32]})) 0 0 0 0 0 0 0 0 2 0 0 0 0 0 (z2f (List.map IV.str (z0d (cutL s {data:=#[10]}) {data:=#[32]})) 1)) (z05 3 (kSq (z0v N) (z0f z19 [1,1,1,1,0,1,0,1,1,1,0,1,1]) (z05 0 (kSq (z0v N) (z0f z19 [1,1,1,1,1]) (z2s (z0v N) none [(ResultVar.cell 2 55)] [[(.int .i64),(.list true z1k),(.int .i64),(.int .i64),(.int .i64),(.int .i64),(.int .i64),(.int .i64)]])))))) (cond (ByteArray.toList (IV.toStr (List.getD (List.map IV.str (z0d (cutL s {data:=#[10]}) {data:=#[32]})) (Int.toNat 0) default))==ByteArray.toList {data:=#[117,110,107,110,111,119,110]}) (some ((.agg [(.i 3),(.list true z1k []),(.i 0),(.i 0),(.i 0),(.i 0),(.i 0),(.i (z2f (List.map IV.str (z0d (cutL s {data:=#[10]}) {data:=#[32]})) 1))]),[])) (cond (ByteArray.toList (IV.toStr (List.getD (List.map IV.str (z0d (cutL s {data:=#[10]}) {data:=#[32]})) (Int.toNat 0) default))==ByteArray.toList {data:=#[119,114,111,110,103]}) (some ((.agg [(.i 4),(.list true z1k []),(.i 0),(.i 0),(.i 0),(.i 0),(.i 0),(.i (z2f (List.map IV.str (z0d (cutL s {data:=#[10]}) {data:=#[32]})) 1))]),[])) (some ((.agg [(.i 0),(.list true z1k []),(.i 0),(.i 0),(.i 0),(.i 0),(.i 0),(.i (z2f (List.map IV.str (z0d (cutL s {data:=#[10]}) {data:=#[32]})) 1))]),[])))))) none) none) none):=by kernel_rfl
theorem y0v (N:Nat) (s4:ByteArray) (u01 u02 u03 u04 u05 u06 u07 u08:Int) (u00:Nat) (u09 u0a u0b u0c u0d u0e:Int) (lo51:List IV) (again:St→Res) (k:Out→St→Res):rnd (z0v N) (z0f z19 [1,1,1,1,0,1,0,1,0,1,0,0]) (z7v s4 u01 u02 u03 u04 u05 u06 u07 u08 u00 u09 u0a u0b u0c u0d u0e lo51) (z3t again ⟨[2,4,7],[2,7,51],[⟨(.cell 7 1),51,127,true,z1k⟩]⟩ k)=(cond (!ByteArray.toList s4==ByteArray.toList {data:=#[]}) (cond (decide (ic (u00 - 0)≤65536)) (cond (decide (ByteArray.size s4 < 4294967281)) (cond (decide (ByteArray.size (cutL s4 {data:=#[10]}) < 4294967281)&&decide (1≤ByteArray.size {data:=#[32]})) (cond (decide (0≤0)&&decide (0 < ic (List.length (List.map IV.str (z0d (cutL s4 {data:=#[10]}) {data:=#[32]}))))) (cond (ByteArray.toList (IV.toStr (List.getD (List.map IV.str (z0d (cutL s4 {data:=#[10]}) {data:=#[32]})) (Int.toNat 0) default))==ByteArray.toList {data:=#[115,117,109]}) (cond (decide ((u00+1)*24≤z08)) (again (z7v (zgp s4 {data:=#[10]}) u01 u02 u03 u04 u05 u06 u07 u08 (u00+1) u09 u0a u0b u0c u0d u0e (List.take u00 lo51++[IV.agg [IV.bool true,IV.int 0,IV.int 0]]))) none) (cond (decide ((u00+1)*24≤z08)) (again (z7v (zgp s4 {data:=#[10]}) u01 u02 u03 u04 u05 u06 u07 u08 (u00+1) u09 u0a u0b u0c u0d u0e (List.take u00 lo51++[IV.agg [IV.bool false,IV.int (z2f (List.map IV.str (z0d (cutL s4 {data:=#[10]}) {data:=#[32]})) 1),IV.int (z2f (List.map IV.str (z0d (cutL s4 {data:=#[10]}) {data:=#[32]})) 2)]]))) none)) none) none) none) (k (.exit 1) (z7v s4 u01 u02 u03 u04 u05 u06 u07 u08 u00 u09 u0a u0b u0c u0d u0e lo51))) (k (.exit 1) (z7v s4 u01 u02 u03 u04 u05 u06 u07 u08 u00 u09 u0a u0b u0c u0d u0e lo51))):=by kernel_rfl
theorem za4 (N:Nat) (l6:List IV) (x66 u00 u01 u02 u03 u04 u05 u06 u07 u08 u09 u0a u0b u0c u0d:Int) (again:St→Res) (k:Out→St→Res):rnd (z0v N) (z0f z19 [1,1,1,1,0,1,0,1,1,1,0,1,0,1,0,0]) (z6r l6 x66 u00 u01 u02 u03 u04 u05 u06 u07 u08 u09 u0a u0b u0c u0d) (z3t again ⟨[2,6,7,66],[2,7],[]⟩ k)=(cond (decide (x66 < 4)) (cond (decide (0≤IntKind.wrap IntKind.i64 (2+x66))) (cond (decide (x66=ic 0)) (again (z6r l6 (IntKind.wrap IntKind.i64 (x66+1)) u00 u01 u02 u03 u04 u05 u06 u07 (z2f l6 (IntKind.wrap IntKind.i64 (2+x66))) u09 u0a u0b u0c u0d)) (cond (decide (x66=ic 1)) (again (z6r l6 (IntKind.wrap IntKind.i64 (x66+1)) u00 u01 u02 u03 u04 u05 u06 u07 u08 (z2f l6 (IntKind.wrap IntKind.i64 (2+x66))) u0a u0b u0c u0d)) (cond (decide (x66=ic 2)) (again (z6r l6 (IntKind.wrap IntKind.i64 (x66+1)) u00 u01 u02 u03 u04 u05 u06 u07 u08 u09 (z2f l6 (IntKind.wrap IntKind.i64 (2+x66))) u0b u0c u0d)) (cond (decide (x66=ic 3)) (again (z6r l6 (IntKind.wrap IntKind.i64 (x66+1)) u00 u01 u02 u03 u04 u05 u06 u07 u08 u09 u0a (z2f l6 (IntKind.wrap IntKind.i64 (2+x66))) u0c u0d)) none)))) none) (k (.exit 3) (z6r l6 x66 u00 u01 u02 u03 u04 u05 u06 u07 u08 u09 u0a u0b u0c u0d))):=by kernel_rfl
theorem zu9 (N:Nat) (s4:ByteArray) (u01 u02 u03 u04 u05 u06 u07 u08:Int) (u00:Nat) (u09 u0a u0b u0c u0d u0e:Int) (lo51:List IV):(z05 1 (z05 0 (kSq (z0v N) (z0f z19 [1,1,1,1,1]) (z2s (z0v N) none [(ResultVar.cell 2 55)] [[(.int .i64),(.list true z1k),(.int .i64),(.int .i64),(.int .i64),(.int .i64),(.int .i64),(.int .i64)]])))) (.exit 1) (z7v s4 u01 u02 u03 u04 u05 u06 u07 u08 u00 u09 u0a u0b u0c u0d u0e lo51)=(some ((.agg [(.i u08),(.list true z1k (List.drop 0 (List.take u00 lo51))),(.i u09),(.i u0a),(.i u0b),(.i u0c),(.i u0d),(.i u0e)]),[])):=by kernel_rfl
theorem zus (N:Nat) (l6:List IV) (x66 u00 u01 u02 u03 u04 u05 u06 u07 u08 u09 u0a u0b u0c u0d:Int):(z05 3 (kSq (z0v N) (z0f z19 [1,1,1,1,0,1,0,1,1,1,0,1,1]) (z05 0 (kSq (z0v N) (z0f z19 [1,1,1,1,1]) (z2s (z0v N) none [(ResultVar.cell 2 55)] [[(.int .i64),(.list true z1k),(.int .i64),(.int .i64),(.int .i64),(.int .i64),(.int .i64),(.int .i64)]]))))) (.exit 3) (z6r l6 x66 u00 u01 u02 u03 u04 u05 u06 u07 u08 u09 u0a u0b u0c u0d)=(some ((.agg [(.i u07),(.list true z1k []),(.i u08),(.i u09),(.i u0a),(.i u0b),(.i (z2f l6 6)),(.i u0d)]),[])):=by kernel_rfl
def z7u (N:Nat):Env:=mkE [(62,ze4),(63,zfu),(56,z1l)] [(9,⟨[2,3,25,26,27],[3],[]⟩)] 61 N
abbrev z8j (s2:ByteArray) (l25:List IV) (x26 x27:Int) (so3:ByteArray):St:=⟨[(2,(.str s2)),(3,(.ptr 3 0 0)),(25,(.list true z1k l25)),(26,(.i x26)),(27,(.i x27))],[(3,(some (.bld so3)))]⟩
theorem y5e (N:Nat) (v:Vd):z0z (z7u N) z98 [.tmp 2] [[.str]] [(Vd.V v)]=(cond (!Vd.right v) (some ((.str ({data:=#[]})),[])) (cond (Vd.kind v==1) (cond (decide (ByteArray.size (z43 ByteArray.empty {data:=#[104,111,108,100,115]} [IV.int (Vd.spent v),IV.int (ic (List.length (Vd.proof v)))])≤strMax)) (lpE (z7u N) (z0f z98 [1,1,1,0,1,0,1,0,1,1,0,0]) ⟨[2,3,25,26,27],[3],[]⟩ N (z8j ({data:=#[]}) (Vd.proof v) (ic (List.length (Vd.proof v))) 0 (z43 ByteArray.empty {data:=#[104,111,108,100,115]} [IV.int (Vd.spent v),IV.int (ic (List.length (Vd.proof v)))])) (z05 1 (z05 0 (kSq (z7u N) (z0f z98 [1,1,1,1]) (z2s (z7u N) none [(ResultVar.tmp 2)] [[.str]]))))) none) (cond (Vd.kind v==2) (cond (decide (ByteArray.size (z43 ByteArray.empty {data:=#[102,97,105,108,115]} (List.drop 0 (List.take (1+4+1) (List.take (1+4) (List.take 1 [IV.int (Vd.spent v)]++[IV.int (Vd.w0 v),IV.int (Vd.w1 v),IV.int (Vd.w2 v),IV.int (Vd.w3 v)])++[IV.int (Vd.twin v)]))))≤strMax)) (some ((.str (z43 ByteArray.empty {data:=#[102,97,105,108,115]} (List.drop 0 (List.take (1+4+1) (List.take (1+4) (List.take 1 [IV.int (Vd.spent v)]++[IV.int (Vd.w0 v),IV.int (Vd.w1 v),IV.int (Vd.w2 v),IV.int (Vd.w3 v)])++[IV.int (Vd.twin v)]))))),[])) none) (cond (Vd.kind v==3) (cond (decide (ByteArray.size (z43 ByteArray.empty {data:=#[117,110,107,110,111,119,110]} [IV.int (Vd.spent v)])≤strMax)) (some ((.str (z43 ByteArray.empty {data:=#[117,110,107,110,111,119,110]} [IV.int (Vd.spent v)])),[])) none) (cond (decide (ByteArray.size (z43 ByteArray.empty {data:=#[119,114,111,110,103]} [IV.int (Vd.spent v)])≤strMax)) (some ((.str (z43 ByteArray.empty {data:=#[119,114,111,110,103]} [IV.int (Vd.spent v)])),[])) none))))):=by kernel_rfl
theorem zk9 (N:Nat) (s2:ByteArray) (l25:List IV) (x26 x27:Int) (so3:ByteArray) (again:St→Res) (k:Out→St→Res):rnd (z7u N) (z0f z98 [1,1,1,0,1,0,1,0,1,1,0,0]) (z8j s2 l25 x26 x27 so3) (z3t again ⟨[2,3,25,26,27],[3],[]⟩ k)=(cond (decide (x27 < x26)) (cond (decide (0≤x27)&&decide (x27 < ic (List.length l25))) (cond (IV.toBool (IV.cell (List.getD l25 (Int.toNat x27) default) 0)) (cond (decide (ByteArray.size (z43 so3 {data:=#[115,117,109]} [])≤strMax)) (again (z8j s2 l25 x26 (IntKind.wrap IntKind.i64 (x27+1)) (z43 so3 {data:=#[115,117,109]} []))) none) (cond (decide (ByteArray.size (z43 so3 {data:=#[99,117,116]} [IV.int (IV.toInt (IV.cell (List.getD l25 (Int.toNat x27) default) 1)),IV.int (IV.toInt (IV.cell (List.getD l25 (Int.toNat x27) default) 2))])≤strMax)) (again (z8j s2 l25 x26 (IntKind.wrap IntKind.i64 (x27+1)) (z43 so3 {data:=#[99,117,116]} [IV.int (IV.toInt (IV.cell (List.getD l25 (Int.toNat x27) default) 1)),IV.int (IV.toInt (IV.cell (List.getD l25 (Int.toNat x27) default) 2))]))) none)) none) (k (.exit 1) (z8j s2 l25 x26 x27 so3))):=by kernel_rfl
theorem zr5 (N:Nat) (s2:ByteArray) (l25:List IV) (x26 x27:Int) (so3:ByteArray):(z05 1 (z05 0 (kSq (z7u N) (z0f z98 [1,1,1,1]) (z2s (z7u N) none [(ResultVar.tmp 2)] [[.str]])))) (.exit 1) (z8j s2 l25 x26 x27 so3)=(some ((.str so3),[])):=by kernel_rfl
def y6z (N:Nat):Env:=mkE [(24,z8y),(61,zft)] [] 17 N
theorem y4a (N:Nat) (s:ByteArray):z0z (y6z N) zsz [.cell 2 55,.tmp 3] [[.int .i64,.list true [.bool,.int .i64,.int .i64],.int .i64,.int .i64,.int .i64,.int .i64,.int .i64,.int .i64],[.bool]] [(.str s)]=(cond (decide (ByteArray.size s < 4294967281)) (cond (ByteArray.toList s==ByteArray.toList {data:=#[]}) (some ((.tup [(.agg [(.i 0),(.list true z1k []),(.i 0),(.i 0),(.i 0),(.i 0),(.i 0),(.i 0)]),(.bool false)]),[])) (cond (decide (ByteArray.size (z11 (ze2 s))≤strMax)) (cond (!ByteArray.toList (z11 (ze2 s))==ByteArray.toList s) (some ((.tup [(.agg [(.i 0),(.list true z1k []),(.i 0),(.i 0),(.i 0),(.i 0),(.i 0),(.i 0)]),(.bool false)]),[])) (some ((.tup [(Vd.V (ze2 s)),(.bool true)]),[]))) none)) none):=by kernel_rfl
open Go Go.Proofs
theorem yjt (s sep:ByteArray) (h:1≤sep.size):0 < ((z0d s sep).map IV.str).length:=by
 rw [v14];unfold z0d;rw [Lib.splitB_all sep h 0 _ s rfl];omega
theorem zrq (s:ByteArray):decide (0 < ic (List.length (List.map IV.str (z0d s ypo))))=true:=v01 (by
 have:=yjt s ypo (by decide)
 simp only [ic];omega)
theorem y2i {s sep:ByteArray} (h:s.size < 4294967281):decide (ByteArray.size (cutL s sep) < 4294967281)=true:=v01 (by
 have:=(zoi s sep).1
 omega)
theorem ys8 {s:ByteArray} (h:(s.toList==z0u.toList)=false):(zgp s zh0).size < s.size:=by
 have h0:0 < s.size:=by
  rcases v3k s.size with e | e
  ·exfalso
   have:s=z0u:=ByteArray.ext (v3p e)
   rw [this] at h;simp at h
  ·exact e
 have h0:0 < s.data.toList.length:=h0;show (Lib.cut s.data.toList zh0.data.toList).2.1.toArray.size < s.data.toList.length;rw [v1m];unfold Lib.cut
 split
 ·have e1:(zh0.data.toList).length=1:=rfl
  rw [v1g,e1];omega
 ·exact h0
theorem dsp:decide (1≤ByteArray.size ypo)=true:=rfl
theorem yfa (N:Nat) (a0 a2 a3 a4 a5 a6 a7 b0 b2 b3 b4 b5 b6 b7:Int) (K:Out→St→Res)
  (hx:∀ s (p:List IV),K (.exit 1) ⟨[(2,(.ptr 2 0 0)),(4,(.str s)),(7,(.ptr 7 0 0))],[(2,(some (.box [(.int .i64 a0),.zs,(.int .i64 a2),(.int .i64 a3),(.int .i64 a4),(.int .i64 a5),(.int .i64 a6),(.int .i64 a7)]))),(7,(some (.box [(.int .i64 b0),(.row 51 0 p.length),(.int .i64 b2),(.int .i64 b3),(.int .i64 b4),(.int .i64 b5),(.int .i64 b6),(.int .i64 b7)]))),(51,(some (.row true 127 true z1k p)))]⟩=some ((.agg [(.int .i64 b0),(.list true z1k (List.drop 0 (List.take p.length p))),(.int .i64 b2),(.int .i64 b3),(.int .i64 b4),(.int .i64 b5),(.int .i64 b6),(.int .i64 b7)]),[])) :
  ∀ (m n:Nat) (s:ByteArray) (p:List IV),s.size < m→m≤n→s.size < 4294967281 →
   lpE (z0v N) (z0f z19 [1,1,1,1,0,1,0,1,0,1,0,0]) ⟨[2,4,7],[2,7,51],[⟨(.cell 7 1),51,127,true,z1k⟩]⟩ n ⟨[(2,(.ptr 2 0 0)),(4,(.str s)),(7,(.ptr 7 0 0))],[(2,(some (.box [(.int .i64 a0),.zs,(.int .i64 a2),(.int .i64 a3),(.int .i64 a4),(.int .i64 a5),(.int .i64 a6),(.int .i64 a7)]))),(7,(some (.box [(.int .i64 b0),(.row 51 0 p.length),(.int .i64 b2),(.int .i64 b3),(.int .i64 b4),(.int .i64 b5),(.int .i64 b6),(.int .i64 b7)]))),(51,(some (.row true 127 true z1k p)))]⟩ K =
   some ((.agg [(.int .i64 b0),(.list true z1k (zbv m s p)),(.int .i64 b2),(.int .i64 b3),(.int .i64 b4),(.int .i64 b5),(.int .i64 b6),(.int .i64 b7)]),[])
 | m+1,n+1,s,p,hm,hn,hs=>by
  rw [z06,y0v];have ep:List.drop 0 (List.take p.length p)=p:=by rw [v0z,v0q]
  have e65:decide (ic (p.length - 0)≤65536)=decide (p.length≤65536):=by
   rw [v2s];simp only [v07,ic];omega
  unfold zbv;rw [e65];cases h1:(s.toList==z0u.toList) with
  | true=>
   simp only [v0e,z01,v0u];refine (hx s p).trans ?_;rw [ep]
  | false=>
   simp only [v0j,z00,v0k];cases h2:decide (p.length≤65536) with
   | false=>
    simp only [z01];refine (hx s p).trans ?_;rw [ep]
   | true=>
    have h2:=v0c h2;simp only [z00];have hlt:=ys8 h1;rw [v01 hs,y2i hs,dsp,zrq];simp only [v0a,decide_true,v1d,z00];rw [v01 (show (p.length+1)*24≤z08 by unfold z08; omega)]
    simp only [z00];have el:∀ x:IV,p.length+1=(p++[x]).length:=fun x=>by
     rw [v08]; rfl
    have ih:=fun x:IV=>yfa N a0 a2 a3 a4 a5 a6 a7 b0 b2 b3 b4 b5 b6 b7 K hx m n (zgp s zh0) (p++[x]) (by omega) (by omega) (by omega)
    unfold zly zel;have ez:Int.toNat 0=0:=rfl;rw [ez];unfold z7o;cases h3:(ByteArray.toList (IV.toStr (List.getD (List.map IV.str (z0d (cutL s zh0) ypo)) 0 default))==ByteArray.toList zz8) with
    | true=>
     simp only [z00];rw [v0q,el];exact ih _
    | false=>
     simp only [z01];rw [v0q,el];exact ih _
 | 0,_,_,_,h,_,_=>by omega
 | _+1,0,_,_,_,h,_=>by omega
theorem ypr {a b c:Int} (h:IntKind.wrap .i64 (a+b)=c):IntKind.wrap .i64 (a+b)=c:=h
theorem yr9 (N n:Nat) (l:List IV) (x w0 w1 w2 w3:Int) (K:Out→St→Res):lpE (z0v N) (z0f z19 [1,1,1,1,0,1,0,1,1,1,0,1,0,1,0,0]) ⟨[2,6,7,66],[2,7],[]⟩ (n+1) ⟨[(2,(.ptr 2 0 0)),(6,(.list false [.str] l)),(7,(.ptr 7 0 0)),(66,(.int .i64 0))],[(2,(some (.box [(.int .i64 0),.zs,(.int .i64 0),(.int .i64 0),(.int .i64 0),(.int .i64 0),(.int .i64 0),(.int .i64 0)]))),(7,(some (.box [(.int .i64 2),.zs,(.int .i64 w0),(.int .i64 w1),(.int .i64 w2),(.int .i64 w3),(.int .i64 0),(.int .i64 x)])))]⟩ K =
  lpE (z0v N) (z0f z19 [1,1,1,1,0,1,0,1,1,1,0,1,0,1,0,0]) ⟨[2,6,7,66],[2,7],[]⟩ n ⟨[(2,(.ptr 2 0 0)),(6,(.list false [.str] l)),(7,(.ptr 7 0 0)),(66,(.int .i64 1))],[(2,(some (.box [(.int .i64 0),.zs,(.int .i64 0),(.int .i64 0),(.int .i64 0),(.int .i64 0),(.int .i64 0),(.int .i64 0)]))),(7,(some (.box [(.int .i64 2),.zs,(.int .i64 (z2f l 2)),(.int .i64 w1),(.int .i64 w2),(.int .i64 w3),(.int .i64 0),(.int .i64 x)])))]⟩ K:=by
 rw [z06,za4,ypr (a:=2) (b:=0) (c:=2) rfl,ypr (a:=0) (b:=1) (c:=1) rfl];simp only [show decide ((0:Int) < 4)=true from rfl,show decide ((0:Int)≤2)=true from rfl,show decide ((0:Int)=ic 0)=true from rfl,z00]
theorem yrb (N n:Nat) (l:List IV) (x w0 w1 w2 w3:Int) (K:Out→St→Res):lpE (z0v N) (z0f z19 [1,1,1,1,0,1,0,1,1,1,0,1,0,1,0,0]) ⟨[2,6,7,66],[2,7],[]⟩ (n+1) ⟨[(2,(.ptr 2 0 0)),(6,(.list false [.str] l)),(7,(.ptr 7 0 0)),(66,(.int .i64 1))],[(2,(some (.box [(.int .i64 0),.zs,(.int .i64 0),(.int .i64 0),(.int .i64 0),(.int .i64 0),(.int .i64 0),(.int .i64 0)]))),(7,(some (.box [(.int .i64 2),.zs,(.int .i64 w0),(.int .i64 w1),(.int .i64 w2),(.int .i64 w3),(.int .i64 0),(.int .i64 x)])))]⟩ K =
  lpE (z0v N) (z0f z19 [1,1,1,1,0,1,0,1,1,1,0,1,0,1,0,0]) ⟨[2,6,7,66],[2,7],[]⟩ n ⟨[(2,(.ptr 2 0 0)),(6,(.list false [.str] l)),(7,(.ptr 7 0 0)),(66,(.int .i64 2))],[(2,(some (.box [(.int .i64 0),.zs,(.int .i64 0),(.int .i64 0),(.int .i64 0),(.int .i64 0),(.int .i64 0),(.int .i64 0)]))),(7,(some (.box [(.int .i64 2),.zs,(.int .i64 w0),(.int .i64 (z2f l 3)),(.int .i64 w2),(.int .i64 w3),(.int .i64 0),(.int .i64 x)])))]⟩ K:=by
 rw [z06,za4,ypr (a:=2) (b:=1) (c:=3) rfl,ypr (a:=1) (b:=1) (c:=2) rfl];simp only [show decide ((1:Int) < 4)=true from rfl,show decide ((0:Int)≤3)=true from rfl,show decide ((1:Int)=ic 0)=false from rfl,show decide ((1:Int)=ic 1)=true from rfl,z00,z01]
theorem yrd (N n:Nat) (l:List IV) (x w0 w1 w2 w3:Int) (K:Out→St→Res):lpE (z0v N) (z0f z19 [1,1,1,1,0,1,0,1,1,1,0,1,0,1,0,0]) ⟨[2,6,7,66],[2,7],[]⟩ (n+1) ⟨[(2,(.ptr 2 0 0)),(6,(.list false [.str] l)),(7,(.ptr 7 0 0)),(66,(.int .i64 2))],[(2,(some (.box [(.int .i64 0),.zs,(.int .i64 0),(.int .i64 0),(.int .i64 0),(.int .i64 0),(.int .i64 0),(.int .i64 0)]))),(7,(some (.box [(.int .i64 2),.zs,(.int .i64 w0),(.int .i64 w1),(.int .i64 w2),(.int .i64 w3),(.int .i64 0),(.int .i64 x)])))]⟩ K =
  lpE (z0v N) (z0f z19 [1,1,1,1,0,1,0,1,1,1,0,1,0,1,0,0]) ⟨[2,6,7,66],[2,7],[]⟩ n ⟨[(2,(.ptr 2 0 0)),(6,(.list false [.str] l)),(7,(.ptr 7 0 0)),(66,(.int .i64 3))],[(2,(some (.box [(.int .i64 0),.zs,(.int .i64 0),(.int .i64 0),(.int .i64 0),(.int .i64 0),(.int .i64 0),(.int .i64 0)]))),(7,(some (.box [(.int .i64 2),.zs,(.int .i64 w0),(.int .i64 w1),(.int .i64 (z2f l 4)),(.int .i64 w3),(.int .i64 0),(.int .i64 x)])))]⟩ K:=by
 rw [z06,za4,ypr (a:=2) (b:=2) (c:=4) rfl,ypr (a:=2) (b:=1) (c:=3) rfl];simp only [show decide ((2:Int) < 4)=true from rfl,show decide ((0:Int)≤4)=true from rfl,show decide ((2:Int)=ic 0)=false from rfl,show decide ((2:Int)=ic 1)=false from rfl,show decide ((2:Int)=ic 2)=true from rfl,z00,z01]
theorem yr5 (N n:Nat) (l:List IV) (x w0 w1 w2 w3:Int) (K:Out→St→Res):lpE (z0v N) (z0f z19 [1,1,1,1,0,1,0,1,1,1,0,1,0,1,0,0]) ⟨[2,6,7,66],[2,7],[]⟩ (n+1) ⟨[(2,(.ptr 2 0 0)),(6,(.list false [.str] l)),(7,(.ptr 7 0 0)),(66,(.int .i64 3))],[(2,(some (.box [(.int .i64 0),.zs,(.int .i64 0),(.int .i64 0),(.int .i64 0),(.int .i64 0),(.int .i64 0),(.int .i64 0)]))),(7,(some (.box [(.int .i64 2),.zs,(.int .i64 w0),(.int .i64 w1),(.int .i64 w2),(.int .i64 w3),(.int .i64 0),(.int .i64 x)])))]⟩ K =
  lpE (z0v N) (z0f z19 [1,1,1,1,0,1,0,1,1,1,0,1,0,1,0,0]) ⟨[2,6,7,66],[2,7],[]⟩ n ⟨[(2,(.ptr 2 0 0)),(6,(.list false [.str] l)),(7,(.ptr 7 0 0)),(66,(.int .i64 4))],[(2,(some (.box [(.int .i64 0),.zs,(.int .i64 0),(.int .i64 0),(.int .i64 0),(.int .i64 0),(.int .i64 0),(.int .i64 0)]))),(7,(some (.box [(.int .i64 2),.zs,(.int .i64 w0),(.int .i64 w1),(.int .i64 w2),(.int .i64 (z2f l 5)),(.int .i64 0),(.int .i64 x)])))]⟩ K:=by
 rw [z06,za4,ypr (a:=2) (b:=3) (c:=5) rfl,ypr (a:=3) (b:=1) (c:=4) rfl];simp only [show decide ((3:Int) < 4)=true from rfl,show decide ((0:Int)≤5)=true from rfl,show decide ((3:Int)=ic 0)=false from rfl,show decide ((3:Int)=ic 1)=false from rfl,show decide ((3:Int)=ic 2)=false from rfl,show decide ((3:Int)=ic 3)=true from rfl,z00,z01]
theorem yrk (N n:Nat) (l:List IV) (x w0 w1 w2 w3:Int):lpE (z0v N) (z0f z19 [1,1,1,1,0,1,0,1,1,1,0,1,0,1,0,0]) ⟨[2,6,7,66],[2,7],[]⟩ (n+1) ⟨[(2,(.ptr 2 0 0)),(6,(.list false [.str] l)),(7,(.ptr 7 0 0)),(66,(.int .i64 4))],[(2,(some (.box [(.int .i64 0),.zs,(.int .i64 0),(.int .i64 0),(.int .i64 0),(.int .i64 0),(.int .i64 0),(.int .i64 0)]))),(7,(some (.box [(.int .i64 2),.zs,(.int .i64 w0),(.int .i64 w1),(.int .i64 w2),(.int .i64 w3),(.int .i64 0),(.int .i64 x)])))]⟩ (z05 3 (kSq (z0v N) (z0f z19 [1,1,1,1,0,1,0,1,1,1,0,1,1]) (z05 0 (kSq (z0v N) (z0f z19 [1,1,1,1,1]) (z2s (z0v N) none [(ResultVar.cell 2 55)] [[(.int .i64),(.list true z1k),(.int .i64),(.int .i64),(.int .i64),(.int .i64),(.int .i64),(.int .i64)]]))))) =
  some ((.agg [(.int .i64 2),(.list true z1k []),(.int .i64 w0),(.int .i64 w1),(.int .i64 w2),(.int .i64 w3),(.int .i64 (z2f l 6)),(.int .i64 x)]),[]):=by
 rw [z06,za4];simp only [show decide ((4:Int) < 4)=false from rfl,z01]
 exact zus N _ _ _ _ _ _ _ _ _ _ _ _ _ _ _ _
theorem yh2 (N n:Nat) (l:List IV) (x:Int):lpE (z0v N) (z0f z19 [1,1,1,1,0,1,0,1,1,1,0,1,0,1,0,0]) ⟨[2,6,7,66],[2,7],[]⟩ (n+1+1+1+1+1) ⟨[(2,(.ptr 2 0 0)),(6,(.list false [.str] l)),(7,(.ptr 7 0 0)),(66,(.int .i64 0))],[(2,(some (.box [(.int .i64 0),.zs,(.int .i64 0),(.int .i64 0),(.int .i64 0),(.int .i64 0),(.int .i64 0),(.int .i64 0)]))),(7,(some (.box [(.int .i64 2),.zs,(.int .i64 0),(.int .i64 0),(.int .i64 0),(.int .i64 0),(.int .i64 0),(.int .i64 x)])))]⟩ (z05 3 (kSq (z0v N) (z0f z19 [1,1,1,1,0,1,0,1,1,1,0,1,1]) (z05 0 (kSq (z0v N) (z0f z19 [1,1,1,1,1]) (z2s (z0v N) none [(ResultVar.cell 2 55)] [[(.int .i64),(.list true z1k),(.int .i64),(.int .i64),(.int .i64),(.int .i64),(.int .i64),(.int .i64)]]))))) =
  some ((.agg [(.int .i64 2),(.list true z1k []),(.int .i64 (z2f l 2)),(.int .i64 (z2f l 3)),(.int .i64 (z2f l 4)),(.int .i64 (z2f l 5)),(.int .i64 (z2f l 6)),(.int .i64 x)]),[]):=
 (yr9 N (n+1+1+1+1) l x 0 0 0 0 _).trans ((yrb N (n+1+1+1) l x _ 0 0 0 _).trans ((yrd N (n+1+1) l x _ _ 0 0 _).trans ((yr5 N (n+1) l x _ _ _ 0 _).trans (yrk N n l x _ _ _ _))))
theorem y42:z32 PR B0 61 zft:=by
 refine z0h [(105,zc5),(104,z6g),(46,z1t)] [(7,⟨[2,4,7],[2,7,51],[⟨.cell 7 1,51,127,true,[.bool,.int .i64,.int .i64]⟩]⟩),(16,⟨[2,6,7,66],[2,7],[]⟩)] zft [[.int .i64,.list true [.bool,.int .i64,.int .i64],.int .i64,.int .i64,.int .i64,.int .i64,.int .i64,.int .i64]] Tryz.func61 yeb ⟨zwg,zfq,z5y,trivial⟩ ?_;intro vs r hwf h;unfold zft at h
 split at h
 ·rename_i s
  refine ⟨s.size+1+1+1+1+1+1,?_⟩;rw [← h];refine (y7k (s.size+1+1+1+1+1+1) s).trans ?_;simp only [R.get_br,R.get_ok,R.get_no];cases hs:decide (s.size < 4294967281) with
  | false=>rfl
  | true=>
   have hs:=v0c hs;simp only [z00];rw [y2i hs,dsp,zrq];simp only [v0a,decide_true,v1d,z00];have ez:Int.toNat 0=0:=rfl;rw [ez];unfold ze2 zel z7o;have hlt:=(zoi s zh0).2;generalize List.map IV.str (z0d (cutL s zh0) ypo)=l;generalize (ByteArray.toList (IV.toStr (List.getD l 0 default))==ByteArray.toList z5l)=q1;generalize (ByteArray.toList (IV.toStr (List.getD l 0 default))==ByteArray.toList zfw)=q2;generalize (ByteArray.toList (IV.toStr (List.getD l 0 default))==ByteArray.toList z94)=q3;generalize (ByteArray.toList (IV.toStr (List.getD l 0 default))==ByteArray.toList zfj)=q4;cases q1
   ·cases q2
    ·cases q3
     ·cases q4 <;> simp only [z00,z01]
     ·simp only [z00,z01]
    ·simp only [z00,z01]
     exact yh2 _ (s.size+1) _ _
   ·simp only [z00]
    exact yfa _ _ _ _ _ _ _ _ _ _ _ _ _ _ _ _ (fun s' p=>zu9 _ s' _ _ _ _ _ _ _ _ _ _ _ _ _ _ _ p) ((zgp s zh0).size+1) _ (zgp s zh0) [] (by omega) (by omega) (by omega)
 ·simp [R.get] at h
theorem y1m (s w:ByteArray) (l:List IV):s.size≤(z43 s w l).size:=by
 unfold z43
 have:=zln l (s++w)
 rw [v0f] at this;rw [v2u];omega
theorem zfk:∀ (l:List IV) (s:ByteArray),s.size≤(z3f s l).size
 | [],s=>v0a _
 | x :: l,s=>by
  unfold z3f;refine v1n ?_ (zfk l _);cases z9d x
  ·exact y1m _ _ _
  ·exact y1m _ _ _
theorem y1l (N:Nat) (l:List IV) (t:ByteArray) (K:Out→St→Res) (hl:l.length≤65536)
  (hx:∀ s x26 x27,K (.exit 1) ⟨[(2,(.str t)),(3,(.ptr 3 0 0)),(25,(.list true z1k l)),(26,(.int .i64 x26)),(27,(.int .i64 x27))],[(3,(some (.bld s)))]⟩=some (.str s,[])) :
  ∀ (d i n:Nat) (s:ByteArray),i+d=l.length→d < n→(z3f s (l.drop i)).size≤strMax →
   lpE (z7u N) (z0f z98 [1,1,1,0,1,0,1,0,1,1,0,0]) ⟨[2,3,25,26,27],[3],[]⟩ n ⟨[(2,(.str t)),(3,(.ptr 3 0 0)),(25,(.list true z1k l)),(26,(.int .i64 (ic l.length))),(27,(.int .i64 (i:Int)))],[(3,(some (.bld s)))]⟩ K=some (.str (z3f s (l.drop i)),[])
 | 0,i,n+1,s,hd,_,_=>by
  rw [z06,zk9,zdj (by omega),v1i (l:=l) (i:=i) (by omega)]
  simp only [z01,z3f];exact hx s _ _
 | d+1,i,n+1,s,hd,hn,hs=>by
  have hi:i < l.length:=by omega
  rw [z06,zk9,zbm hi,zjl,z7r (by omega),zda hi]
  rw [v0m hi] at hs ⊢
  simp only [z3f] at hs ⊢
  simp only [z00,v1d];have hsz:=zfk (l.drop (i+1)) (cond (z9d l[i]) (z43 s zz8 []) (z43 s ydj [.int (z17 l[i]),.int (zfv l[i])]));have ih:=fun s' h'=>y1l N l t K hl hx d (i+1) n s' (by omega) (by omega) h'
  have es:(l[i].cell 0).toBool=z9d l[i]:=rfl;rw [es];cases hc:z9d l[i] with
  | true=>
   rw [hc] at hsz hs;simp only [z00] at hsz hs ⊢
   rw [v01 (show (z43 s zz8 []).size≤strMax by omega)]
   simp only [z00];exact ih _ hs
  | false=>
   rw [hc] at hsz hs;simp only [z01] at hsz hs ⊢
   have e2:[IV.int (IV.toInt (IV.cell l[i] 1)),IV.int (IV.toInt (IV.cell l[i] 2))]=[.int (z17 l[i]),.int (zfv l[i])]:=rfl;rw [e2,v01 (show (z43 s ydj [.int (z17 l[i]),.int (zfv l[i])]).size≤strMax by omega)]
   simp only [z00];exact ih _ hs
 | 0,_,0,_,_,h,_=>by omega
 | _+1,_,0,_,_,h,_=>by omega
theorem yli {v:Vd} (h:v.right=true):v.proof.length≤65536:=by
 unfold Vd.right at h;simp only [v02,v2n] at h;rcases h.2.2 with h1 | h1 | h1
 ·have:=h1.2.2
  unfold zj3 at this;simp only [v02,v07] at this;exact this.2.1
 ·have:=h1.2
  cases hp:v.proof with
  | nil=>simp
  | cons a b=>rw [hp] at this; cases this
 ·have:=h1.2.2
  cases hp:v.proof with
  | nil=>simp
  | cons a b=>rw [hp] at this; cases this
theorem zmh:z32 PR B0 24 z8y:=by
 refine z0h [(62,ze4),(63,zfu),(56,z1l)] [(9,⟨[2,3,25,26,27],[3],[]⟩)] z8y [[.str]] Tryz.func24 yb9 ⟨zzn,y5c,z6d,trivial⟩ ?_;intro vs r hwf h;unfold z8y at h
 split at h
 ·rename_i k p a b c d t s
  obtain ⟨v,hv⟩:∃ v:Vd,v=⟨k,p,a,b,c,d,t,s⟩:=⟨_,rfl⟩;refine ⟨v.proof.length+1,?_⟩;rw [← h];rw [← hv] at h ⊢
  have hn:=y5e (v.proof.length+1) v;rw [show Vd.V v = .agg [.int .i64 k,.list true [.bool,.int .i64,.int .i64] p,.int .i64 a,.int .i64 b,.int .i64 c,.int .i64 d,.int .i64 t,.int .i64 s] by rw [hv]; rfl] at hn
  refine hn.trans ?_;clear hn;rw [R.get_br,R.get_ok,R.get_no] at h;simp only [R.get_br,R.get_ok,R.get_no];cases hc:decide ((z11 v).size≤strMax) with
  | false=>rw [hc] at h; cases h
  | true=>
   have hle:=v0c hc;simp only [z00];unfold z11 at hle ⊢
   cases hr:Vd.right v with
   | false=>rfl
   | true=>
    rw [hr] at hle;simp only [v0e,z00,z01] at hle ⊢
    have e0:ByteArray.empty=z0u:=rfl;simp only [e0];cases k1:v.kind==1 with
    | true=>
     rw [k1] at hle;simp only [z00] at hle ⊢
     have h1:=zfk v.proof (z43 z0u z5l [.int v.spent,.int (ic v.proof.length)]);rw [v01 (show (z43 z0u z5l [.int v.spent,.int (ic v.proof.length)]).size≤strMax by omega)]
     simp only [z00]
     have:=y1l (v.proof.length+1) v.proof z0u _ (yli hr) (fun s' x26 x27=>zr5 (v.proof.length+1) z0u v.proof x26 x27 s') v.proof.length 0 (v.proof.length+1) (z43 z0u z5l [.int v.spent,.int (ic v.proof.length)]) (by omega) (by omega) (by rw [v0z]; exact hle)
     rw [v0z] at this;exact this
    | false=>
     rw [k1] at hle;simp only [z01] at hle ⊢
     cases k2:v.kind==2 with
     | true=>
      rw [k2] at hle;simp only [z00] at hle ⊢
      have ew:(List.drop 0 (List.take (1+4+1) (List.take (1+4) (List.take 1 [IV.int (Vd.spent v)]++[IV.int (Vd.w0 v),IV.int (Vd.w1 v),IV.int (Vd.w2 v),IV.int (Vd.w3 v)])++[IV.int (Vd.twin v)])))=[.int v.spent,.int v.w0,.int v.w1,.int v.w2,.int v.w3,.int v.twin]:=rfl;rw [ew,v01 hle]
      rfl
     | false=>
      rw [k2] at hle;simp only [z01] at hle ⊢
      cases k3:v.kind==3 with
      | true=>
       rw [k3] at hle;simp only [z00] at hle ⊢
       rw [v01 hle]
       rfl
      | false=>
       rw [k3] at hle;simp only [z01] at hle ⊢
       rw [v01 hle]
       rfl
 ·simp [R.get] at h
theorem zzk:z32 PR B0 23 zdq:=by
 refine z0h [(24,z8y),(61,zft)] [] zdq [[.int .i64,.list true [.bool,.int .i64,.int .i64],.int .i64,.int .i64,.int .i64,.int .i64,.int .i64,.int .i64],[.bool]] Tryz.func23 yb2 ⟨zmh,y42,trivial⟩ ?_;intro vs r hwf h;unfold zdq at h
 split at h
 ·rename_i s
  refine ⟨0,?_⟩;rw [← h];refine (y4a 0 s).trans ?_;simp only [R.get_br,R.get_ok,R.get_no] at h ⊢
  cases h1:decide (s.size < 4294967281) with
  | false=>rfl
  | true=>
   rw [h1] at h;simp only [z00] at h ⊢
   cases h2:decide ((z11 (ze2 s)).size≤strMax) with
   | false=>rw [h2] at h; cases h
   | true=>
    simp only [z00];unfold zac zkd;cases h3:(s.toList==z0u.toList) with
    | true=>rfl
    | false=>
     cases h4:((z11 (ze2 s)).toList==s.toList) with
     | true=>rfl
     | false=>rfl
 ·simp [R.get] at h
open Go
abbrev zne:ByteArray:=⟨#[113,117,101,114,121,32]⟩
abbrev zkz:ByteArray:=⟨#[109,111,100,101,108,10]⟩
def z33 (s:ByteArray):List IV:=cond (s.toList==z0u.toList) [] ((z0d (z2e s zh0) zh0).map IV.str)
def z72:z0o
 | [.str s]=>.br (decide (s.size < 4294967281)) (.ok (.list false [.str] (z33 s)) []) .no
 | _=>.no
def y5t:Vd:=⟨4,[],0,0,0,0,0,0⟩
def zwy (m:Md) (l:ByteArray):Bool:=y6g l&&(ykf l==m.d&&z2b m (zco l))
def zw2 (m:Md) (q:Qy):Vd:=cond ((zd3 m q).kind==3||z7d m q (zd3 m q)) (zd3 m q) y5t
def y28 (m:Md) (l:ByteArray):Vd:=cond (zwy m l) (zw2 m (zco l)) y5t
def z9h:z0o
 | [m,.str l]=>zgw m fun m=>.br (decide (l.size < 4294967281)) (.ok (y28 m l).V []) .no
 | _=>.no
def zer (i:Nat):ByteArray:=(zne++z0n (i:Int))++zh0
def y81 (i:Int):ByteArray:=(zne++z0n i)++zh0
def ypd (m:Md):ByteArray→Nat→List IV→ByteArray
 | s,_,[]=>s
 | s,i,x :: l=>ypd m (s++zer i++z11 (y28 m x.toStr)) (i+1) l
def zy2 (a b:ByteArray):ByteArray:=cond (zak a) (ypd (z7h a) z0u 0 (z33 b)) zkz
def z8u:z0o
 | [.str a,.str b]=>.br (decide (a.size < 4294967281)&&(decide (b.size < 4294967281)&&decide ((zy2 a b).size≤strMax))) (.ok (.str (zy2 a b)) []) .no
 | _=>.no
def z84:z0o
 | [.str s,.int .u8 c]=>.ok (.int .i64 (Lib.indexByte s.data.toList c.toNat.toUInt8)) []
 | _=>.no
def zv0 (l:List UInt8):Nat→Nat→Option Nat
 | 0,at_=>some at_
 | n+1,at_=>cond (decide (Lib.indexByte (l.drop at_) 10 < 0)) none (zv0 l n (at_+(Lib.indexByte (l.drop at_) 10).toNat+1))
def zkl (s:ByteArray) (n:Int):Bool:=(zv0 s.data.toList n.toNat 0).isSome
def ykr (s:ByteArray) (n:Int):Nat:=(zv0 s.data.toList n.toNat 0).getD 0
def z9x (s:ByteArray) (n:Int):ByteArray:=cond (zkl s n) (s.extract 0 (ykr s n)) z0u
def zpo (s:ByteArray) (n:Int):ByteArray:=cond (zkl s n) (s.extract (ykr s n) s.size) z0u
def zg0:z0o
 | [.str s,.int .i64 n]=>.br (decide (s.size < 4294967281)) (.ok (.tup [.str (z9x s n),.str (zpo s n),.bool (zkl s n)]) []) .no
 | _=>.no
def zby (s:ByteArray):List IV:=(z0d (z2e s zh0) ypo).map IV.str
def z9k (s:ByteArray):Int:=
 cond (!((zel (zby s)).toList==z5l.toList)||!(ic (zby s).length==3)) 1
  (cond (!(zmc (wAt (zby s) 2))||(decide (z58 (wAt (zby s) 2) < 0)||decide (z58 (wAt (zby s) 2) > 65536))) 1 (zex (1+z58 (wAt (zby s) 2))))
def zc6:z0o
 | [.str s]=>.br (decide (s.size < 4294967281)) (.ok (.int .i64 (z9k s)) []) .no
 | _=>.no
abbrev kVd:List Kd:=[.int .i64,.list true [.bool,.int .i64,.int .i64],.int .i64,.int .i64,.int .i64,.int .i64,.int .i64,.int .i64]
def Vd.I (v:Vd):IV:=.agg [.int v.kind,.list v.proof,.int v.w0,.int v.w1,.int v.w2,.int v.w3,.int v.twin,.int v.spent]
def vdI (x:IV):Vd:=⟨cI x 0,(x.cell 1).toList,cI x 2,cI x 3,cI x 4,cI x 5,cI x 6,cI x 7⟩
def zbb (s:ByteArray) (i:Nat):ByteArray:=z1f s (zer i)
def zx0 (s:ByteArray) (i:Nat):ByteArray:=z9x (zbb s i) (z9k (z9x (zbb s i) 1))
def yi6 (s:ByteArray) (i:Nat):ByteArray:=zpo (zbb s i) (z9k (z9x (zbb s i) 1))
def yu8 (s:ByteArray) (i:Nat):Bool:=zf6 s (zer i)&&(zkl (zbb s i) 1&&(zkl (zbb s i) (z9k (z9x (zbb s i) 1))&&zkd (zx0 s i)))
def y4s:Nat→Nat→ByteArray→List IV→Option (List IV)
 | 0,_,_,_=>none
 | n+1,i,s,out=>cond (s.toList==z0u.toList) (some out) (cond (yu8 s i) (y4s n (i+1) (yi6 s i) (out++[(zac (zx0 s i)).I])) none)
def zub (s:ByteArray):Option (List IV):=y4s (s.size+1) 0 s []
def zc7:z0o
 | [.str s]=>.br (decide (s.size < 4294967281)) (.br (zub s).isSome (.ok (.tup [.list true kVd ((zub s).getD []),.bool true]) []) (.ok (.tup [.list true kVd [],.bool false]) [])) .no
 | _=>.no
def zfd (s:ByteArray) (i:Int):ByteArray:=z1f s (y81 i)
def zit (s:ByteArray) (i:Int):ByteArray:=z9x (zfd s i) (z9k (z9x (zfd s i) 1))
def ypj (s:ByteArray) (i:Int):ByteArray:=zpo (zfd s i) (z9k (z9x (zfd s i) 1))
def yiz (m:Md) (l:ByteArray) (v:Vd):Bool:=
 cond (zwy m l) (cond (v.kind==3) (v.spent==(zco l).bu)
   (cond (v.kind==1||v.kind==2) (decide (v.spent≥1)&&(decide (v.spent≤(zco l).bu)&&z7d m (zco l) v)) false))
  (v.kind==4&&v.spent==0)
def z8b:z0o
 | [m,.str l,v]=>zgw m fun m=>yqg v fun v=>.br (decide (l.size < 4294967281)) (.ok (.bool (yiz m l v)) []) .no
 | _=>.no
def zst (m:Md):List IV→List IV→Bool
 | [],_=>true
 | v :: r,ls=>yiz m (ls.getD 0 default).toStr (vdI v)&&zst m r (ls.drop 1)
def zfx (a b r:ByteArray):Bool:=
 cond (zak a) (match zub r with
  | some vs=>ic vs.length==ic (z33 b).length&&zst (z7h a) vs (z33 b)
  | none=>false) (r.toList==zkz.toList)
def za5:z0o
 | [.str a,.str b,.str r]=>.br (decide (a.size < 4294967281)&&(decide (b.size < 4294967281)&&decide (r.size < 4294967281))) (.ok (.bool (zfx a b r)) []) .no
 | _=>.no
open Go Go.Proofs
theorem zrc:∀ (l:List UInt8) (c:UInt8),-1≤Lib.indexByte l c∧Lib.indexByte l c < l.length
 | [],_=>⟨by show (-1:Int) ≤ -1; omega,by show (-1:Int) < 0; omega⟩
 | b :: l,c=>by
  have ih:=zrc l c;unfold Lib.indexByte;rw [v03]
  split
  ·omega
  ·split
   ·omega
   ·omega
theorem zk5:z32 PR B0 102 z84:=by
 intro w X γ vs xs r out hsp hg hx hR hV;unfold z84 at hsp;simp only at hsp
 split at hsp
 ·rename_i s c
  simp only [R.get,v00,v06] at hsp;obtain ⟨rfl,rfl⟩:=hsp;obtain ⟨x0,x1,rfl⟩:∃ x0 x1,xs=[x0,x1]:=by
   have:=hV.length
   simp at this
   match xs,this with
   | [a,b],_=>exact ⟨a,b,rfl⟩
  simp only [v0d,v16,zab,VRels,VRel,v1c] at hV;obtain ⟨⟨rfl,hs⟩,rfl,_⟩:=hV;refine z8r hR rfl rfl (Does.of_calls Tryz.func102 (by kernel_rfl) (by kernel_rfl) ((Tryz.strings_IndexByte s c w).mono ?_))
  rintro e w' ⟨rfl,rfl⟩
  refine ⟨_,rfl,Keep.refl _ _,fun O _=>?_⟩
  simp only [VRel];have hb:=zrc s.data.toList c.toNat.toUInt8;have hz:s.data.toList.length=s.size:=by rw [v19]; rfl
  have e1:IntKind.i64.min = -9223372036854775808:=rfl;have e2:IntKind.i64.max=9223372036854775807:=rfl;unfold strMax at hs;exact ⟨by first | rfl | trivial,by omega,by omega⟩
 ·simp [R.get] at hsp
open Go Go.Proofs
def y11 (N:Nat):Env:=mkE [(46,z1t),(47,z1z)] [] 8 N
theorem zy1 (N:Nat) (s:ByteArray):z0z (y11 N) zmk [.tmp 2] [[.list false [.str]]] [(.str s)]=(cond (ByteArray.toList s==ByteArray.toList {data:=#[]}) (some ((.list false [.str] []),[])) (cond (decide (ByteArray.size (z2e s {data:=#[10]}) < 4294967281)&&decide (1≤ByteArray.size {data:=#[10]})) (some ((.list false [.str] (List.map IV.str (z0d (z2e s {data:=#[10]}) {data:=#[10]}))),[])) none)):=by kernel_rfl
def zvh (N:Nat):Env:=mkE [(73,zar),(26,z4n),(65,z2k),(35,z95)] [] 46 N
theorem zuj (N:Nat) (m:Md) (line:ByteArray):z0z (zvh N) zkj [.cell 4 55] [[.int .i64,.list true [.bool,.int .i64,.int .i64],.int .i64,.int .i64,.int .i64,.int .i64,.int .i64,.int .i64]] [(Md.V m),(.str line)]=(cond (decide (ByteArray.size line < 4294967281)) (cond (!y6g line) (some ((.agg [(.i 4),(.list true z1k []),(.i 0),(.i 0),(.i 0),(.i 0),(.i 0),(.i 0)]),[])) (cond (ykf line != Md.d m) (some ((.agg [(.i 4),(.list true z1k []),(.i 0),(.i 0),(.i 0),(.i 0),(.i 0),(.i 0)]),[])) (cond (!z2b m (zco line)) (some ((.agg [(.i 4),(.list true z1k []),(.i 0),(.i 0),(.i 0),(.i 0),(.i 0),(.i 0)]),[])) (cond (Vd.kind (zd3 m (zco line))==3) (some ((Vd.V (zd3 m (zco line))),[])) (cond (z7d m (zco line) (zd3 m (zco line))) (some ((Vd.V (zd3 m (zco line))),[])) (some ((.agg [(.i 4),(.list true z1k []),(.i 0),(.i 0),(.i 0),(.i 0),(.i 0),(.i 0)]),[]))))))) none):=by kernel_rfl
def z7t (N:Nat):Env:=mkE [(24,z8y),(32,z9h),(31,z72),(43,z2y),(56,z1l),(60,z14),(19,z6h)] [(6,⟨[4,5,7,18,19,20],[5,7],[]⟩)] 37 N
abbrev z6u (u00 s4:ByteArray) (l18:List IV) (x19 x20:Int) (so7:ByteArray):St:=⟨[(4,(.str s4)),(5,(.ptr 5 0 0)),(7,(.ptr 7 0 0)),(18,(.list false [.str] l18)),(19,(.i x19)),(20,(.i x20))],[(5,(some (.box (Md.cs (z7h u00))))),(7,(some (.bld so7)))]⟩
theorem y4l (N:Nat) (u00 u01:ByteArray):z0z (z7t N) z9g [.tmp 4] [[.str]] [(.str u00),(.str u01)]=(cond (decide (ByteArray.size u00 < 4294967281)) (cond (!zak u00) (some ((.str ({data:=#[109,111,100,101,108,10]})),[])) (cond (decide (ByteArray.size u01 < 4294967281)) (lpE (z7t N) (z0f z9g [1,1,1,1,0,1,0,0]) ⟨[4,5,7,18,19,20],[5,7],[]⟩ N (z6u u00 ({data:=#[]}) (z33 u01) (ic (List.length (z33 u01))) 0 ByteArray.empty) (z05 0 (kSq (z7t N) (z0f z9g [1,1,1,1,1]) (z2s (z7t N) none [(ResultVar.tmp 4)] [[.str]])))) none)) none):=by kernel_rfl
theorem zka (N:Nat) (u00 s4:ByteArray) (l18:List IV) (x19 x20:Int) (so7:ByteArray) (again:St→Res) (k:Out→St→Res):rnd (z7t N) (z0f z9g [1,1,1,1,0,1,0,0]) (z6u u00 s4 l18 x19 x20 so7) (z3t again ⟨[4,5,7,18,19,20],[5,7],[]⟩ k)=(cond (decide (x20 < x19)) (cond (decide (0≤x20)&&decide (x20 < ic (List.length l18))) (cond (decide (ByteArray.size {data:=#[113,117,101,114,121,32]}+ByteArray.size (z0n x20)≤strMax)) (cond (decide (ByteArray.size ({data:=#[113,117,101,114,121,32]}++z0n x20)+ByteArray.size {data:=#[10]}≤strMax)) (cond (decide (ByteArray.size so7+ByteArray.size (y81 x20)≤strMax)) (cond (decide (ByteArray.size (IV.toStr (List.getD l18 (Int.toNat x20) default)) < 4294967281)) (cond (decide (ByteArray.size (z11 (y28 (z7h u00) (IV.toStr (List.getD l18 (Int.toNat x20) default))))≤strMax)) (cond (decide (ByteArray.size (so7++(y81 x20))+ByteArray.size (z11 (y28 (z7h u00) (IV.toStr (List.getD l18 (Int.toNat x20) default))))≤strMax)) (again (z6u u00 s4 l18 x19 (IntKind.wrap IntKind.i64 (x20+1)) (so7++(y81 x20)++z11 (y28 (z7h u00) (IV.toStr (List.getD l18 (Int.toNat x20) default)))))) none) none) none) none) none) none) none) (k (.exit 0) (z6u u00 s4 l18 x19 x20 so7))):=by kernel_rfl
theorem zr1 (N:Nat) (u00 s4:ByteArray) (l18:List IV) (x19 x20:Int) (so7:ByteArray):(z05 0 (kSq (z7t N) (z0f z9g [1,1,1,1,1]) (z2s (z7t N) none [(ResultVar.tmp 4)] [[.str]]))) (.exit 0) (z6u u00 s4 l18 x19 x20 so7)=(some ((.str so7),[])):=by kernel_rfl
def z6x (N:Nat):Env:=mkE [(102,z84)] [(3,⟨[0,4,5,6,7,9,10],[],[]⟩)] 29 N
abbrev z4r (s0 s4 s5:ByteArray) (b6:Bool) (x7 x9 x10:Int):St:=⟨[(0,(.str s0)),(4,(.str s4)),(5,(.str s5)),(6,(.bool b6)),(7,(.i x7)),(9,(.i x9)),(10,(.i x10))],[]⟩
theorem y95 (N:Nat) (s:ByteArray) (n:Int):z0z (z6x N) z9b [.tmp 4,.tmp 5,.tmp 6] [[.str],[.str],[.bool]] [(.str s),(.i n)]=(lpE (z6x N) (z0f z9b [1,1,0,1,0,0]) ⟨[0,4,5,6,7,9,10],[],[]⟩ N (z4r s ({data:=#[]}) ({data:=#[]}) false 0 n 0) (z05 0 (kSq (z6x N) (z0f z9b [1,1,1]) (z2s (z6x N) none [(ResultVar.tmp 4),(ResultVar.tmp 5),(ResultVar.tmp 6)] [[.str],[.str],[.bool]])))):=by kernel_rfl
theorem zzu (N:Nat) (s0 s4 s5:ByteArray) (b6:Bool) (x7 x9 x10:Int) (again:St→Res) (k:Out→St→Res):rnd (z6x N) (z0f z9b [1,1,0,1,0,0]) (z4r s0 s4 s5 b6 x7 x9 x10) (z3t again ⟨[0,4,5,6,7,9,10],[],[]⟩ k)=(cond (decide (x10 < x9)) (cond (decide (0≤x7)&&decide (x7≤ic (ByteArray.size s0))) (cond (decide (Lib.indexByte (Array.toList (ByteArray.data (ByteArray.extract s0 (Int.toNat x7) (ByteArray.size s0)))) (Nat.toUInt8 (Int.toNat 10)) < 0)) (k .ret (z4r s0 ({data:=#[]}) ({data:=#[]}) false x7 x9 x10)) (again (z4r s0 s4 s5 b6 (IntKind.wrap IntKind.i64 (x7+IntKind.wrap IntKind.i64 (Lib.indexByte (Array.toList (ByteArray.data (ByteArray.extract s0 (Int.toNat x7) (ByteArray.size s0)))) (Nat.toUInt8 (Int.toNat 10))+1))) x9 (IntKind.wrap IntKind.i64 (x10+1))))) none) (k (.exit 0) (z4r s0 s4 s5 b6 x7 x9 x10))):=by kernel_rfl
theorem zug (N:Nat) (s0 s4 s5:ByteArray) (b6:Bool) (x7 x9 x10:Int):(z05 0 (kSq (z6x N) (z0f z9b [1,1,1]) (z2s (z6x N) none [(ResultVar.tmp 4),(ResultVar.tmp 5),(ResultVar.tmp 6)] [[.str],[.str],[.bool]]))) (.exit 0) (z4r s0 s4 s5 b6 x7 x9 x10)=(cond (decide (0≤x7)&&decide (x7≤ic (ByteArray.size s0))) (cond (decide (0≤x7)&&decide (x7≤ic (ByteArray.size s0))) (some ((.tup [(.str (ByteArray.extract s0 0 (Int.toNat x7))),(.str (ByteArray.extract s0 (Int.toNat x7) (ByteArray.size s0))),(.bool true)]),[])) none) none):=by kernel_rfl
theorem zun (N:Nat) (s0 s4 s5:ByteArray) (b6:Bool) (x7 x9 x10:Int):(z05 0 (kSq (z6x N) (z0f z9b [1,1,1]) (z2s (z6x N) none [(ResultVar.tmp 4),(ResultVar.tmp 5),(ResultVar.tmp 6)] [[.str],[.str],[.bool]]))) .ret (z4r s0 s4 s5 b6 x7 x9 x10)=(some ((.tup [(.str s4),(.str s5),(.bool b6)]),[])):=by kernel_rfl
def y50 (N:Nat):Env:=mkE [(90,z3w),(46,z1t),(47,z1z)] [] 37 N
theorem y0a (N:Nat) (u00:ByteArray):z0z (y50 N) zqa [.tmp 2] [[.int .i64]] [(.str u00)]=(cond (decide (ByteArray.size (z2e u00 {data:=#[10]}) < 4294967281)&&decide (1≤ByteArray.size {data:=#[32]})) (cond (decide (0≤0)&&decide (0 < ic (List.length (List.map IV.str (z0d (z2e u00 {data:=#[10]}) {data:=#[32]}))))) (cond (!ByteArray.toList (IV.toStr (List.getD (List.map IV.str (z0d (z2e u00 {data:=#[10]}) {data:=#[32]})) (Int.toNat 0) default))==ByteArray.toList {data:=#[104,111,108,100,115]}) (some ((.i 1),[])) (cond (ic (List.length (List.map IV.str (z0d (z2e u00 {data:=#[10]}) {data:=#[32]}))) != 3) (some ((.i 1),[])) (cond (decide (0≤2)&&decide (2 < ic (List.length (List.map IV.str (z0d (z2e u00 {data:=#[10]}) {data:=#[32]}))))) (cond (!zmc (IV.toStr (List.getD (List.map IV.str (z0d (z2e u00 {data:=#[10]}) {data:=#[32]})) (Int.toNat 2) default))) (some ((.i 1),[])) (cond (decide (z58 (IV.toStr (List.getD (List.map IV.str (z0d (z2e u00 {data:=#[10]}) {data:=#[32]})) (Int.toNat 2) default)) < 0)) (some ((.i 1),[])) (cond (decide (z58 (IV.toStr (List.getD (List.map IV.str (z0d (z2e u00 {data:=#[10]}) {data:=#[32]})) (Int.toNat 2) default)) > 65536)) (some ((.i 1),[])) (some ((.i (IntKind.wrap IntKind.i64 (1+z58 (IV.toStr (List.getD (List.map IV.str (z0d (z2e u00 {data:=#[10]}) {data:=#[32]})) (Int.toNat 2) default))))),[]))))) none))) none) none):=by kernel_rfl
def zup (N:Nat):Env:=mkE [(73,zar),(26,z4n),(65,z2k)] [] 66 N
theorem zs1 (N:Nat) (m:Md) (a1:ByteArray) (a2:Vd):z0z (zup N) ziy [.tmp 6] [[.bool]] [(Md.V m),(.str a1),(Vd.V a2)]=(cond (decide (ByteArray.size a1 < 4294967281)) (cond (!y6g a1) (cond (Vd.kind a2==4) (some ((.bool (Vd.spent a2==0)),[])) (some ((.bool false),[]))) (cond (ykf a1 != Md.d m) (cond (Vd.kind a2==4) (some ((.bool (Vd.spent a2==0)),[])) (some ((.bool false),[]))) (cond (!z2b m (zco a1)) (cond (Vd.kind a2==4) (some ((.bool (Vd.spent a2==0)),[])) (some ((.bool false),[]))) (cond (Vd.kind a2==3) (some ((.bool (Vd.spent a2==Qy.bu (zco a1))),[])) (cond (Vd.kind a2==1) (cond (decide (Vd.spent a2≥1)) (cond (decide (Vd.spent a2≤Qy.bu (zco a1))) (some ((.bool (z7d m (zco a1) a2)),[])) (some ((.bool false),[]))) (some ((.bool false),[]))) (cond (Vd.kind a2==2) (cond (decide (Vd.spent a2≥1)) (cond (decide (Vd.spent a2≤Qy.bu (zco a1))) (some ((.bool (z7d m (zco a1) a2)),[])) (some ((.bool false),[]))) (some ((.bool false),[]))) (some ((.bool false),[])))))))) none):=by kernel_rfl
open Go
theorem zhk {s t:ByteArray} (h:s.data.toList=t.data.toList):s=t:=ByteArray.ext (Array.ext' h)
theorem zlm (s t:ByteArray):(s.toList==t.toList)=decide (s=t):=by
 rw [Lib.toList_data,Lib.toList_data]
 by_cases h:s=t
 ·subst h; simp
 ·rw [v05 h,v0v]
  exact fun e=>h (zhk e)
theorem za3 (s:ByteArray):s.size=s.data.toList.length:=by rw [v19]; rfl
theorem zhr (u:Nat):∀ c∈Lib.decDigits u,48≤c.toNat∧c.toNat≤57:=by
 induction u using Nat.strongRecOn with
 | _ u ih=>
  intro c hc;rw [Lib.decDigits] at hc
  split at hc
  ·rename_i h
   simp only [v1v] at hc;subst hc;rw [UInt8.toNat_ofNat_of_lt' (by simp [UInt8.size]; omega)]
   omega
  ·rename_i h
   rw [v0o,v1v] at hc;rcases hc with hc | hc
   ·exact ih (u / 10) (by omega) c hc
   ·subst hc
    rw [UInt8.toNat_ofNat_of_lt' (by simp [UInt8.size]; omega)]
    omega
theorem zqe (u:Nat):Lib.decDigits u≠[]:=by
 rw [Lib.decDigits]
 split <;> simp
theorem yp0 (n:Int):∀ c∈Lib.itoa n,c.toNat=45∨(48≤c.toNat∧c.toNat≤57):=by
 intro c hc;unfold Lib.itoa at hc
 split at hc
 ·rcases v17.1 hc with h | h
  ·subst h; exact .inl rfl
  ·exact .inr (zhr _ c h)
 ·exact .inr (zhr _ c hc)
theorem yfc (n:Int) (c:UInt8) (hc:c.toNat < 45):c ∉ Lib.itoa n:=by
 intro h;rcases yp0 n c h with h1 | h1 <;> omega
theorem yi5 (u:Nat):∀ (acc:Nat) (r:List UInt8),acc*10 ^ (Lib.decDigits u).length+u < 18446744073709551616 →
  Lib.parseUint10 acc (Lib.decDigits u++r)=Lib.parseUint10 (acc*10 ^ (Lib.decDigits u).length+u) r:=by
 induction u using Nat.strongRecOn with
 | _ u ih=>
  intro acc r hlt;rw [Lib.decDigits] at hlt ⊢
  split at hlt
  ·rename_i h
   rw [dif_pos h];simp only [v1j,Nat.pow_one,List.singleton_append] at hlt ⊢
   have hc:(UInt8.ofNat (48+u)).toNat=48+u:=UInt8.toNat_ofNat_of_lt' (by simp [UInt8.size]; omega)
   rw [Lib.parseUint10,hc,v1b (by omega),v0y (by omega),v0y (by omega)]
   congr 1
   omega
  ·rename_i h
   rw [dif_neg h];simp only [v08,v1j,Nat.pow_succ,v2w,List.singleton_append] at hlt ⊢
   have ea:acc*(10 ^ (Lib.decDigits (u / 10)).length*10)=acc*10 ^ (Lib.decDigits (u / 10)).length*10:=by rw [Nat.mul_assoc]
   rw [ea] at hlt ⊢
   rw [ih (u / 10) (by omega) acc _ (by omega)]
   have hc:(UInt8.ofNat (48+u % 10)).toNat=48+u % 10:=UInt8.toNat_ofNat_of_lt' (by simp [UInt8.size]; omega)
   rw [Lib.parseUint10,hc,v1b (by omega),v0y (by omega),v0y (by omega)]
   congr 1
   omega
theorem y1q (u:Nat) (h:u < 18446744073709551616):Lib.parseMag (Lib.decDigits u) = .ok u:=by
 unfold Lib.parseMag;rw [v0y (zqe u)]
 have:=yi5 u 0 [] (by omega)
 rw [v2a] at this;rw [this,Nat.zero_mul,v0p]
 rfl
theorem y16 (n:Int) (h0 : -9223372036854775808≤n) (h1:n≤9223372036854775807):Lib.atoiAll (Lib.itoa n) = .ok n:=by
 unfold Lib.itoa
 split
 ·rename_i hn
  unfold Lib.atoiAll;have e:(45:UInt8).toNat=45:=rfl;simp only [e,or_true,v1t,y1q n.natAbs (by omega),not_true_eq_false,false_and,if_false,v45]
  rw [v0y (by omega)]
  congr 1
  omega
 ·rename_i hn
  obtain ⟨c,r,hl⟩:∃ c r,Lib.decDigits n.toNat=c :: r:=by
   cases h:Lib.decDigits n.toNat with
   | nil=>exact absurd h (zqe _)
   | cons c r=>exact ⟨c,r,rfl⟩
  have hc:=zhr n.toNat c (by rw [hl]; exact v09 ..)
  have hm:=y1q n.toNat (by omega)
  rw [hl] at hm ⊢
  unfold Lib.atoiAll;have e1:¬ c.toNat=43:=by omega
  have e2:¬ c.toNat=45:=by omega
  simp only [e1,e2,or_self,if_false,hm,false_and,not_false_eq_true,v45];rw [v0y (by omega)]
  congr 1
  omega
theorem y99 {s:ByteArray} {n:Int} (h:s.data.toList=Lib.itoa n) (h0 : -9223372036854775808≤n) (h1:n≤9223372036854775807):z58 s=n:=by
 unfold z58;rw [h,y16 n h0 h1]
theorem zeq:∀ (w r:List UInt8) (c:UInt8),c ∉ w→Lib.indexByte (w++c :: r) c=w.length
 | [],r,c,_=>by simp [Lib.indexByte]
 | b :: w,r,c,h=>by
  simp only [v17,not_or] at h;have e:(b==c)=false:=v0v.2 (fun e=>h.1 e.symm)
  have e2:((w.length:Int) == -1)=false:=by rw [v0v]; omega
  simp only [v1u,Lib.indexByte,e,zeq w r c h.2,e2,v03];simp
theorem yqf (w r:List UInt8) (c:UInt8) (h:c ∉ w):Lib.cut (w++c :: r) [c]=(w,r,true):=by
 unfold Lib.cut;rw [Lib.index_one,zeq w r c h,v1b (by omega)]
 simp
theorem yks (w r:List UInt8) (c:UInt8) (h:c ∉ w):Lib.split (w++c :: r) [c]=w :: Lib.split r [c]:=by
 unfold Lib.split;have ec:Lib.count (w++c :: r) [c]=Lib.count r [c]+1:=by
  rw [Lib.count_one,Lib.count_one,List.count_append,List.count_eq_zero_of_not_mem h,List.count_cons_self,v0p]
 rw [ec,Lib.splitK,Lib.index_one,zeq w r c h];have e2:((w.length:Int) == -1)=false:=by rw [v0v]; omega
 rw [e2];simp
theorem yl9 (w:List UInt8) (c:UInt8) (h:c ∉ w):Lib.split w [c]=[w]:=by
 unfold Lib.split;rw [Lib.count_one,List.count_eq_zero_of_not_mem h]
 rfl
def lnL (w:List UInt8) (l:List Int):List UInt8:=w++l.flatMap fun n=>32 :: Lib.itoa n
theorem yod (w:List UInt8) (n:Int) (l:List Int):lnL w (n :: l)=w++32 :: lnL (Lib.itoa n) l:=by simp [lnL]
theorem zym (c:UInt8) (hc:c.toNat < 32) {w:List UInt8} (hw:c ∉ w) (l:List Int):c ∉ lnL w l:=by
 unfold lnL;rw [v0o,List.mem_flatMap]
 rintro (h | ⟨n,_,h⟩)
 ·exact hw h
 ·rcases v17.1 h with e | e
  ·subst e
   have:(32:UInt8).toNat=32:=rfl
   omega
  ·exact yfc n c (by omega) e
theorem y4m:∀ (l:List Int) (w:List UInt8),(32:UInt8) ∉ w→Lib.split (lnL w l) [32]=w :: l.map Lib.itoa
 | [],w,h=>by simp only [lnL,List.flatMap_nil,v2a,v16]; exact yl9 w 32 h
 | n :: l,w,h=>by
  rw [yod,yks w _ 32 h,y4m l (Lib.itoa n) (yfc n 32 (by decide))]
  rfl
theorem zsq (s sep:ByteArray):(z0d s sep).map (·.data.toList)=Lib.split s.data.toList sep.data.toList:=by
 unfold z0d Lib.split;rw [Lib.splitB_data]
open Go
theorem zkk (s t:ByteArray):(s++t).data.toList=s.data.toList++t.data.toList:=by simp
theorem y89 (s:ByteArray) (c:UInt8):(s.push c).data.toList=s.data.toList++[c]:=by simp [ByteArray.push]
theorem yhl (n:Int):(z0n n).data.toList=Lib.itoa n:=rfl
theorem y2v:∀ (l:List IV) (s:ByteArray),(zo3 s l).data.toList=s.data.toList++(l.map IV.toInt).flatMap fun n=>32 :: Lib.itoa n
 | [],s=>by simp [zo3]
 | x :: l,s=>by
  rw [zo3,y2v l,zkk,y89,yhl];simp
theorem z62 (s w:ByteArray) (l:List IV):(z43 s w l).data.toList=s.data.toList++(lnL w.data.toList (l.map IV.toInt)++[10]):=by
 unfold z43 lnL;rw [y89,y2v,zkk];simp
def y7s (x:IV):List UInt8:=cond (z9d x) (lnL zz8.data.toList []) (lnL ydj.data.toList [z17 x,zfv x])
def zgo:List IV→List UInt8
 | []=>[]
 | x :: l=>y7s x++10 :: zgo l
theorem zf9:∀ (l:List IV) (s:ByteArray),(z3f s l).data.toList=s.data.toList++zgo l
 | [],s=>by simp [z3f,zgo]
 | x :: l,s=>by
  rw [z3f,zf9 l,zgo];unfold y7s;cases z9d x
  ·simp only [v18]
   rw [z62];simp [IV.toInt]
  ·simp only [v1e]
   rw [z62];simp
def zb2 (n:Int):Prop := -9223372036854775808≤n∧n≤9223372036854775807
def zum (x:IV):Prop:=zb2 (z17 x)∧zb2 (zfv x)
structure Vd.rng (v:Vd):Prop where
 w0:zb2 v.w0
 w1:zb2 v.w1
 w2:zb2 v.w2
 w3:zb2 v.w3
 twin:zb2 v.twin
 spent:zb2 v.spent
 proof:∀ x∈v.proof,zum x
theorem yef:∀ (l:List IV) (s:ByteArray),(∀ x∈l,zb2 x.toInt)→(zo3 s l).size≤s.size+22*l.length
 | [],s,_=>v0a _
 | x :: l,s,h=>by
  rw [zo3];refine v1n (yef l _ (fun y hy=>h y (v0b _ hy))) ?_
  have hx:=h x (v09 ..)
  have:=zey (n:=x.toInt) hx.1 hx.2
  rw [v0f,v2u,v03];omega
theorem zm1 (s w:ByteArray) (l:List IV) (h:∀ x∈l,zb2 x.toInt):(z43 s w l).size≤s.size+w.size+22*l.length+1:=by
 unfold z43
 have:=yef l (s++w) h
 rw [v0f] at this;rw [v2u];omega
theorem zp1:∀ (l:List IV) (s:ByteArray),(∀ x∈l,zum x)→(z3f s l).size≤s.size+48*l.length
 | [],s,_=>v0a _
 | x :: l,s,h=>by
  rw [z3f];refine v1n (zp1 l _ (fun y hy=>h y (v0b _ hy))) ?_
  have hx:=h x (v09 ..);rw [v03];cases z9d x
  ·have:=zm1 s ydj [.int (z17 x),.int (zfv x)] (fun y hy=>by
    simp only [v17,List.mem_nil_iff,v3f] at hy;rcases hy with rfl | rfl
    ·exact hx.1
    ·exact hx.2)
   have e:ydj.size=3:=rfl;simp only [v18,v03,v0i] at this ⊢
   omega
  ·have:=zm1 s zz8 [] (fun y hy=>by cases hy)
   have e:zz8.size=3:=rfl;simp only [v1e,v0i] at this ⊢
   omega
open Go
theorem znn {v:Vd} (h:v.right=true):v.proof.length≤65536:=by
 unfold Vd.right at h;simp only [v02,v2n] at h;rcases h.2.2 with h1 | h1 | h1
 ·have:=h1.2.2
  unfold zj3 at this;simp only [v02,v07] at this;exact this.2.1
 ·have:=h1.2
  cases hp:v.proof with
  | nil=>simp
  | cons a b=>rw [hp] at this; cases this
 ·have:=h1.2.2
  cases hp:v.proof with
  | nil=>simp
  | cons a b=>rw [hp] at this; cases this
theorem yd3 {l:List Int} (h:∀ n∈l,zb2 n):∀ x∈l.map IV.int,zb2 x.toInt:=by
 intro x hx;obtain ⟨n,hn,rfl⟩:=List.mem_map.1 hx;exact h n hn
theorem ype {n:Nat} (h:n≤65536):zb2 (ic n):=by unfold zb2 ic; omega
theorem yac {v:Vd} (hr:v.rng):(z11 v).size≤4000000:=by
 unfold z11;cases h:v.right with
 | false=>simp only [v18]; decide
 | true=>
  simp only [v1e];have hp:=znn h;cases v.kind==1 with
  | true=>
   simp only [v1e];have h1:=zp1 v.proof (z43 z0u z5l [.int v.spent,.int (ic v.proof.length)]) hr.proof;have h2:=zm1 z0u z5l [.int v.spent,.int (ic v.proof.length)] (yd3 (l:=[v.spent,ic v.proof.length]) (by
    intro n hn;simp only [v17,List.mem_nil_iff,v3f] at hn;rcases hn with rfl | rfl
    ·exact hr.spent
    ·exact ype hp))
   have e1:z0u.size=0:=rfl;have e2:z5l.size=5:=rfl;simp only [v03,v0i] at h2;omega
  | false=>
   simp only [v18];cases v.kind==2 with
   | true=>
    simp only [v1e];have h2:=zm1 z0u zfw [.int v.spent,.int v.w0,.int v.w1,.int v.w2,.int v.w3,.int v.twin] (yd3 (l:=[v.spent,v.w0,v.w1,v.w2,v.w3,v.twin]) (by
     intro n hn;simp only [v17,List.mem_nil_iff,v3f] at hn;rcases hn with rfl | rfl | rfl | rfl | rfl | rfl
     ·exact hr.spent
     ·exact hr.w0
     ·exact hr.w1
     ·exact hr.w2
     ·exact hr.w3
     ·exact hr.twin))
    have e1:z0u.size=0:=rfl;have e2:zfw.size=5:=rfl;simp only [v03,v0i] at h2;omega
   | false=>
    simp only [v18];have hs:∀ x∈[IV.int v.spent],zb2 x.toInt:=yd3 (l:=[v.spent]) (by
     intro n hn;simp only [v17,List.mem_nil_iff,v3f] at hn;subst hn;exact hr.spent)
    have e1:z0u.size=0:=rfl;cases v.kind==3 with
    | true=>
     simp only [v1e];have h2:=zm1 z0u z94 [.int v.spent] hs;have e2:z94.size=7:=rfl;simp only [v03,v0i] at h2;omega
    | false=>
     simp only [v18];have h2:=zm1 z0u zfj [.int v.spent] hs;have e2:zfj.size=5:=rfl;simp only [v03,v0i] at h2;omega
theorem z6e (l:List IV) (i:Int):zb2 (z2f l i):=by
 unfold z2f;cases decide (ic l.length≤i) with
 | true=>simp only [v1e]; unfold zb2; omega
 | false=>
  simp only [v18]
  have:=zvc (l.getD i.toNat default).toStr
  exact this
theorem z3c:zb2 0:=⟨by decide,by decide⟩
theorem ycq (s:ByteArray):zum (zly s):=by
 unfold zly;cases ((zel (z7o s)).toList==zz8.toList) with
 | true=>exact ⟨z3c,z3c⟩
 | false=>exact ⟨z6e _ _,z6e _ _⟩
theorem ztu:∀ (m:Nat) (s:ByteArray) (p:List IV),(∀ x∈p,zum x)→∀ x∈zbv m s p,zum x
 | 0,_,_,h=>h
 | m+1,s,p,h=>by
  unfold zbv;cases (!(s.toList==z0u.toList)&&decide (p.length≤65536)) with
  | false=>exact h
  | true=>
   simp only [v1e];refine ztu m _ _ (fun x hx=>?_)
   rcases v0o.1 hx with h1 | h1
   ·exact h x h1
   ·rw [v1v.1 h1]
    exact ycq s
theorem ylz (s:ByteArray):(ze2 s).rng:=by
 unfold ze2;cases ((zel (z7o s)).toList==z5l.toList) with
 | true=>exact ⟨z3c,z3c,z3c,z3c,z3c,z6e _ _,ztu _ _ _ (fun x hx=>by cases hx)⟩
 | false=>
  cases ((zel (z7o s)).toList==zfw.toList) with
  | true=>exact ⟨z6e _ _,z6e _ _,z6e _ _,z6e _ _,z6e _ _,z6e _ _,fun x hx=>by cases hx⟩
  | false=>
   cases ((zel (z7o s)).toList==z94.toList) with
   | true=>exact ⟨z3c,z3c,z3c,z3c,z3c,z6e _ _,fun x hx=>by cases hx⟩
   | false=>
    cases ((zel (z7o s)).toList==zfj.toList) with
    | true=>exact ⟨z3c,z3c,z3c,z3c,z3c,z6e _ _,fun x hx=>by cases hx⟩
    | false=>exact ⟨z3c,z3c,z3c,z3c,z3c,z6e _ _,fun x hx=>by cases hx⟩
theorem ykk (s sep:ByteArray):(cutL s sep).data.toList=(Lib.cut s.data.toList sep.data.toList).1:=rfl
theorem ylo (s sep:ByteArray):(zgp s sep).data.toList=(Lib.cut s.data.toList sep.data.toList).2.1:=rfl
theorem zm4 {s:ByteArray} {w r:List UInt8} {l:List Int} (h:s.data.toList=lnL w l++10 :: r) (h32:(32:UInt8) ∉ w) (h10:(10:UInt8) ∉ w) :
  (z7o s).map (fun x=>x.toStr.data.toList)=w :: l.map Lib.itoa∧(zgp s zh0).data.toList=r:=by
 have hc:Lib.cut s.data.toList zh0.data.toList=(lnL w l,r,true):=by
  rw [h];exact yqf _ r 10 (zym 10 (by decide) h10 l)
 constructor
 ·unfold z7o
  rw [v43]
  have:((fun x=>x.toStr.data.toList) ∘ IV.str)=fun b:ByteArray=>b.data.toList:=rfl
  rw [this,zsq,ykk,hc];exact y4m l w h32
 ·rw [ylo,hc]
theorem zbj {L:List IV} {w:List UInt8} {ws:List (List UInt8)} (h:L.map (fun x=>x.toStr.data.toList)=w :: ws) (t:ByteArray):((zel L).toList==t.toList)=(w==t.data.toList):=by
 cases L with
 | nil=>cases h
 | cons x L=>
  simp only [v0d,v2y] at h;unfold zel;rw [Lib.toList_data,Lib.toList_data];simp only [List.getD_cons_zero];rw [h.1]
theorem zl0 {L:List IV} {ws:List (List UInt8)} (h:L.map (fun x=>x.toStr.data.toList)=ws) (i:Nat) {n:Int} (hi:ws[i]?=some (Lib.itoa n)) (hn:zb2 n):z2f L (i:Int)=n:=by
 subst h;rw [v11] at hi;cases hx:L[i]? with
 | none=>rw [hx] at hi; cases hi
 | some x=>
  rw [hx] at hi;simp only [v2k,v00] at hi;have hl:=(List.getElem?_eq_some_iff.1 hx).1;unfold z2f;rw [v05 (show ¬ ic L.length≤(i:Int) by simp only [ic]; omega)]
  simp only [v18]
  have:(L.getD (i:Int).toNat default)=x:=by
   rw [v0g,v0n,hx]
   rfl
  rw [this];exact y99 hi hn.1 hn.2
def y25 (x:IV):IV:=cond (z9d x) (zn0 true 0 0) (zn0 false (z17 x) (zfv x))
theorem you {x:IV} (h:zj8 x=true):ysf (y25 x) x=true:=by
 unfold y25;unfold zj8 at h;unfold ysf;cases hs:z9d x with
 | true=>
  rw [hs] at h;simp only [v0k,v02,Bool.not_not,v1h] at h;have e1:z9d (zn0 true 0 0)=true:=rfl;have e2:z17 (zn0 true 0 0)=0:=rfl;have e3:zfv (zn0 true 0 0)=0:=rfl;simp only [v1e,e1,e2,e3,h.1.1,h.1.2]
  rfl
 | false=>
  have e1:z9d (zn0 false (z17 x) (zfv x))=false:=rfl;have e2:z17 (zn0 false (z17 x) (zfv x))=z17 x:=rfl;have e3:zfv (zn0 false (z17 x) (zfv x))=zfv x:=rfl;simp only [v18,e1,e2,e3,v2f,v0w]
theorem y1c:∀ {l:List IV},l.all zj8=true→z7i (l.map y25) l=true
 | [],_=>rfl
 | x :: l,h=>by
  simp only [v30,v02] at h;simp only [v0d,z7i,you h.1,y1c h.2,v0w]
theorem yf7 {s:ByteArray}:(s.toList==z0u.toList)=s.data.toList.isEmpty:=by
 rw [zlm];cases h:s.data.toList with
 | nil=>
  have:s=z0u:=zhk (h.trans rfl)
  rw [v01 this]
  rfl
 | cons a l=>
  rw [v05 (fun e=>by rw [e] at h; cases h)]
  rfl
theorem ztx:∀ (l:List IV) (m:Nat) (s:ByteArray) (p:List IV),s.data.toList=zgo l→l.length < m→p.length+l.length≤65536→(∀ x∈l,zum x)→zbv m s p=p++l.map y25
 | [],m+1,s,p,hs,_,_,_=>by
  unfold zbv;rw [yf7,hs];simp [zgo]
 | x :: l,m+1,s,p,hs,hm,hp,hx=>by
  have hne:(s.toList==z0u.toList)=false:=by
   rw [yf7,hs,zgo];simp
  unfold zbv;simp only [v03] at hm hp;rw [hne,v01 (show p.length≤65536 by omega)]
  simp only [v0j,v0w,v1e];have hr:=hx x (v09 ..);have key:zly s=y25 x∧(zgp s zh0).data.toList=zgo l:=by
   rw [zgo] at hs;unfold y7s at hs;unfold y25 zly;cases hc:z9d x with
   | true=>
    rw [hc] at hs;simp only [v1e] at hs ⊢
    obtain ⟨h1,h2⟩:=zm4 hs (by decide) (by decide)
    refine ⟨?_,h2⟩;rw [zbj h1];simp only [v2f,v1e]
   | false=>
    rw [hc] at hs;simp only [v18] at hs ⊢
    obtain ⟨h1,h2⟩:=zm4 hs (by decide) (by decide)
    refine ⟨?_,h2⟩;rw [zbj h1];have e:(ydj.data.toList==zz8.data.toList)=false:=by decide
    rw [e];simp only [v18];have n1:=zl0 h1 1 (n:=z17 x) rfl hr.1;have n2:=zl0 h1 2 (n:=zfv x) rfl hr.2;have c1:((1:Nat):Int)=1:=rfl;have c2:((2:Nat):Int)=2:=rfl;rw [c1] at n1;rw [c2] at n2;rw [n1,n2]
  rw [key.1,ztx l m _ _ key.2 (by omega) (by simp only [v08,v1j]; omega) (fun y hy=>hx y (v0b _ hy))]
  simp
 | [],0,_,_,_,h,_,_=>by omega
 | _ :: _,0,_,_,_,h,_,_=>by simp at h
open Go
theorem zcz {x y:IV}:ysf x y=true↔z9d x=z9d y∧z17 x=z17 y∧zfv x=zfv y:=by simp [ysf]
theorem y1n:∀ {l m:List IV},z7i l m=true→z7i m l=true
 | [],[],_=>rfl
 | [],_ :: _,h=>by simp [z7i] at h
 | _ :: _,[],h=>by simp [z7i] at h
 | x :: l,y :: m,h=>by
  simp only [z7i,v02] at h ⊢
  obtain ⟨h1,h2,h3⟩:=zcz.1 h.1;exact ⟨zcz.2 ⟨h1.symm,h2.symm,h3.symm⟩,y1n h.2⟩
theorem zwa:∀ {l m n:List IV},z7i l m=true→z7i m n=true→z7i l n=true
 | [],[],[],_,_=>rfl
 | [],[],_ :: _,_,h=>by simp [z7i] at h
 | [],_ :: _,_,h,_=>by simp [z7i] at h
 | _ :: _,[],_,h,_=>by simp [z7i] at h
 | _ :: _,_ :: _,[],_,h=>by simp [z7i] at h
 | x :: l,y :: m,z :: n,h,k=>by
  simp only [z7i,v02] at h k ⊢
  obtain ⟨h1,h2,h3⟩:=zcz.1 h.1;obtain ⟨k1,k2,k3⟩:=zcz.1 k.1;exact ⟨zcz.2 ⟨h1.trans k1,h2.trans k2,h3.trans k3⟩,zwa h.2 k.2⟩
structure VSame (a b:Vd):Prop where
 kind:a.kind=b.kind
 proof:z7i a.proof b.proof=true
 w0:a.w0=b.w0
 w1:a.w1=b.w1
 w2:a.w2=b.w2
 w3:a.w3=b.w3
 twin:a.twin=b.twin
 spent:a.spent=b.spent
theorem VSame.symm {a b:Vd} (h:VSame a b):VSame b a:=⟨h.kind.symm,y1n h.proof,h.w0.symm,h.w1.symm,h.w2.symm,h.w3.symm,h.twin.symm,h.spent.symm⟩
theorem VSame.trans {a b c:Vd} (h:VSame a b) (k:VSame b c):VSame a c:=⟨h.kind.trans k.kind,zwa h.proof k.proof,h.w0.trans k.w0,h.w1.trans k.w1,h.w2.trans k.w2,h.w3.trans k.w3,h.twin.trans k.twin,h.spent.trans k.spent⟩
theorem zpy:∀ {l m:List IV},z7i l m=true→l.length=m.length
 | [],[],_=>rfl
 | [],_ :: _,h=>by simp [z7i] at h
 | _ :: _,[],h=>by simp [z7i] at h
 | _ :: l,_ :: m,h=>by
  simp only [z7i,v02] at h;simp only [v03,zpy h.2]
theorem ya4:∀ {l m:List IV},z7i l m=true→l.all zj8=m.all zj8
 | [],[],_=>rfl
 | [],_ :: _,h=>by simp [z7i] at h
 | _ :: _,[],h=>by simp [z7i] at h
 | x :: l,y :: m,h=>by
  simp only [z7i,v02] at h;obtain ⟨h1,h2,h3⟩:=zcz.1 h.1;simp only [v30,ya4 h.2];unfold zj8;rw [h1,h2,h3]
theorem zvd:∀ {l m:List IV} (s:ByteArray),z7i l m=true→z3f s l=z3f s m
 | [],[],_,_=>rfl
 | [],_ :: _,_,h=>by simp [z7i] at h
 | _ :: _,[],_,h=>by simp [z7i] at h
 | x :: l,y :: m,s,h=>by
  simp only [z7i,v02] at h;obtain ⟨h1,h2,h3⟩:=zcz.1 h.1;simp only [z3f,h1,h2,h3];exact zvd _ h.2
theorem yd4 {l m:List IV} (h:z7i l m=true):l.isEmpty=m.isEmpty:=by
 cases l <;> cases m <;> first | rfl | (simp [z7i] at h)
theorem yh8 {a b:Vd} (h:VSame a b):a.right=b.right:=by
 unfold Vd.right Vd.bare zj3;rw [h.kind,h.w0,h.w1,h.w2,h.w3,h.twin,h.spent,zpy h.proof,ya4 h.proof,yd4 h.proof]
theorem ycu {a b:Vd} (h:VSame a b):z11 a=z11 b:=by
 unfold z11;rw [yh8 h,h.kind,h.w0,h.w1,h.w2,h.w3,h.twin,h.spent,zpy h.proof,zvd _ h.proof]
theorem yb4 {v:Vd} (h:v.right=false):z11 v=z0u:=by
 unfold z11;rw [h]
 rfl
theorem zob (s w:ByteArray) (l:List IV):0 < (z43 s w l).size:=by
 unfold z43;rw [v2u];omega
theorem zqk:∀ (l:List IV) (s:ByteArray),s.size≤(z3f s l).size
 | [],s=>v0a _
 | x :: l,s=>by
  rw [z3f];refine v1n ?_ (zqk l _);have key:∀ w k,s.size≤(z43 s w k).size:=fun w k=>by
   rw [za3,za3,z62,v08];omega
  cases z9d x
  ·exact key _ _
  ·exact key _ _
theorem ya7 {v:Vd} (h:v.right=true):0 < (z11 v).size:=by
 unfold z11;rw [h];simp only [v1e];cases v.kind==1 with
 | true=>simp only [v1e]; exact v1f (zob _ _ _) (zqk _ _)
 | false=>
  simp only [v18];cases v.kind==2 with
  | true=>exact zob _ _ _
  | false=>
   simp only [v18];cases v.kind==3 with
   | true=>exact zob _ _ _
   | false=>exact zob _ _ _
theorem y19:∀ l:List IV,l.length≤(zgo l).length
 | []=>v0a _
 | x :: l=>by
  have:=y19 l
  simp only [zgo,v08,v03];omega
theorem y6e {v:Vd} (h:v.bare=true):v.w0=0∧v.w1=0∧v.w2=0∧v.w3=0∧v.twin=0:=by
 unfold Vd.bare at h
 simpa using h
theorem y1k {v:Vd} (hr:v.right=true) (hv:v.rng):VSame (ze2 (z11 v)) v:=by
 have hlen:=znn hr;have hr':=hr;unfold Vd.right at hr;simp only [v02,v2n,v1h] at hr;have c1:((1:Nat):Int)=1:=rfl;have c2:((2:Nat):Int)=2:=rfl;have c3:((3:Nat):Int)=3:=rfl;have c4:((4:Nat):Int)=4:=rfl;have c5:((5:Nat):Int)=5:=rfl;have c6:((6:Nat):Int)=6:=rfl;rcases hr.2.2 with ⟨hk,hb,hs⟩ | ⟨hk,he⟩ | ⟨hk,hb,he⟩
 ·have hd:(z11 v).data.toList=lnL z5l.data.toList [v.spent,ic v.proof.length]++10 :: zgo v.proof:=by
   unfold z11;rw [hr',hk];have e1:((1:Int)==1)=true:=rfl;simp only [v1e,e1];rw [zf9,z62];simp [IV.toInt]
  obtain ⟨h1,h2⟩:=zm4 hd (by decide) (by decide)
  have n1:=zl0 h1 1 (n:=v.spent) rfl hv.spent;rw [c1] at n1;have hst:zj3 v.proof=true:=hs;unfold zj3 at hs;simp only [v02,v07] at hs;have hread:=ztx v.proof ((zgp (z11 v) zh0).size+1) _ [] h2 (by
   have:=y19 v.proof
   rw [← h2,← za3] at this;omega) (by simp only [v0i]; omega) hv.proof
  unfold ze2;rw [zbj h1];simp only [v2f,v1e];obtain ⟨b0,b1,b2,b3,b4⟩:=y6e hb;refine ⟨hk.symm,?_,b0.symm,b1.symm,b2.symm,b3.symm,b4.symm,n1⟩;simp only;rw [hread,v29];exact y1c hs.2.2
 ·have hp:v.proof=[]:=List.isEmpty_iff.1 he
  have hd:(z11 v).data.toList=lnL zfw.data.toList [v.spent,v.w0,v.w1,v.w2,v.w3,v.twin]++10 :: []:=by
   unfold z11;rw [hr',hk];have e1:((2:Int)==1)=false:=rfl;have e2:((2:Int)==2)=true:=rfl;simp only [v1e,v18,e1,e2];rw [z62];simp [IV.toInt]
  obtain ⟨h1,_⟩:=zm4 hd (by decide) (by decide)
  have n1:=zl0 h1 1 (n:=v.spent) rfl hv.spent;have n2:=zl0 h1 2 (n:=v.w0) rfl hv.w0;have n3:=zl0 h1 3 (n:=v.w1) rfl hv.w1;have n4:=zl0 h1 4 (n:=v.w2) rfl hv.w2;have n5:=zl0 h1 5 (n:=v.w3) rfl hv.w3;have n6:=zl0 h1 6 (n:=v.twin) rfl hv.twin;rw [c1] at n1;rw [c2] at n2;rw [c3] at n3;rw [c4] at n4;rw [c5] at n5;rw [c6] at n6;unfold ze2;rw [zbj h1,zbj h1];have e1:(zfw.data.toList==z5l.data.toList)=false:=by decide
  simp only [e1,v18,v2f,v1e];exact ⟨hk.symm,by rw [hp]; rfl,n2,n3,n4,n5,n6,n1⟩
 ·have hp:v.proof=[]:=List.isEmpty_iff.1 he
  obtain ⟨b0,b1,b2,b3,b4⟩:=y6e hb;rcases hk with hk | hk
  ·have hd:(z11 v).data.toList=lnL z94.data.toList [v.spent]++10 :: []:=by
    unfold z11;rw [hr',hk];have e1:((3:Int)==1)=false:=rfl;have e2:((3:Int)==2)=false:=rfl;have e3:((3:Int)==3)=true:=rfl;simp only [v1e,v18,e1,e2,e3];rw [z62];simp [IV.toInt]
   obtain ⟨h1,_⟩:=zm4 hd (by decide) (by decide)
   have n1:=zl0 h1 1 (n:=v.spent) rfl hv.spent;rw [c1] at n1;unfold ze2;rw [zbj h1,zbj h1,zbj h1];have e1:(z94.data.toList==z5l.data.toList)=false:=by decide
   have e2:(z94.data.toList==zfw.data.toList)=false:=by decide
   simp only [e1,e2,v18,v2f,v1e];exact ⟨hk.symm,by rw [hp]; rfl,b0.symm,b1.symm,b2.symm,b3.symm,b4.symm,n1⟩
  ·have hd:(z11 v).data.toList=lnL zfj.data.toList [v.spent]++10 :: []:=by
    unfold z11;rw [hr',hk];have e1:((4:Int)==1)=false:=rfl;have e2:((4:Int)==2)=false:=rfl;have e3:((4:Int)==3)=false:=rfl;simp only [v1e,v18,e1,e2,e3];rw [z62];simp [IV.toInt]
   obtain ⟨h1,_⟩:=zm4 hd (by decide) (by decide)
   have n1:=zl0 h1 1 (n:=v.spent) rfl hv.spent;rw [c1] at n1;unfold ze2;rw [zbj h1,zbj h1,zbj h1,zbj h1];have e1:(zfj.data.toList==z5l.data.toList)=false:=by decide
   have e2:(zfj.data.toList==zfw.data.toList)=false:=by decide
   have e3:(zfj.data.toList==z94.data.toList)=false:=by decide
   simp only [e1,e2,e3,v18,v2f,v1e];exact ⟨hk.symm,by rw [hp]; rfl,b0.symm,b1.symm,b2.symm,b3.symm,b4.symm,n1⟩
theorem zvf {v:Vd} (hv:v.rng):zkd (z11 v)=v.right:=by
 unfold zkd;cases h:v.right with
 | false=>
  rw [yb4 h];simp
 | true=>
  have hp:=ya7 h;have hne:¬ z11 v=z0u:=fun e=>by rw [e] at hp; cases hp
  rw [zlm,zlm,v05 hne,ycu (y1k h hv),v01 rfl]
  rfl
open Go
theorem ynp (x y:List UInt8) (r:List (List UInt8)):Lib.join (x :: y :: r) [32]=x++32 :: Lib.join (y :: r) [32]:=by
 rw [Lib.join_cons,Lib.join_cons];simp [Lib.joinTail]
open Go
theorem ycc {s:ByteArray} {l:List UInt8} (h:s.data.toList=l++[10]):(yaf s).data.toList=l:=by
 have hz:s.size=l.length+1:=by rw [zgg,h,v08]; rfl
 have hs:zpz s yn0=true:=by
  unfold zpz;have e1:ByteArray.size yn0=1:=rfl;rw [e1,v01 (show 1≤s.size by omega),v0k,zot]
  refine v01 (zfm ?_);rw [v3h,v3o,v2g,h,hz];simp
 have e1:ByteArray.size yn0=1:=rfl;unfold yaf z2e;rw [hs,e1];show (s.extract 0 (s.size - 1)).data.toList=l;rw [v3h,v3o,v2g,h,hz];simp
theorem y8m {s:ByteArray} (h:zak s=true):zos (z7h s)=s:=by
 have hk:=h;unfold zak at h;rw [v02] at h
 have:=h.2
 rw [zot] at this;unfold z7h;rw [hk];exact v0c this
open Go
def lfs (L:List (List UInt8)):List UInt8:=L.flatMap fun l=>l++[10]
theorem zes (l:List UInt8) (L:List (List UInt8)):lfs (l :: L)=l++10 :: lfs L:=by simp [lfs]
theorem y7n:∀ (L:List (List UInt8)) (pre r:List UInt8),(∀ l∈L,(10:UInt8) ∉ l)→zv0 (pre++(lfs L++r)) L.length pre.length=some (pre.length+(lfs L).length)
 | [],pre,r,_=>by simp [zv0,lfs]
 | l :: L,pre,r,h=>by
  have e1:pre++(lfs (l :: L)++r)=(pre++(l++[10]))++(lfs L++r):=by rw [zes]; simp
  have e2:(pre++(lfs (l :: L)++r)).drop pre.length=l++10 :: (lfs L++r):=by rw [List.drop_left,zes]; simp
  rw [v03,zv0,e2,zeq l _ 10 (h l (v09 ..))];rw [v05 (show ¬ ((l.length:Nat):Int) < 0 by omega),z01,e1]
  have e3:pre.length+((l.length:Nat):Int).toNat+1=(pre++(l++[10])).length:=by simp; omega
  rw [e3,y7n L (pre++(l++[10])) r (fun x hx=>h x (v0b _ hx)),zes]
  simp;omega
theorem yju {s:ByteArray} {L:List (List UInt8)} {r:List UInt8} (h:s.data.toList=lfs L++r) (hL:∀ l∈L,(10:UInt8) ∉ l) :
  zkl s (L.length:Int)=true∧(z9x s (L.length:Int)).data.toList=lfs L∧(zpo s (L.length:Int)).data.toList=r:=by
 have hk:zv0 s.data.toList ((L.length:Nat):Int).toNat 0=some (lfs L).length:=by
  have:=y7n L [] r hL
  rw [v29,v0i,v0p] at this;rw [h,v0g];exact this
 have ho:zkl s (L.length:Int)=true:=by unfold zkl; rw [hk]; rfl
 have ha:ykr s (L.length:Int)=(lfs L).length:=by unfold ykr; rw [hk]; rfl
 have hz:s.size=(lfs L).length+r.length:=by rw [za3,h,v08]
 refine ⟨ho,?_,?_⟩
 ·unfold z9x
  rw [ho,z00,ha,v3h,v3o,v2g,h];simp
 ·unfold zpo
  rw [ho,z00,ha,v3h,v3o,v2g,h,hz];simp
theorem y8y {s:ByteArray} {l:List UInt8} (h:s.data.toList=l++[10]):(z2e s zh0).data.toList=l:=ycc h
def zi0 (v:Vd):List (List UInt8):=
 cond (v.kind==1) (lnL z5l.data.toList [v.spent,ic v.proof.length] :: v.proof.map y7s)
  (cond (v.kind==2) [lnL zfw.data.toList [v.spent,v.w0,v.w1,v.w2,v.w3,v.twin]]
   (cond (v.kind==3) [lnL z94.data.toList [v.spent]] [lnL zfj.data.toList [v.spent]]))
theorem y1o:∀ (l:List IV),zgo l=lfs (l.map y7s)
 | []=>rfl
 | x :: l=>by rw [zgo,y1o l,v0d,zes]
theorem ygh {v:Vd} (h:v.right=true):(z11 v).data.toList=lfs (zi0 v):=by
 unfold z11 zi0;rw [h,z00];cases v.kind==1 with
 | true=>
  rw [z00,z00,zf9,z62,y1o,zes];simp [IV.toInt]
 | false=>
  rw [z01,z01];cases v.kind==2 with
  | true=>
   rw [z00,z00,z62,zes];simp [IV.toInt,lfs]
  | false=>
   rw [z01,z01];cases v.kind==3 with
   | true=>
    rw [z00,z00,z62,zes];simp [IV.toInt,lfs]
   | false=>
    rw [z01,z01,z62,zes];simp [IV.toInt,lfs]
theorem yp7 (x:IV):(10:UInt8) ∉ y7s x:=by
 unfold y7s;cases z9d x with
 | true=>exact zym 10 (by decide) (by decide) _
 | false=>exact zym 10 (by decide) (by decide) _
theorem yhd (v:Vd):∀ l∈zi0 v,(10:UInt8) ∉ l:=by
 intro l hl;unfold zi0 at hl;cases h1:v.kind==1 with
 | true=>
  rw [h1,z00] at hl;rcases v17.1 hl with rfl | hl
  ·exact zym 10 (by decide) (by decide) _
  ·obtain ⟨x,_,rfl⟩:=List.mem_map.1 hl
   exact yp7 x
 | false=>
  rw [h1,z01] at hl;cases h2:v.kind==2 with
  | true=>
   rw [h2,z00] at hl;obtain rfl:=v1v.1 hl;exact zym 10 (by decide) (by decide) _
  | false=>
   rw [h2,z01] at hl;cases h3:v.kind==3 with
   | true=>
    rw [h3,z00] at hl;obtain rfl:=v1v.1 hl;exact zym 10 (by decide) (by decide) _
   | false=>
    rw [h3,z01] at hl;obtain rfl:=v1v.1 hl;exact zym 10 (by decide) (by decide) _
theorem yg4 (v:Vd):∃ w ns L,zi0 v=lnL w ns :: L∧(32:UInt8) ∉ w∧(10:UInt8) ∉ w ∧
  ((v.kind=1∧w=z5l.data.toList∧ns=[v.spent,ic v.proof.length]∧L.length=v.proof.length)∨(w≠z5l.data.toList∧L=[])):=by
 unfold zi0
 by_cases h1:v.kind=1
 ·refine ⟨z5l.data.toList,[v.spent,ic v.proof.length],v.proof.map y7s,by rw [h1]; rfl,by decide,by decide,.inl ⟨h1,rfl,rfl,by simp⟩⟩
 rw [v0v.2 h1,z01];cases h2:v.kind==2 with
 | true=>exact ⟨_,_,[],rfl,by decide,by decide,.inr ⟨by decide,rfl⟩⟩
 | false=>
  cases h3:v.kind==3 with
  | true=>exact ⟨_,_,[],rfl,by decide,by decide,.inr ⟨by decide,rfl⟩⟩
  | false=>exact ⟨_,_,[],rfl,by decide,by decide,.inr ⟨by decide,rfl⟩⟩
theorem y69 {s:ByteArray} {w:List UInt8} {l:List Int} (h:s.data.toList=lnL w l++[10]) (h32:(32:UInt8) ∉ w):(zby s).map (fun x=>x.toStr.data.toList)=w :: l.map Lib.itoa:=by
 unfold zby;rw [v43]
 have:((fun x=>x.toStr.data.toList) ∘ IV.str)=fun b:ByteArray=>b.data.toList:=rfl
 rw [this,zsq,y8y h];exact y4m l w h32
theorem yo4 {s:ByteArray} {w:List UInt8} {l:List Int} (h:s.data.toList=lnL w l++[10]) (h32:(32:UInt8) ∉ w) (hw:w≠z5l.data.toList):z9k s=1:=by
 unfold z9k;rw [zbj (y69 h h32) z5l,v0v.2 hw]
 rfl
theorem ygy {s:ByteArray} {w:List UInt8} {a n:Int} (h:s.data.toList=lnL w [a,n]++[10]) (h32:(32:UInt8) ∉ w) (hn:zb2 n):zmc (wAt (zby s) 2)=true∧z58 (wAt (zby s) 2)=n:=by
 have hm:=y69 h h32;have hx:(wAt (zby s) 2).data.toList=Lib.itoa n:=by
  match hq:zby s,hm with
  | [x,y,z],hm=>
   simp only [v0d,v16,v2y] at hm;exact hm.2.2.1
  | [],hm=>cases hm
  | [_],hm=>simp at hm
  | [_,_],hm=>simp at hm
  | _ :: _ :: _ :: _ :: _,hm=>simp at hm
 refine ⟨?_,y99 hx hn.1 hn.2⟩;unfold zmc;rw [hx,y16 n hn.1 hn.2]
theorem yot {s:ByteArray} {a:Int} {k:Nat} (h:s.data.toList=lnL z5l.data.toList [a,ic k]++[10]) (hk:k≤65536):z9k s=((k+1:Nat):Int):=by
 have hm:=y69 h (by decide)
 have hlen:(zby s).length=3:=by
  have:=congrArg List.length hm
  simpa using this
 have hat:=ygy h (by decide) (ype hk)
 unfold z9k;rw [zbj hm z5l,hlen,hat.1,hat.2];rw [show ic k=((k:Nat):Int) from rfl]
 rw [v05 (show ¬ ((k:Nat):Int) < 0 by omega),v05 (show ¬ ((k:Nat):Int) > 65536 by omega)]
 simp only [v2f,v0e,v3s,z01,show (ic 3==3)=true from rfl]
 rw [show zex (1+((k:Nat):Int))=1+((k:Nat):Int) from z0s (by omega) (by omega)]
 omega
theorem yoz {v:Vd} (hr:v.right=true) {s:ByteArray} {l:List UInt8} {L:List (List UInt8)} (hv:zi0 v=l :: L) (h:s.data.toList=l++[10]):z9k s=((zi0 v).length:Int):=by
 obtain ⟨w,ns,M,e,h32,h10,hc⟩:=yg4 v;rw [e] at hv;obtain ⟨rfl,rfl⟩:=List.cons.inj hv;rcases hc with ⟨hk,rfl,rfl,hl⟩ | ⟨hw,rfl⟩
 ·have hp:=znn hr
  rw [yot h hp,e,v03,hl]
 ·rw [yo4 h h32 hw,e]
  rfl
theorem yr6 (s t:ByteArray):zf6 (s++t) s=true∧z1f (s++t) s=t:=by
 have h:Lib.hasPrefix (s++t).data.toList s.data.toList=true:=by
  unfold Lib.hasPrefix;rw [List.isPrefixOf_iff_prefix,zkk];exact List.prefix_append _ _
 refine ⟨h,zhk ?_⟩;unfold z1f Lib.trimPrefix;rw [v1b h,zkk];simp
theorem ytg {v:Vd} (hr:v.right=true) (hv:v.rng) (i:Nat) (t:ByteArray) :
  yu8 (zer i++(z11 v++t)) i=true∧zx0 (zer i++(z11 v++t)) i=z11 v∧yi6 (zer i++(z11 v++t)) i=t:=by
 have hp:=yr6 (zer i) (z11 v++t);have er:zbb (zer i++(z11 v++t)) i=z11 v++t:=hp.2;have hd:(z11 v++t).data.toList=lfs (zi0 v)++t.data.toList:=by rw [zkk,ygh hr]
 have hno:=yhd v;obtain ⟨w,ns,M,e,h32,h10,hc⟩:=yg4 v;have hd1:(z11 v++t).data.toList=lfs [lnL w ns]++(lfs M++t.data.toList):=by rw [hd,e,zes]; simp [lfs]
 obtain ⟨a1,a2,a3⟩:=yju hd1 (fun l hl=>hno l (by rw [e]; obtain rfl:=v1v.1 hl; exact v09 ..))
 have hfirst:(z9x (z11 v++t) 1).data.toList=lnL w ns++[10]:=by
  refine a2.trans ?_;simp [lfs]
 have hcnt:=yoz hr e hfirst;obtain ⟨b1,b2,b3⟩:=yju hd hno;rw [← hcnt] at b1 b2 b3;have hown:zx0 (zer i++(z11 v++t)) i=z11 v:=by
  unfold zx0;rw [er];exact zhk (b2.trans (ygh hr).symm)
 refine ⟨?_,hown,?_⟩
 ·unfold yu8
  rw [hown,er,hp.1,b1,zvf hv,hr];rw [show zkl (z11 v++t) 1=true from a1]
  rfl
 ·unfold yi6
  rw [er];exact zhk b3
def y6q:Nat→List Vd→ByteArray
 | _,[]=>z0u
 | i,v :: r=>zer i++(z11 v++y6q (i+1) r)
theorem y3b (i:Nat):0 < (zer i).size:=by
 unfold zer;rw [v0f];show 0 < _+1;omega
theorem yrr (i:Nat) (v:Vd) (r:List Vd):((y6q i (v :: r)).toList==z0u.toList)=false:=by
 rw [zlm];refine v05 fun h=>?_
 have:=congrArg ByteArray.size h
 have hp:=y3b i;unfold y6q at this;rw [v0f] at this;have e:z0u.size=0:=rfl;omega
theorem y5d:∀ (i:Nat) (vs:List Vd),vs.length≤(y6q i vs).size
 | _,[]=>v0a _
 | i,v :: r=>by
  have:=y5d (i+1) r
  have hp:=y3b i;unfold y6q;rw [v0f,v0f,v03];omega
def zvk (v:Vd):IV:=(zac (z11 v)).I
theorem yg2:∀ (vs:List Vd) (n i:Nat) (out:List IV),vs.length < n→(∀ v∈vs,v.right=true∧v.rng)→y4s n i (y6q i vs) out=some (out++vs.map zvk)
 | [],n+1,i,out,_,_=>by
  unfold y4s;rw [show ((y6q i []).toList==z0u.toList)=true by simp [y6q],z00]
  simp
 | v :: r,n+1,i,out,hn,h=>by
  have hv:=h v (v09 ..);obtain ⟨h1,h2,h3⟩:=ytg hv.1 hv.2 i (y6q (i+1) r);have ih:=yg2 r n (i+1) (out++[zvk v]) (by simp only [v03] at hn; omega) (fun x hx=>h x (v0b _ hx))
  unfold y4s;rw [yrr,z01];rw [show y6q i (v :: r)=zer i++(z11 v++y6q (i+1) r) from rfl,h1,z00,h2,h3]
  show y4s n (i+1) (y6q (i+1) r) (out++[zvk v])=_;rw [ih,v0d];simp
 | [],0,_,_,h,_=>by simp at h
 | _ :: _,0,_,_,h,_=>by simp at h
theorem yjh (vs:List Vd) (h:∀ v∈vs,v.right=true∧v.rng):zub (y6q 0 vs)=some (vs.map zvk):=by
 unfold zub;rw [yg2 vs _ 0 [] (by have:=y5d 0 vs; omega) h]
 rfl
theorem yvm (v:Vd):vdI v.I=v:=rfl
theorem ylu {v:Vd} (hr:v.right=true) (hv:v.rng):VSame (vdI (zvk v)) v:=by
 unfold zvk;rw [yvm];unfold zac;rw [zvf hv,hr,z00];exact y1k hr hv
open Go
theorem ypl:∀ {l:List IV} {left out:List IV} {most:Int} {st:Int × Int} {lo:List IV × List IV},(∀ y∈left,(bxI y).good)→(∀ y∈out,(bxI y).good)→zz3 l (ic left.length,most)=some st→ztr l (left,out)=some lo→∀ x∈l,z6c x=true∧zum x
 | [],_,_,_,_,_,_,_,_,_=>fun x hx=>by cases hx
 | x :: l,left,out,most,st,lo,hl,ho,hd,hp=>by
  rw [zz3] at hd;rw [ztr] at hp;cases h1:zds (ic left.length,most) x with
  | none=>rw [h1] at hd; cases hd
  | some s1=>
   cases h2:zd8 (left,out) x with
   | none=>rw [h2] at hp; cases hp
   | some l1=>
    rw [h1] at hd;rw [h2] at hp;obtain ⟨g1,g2,g3⟩:=ztd hl ho h1 h2;have hx:z6c x=true∧zum x:=by
     obtain ⟨hne,hr,hd'⟩:=y53 h1;refine ⟨hr,?_⟩;have hlen:0 < left.length:=by simp only [ic] at hne; omega
     have ht:(z3s left).good:=hl _ (zke hlen).1;unfold zd8 at h2;rcases hd' with ⟨hs,_⟩ | ⟨hs,_⟩
     ·unfold z6c at hr
      rw [hs,z00] at hr;simp only [v02,v1h] at hr;unfold zum zb2;omega
     ·have hpl:=znv hr hs
      rw [hs] at h2;cases hc:(decide (zfv x < ((z3s left).g (z17 x).toNat).lo)||decide (zfv x≥((z3s left).g (z17 x).toNat).hi)) with
      | true=>simp only [hc,v18,v1e] at h2; cases h2
      | false=>
       simp only [v1z,v15] at hc
       have:=ht (z17 x).toNat (by omega)
       unfold zum zb2;omega
    obtain ⟨a,b⟩:=l1;obtain ⟨c,d⟩:=s1;obtain rfl:c=ic a.length:=g3;have ih:=ypl g1 g2 hd hp;intro y hy;rcases v17.1 hy with rfl | hy
    ·exact hx
    ·exact ih y hy
theorem y9s {x:IV} (h:z6c x=true):zj8 x=true:=by
 unfold z6c at h;unfold zj8;cases hs:z9d x with
 | true=>
  rw [hs,z00] at h;simp only [v02,v1h] at h;simp [h.1,h.2]
 | false=>
  rw [hs,z01] at h
  simpa using h
theorem ymi {m:Md} {q:Qy} {s:Sr} (h:s.v.kind=2∨s.v.bare=true):(z7k m q s).v.kind=2∨(z7k m q s).v.bare=true:=by
 unfold z7k;cases z2r m q (z3s s.left) with
 | true=>
  rw [z00];cases (ic (s.left.length - 1)==0) with
  | true=>exact .inr rfl
  | false=>exact h
 | false=>
  rw [z01];cases z3u m q (z3s s.left).low (z3s s.left).s4.hi with
  | true=>exact .inl rfl
  | false=>
   rw [z01];cases (z1p m q (z3s s.left)).isSome with
   | true=>exact h
   | false=>exact .inr rfl
theorem yev {m:Md} {q:Qy}:∀ (d:Nat) (s:Sr),s.v.kind=2∨s.v.bare=true→(yb0 m q d s).v.kind=2∨(yb0 m q d s).v.bare=true
 | 0,_,h=>h
 | d+1,s,h=>by
  rw [yb0];cases zgy q s with
  | true=>exact h
  | false=>exact yev d _ (ymi h)
theorem yn3 (m:Md) (q:Qy):(zd3 m q).kind=2∨(zd3 m q).bare=true:=by
 have hn:(ymy m q).v.kind=2∨(ymy m q).v.bare=true:=by
  unfold ymy;cases z2b m q <;> exact .inr rfl
 have h:=yev (m:=m) (q:=q) (q.bu.toNat+1) _ hn;unfold zd3;generalize yb0 m q (q.bu.toNat+1) (ymy m q)=s at h;rcases h with h | h
 ·exact .inl (by simp [z8i,h])
 ·exact .inr h
theorem ysy {b:Bx} (hb:b.good) {p:Pt} {t:Int} (h:b.has p t=true):zb2 p.p0∧zb2 p.p1∧zb2 p.p2∧zb2 p.p3∧zb2 t:=by
 unfold Bx.has Sp.has at h;simp only [v02,v07] at h;have h0 : -2147483648≤b.s0.lo∧b.s0.lo≤b.s0.hi∧b.s0.hi≤2147483647:=hb 0 (by omega)
 have h1 : -2147483648≤b.s1.lo∧b.s1.lo≤b.s1.hi∧b.s1.hi≤2147483647:=hb 1 (by omega)
 have h2 : -2147483648≤b.s2.lo∧b.s2.lo≤b.s2.hi∧b.s2.hi≤2147483647:=hb 2 (by omega)
 have h3 : -2147483648≤b.s3.lo∧b.s3.lo≤b.s3.hi∧b.s3.hi≤2147483647:=hb 3 (by omega)
 have h4 : -2147483648≤b.s4.lo∧b.s4.lo≤b.s4.hi∧b.s4.hi≤2147483647:=hb 4 (by omega)
 unfold zb2;omega
open Go
theorem ycp {m:Md} {q:Qy} (hr:z2b m q=true):(zd3 m q).right=true∧(zd3 m q).rng∧((zd3 m q).kind=1∨(zd3 m q).kind=2∨(zd3 m q).kind=3)∧(zd3 m q).spent≤q.bu ∧
  ((zd3 m q).kind=3→(zd3 m q).spent=q.bu)∧((zd3 m q).kind≠3→1≤(zd3 m q).spent):=by
 have h3:=(zcx hr).2.2.1;have hb:=yn3 m q;have hg:=zqt hr;have hnew:ymy m q=⟨[(z4f q).I],[],Vd.none,0⟩:=by unfold ymy; rw [hr,z00]
 obtain ⟨hi,ho⟩:=yk2 hr (q.bu.toNat+1) _ (ypi hr) (by show q.bu < 0+_; omega)
 unfold zd3 at hb ⊢
 rw [hnew] at hb ⊢
 generalize yb0 m q (q.bu.toNat+1) _=s at hi ho hb;have hsp:=hi.sp;have r0:decide (0≤(z8i s).spent)=true:=v01 hsp.1;have r1:decide ((z8i s).spent≤65536)=true:=v01 (by show s.spent≤65536; omega)
 have hspI:zb2 (z8i s).spent:=by show zb2 s.spent; unfold zb2; omega
 have bare_rng:(z8i s).bare=true→(∀ x∈(z8i s).proof,zum x)→(z8i s).rng:=fun hbare hst=>by
  obtain ⟨z0,z1,z2,z3,z4⟩:=y6e hbare;exact { w0:=by rw [z0]; exact z3c,w1:=by rw [z1]; exact z3c,w2:=by rw [z2]; exact z3c,w3:=by rw [z3]; exact z3c,twin:=by rw [z4]; exact z3c,spent:=hspI,proof:=hst }
 rcases hi.kinds with hk | hk | hk
 ·have ek:(z8i s).kind=3:=by simp [z8i,hk]
  have hnil:(z8i s).proof=[]:=(hi.opn hk).2.2.2.1;have hbare:(z8i s).bare=true:=by
   rcases hb with h | h
   ·omega
   ·exact h
  have heq:s.spent=q.bu:=by
   unfold zgy at ho;rw [hk] at ho
   have:s.spent≥q.bu:=by simpa using ho
   omega
  refine ⟨?_,bare_rng hbare (fun x hx=>by rw [hnil] at hx; cases hx),.inr (.inr ek),hsp.2,fun _=>heq,fun h=>absurd ek h⟩
  unfold Vd.right;rw [r0,r1,hnil,hbare,show ((z8i s).kind==3)=true by rw [ek]; rfl]
  simp
 ·have ek:(z8i s).kind=1:=by simp [z8i,hk]
  have hbare:(z8i s).bare=true:=by
   rcases hb with h | h
   ·omega
   ·exact h
  obtain ⟨hrp,hl,hlen,hvp⟩:=hi.holds hk;have epr:(z8i s).proof=s.proof:=hvp;obtain ⟨outs,hps,_⟩:=hrp.ps;obtain ⟨most,hdp,_,_⟩:=hrp.dp;have hst:∀ x∈(z8i s).proof,z6c x=true∧zum x:=by
   rw [epr];refine ypl (left:=[(z4f q).I]) (out:=[]) (most:=1) (fun y hy=>?_) (fun y hy=>by cases hy) hdp hps
   obtain rfl:=v1v.1 hy;rw [zv8]; exact hg
  have hl1:1≤s.proof.length:=by
   cases hp:s.proof with
   | nil=>
    rw [hp,hl] at hdp
    have:=congrArg Prod.fst (v1p hdp)
    exact absurd (show (1:Int)=0 from this) (by decide)
   | cons x r=>simp
  have hsB:zj3 (z8i s).proof=true:=by
   unfold zj3;rw [epr,v01 hl1,v01 (show s.proof.length≤65536 by simp only [ic] at hlen; omega),v0k,v0k,v35]
   exact fun x hx=>y9s (hst x (by rw [epr]; exact hx)).1
  refine ⟨?_,bare_rng hbare (fun x hx=>(hst x hx).2),.inl ek,hsp.2,fun h=>by omega,fun _=>by show 1≤s.spent; simp only [ic] at hlen; omega⟩
  unfold Vd.right;rw [r0,r1,hbare,hsB,show ((z8i s).kind==1)=true by rw [ek]; rfl]
  rfl
 ·have ek:(z8i s).kind=2:=by simp [z8i,hk]
  obtain ⟨hvp,hs1,hh,_⟩:=hi.fails hk;have hnil:(z8i s).proof=[]:=hvp;have hin:=ysy hg hh;refine ⟨?_,{ w0:=hin.1,w1:=hin.2.1,w2:=hin.2.2.1,w3:=hin.2.2.2.1,twin:=hin.2.2.2.2,spent:=hspI,proof:=fun x hx=>by rw [hnil] at hx; cases hx },.inr (.inl ek),hsp.2,fun h=>by omega,fun _=>hs1⟩
  unfold Vd.right;rw [r0,r1,hnil,show ((z8i s).kind==2)=true by rw [ek]; rfl]
  simp
theorem y2u:y5t.right=true∧y5t.rng:=⟨by decide,{ w0:=z3c,w1:=z3c,w2:=z3c,w3:=z3c,twin:=z3c,spent:=z3c,proof:=fun x hx=>by cases hx }⟩
theorem yc1 {m:Md} {q:Qy} (hr:z2b m q=true):(zw2 m q).right=true∧(zw2 m q).rng:=by
 unfold zw2;cases ((zd3 m q).kind==3||z7d m q (zd3 m q)) with
 | true=>exact ⟨(ycp hr).1,(ycp hr).2.1⟩
 | false=>exact y2u
theorem znk {m:Md} {l:ByteArray} (h:zwy m l=true):z2b m (zco l)=true:=by
 unfold zwy at h;simp only [v02] at h;exact h.2.2
theorem y67 (m:Md) (l:ByteArray):(y28 m l).right=true∧(y28 m l).rng:=by
 unfold y28;cases h:zwy m l with
 | true=>exact yc1 (znk h)
 | false=>exact y2u
theorem ych (m:Md):∀ (ls:List IV) (s:ByteArray) (i:Nat),ypd m s i ls=s++y6q i (ls.map fun x=>y28 m x.toStr)
 | [],s,i=>by
  show s=s++z0u;exact (v3v).symm
 | x :: l,s,i=>by
  rw [ypd,ych m l,v0d,y6q,v2r,v2r]
def zee (m:Md) (ls:List IV):List Vd:=ls.map fun x=>y28 m x.toStr
theorem yjo {a:ByteArray} (h:zak a=true) (b:ByteArray):zy2 a b=y6q 0 (zee (z7h a) (z33 b)):=by
 unfold zy2 zee;rw [h,z00,ych];exact ByteArray.empty_append
theorem zt2 (m:Md) (ls:List IV):∀ v∈zee m ls,v.right=true∧v.rng:=by
 intro v hv;obtain ⟨x,_,rfl⟩:=List.mem_map.1 hv;exact y67 m x.toStr
theorem yoc {a:ByteArray} (h:zak a=true) (b:ByteArray):zub (zy2 a b)=some ((zee (z7h a) (z33 b)).map zvk):=by
 rw [yjo h,yjh _ (zt2 _ _)]
theorem ygz {x y:IV} (h:ysf x y=true):z6c x=z6c y:=by
 obtain ⟨h1,h2,h3⟩:=zcz.1 h;unfold z6c;rw [h1,h2,h3]
theorem yg8:∀ {l m:List IV} (st:Int × Int),z7i l m=true→zz3 l st=zz3 m st
 | [],[],_,_=>rfl
 | [],_ :: _,_,h=>by simp [z7i] at h
 | _ :: _,[],_,h=>by simp [z7i] at h
 | x :: l,y :: m,st,h=>by
  simp only [z7i,v02] at h;obtain ⟨h1,h2,h3⟩:=zcz.1 h.1;have e:zds st x=zds st y:=by
   unfold zds;rw [ygz h.1,h1]
  rw [zz3,zz3,e];cases zds st y with
  | none=>rfl
  | some st'=>exact yg8 st' h.2
theorem ygd:∀ {l m:List IV} (st:List IV × List IV),z7i l m=true→ztr l st=ztr m st
 | [],[],_,_=>rfl
 | [],_ :: _,_,h=>by simp [z7i] at h
 | _ :: _,[],_,h=>by simp [z7i] at h
 | x :: l,y :: m,st,h=>by
  simp only [z7i,v02] at h;obtain ⟨h1,h2,h3⟩:=zcz.1 h.1;have e:zd8 st x=zd8 st y:=by
   unfold zd8;rw [h1,h2,h3]
  rw [ztr,ztr,e];cases zd8 st y with
  | none=>rfl
  | some st'=>exact ygd st' h.2
theorem yko {l m:List IV} (b:Bx) (h:z7i l m=true):psF b l=psF b m:=by
 have e:zio l=zio m:=by
  unfold zio;rw [yg8 _ h,zpy h]
 unfold psF;rw [e,ygd _ h]
theorem yc4 {m:Md} {q:Qy} {a b:Vd} (h:VSame a b):z7d m q a=z7d m q b:=by
 unfold z7d Vd.p;rw [h.kind,yko _ h.proof,h.w0,h.w1,h.w2,h.w3,h.twin]
theorem yp4 {m:Md} {l:ByteArray} {a b:Vd} (h:VSame a b):yiz m l a=yiz m l b:=by
 unfold yiz;rw [h.kind,h.spent,yc4 h]
def yi0 (m:Md) (q:Qy):Bool:=(zd3 m q).kind==3||z7d m q (zd3 m q)
theorem yro {m:Md} {l:ByteArray} (h:zwy m l=true→yi0 m (zco l)=true):yiz m l (y28 m l)=true:=by
 unfold yiz y28;cases hk:zwy m l with
 | false=>rfl
 | true=>
  rw [z00,z00];have hr:=znk hk;obtain ⟨_,_,hkind,hbu,h3,h1⟩:=ycp hr;have hs:=h hk;have e:zw2 m (zco l)=zd3 m (zco l):=by
   unfold zw2;rw [show ((zd3 m (zco l)).kind==3||z7d m (zco l) (zd3 m (zco l)))=true from hs,z00]
  rw [e];unfold yi0 at hs;rcases hkind with hk | hk | hk
  ·rw [hk] at hs
   rw [hk,show z7d m (zco l) (zd3 m (zco l))=true by simpa using hs,v01 (show (zd3 m (zco l)).spent≥1 from h1 (by omega)),v01 hbu]
   rfl
  ·rw [hk] at hs
   rw [hk,show z7d m (zco l) (zd3 m (zco l))=true by simpa using hs,v01 (show (zd3 m (zco l)).spent≥1 from h1 (by omega)),v01 hbu]
   rfl
  ·rw [hk,h3 hk]
   simp
theorem y2o {m:Md}:∀ (ls:List IV),(∀ x∈ls,zwy m x.toStr=true→yi0 m (zco x.toStr)=true)→zst m ((zee m ls).map zvk) ls=true
 | [],_=>rfl
 | x :: ls,h=>by
  have h1:=yp4 (m:=m) (l:=x.toStr) (ylu (y67 m x.toStr).1 (y67 m x.toStr).2);show (yiz m x.toStr (vdI (zvk (y28 m x.toStr)))&&zst m ((zee m ls).map zvk) ls)=true;rw [h1,yro (h x (v09 ..)),v0k];exact y2o ls fun y hy=>h y (v0b _ hy)
theorem yir {a:ByteArray} (b:ByteArray) (h:∀ x∈z33 b,zwy (z7h a) x.toStr=true→yi0 (z7h a) (zco x.toStr)=true):zfx a b (zy2 a b)=true:=by
 unfold zfx;cases ha:zak a with
 | false=>
  rw [z01];unfold zy2;rw [ha,z01];simp
 | true=>
  rw [z00,yoc ha];show (ic _==ic _&&zst (z7h a) ((zee (z7h a) (z33 b)).map zvk) (z33 b))=true;rw [y2o _ h];simp [zee]
theorem ynv {m:Md} {q:Qy} (hr:z2b m q=true) (hp:pot m q (z4f q)≤199):yi0 m q=true:=by
 obtain ⟨s1,s2,_,hk,_,_⟩:=yov hr hp;unfold yi0;rcases hk with hk | hk | hk
 ·rw [(s1 hk).1]; simp
 ·rw [(s2 hk).1]; simp
 ·rw [hk]; rfl
open Go Go.Proofs
theorem zjf:z32 PR B0 31 z72:=by
 refine z0h [(46,z1t),(47,z1z)] [] z72 [[.list false [.str]]] Tryz.func31 y0o ⟨z5y,z8p,trivial⟩ ?_;intro vs r hwf h;unfold z72 at h
 split at h
 ·rename_i s
  cases hg:(decide (s.size < 4294967281)) with
  | false=>rw [hg] at h; simp [R.get] at h
  | true=>
  rw [hg,R.get_br,z00,R.get_ok] at h;refine ⟨0,(zy1 0 s).trans ?_⟩;have hz:=v0c hg;have ht:=zh2 s zh0;rw [show decide (1≤ByteArray.size { data:=#[10] })=true from rfl,v1d,v01 (show (z2e s { data:=#[10] }).size < 4294967281 by exact v3b ht hz),z00,← h]
  unfold z33;cases (s.toList==z0u.toList) <;> rfl
 ·simp [R.get] at h
theorem zsg:z32 PR B0 32 z9h:=by
 refine z0h [(73,zar),(26,z4n),(65,z2k),(35,z95)] [] z9h [[.int .i64,.list true [.bool,.int .i64,.int .i64],.int .i64,.int .i64,.int .i64,.int .i64,.int .i64,.int .i64]] Tryz.func32 zvw ⟨zoy,ze9,z7g,zmn,trivial⟩ ?_;intro vs r hwf h;unfold z9h at h
 split at h
 ·rename_i m l
  replace h:=z3q h;obtain ⟨m,rfl,h⟩:=h;cases hg:(decide (l.size < 4294967281)) with
  | false=>rw [hg] at h; simp [R.get] at h
  | true=>
  rw [hg,R.get_br,z00,R.get_ok] at h;refine ⟨0,(zuj 0 m l).trans ?_⟩;rw [hg,z00,← h];unfold y28 zwy zw2;rw [show (ykf l != m.d)=!(ykf l==m.d) from rfl]
  cases y6g l
  ·rfl
  cases (ykf l==m.d)
  ·rfl
  cases z2b m (zco l)
  ·rfl
  cases ((zd3 m (zco l)).kind==3)
  ·cases z7d m (zco l) (zd3 m (zco l)) <;> rfl
  ·rfl
 ·simp [R.get] at h
theorem y70 (m:Md) (s:ByteArray) (i:Nat) (l:List IV):s.size+l.length≤(ypd m s i l).size:=by
 rw [ych,v0f]
 have:=y5d i (l.map fun x=>y28 m x.toStr)
 rw [v14] at this;omega
theorem yg7 (N:Nat) (a:ByteArray) (ls:List IV) (hs:∀ x∈ls,x.toStr.size < 4294967281) (hl:ls.length≤strMax) (K:Out→St→Res) (hx:∀ x y so,K (.exit 0) (z6u a z0u ls x y so)=some (.str so,[])) :
  ∀ (d i n:Nat) (so:ByteArray),i+d=ls.length→d < n→(ypd (z7h a) so i (ls.drop i)).size≤strMax →
   lpE (z7t N) (z0f z9g [1,1,1,1,0,1,0,0]) ⟨[4,5,7,18,19,20],[5,7],[]⟩ n (z6u a z0u ls (ic ls.length) (i:Int) so) K=some (.str (ypd (z7h a) so i (ls.drop i)),[])
 | 0,i,n+1,so,hd,_,_=>by
  rw [z06,zka,zdj (by omega),v1i (by omega),z01]
  exact hx _ _ _
 | d+1,i,n+1,so,hd,hn,hz=>by
  have hi:i < ls.length:=by omega
  rw [v0m hi] at hz ⊢
  rw [ypd] at hz ⊢
  have h1:=y70 (z7h a) (so++zer i++z11 (y28 (z7h a) ls[i].toStr)) (i+1) (ls.drop (i+1));have h2:(so++zer i++z11 (y28 (z7h a) ls[i].toStr)).size=so.size+(zne.size+(z0n (i:Int)).size+zh0.size)+(z11 (y28 (z7h a) ls[i].toStr)).size:=by
   unfold zer;simp only [v0f]
  have e1:zne.size=6:=rfl;have e2:zh0.size=1:=rfl;have h3:(so++zer i).size=so.size+(zne.size+(z0n (i:Int)).size+zh0.size):=by
   unfold zer;simp only [v0f]
  have h4:=hs ls[i] (v1x hi);unfold strMax at hl;rw [z06,zka,zbm hi,zjl,z7r (by omega),zda hi]
  rw [v01 (show ByteArray.size { data:=#[113,117,101,114,121,32] }+(z0n (i:Int)).size≤strMax by show zne.size+_≤_; omega)]
  rw [v01 (show ByteArray.size ({ data:=#[113,117,101,114,121,32] }++z0n (i:Int))+ByteArray.size { data:=#[10] }≤strMax by rw [v0f]; show zne.size+_+zh0.size≤_; omega)]
  rw [v01 (show so.size+(y81 (i:Int)).size≤strMax by rw [← v0f]; show (so++zer i).size≤_; omega)]
  rw [v01 h4,v01 (show (z11 (y28 (z7h a) ls[i].toStr)).size≤strMax by omega)]
  rw [v01 (show (so++y81 (i:Int)).size+(z11 (y28 (z7h a) ls[i].toStr)).size≤strMax by show (so++zer i).size+_≤_; omega)]
  simp only [z00,v1d];exact yg7 N a ls hs (by unfold strMax; omega) K hx d (i+1) n _ (by omega) (by omega) hz
 | 0,_,0,_,_,h,_=>by omega
 | _+1,_,0,_,_,h,_=>by omega
theorem yc6 {s sep:ByteArray} {n:Nat} (h:s.size < n):∀ x∈z0d s sep,x.size < n:=fun x hx=>by
 have:=(z9l sep _ s).2 x hx
 omega
theorem zwh {s:ByteArray} {n:Nat} (h:s.size < n):∀ x∈z33 s,x.toStr.size < n:=by
 intro x hx;unfold z33 at hx;cases he:(s.toList==z0u.toList) with
 | true=>rw [he,z00] at hx; cases hx
 | false=>
  rw [he,z01] at hx;obtain ⟨y,hy,rfl⟩:=List.mem_map.1 hx;have ht:=zh2 s zh0;exact yc6 (v3b ht h) y hy
theorem zmq:z32 PR B0 22 z8u:=by
 refine z0h [(24,z8y),(32,z9h),(31,z72),(43,z2y),(56,z1l),(60,z14),(19,z6h)] [(6,⟨[4,5,7,18,19,20],[5,7],[]⟩)] z8u [[.str]] Tryz.func22 ybc ⟨zmh,zsg,zjf,z8e,z6d,z4k,zgu,trivial⟩ ?_;intro vs r hwf h;unfold z8u at h
 split at h
 ·rename_i a b
  cases hg:(decide (a.size < 4294967281)&&(decide (b.size < 4294967281)&&decide ((zy2 a b).size≤strMax))) with
  | false=>rw [hg] at h; simp [R.get] at h
  | true=>
  rw [hg,R.get_br,z00,R.get_ok] at h;rw [v02,v02] at hg;have hz:=v0c hg.2.2;refine ⟨(z33 b).length+1,(y4l _ a b).trans ?_⟩;rw [hg.1,z00,← h];unfold zy2 at hz ⊢
  cases ht:zak a with
  | false=>rfl
  | true=>
   rw [ht,z00] at hz;simp only [v0e,z01,z00];rw [hg.2.1,z00];have hl:=y70 (z7h a) z0u 0 (z33 b);have e0:z0u.size=0:=rfl
   have:=yg7 ((z33 b).length+1) a (z33 b) (zwh (v0c hg.2.1)) (by omega) _ (fun x y so=>zr1 ((z33 b).length+1) a z0u (z33 b) x y so) (z33 b).length 0 ((z33 b).length+1) z0u (by omega) (by omega) (by rw [v0z]; exact hz)
   rw [v0z] at this;exact this
 ·simp [R.get] at h
theorem yo0 (s:ByteArray) (a:Nat):(s.extract a s.size).data.toList=s.data.toList.drop a:=by
 rw [v3h,v3o,v2g];exact v13 (by rw [v1g,za3]; omega)
def yph (s:ByteArray):Option Nat→Res
 | some e=>some (.tup [.str (s.extract 0 e),.str (s.extract e s.size),.bool true],[])
 | none=>some (.tup [.str z0u,.str z0u,.bool false],[])
theorem yf4 (N:Nat) (s:ByteArray) (n:Int) (hs:s.size < 4294967281) (K:Out→St→Res)
  (hx:∀ at_ x,K (.exit 0) (z4r s z0u z0u false at_ n x)=cond (decide (0≤at_)&&decide (at_≤ic s.size)) (cond (decide (0≤at_)&&decide (at_≤ic s.size)) (some (.tup [.str (s.extract 0 at_.toNat),.str (s.extract at_.toNat s.size),.bool true],[])) none) none)
  (hr:∀ at_ x,K .ret (z4r s z0u z0u false at_ n x)=some (.tup [.str z0u,.str z0u,.bool false],[])) :
  ∀ (f d at_ i:Nat),at_+d=s.size→d < f→i≤at_ →
   lpE (z6x N) (z0f z9b [1,1,0,1,0,0]) ⟨[0,4,5,6,7,9,10],[],[]⟩ f (z4r s z0u z0u false (at_:Int) n (i:Int)) K=yph s (zv0 s.data.toList (n - i).toNat at_)
 | f+1,d,at_,i,hd,hf,hi=>by
  have hin:(decide (0≤((at_:Nat):Int))&&decide (((at_:Nat):Int)≤ic s.size))=true:=by
   rw [v01 (show 0≤((at_:Nat):Int) by omega),v01 (show ((at_:Nat):Int)≤ic s.size by simp only [ic]; omega)]
   rfl
  rw [z06,zzu]
  by_cases hn:((i:Nat):Int) < n
  ·rw [v01 hn,z00,hin,z00,v0g,yo0]
   rw [show (Nat.toUInt8 (Int.toNat 10))=(10:UInt8) from rfl]
   have hb:=zrc (s.data.toList.drop at_) 10;rw [v1g,← za3] at hb;obtain ⟨k,hk⟩:∃ k,(n - i).toNat=k+1:=⟨(n - i).toNat - 1,by omega⟩
   rw [hk,zv0];cases hc:decide (Lib.indexByte (s.data.toList.drop at_) 10 < 0) with
   | true=>
    rw [z00,z00];exact hr _ _
   | false=>
    rw [z01,z01];have h0:=v0r hc;obtain ⟨j,hj⟩:∃ j:Nat,Lib.indexByte (s.data.toList.drop at_) 10=(j:Int):=⟨(Lib.indexByte (s.data.toList.drop at_) 10).toNat,by omega⟩
    rw [hj] at hb ⊢
    have w1:IntKind.wrap IntKind.i64 ((j:Int)+1)=(j:Int)+1:=z0s (by omega) (by omega)
    have w2:IntKind.wrap IntKind.i64 ((at_:Int)+((j:Int)+1))=((at_+j+1:Nat):Int):=by
     rw [show (at_:Int)+((j:Int)+1)=((at_+j+1:Nat):Int) by omega]
     exact z0s (by omega) (by omega)
    have w3:IntKind.wrap IntKind.i64 ((i:Int)+1)=((i+1:Nat):Int):=by
     rw [show (i:Int)+1=((i+1:Nat):Int) by omega]
     exact z0s (by omega) (by omega)
    rw [w1,w2,w3,v0g];have ih:=yf4 N s n hs K hx hr f (s.size - (at_+j+1)) (at_+j+1) (i+1) (by omega) (by omega) (by omega)
    rw [ih]
    have:(n - ((i+1:Nat):Int)).toNat=k:=by omega
    rw [this]
  ·rw [v05 hn,z01,show (n - i).toNat=0 by omega,zv0,hx,hin,z00,z00,v0g]
   rfl
 | 0,d,at_,i,_,hf,_=>by omega
theorem yq4 (s:ByteArray) (n:Int):yph s (zv0 s.data.toList n.toNat 0)=some (.tup [.str (z9x s n),.str (zpo s n),.bool (zkl s n)],[]):=by
 unfold z9x zpo zkl ykr;cases zv0 s.data.toList n.toNat 0 <;> rfl
theorem y3e:z32 PR B0 58 zg0:=by
 refine z0h [(102,z84)] [(3,⟨[0,4,5,6,7,9,10],[],[]⟩)] zg0 [[.str],[.str],[.bool]] Tryz.func58 ycm ⟨zk5,trivial⟩ ?_;intro vs r hwf h;unfold zg0 at h
 split at h
 ·rename_i s n
  cases hg:(decide (s.size < 4294967281)) with
  | false=>rw [hg] at h; simp [R.get] at h
  | true=>
  rw [hg,R.get_br,z00,R.get_ok] at h;refine ⟨s.size+1,(y95 _ s n).trans ?_⟩
  have:=yf4 (s.size+1) s n (v0c hg) _ (fun a x=>zug (s.size+1) s z0u z0u false a n x) (fun a x=>zun (s.size+1) s z0u z0u false a n x) (s.size+1) s.size 0 0 (by omega) (by omega) (by omega)
  refine this.trans ?_;rw [show (n - ((0:Nat):Int)).toNat=n.toNat by omega,yq4,← h]
 ·simp [R.get] at h
theorem zx4:z32 PR B0 59 zc6:=by
 refine z0h [(90,z3w),(46,z1t),(47,z1z)] [] zc6 [[.int .i64]] Tryz.func59 y5o ⟨zao,z5y,z8p,trivial⟩ ?_;intro vs r hwf h;unfold zc6 at h
 split at h
 ·rename_i s
  cases hg:(decide (s.size < 4294967281)) with
  | false=>rw [hg] at h; simp [R.get] at h
  | true=>
  rw [hg,R.get_br,z00,R.get_ok] at h;refine ⟨0,(y0a 0 s).trans ?_⟩;have hz:=v0c hg;have ht:=zh2 s zh0;rw [show decide (1≤ByteArray.size { data:=#[32] })=true from rfl,v1d,v01 (show (z2e s { data:=#[10] }).size < 4294967281 by exact v3b ht hz),z00]
  rw [zrq,show (decide ((0:Nat)≤0)&&true)=true from rfl,z00,← h]
  show _=(some (V.int .i64 (z9k s),[]):Res);unfold z9k zel wAt zby;rw [show Int.toNat 0=0 from rfl,show Int.toNat 2=2 from rfl]
  generalize hL:List.map IV.str (z0d (z2e s zh0) ypo)=L;cases ((L.getD 0 default).toStr.toList==z5l.toList)
  ·rfl
  cases h3:(ic L.length==3) with
  | false=>
   rw [show (ic L.length != 3)=!(ic L.length==3) from rfl,h3]
   rfl
  | true=>
   rw [show (ic L.length != 3)=!(ic L.length==3) from rfl,h3]
   have e3:ic L.length=3:=by simpa using h3
   rw [e3,show (decide ((0:Nat)≤2)&&decide ((2:Int) < 3))=true from rfl]
   simp only [v0e,Bool.or_self,z01,z00];cases zmc (L.getD 2 default).toStr
   ·rfl
   cases decide (z58 (L.getD 2 default).toStr < 0)
   ·cases decide (z58 (L.getD 2 default).toStr > 65536) <;> rfl
   ·rfl
 ·simp [R.get] at h
theorem zp4:z32 PR B0 72 z8b:=by
 refine z0h [(73,zar),(26,z4n),(65,z2k)] [] z8b [[.bool]] Tryz.func72 zu3 ⟨zoy,ze9,z7g,trivial⟩ ?_;intro vs r hwf h;unfold z8b at h
 split at h
 ·rename_i m l v
  replace h:=z3q h;obtain ⟨m,rfl,h⟩:=h;replace h:=y6y h;obtain ⟨v,rfl,h⟩:=h;cases hg:(decide (l.size < 4294967281)) with
  | false=>rw [hg] at h; simp [R.get] at h
  | true=>
  rw [hg,R.get_br,z00,R.get_ok] at h;refine ⟨0,(zs1 0 m l v).trans ?_⟩;rw [hg,z00,← h];unfold yiz zwy;rw [show (ykf l != m.d)=!(ykf l==m.d) from rfl]
  have hw:(cond (v.kind==4) (some (V.bool (v.spent==0),[])) (some (V.bool false,[])):Res)=some (V.bool (v.kind==4&&v.spent==0),[]):=by cases v.kind==4 <;> rfl
  cases y6g l
  ·exact hw
  cases (ykf l==m.d)
  ·exact hw
  cases z2b m (zco l)
  ·exact hw
  simp only [v0e,z01,z00,v0w];cases v.kind==3
  ·cases v.kind==1 <;> cases v.kind==2 <;> cases decide (v.spent≥1) <;> cases decide (v.spent≤(zco l).bu) <;> rfl
  ·rfl
 ·simp [R.get] at h
open Go Go.Proofs
def z4t (N:Nat):Env:=mkE [(58,zg0),(59,zc6),(23,zdq),(43,z2y),(57,z4l)] [(3,⟨[0,2,3,4,5],[56],[⟨.tmp 4,56,55,true,kVd⟩]⟩)] 59 N
abbrev z28 (s0:ByteArray) (b3:Bool) (n4:Nat) (x5:Int) (lo56:List IV):St:=⟨[(0,(.str s0)),(2,.zs),(3,(.bool b3)),(4,(.row 56 0 n4)),(5,(.i x5))],[(56,(some (.row true 55 true [(.int .i64),(.list true z1k),(.int .i64),(.int .i64),(.int .i64),(.int .i64),(.int .i64),(.int .i64)] lo56)))]⟩
theorem zzs (N:Nat) (u00:ByteArray):z0z (z4t N) z6j [.tmp 2,.tmp 3] [[.list true [.int .i64,.list true [.bool,.int .i64,.int .i64],.int .i64,.int .i64,.int .i64,.int .i64,.int .i64,.int .i64]],[.bool]] [(.str u00)]=(lpE (z4t N) (z0f z6j [1,1,0,1,0,0]) ⟨[0,2,3,4,5],[56],[⟨(.tmp 4),56,55,true,[(.int .i64),(.list true z1k),(.int .i64),(.int .i64),(.int .i64),(.int .i64),(.int .i64),(.int .i64)]⟩]⟩ N (z28 u00 false 0 0 []) (z05 0 (kSq (z4t N) (z0f z6j [1,1,1]) (z2s (z4t N) none [(ResultVar.tmp 2),(ResultVar.tmp 3)] [[(.list true [(.int .i64),(.list true z1k),(.int .i64),(.int .i64),(.int .i64),(.int .i64),(.int .i64),(.int .i64)])],[.bool]])))):=by kernel_rfl
theorem zu7 (N:Nat) (s0:ByteArray) (b3:Bool) (n4:Nat) (x5:Int) (lo56:List IV) (again:St→Res) (k:Out→St→Res):rnd (z4t N) (z0f z6j [1,1,0,1,0,0]) (z28 s0 b3 n4 x5 lo56) (z3t again ⟨[0,2,3,4,5],[56],[⟨(.tmp 4),56,55,true,[(.int .i64),(.list true z1k),(.int .i64),(.int .i64),(.int .i64),(.int .i64),(.int .i64),(.int .i64)]⟩]⟩ k)=(cond (!ByteArray.toList s0==ByteArray.toList {data:=#[]}) (cond (decide (ByteArray.size {data:=#[113,117,101,114,121,32]}+ByteArray.size (z0n x5)≤strMax)) (cond (decide (ByteArray.size ({data:=#[113,117,101,114,121,32]}++z0n x5)+ByteArray.size {data:=#[10]}≤strMax)) (cond (!zf6 s0 (y81 x5)) (k .ret (z28 s0 false n4 x5 lo56)) (cond (decide (ByteArray.size (zfd s0 x5) < 4294967281)) (cond (!zkl (zfd s0 x5) 1) (k .ret (z28 s0 false n4 x5 lo56)) (cond (decide (ByteArray.size (z9x (zfd s0 x5) 1) < 4294967281)) (cond (decide (ByteArray.size (zfd s0 x5) < 4294967281)) (cond (!zkl (zfd s0 x5) (z9k (z9x (zfd s0 x5) 1))) (k .ret (z28 s0 false n4 x5 lo56)) (cond (decide (ByteArray.size (zit s0 x5) < 4294967281)) (cond (decide (ByteArray.size (z11 (ze2 (zit s0 x5)))≤strMax)) (cond (!zkd (zit s0 x5)) (k .ret (z28 s0 false n4 x5 lo56)) (cond (decide ((n4+1)*80≤z08)) (again (z28 (ypj s0 x5) b3 (n4+1) (IntKind.wrap IntKind.i64 (x5+1)) (List.take n4 lo56++[IV.agg [IV.int (Vd.kind (zac (zit s0 x5))),IV.list (Vd.proof (zac (zit s0 x5))),IV.int (Vd.w0 (zac (zit s0 x5))),IV.int (Vd.w1 (zac (zit s0 x5))),IV.int (Vd.w2 (zac (zit s0 x5))),IV.int (Vd.w3 (zac (zit s0 x5))),IV.int (Vd.twin (zac (zit s0 x5))),IV.int (Vd.spent (zac (zit s0 x5)))]]))) none)) none) none)) none) none)) none)) none) none) (k (.exit 0) (z28 s0 b3 n4 x5 lo56))):=by kernel_rfl
theorem zq0 (N:Nat) (s0:ByteArray) (b3:Bool) (n4:Nat) (x5:Int) (lo56:List IV):(z05 0 (kSq (z4t N) (z0f z6j [1,1,1]) (z2s (z4t N) none [(ResultVar.tmp 2),(ResultVar.tmp 3)] [[(.list true [(.int .i64),(.list true z1k),(.int .i64),(.int .i64),(.int .i64),(.int .i64),(.int .i64),(.int .i64)])],[.bool]]))) (.exit 0) (z28 s0 b3 n4 x5 lo56)=(some ((.tup [(.list true [(.int .i64),(.list true z1k),(.int .i64),(.int .i64),(.int .i64),(.int .i64),(.int .i64),(.int .i64)] (List.drop 0 (List.take n4 lo56))),(.bool true)]),[])):=by kernel_rfl
theorem zol (N:Nat) (s0:ByteArray) (b3:Bool) (n4:Nat) (x5:Int) (lo56:List IV):(z05 0 (kSq (z4t N) (z0f z6j [1,1,1]) (z2s (z4t N) none [(ResultVar.tmp 2),(ResultVar.tmp 3)] [[(.list true [(.int .i64),(.list true z1k),(.int .i64),(.int .i64),(.int .i64),(.int .i64),(.int .i64),(.int .i64)])],[.bool]]))) .ret (z28 s0 b3 n4 x5 lo56)=(some ((.tup [(.list true [(.int .i64),(.list true z1k),(.int .i64),(.int .i64),(.int .i64),(.int .i64),(.int .i64),(.int .i64)] []),(.bool b3)]),[])):=by kernel_rfl
def z3x (N:Nat):Env:=mkE [(21,zc7),(72,z8b),(31,z72),(19,z6h)] [(9,⟨[6,7,10,38,39,40],[7],[]⟩)] 54 N
abbrev z2x (u00:ByteArray) (b6:Bool) (l10 l38:List IV) (x39 x40:Int):St:=⟨[(6,(.bool b6)),(7,(.ptr 7 0 0)),(10,(.list false [.str] l10)),(38,(.list true [(.int .i64),(.list true z1k),(.int .i64),(.int .i64),(.int .i64),(.int .i64),(.int .i64),(.int .i64)] l38)),(39,(.i x39)),(40,(.i x40))],[(7,(some (.box (Md.cs (z7h u00)))))]⟩
theorem zvm (N:Nat) (u00 u01 u02:ByteArray):z0z (z3x N) z5t [.tmp 6] [[.bool]] [(.str u00),(.str u01),(.str u02)]=(cond (decide (ByteArray.size u00 < 4294967281)) (cond (!zak u00) (some ((.bool (ByteArray.toList u02==ByteArray.toList {data:=#[109,111,100,101,108,10]})),[])) (cond (decide (ByteArray.size u02 < 4294967281)) (cond (Option.isSome (zub u02)) (cond (decide (ByteArray.size u01 < 4294967281)) (cond (ic (List.length (Option.getD (zub u02) [])) != ic (List.length (z33 u01))) (some ((.bool false),[])) (lpE (z3x N) (z0f z5t [1,1,1,1,1,1,0,1,0,0]) ⟨[6,7,10,38,39,40],[7],[]⟩ N (z2x u00 false (z33 u01) (Option.getD (zub u02) []) (ic (List.length (Option.getD (zub u02) []))) 0) (z05 0 (kSq (z3x N) (z0f z5t [1,1,1,1,1,1,1]) (z2s (z3x N) none [(ResultVar.tmp 6)] [[.bool]]))))) none) (cond (decide (ByteArray.size u01 < 4294967281)) (some ((.bool false),[])) none)) none)) none):=by kernel_rfl
theorem zhe (N:Nat) (u00:ByteArray) (b6:Bool) (l10 l38:List IV) (x39 x40:Int) (again:St→Res) (k:Out→St→Res):rnd (z3x N) (z0f z5t [1,1,1,1,1,1,0,1,0,0]) (z2x u00 b6 l10 l38 x39 x40) (z3t again ⟨[6,7,10,38,39,40],[7],[]⟩ k)=(cond (decide (x40 < x39)) (cond (decide (0≤x40)&&decide (x40 < ic (List.length l38))) (cond (decide (0≤x40)&&decide (x40 < ic (List.length l10))) (cond (decide (ByteArray.size (IV.toStr (List.getD l10 (Int.toNat x40) default)) < 4294967281)) (cond (!yiz (z7h u00) (IV.toStr (List.getD l10 (Int.toNat x40) default)) (vdI (List.getD l38 (Int.toNat x40) default))) (k .ret (z2x u00 false l10 l38 x39 x40)) (again (z2x u00 b6 l10 l38 x39 (IntKind.wrap IntKind.i64 (x40+1))))) none) none) none) (k (.exit 0) (z2x u00 b6 l10 l38 x39 x40))):=by kernel_rfl
theorem zo8 (N:Nat) (u00:ByteArray) (b6:Bool) (l10 l38:List IV) (x39 x40:Int):(z05 0 (kSq (z3x N) (z0f z5t [1,1,1,1,1,1,1]) (z2s (z3x N) none [(ResultVar.tmp 6)] [[.bool]]))) (.exit 0) (z2x u00 b6 l10 l38 x39 x40)=(some ((.bool true),[])):=by kernel_rfl
theorem zn8 (N:Nat) (u00:ByteArray) (b6:Bool) (l10 l38:List IV) (x39 x40:Int):(z05 0 (kSq (z3x N) (z0f z5t [1,1,1,1,1,1,1]) (z2s (z3x N) none [(ResultVar.tmp 6)] [[.bool]]))) .ret (z2x u00 b6 l10 l38 x39 x40)=(some ((.bool b6),[])):=by kernel_rfl
open Go Go.Proofs
theorem ypu (s:ByteArray) (n:Int):(z9x s n).size≤s.size:=by
 unfold z9x;cases zkl s n with
 | true=>rw [z00,v2q]; omega
 | false=>exact v0x _
theorem yt2 (s:ByteArray) (n:Int):(zpo s n).size≤s.size:=by
 unfold zpo;cases zkl s n with
 | true=>rw [z00,v2q]; omega
 | false=>exact v0x _
theorem yqa {s p:ByteArray} (h:zf6 s p=true) (hp:0 < p.size):(z1f s p).size < s.size:=by
 have h1:Lib.hasPrefix s.data.toList p.data.toList=true:=h;have h2:p.data.toList.length≤s.data.toList.length:=by
  unfold Lib.hasPrefix at h1;rw [List.isPrefixOf_iff_prefix] at h1;exact h1.length_le
 have e:(z1f s p).size=s.data.toList.length - p.data.toList.length:=by
  unfold z1f Lib.trimPrefix;rw [v1b h1];show (List.toArray _).size=_;rw [v1m,v1g]
 rw [za3] at hp ⊢
 rw [← za3,e,za3];omega
def yrj:Option (List IV)→Res
 | some l=>some (.tup [.list true kVd l,.bool true],[])
 | none=>some (.tup [.list true kVd [],.bool false],[])
theorem yip (i:Nat) (h:i≤9223372036854775807):(z0n (i:Int)).size≤21:=zey (by show -9223372036854775808≤_; omega) (by show _≤(9223372036854775807:Int); omega)
theorem y1i (N:Nat) (K:Out→St→Res)
  (hx:∀ s x O,K (.exit 0) (z28 s false O.length x O)=some (.tup [.list true kVd (List.drop 0 (List.take O.length O)),.bool true],[]))
  (hr:∀ s x O n,K .ret (z28 s false n x O)=some (.tup [.list true kVd [],.bool false],[])) :
  ∀ (m n:Nat) (s:ByteArray) (i:Nat) (O:List IV),s.size < m→m≤n→s.size < 4294967281→i+s.size≤4294967281→O.length=i →
   lpE (z4t N) (z0f z6j [1,1,0,1,0,0]) ⟨[0,2,3,4,5],[56],[⟨(.tmp 4),56,55,true,kVd⟩]⟩ n (z28 s false O.length (i:Int) O) K=yrj (y4s m i s O)
 | m+1,n+1,s,i,O,hm,hn,hs,hi,hO=>by
  rw [z06,zu7,y4s];cases h0:(s.toList==z0u.toList) with
  | true=>
   rw [v0e,z01,z00,hx,v0z,v0q]
   rfl
  | false=>
   have hit:=yip i (by omega)
   have e1:ByteArray.size { data:=#[113,117,101,114,121,32] }=6:=rfl;have e2:ByteArray.size { data:=#[10] }=1:=rfl;rw [v0j,z00,z01];rw [v01 (show ByteArray.size { data:=#[113,117,101,114,121,32] }+(z0n (i:Int)).size≤strMax by unfold strMax; omega),z00]
   rw [v01 (show ByteArray.size ({ data:=#[113,117,101,114,121,32] }++z0n (i:Int))+ByteArray.size { data:=#[10] }≤strMax by rw [v0f]; unfold strMax; omega),z00]
   unfold yu8;rw [show y81 (i:Int)=zer i from rfl]
   cases hp:zf6 s (zer i) with
   | false=>
    rw [v0j,z00,v0u,z01,hr]
    rfl
   | true=>
    have hlt:(zbb s i).size < s.size:=yqa hp (y3b i);have ho1:=ypu (zbb s i) 1;have ho2:=ypu (zbb s i) (z9k (z9x (zbb s i) 1));have hb2:=yt2 (zbb s i) (z9k (z9x (zbb s i) 1));rw [v0e,z01,v0k];rw [show zfd s (i:Int)=zbb s i from rfl,show zit s (i:Int)=zx0 s i from rfl,show ypj s (i:Int)=yi6 s i from rfl]
    rw [v01 (show (zbb s i).size < 4294967281 by omega),z00]
    cases hc1:zkl (zbb s i) 1 with
    | false=>
     rw [v0j,z00,v0u,z01,hr]
     rfl
    | true=>
     rw [v0e,z01,v0k,v01 (show (z9x (zbb s i) 1).size < 4294967281 by omega),z00,z00]
     cases hc2:zkl (zbb s i) (z9k (z9x (zbb s i) 1)) with
     | false=>
      rw [v0j,z00,v0u,z01,hr]
      rfl
     | true=>
      have hpz:=yac (ylz (zx0 s i));rw [v0e,z01,v0k,v01 (show (zx0 s i).size < 4294967281 by show (z9x _ _).size < _; omega),z00,v01 (show (z11 (ze2 (zx0 s i))).size≤strMax by unfold strMax; omega),z00]
      cases hc3:zkd (zx0 s i) with
      | false=>
       rw [v0j,z00,z01,hr]
       rfl
      | true=>
       rw [v0e,z01,z00,v01 (show (O.length+1)*80≤z08 by unfold z08; omega),z00,v0q,z7r (by omega)]
       have hsz:(yi6 s i).size < s.size:=v3b hb2 hlt;have ih:=y1i N K hx hr m n (yi6 s i) (i+1) (O++[(zac (zx0 s i)).I]) (by omega) (by omega) (by omega) (by omega) (by rw [v08]; simp; omega)
       rw [← ih,v08]
       rfl
 | 0,_,_,_,_,h,_,_,_,_=>by omega
 | _+1,0,_,_,_,_,h,_,_,_=>by omega
theorem zxe:z32 PR B0 21 zc7:=by
 refine z0h [(58,zg0),(59,zc6),(23,zdq),(43,z2y),(57,z4l)] [(3,⟨[0,2,3,4,5],[56],[⟨.tmp 4,56,55,true,kVd⟩]⟩)] zc7 [[.list true [.int .i64,.list true [.bool,.int .i64,.int .i64],.int .i64,.int .i64,.int .i64,.int .i64,.int .i64,.int .i64]],[.bool]] Tryz.func21 y5u ⟨y3e,zx4,zzk,z8e,ze7,trivial⟩ ?_;intro vs r hwf h;unfold zc7 at h
 split at h
 ·rename_i s
  rw [R.get_br] at h;cases hg:decide (s.size < 4294967281) with
  | false=>rw [hg] at h; simp [R.get] at h
  | true=>
   have hs:=v0c hg;refine ⟨s.size+1,(zzs _ s).trans ?_⟩
   have:=y1i (s.size+1) _ (fun s' x O=>zq0 (s.size+1) s' false O.length x O) (fun s' x O n=>zol (s.size+1) s' false n x O) (s.size+1) (s.size+1) s 0 [] (by omega) (by omega) hs (by omega) rfl
   refine this.trans ?_;rw [hg,z00,R.get_br] at h;rw [← h];unfold zub;cases y4s (s.size+1) 0 s [] <;> rfl
 ·simp [R.get] at h
theorem yg5 (N:Nat) (a:ByteArray) (ls vs:List IV) (hs:∀ x∈ls,x.toStr.size < 4294967281) (hl:vs.length=ls.length) (hm:vs.length≤4294967281) (K:Out→St→Res)
  (hx:∀ x y,K (.exit 0) (z2x a false ls vs x y)=some (.bool true,[])) (hr:∀ x y,K .ret (z2x a false ls vs x y)=some (.bool false,[])) :
  ∀ (d i n:Nat),i+d=vs.length→d < n →
   lpE (z3x N) (z0f z5t [1,1,1,1,1,1,0,1,0,0]) ⟨[6,7,10,38,39,40],[7],[]⟩ n (z2x a false ls vs (ic vs.length) (i:Int)) K=some (.bool (zst (z7h a) (vs.drop i) (ls.drop i)),[])
 | 0,i,n+1,hd,_=>by
  rw [z06,zhe,zdj (by omega),v1i (l:=vs) (by omega),z01]
  exact hx _ _
 | d+1,i,n+1,hd,hn=>by
  have hi:i < vs.length:=by omega
  have hi2:i < ls.length:=by omega
  have h4:=hs ls[i] (v1x hi2);rw [z06,zhe,zbm hi,zjl,zbm (l:=ls) hi2,z7r (by omega),zda hi,zda hi2]
  rw [v0m hi,v0m hi2,v01 h4];simp only [z00,v1d];show _=(some (V.bool (yiz (z7h a) ls[i].toStr (vdI vs[i])&&zst (z7h a) (vs.drop (i+1)) (ls.drop (i+1))),[]):Res);cases yiz (z7h a) ls[i].toStr (vdI vs[i]) with
  | false=>
   rw [v0j,z00,v0u];exact hr _ _
  | true=>
   rw [v0e,z01,v0k];exact yg5 N a ls vs hs hl hm K hx hr d (i+1) n (by omega) (by omega)
 | 0,_,0,_,h=>by omega
 | _+1,_,0,_,h=>by omega
theorem y1g (s:ByteArray):(z33 s).length≤s.size+1:=by
 unfold z33;cases (s.toList==z0u.toList) with
 | true=>exact v0x _
 | false=>
  rw [z01,v14];have h1:=(z9l zh0 (Lib.countB (z2e s zh0) zh0) (z2e s zh0)).1;have h2:=Lib.countB_le zh0 (by decide) _ (z2e s zh0) (v0a _)
  have h3:=zh2 s zh0;show (Lib.splitB zh0 0 (Lib.countB (z2e s zh0) zh0) (z2e s zh0)).length≤_;omega
theorem zur:z32 PR B0 29 za5:=by
 refine z0h [(21,zc7),(72,z8b),(31,z72),(19,z6h)] [(9,⟨[6,7,10,38,39,40],[7],[]⟩)] za5 [[.bool]] Tryz.func29 y09 ⟨zxe,zp4,zjf,zgu,trivial⟩ ?_;intro vs r hwf h;unfold za5 at h
 split at h
 ·rename_i a b r0
  cases hg:(decide (a.size < 4294967281)&&(decide (b.size < 4294967281)&&decide (r0.size < 4294967281))) with
  | false=>rw [hg] at h; simp [R.get] at h
  | true=>
  rw [hg,R.get_br,z00,R.get_ok] at h;rw [v02,v02] at hg;refine ⟨(z33 b).length+1,(zvm _ a b r0).trans ?_⟩;rw [hg.1,hg.2.1,hg.2.2,z00,z00,z00,← h];unfold zfx;cases ht:zak a with
  | false=>rfl
  | true=>
   simp only [v0e,z01,z00];cases hq:zub r0 with
   | none=>rfl
   | some vs=>
    show cond (ic vs.length != ic (z33 b).length) _ _=(some (V.bool (ic vs.length==ic (z33 b).length&&zst (z7h a) vs (z33 b)),[]):Res);cases he:(ic vs.length==ic (z33 b).length) with
    | false=>
     rw [show (ic vs.length != ic (z33 b).length)=!(ic vs.length==ic (z33 b).length) from rfl,he]
     rfl
    | true=>
     rw [show (ic vs.length != ic (z33 b).length)=!(ic vs.length==ic (z33 b).length) from rfl,he]
     have hl:vs.length=(z33 b).length:=by
      have:ic vs.length=ic (z33 b).length:=by simpa using he
      simp only [ic] at this;omega
     have hbz:=v0c hg.2.1;have hll:=y1g b
     have:=yg5 ((z33 b).length+1) a (z33 b) vs (zwh hbz) hl (by omega) _ (fun x y=>zo8 ((z33 b).length+1) a false (z33 b) vs x y) (fun x y=>zn8 ((z33 b).length+1) a false (z33 b) vs x y) vs.length 0 ((z33 b).length+1) (by omega) (by omega)
     rw [v0z,v0z] at this;exact this
 ·simp [R.get] at h
open Go
open Go
theorem Qy.In.sp {q:Qy} (hq:q.In):∀ s∈q.spans,InR s.1∧InR s.2:=by
 intro s hs;simp only [Qy.spans,v17,v1w,v3f] at hs;rcases hs with rfl | rfl | rfl | rfl | rfl
 ·exact ⟨hq.a0,hq.b0⟩
 ·exact ⟨hq.a1,hq.b1⟩
 ·exact ⟨hq.a2,hq.b2⟩
 ·exact ⟨hq.a3,hq.b3⟩
 ·exact ⟨hq.a4,hq.b4⟩
open Go
theorem ysu {m:Md} (h:ndN m.ts≤99) (q:Qy):pot m q (z4f q)≤199:=by
 have:=ysv m q (z4f q)
 omega
open Go
def z8f:z0o
 | []=>.ok (.bool true) []
 | _=>.no
def z8z:z0o
 | [.str _,.str _,.str _]=>.ok (.bool true) []
 | _=>.no
open Go
theorem yre (w:ByteArray) (r:List ByteArray):w.size≤(zcb (w :: r) z5a).size:=by
 have hs:(zcb (w :: r) z5a).size=(Lib.join ((w :: r).map (·.data.toList)) [32]).length:=by
  show (Array.size (List.toArray _))=_;rw [v1m]
 rw [hs,za3];cases r with
 | nil=>rw [v0d,v16,Lib.join_one]; exact v0a _
 | cons x r=>rw [v0d,v0d,ynp,v08]; omega
theorem zyu (w:ByteArray) (r:List ByteArray):w.size+1≤(z69 (w :: r)).size:=by
 unfold z69
 have:=yre w r
 rw [v0f];show _≤_+1;omega
theorem ylt:∀ (L:List (List ByteArray)),(∀ ws∈L,3≤(z69 ws).size)→3*L.length≤(zbe L).size
 | [],_=>v0x _
 | ws :: L,h=>by
  have h1:=h ws (v09 ..);have ih:=ylt L fun x hx=>h x (v0b _ hx)
  rw [zbe,v0f,v03];omega
theorem yq1 (x:Nd):3≤(z69 (zzf x)).size:=by
 unfold zzf;cases x.lf with
 | true=>
  rw [z00]
  have:=zyu ztt [z0i x.v]
  have e:ztt.size=4:=rfl;omega
 | false=>
  rw [z01]
  have:=zyu ytc [z0n x.f,yuc,z0i x.a,yfx,z0n x.l,yg0,z0n x.r]
  have e:ytc.size=2:=rfl;omega
theorem yge:∀ (ts:List IV),∀ ws∈zgi ts,3≤(z69 ws).size
 | [],ws,h=>by cases h
 | t :: ts,ws,h=>by
  rw [zgi] at h;rcases v0o.1 h with h | h
  ·unfold y6o at h
   rcases v17.1 h with rfl | h
   ·have:=zyu zml [z0n (t.cell 0).toInt,z0n (ic (t.cell 1).toList.length)]
    have e:zml.size=4:=rfl;omega
   ·unfold ziw at h
    obtain ⟨w,_,rfl⟩:=List.mem_map.1 h;exact yq1 _
  ·exact yge ts ws h
theorem ys5 (m:Md):∀ ws∈yid m,3≤(z69 ws).size:=by
 intro ws h;unfold yid at h;simp only [v17,v1w,v3f] at h;rcases h with rfl | rfl
 ·have:=zyu zd4 [z0n m.d,z0n m.c]
  have e:zd4.size=6:=rfl;omega
 ·have:=zyu zgf (([m.b0,m.b1,m.b2].take m.c.toNat).map z0i)
  have e:zgf.size=4:=rfl;omega
theorem ztg:∀ (ts:List IV),(zgi ts).length=ts.length+ndN ts
 | []=>rfl
 | t :: ts=>by
  have ih:=ztg ts;unfold ndN at ih ⊢
  rw [zgi,v08,ih,v0d,v3t,v03];unfold y6o ziw zcm;rw [v03,v14];omega
theorem yne {m:Md} (h:z2g m=true):3*ndN m.ts≤(zos m).size:=by
 unfold zos;rw [h,z00]
 have:=ylt (yal m) fun ws hw=>by
  unfold yal at hw;rcases v0o.1 hw with hw | hw
  ·exact ys5 m ws hw
  ·exact yge m.ts ws hw
 unfold yal at this ⊢
 rw [v08,ztg] at this;omega
theorem y8n {s:ByteArray} (h:zak s=true):z2g (z7h s)=true:=by
 have hp:=y8m h;cases hm:z2g (z7h s) with
 | true=>rfl
 | false=>
  exfalso;unfold zos at hp;rw [hm,z01] at hp;unfold zak at h;rw [← hp] at h;simp at h
theorem ym7 {s:ByteArray} (h:zak s=true) (hs:s.size≤200):ndN (z7h s).ts≤66:=by
 have h1:=yne (y8n h);rw [y8m h] at h1;omega
theorem y6w {a:ByteArray} (hs:a.size≤200) (b:ByteArray):zfx a b (zy2 a b)=true:=by
 cases h:zak a with
 | true=>exact yir b fun x _ hx=>ynv (znk hx) (ysu (by have:=ym7 h hs; omega) _)
 | false=>
  unfold zfx zy2;rw [h,z01,z01];simp
open Go
open Go Go.Proofs
open Go
theorem yqe (i:Nat) (h:i≤9223372036854775807):(z0n (i:Int)).size≤21:=zey (by show -9223372036854775808≤_; omega) (by show _≤(9223372036854775807:Int); omega)
theorem yq7 (i:Nat) (h:i≤1000000000):(zer i).size≤28:=by
 have:=yqe i (by omega)
 unfold zer;rw [v0f,v0f];show 6+_+1≤28;omega
theorem yjs:∀ (vs:List Vd) (i:Nat),i+vs.length≤1000000000→(∀ v∈vs,v.rng)→(y6q i vs).size≤4000028*vs.length
 | [],_,_,_=>v0x _
 | v :: r,i,hi,h=>by
  have h1:=yac (h v (v09 ..));have h2:=yjs r (i+1) (by simp only [v03] at hi; omega) fun x hx=>h x (v0b _ hx)
  have h3:=yq7 i (by simp only [v03] at hi; omega)
  unfold y6q;rw [v0f,v0f,v03];omega
theorem ytu (a b:ByteArray) (h:(z33 b).length≤1000):(zy2 a b).size≤4000028*1000:=by
 cases ht:zak a with
 | false=>
  unfold zy2;rw [ht,z01];show 6≤_;omega
 | true=>
  rw [yjo ht]
  have:=yjs (zee (z7h a) (z33 b)) 0 (by unfold zee; rw [v14]; omega) fun v hv=>(zt2 _ _ v hv).2
  unfold zee at this;rw [v14] at this;unfold zee;omega
open Go Go.Proofs
def z04 (N:Nat):Env:=mkE [(17,z1s),(38,z3l),(71,z5b)] [(4,⟨[1,2,4,5,6,7],[2,500,501],[⟨.tmp 5,500,111,true,[.bool,.int .i64,.int .i64,.int .i64,.int .i64,.int .i64]⟩,⟨.tmp 6,501,3,false,[.int .i64]⟩]⟩),(14,⟨[4,11,100,101,102],[500,502],[⟨.tmp 11,502,103,false,[.int .u64]⟩]⟩)] 113 N
abbrev z2t (x1:Int) (n5 n6:Nat) (x7 u06:Int) (u00 u01 u02 u03 u04 u05:List IV):St:=⟨[(1,(.i x1)),(2,(.ptr 2 0 0)),(4,.zs),(5,(.row 500 0 n5)),(6,(.row 501 0 n6)),(7,(.i x7))],[(2,(some (.box [(.i u06),(.list false [(.int .i64)] u00),(.list false [(.int .i64)] u01),(.list false [(.int .i64)] u02),(.list false [(.int .i64)] u03)]))),(500,(some (.row true 111 true [.bool,(.int .i64),(.int .i64),(.int .i64),(.int .i64),(.int .i64)] u04))),(501,(some (.row true 3 false [(.int .i64)] u05)))]⟩
abbrev z3p (n11 n100:Nat) (x101 x102:Int) (u00 u01:List IV):St:=⟨[(4,.zs),(11,(.row 502 0 n11)),(100,(.row 500 0 n100)),(101,(.i x101)),(102,(.i x102))],[(500,(some (.row true 111 true [.bool,(.int .i64),(.int .i64),(.int .i64),(.int .i64),(.int .i64)] u00))),(502,(some (.row true 103 false [(.int .u64)] u01)))]⟩
theorem zid (N:Nat) (u00:Int) (u01 t_By t_At u02:List IV) (a1:Int):z0z (z04 N) z0l [.tmp 4] [[.list false [.int .u64]]] [(.agg [(.i u00),(.list false [.int .i64] u01),(.list false [.int .i64] t_By),(.list false [.int .i64] t_At),(.list false [.int .i64] u02)]),(.i a1)]=(lpE (z04 N) (z0f z0l [1,1,1,0,1,0,0]) ⟨[1,2,4,5,6,7],[2,500,501],[⟨(.tmp 5),500,111,true,[.bool,(.int .i64),(.int .i64),(.int .i64),(.int .i64),(.int .i64)]⟩,⟨(.tmp 6),501,3,false,[(.int .i64)]⟩]⟩ N (z2t a1 1 1 0 u00 u01 t_By t_At u02 [(IV.agg [IV.bool true,IV.int (z03 (z4z u02 0) (-3000) 3000),IV.int 0,IV.int 0,IV.int 0,IV.int 0])] [(IV.int 0)]) (z05 0 (kSq (z04 N) (z0f z0l [1,1,1,1]) (z2s (z04 N) none [(ResultVar.tmp 4)] [[(.list false [(.int .u64)])]])))):=by kernel_rfl
theorem za1 (N:Nat) (x1:Int) (n5 n6:Nat) (x7 u06:Int) (u00 u01 u02 u03 u04 u05:List IV) (again:St→Res) (k:Out→St→Res):rnd (z04 N) (z0f z0l [1,1,1,0,1,0,0]) (z2t x1 n5 n6 x7 u06 u00 u01 u02 u03 u04 u05) (z3t again ⟨[1,2,4,5,6,7],[2,500,501],[⟨(.tmp 5),500,111,true,[.bool,(.int .i64),(.int .i64),(.int .i64),(.int .i64),(.int .i64)]⟩,⟨(.tmp 6),501,3,false,[(.int .i64)]⟩]⟩ k)=(cond (decide (x7 < ic (List.length u00))) (cond (decide (x7 < 7)) (cond (decide (0≤x7)&&decide (x7 < ic (List.length u00))) (cond (decide (zcc 0 (IntKind.wrap IntKind.i64 (ic (n6 - 0) - 1))=0)) none (cond (decide (0≤z03 (IV.toInt (List.getD u00 (Int.toNat x7) default)) 0 (IntKind.wrap IntKind.i64 (ic (n6 - 0) - 1)))&&decide (z03 (IV.toInt (List.getD u00 (Int.toNat x7) default)) 0 (IntKind.wrap IntKind.i64 (ic (n6 - 0) - 1)) < ic (n6 - 0))) (cond (decide (0≤x7)) (cond (decide (zcc 0 (IntKind.wrap IntKind.i64 (x1 - 1))=0)) none (cond (decide (0≤x7)) (cond (decide (0≤IV.toInt (List.getD u05 (0+Int.toNat (z03 (IV.toInt (List.getD u00 (Int.toNat x7) default)) 0 (IntKind.wrap IntKind.i64 (ic (n6 - 0) - 1)))) default))&&decide (IV.toInt (List.getD u05 (0+Int.toNat (z03 (IV.toInt (List.getD u00 (Int.toNat x7) default)) 0 (IntKind.wrap IntKind.i64 (ic (n6 - 0) - 1)))) default) < ic (n5 - 0))) (cond (decide (0≤IntKind.wrap IntKind.i64 (IntKind.wrap IntKind.i64 (2*x7)+1))) (cond (decide (0≤IntKind.wrap IntKind.i64 (IntKind.wrap IntKind.i64 (2*x7)+2))) (cond (decide ((n5+List.length (List.drop 0 (List.take 2 [IV.agg [IV.bool true,IV.int (z03 (z4z u03 (IntKind.wrap IntKind.i64 (IntKind.wrap IntKind.i64 (2*x7)+1))) (-3000) 3000),IV.int 0,IV.int 0,IV.int 0,IV.int 0],IV.agg [IV.bool true,IV.int (z03 (z4z u03 (IntKind.wrap IntKind.i64 (IntKind.wrap IntKind.i64 (2*x7)+2))) (-3000) 3000),IV.int 0,IV.int 0,IV.int 0,IV.int 0]])))*TI.bytes (Env.tyd (z04 N) 111)≤z08)) (cond (decide (0≤z03 (IV.toInt (List.getD u00 (Int.toNat x7) default)) 0 (IntKind.wrap IntKind.i64 (ic (n6 - 0) - 1)))&&decide (z03 (IV.toInt (List.getD u00 (Int.toNat x7) default)) 0 (IntKind.wrap IntKind.i64 (ic (n6 - 0) - 1))≤ic (n6 - 0))) (cond (decide ((0+List.length (List.drop 0 (List.take (0+Int.toNat (z03 (IV.toInt (List.getD u00 (Int.toNat x7) default)) 0 (IntKind.wrap IntKind.i64 (ic (n6 - 0) - 1)))) u05)))*TI.bytes (Env.tyd (z04 N) 3)≤z08)) (cond (decide (0≤IntKind.wrap IntKind.i64 (z03 (IV.toInt (List.getD u00 (Int.toNat x7) default)) 0 (IntKind.wrap IntKind.i64 (ic (n6 - 0) - 1))+1))&&decide (IntKind.wrap IntKind.i64 (z03 (IV.toInt (List.getD u00 (Int.toNat x7) default)) 0 (IntKind.wrap IntKind.i64 (ic (n6 - 0) - 1))+1)≤ic (n6 - 0))) (cond (decide ((0+List.length (List.drop 0 (List.take (0+Int.toNat (z03 (IV.toInt (List.getD u00 (Int.toNat x7) default)) 0 (IntKind.wrap IntKind.i64 (ic (n6 - 0) - 1)))) u05))+List.length (List.drop (0+Int.toNat (IntKind.wrap IntKind.i64 (z03 (IV.toInt (List.getD u00 (Int.toNat x7) default)) 0 (IntKind.wrap IntKind.i64 (ic (n6 - 0) - 1))+1))) (List.take (0+(n6 - 0)) u05)))*TI.bytes (Env.tyd (z04 N) 3)≤z08)) (cond (decide ((0+List.length (List.drop 0 (List.take (0+Int.toNat (z03 (IV.toInt (List.getD u00 (Int.toNat x7) default)) 0 (IntKind.wrap IntKind.i64 (ic (n6 - 0) - 1)))) u05))+List.length (List.drop (0+Int.toNat (IntKind.wrap IntKind.i64 (z03 (IV.toInt (List.getD u00 (Int.toNat x7) default)) 0 (IntKind.wrap IntKind.i64 (ic (n6 - 0) - 1))+1))) (List.take (0+(n6 - 0)) u05))+List.length (List.drop 0 (List.take 2 [IV.int (ic (n5 - 0)),IV.int (IntKind.wrap IntKind.i64 (ic (n5 - 0)+1))])))*TI.bytes (Env.tyd (z04 N) 3)≤z08)) (again (z2t x1 (n5+List.length (List.drop 0 (List.take 2 [IV.agg [IV.bool true,IV.int (z03 (z4z u03 (IntKind.wrap IntKind.i64 (IntKind.wrap IntKind.i64 (2*x7)+1))) (-3000) 3000),IV.int 0,IV.int 0,IV.int 0,IV.int 0],IV.agg [IV.bool true,IV.int (z03 (z4z u03 (IntKind.wrap IntKind.i64 (IntKind.wrap IntKind.i64 (2*x7)+2))) (-3000) 3000),IV.int 0,IV.int 0,IV.int 0,IV.int 0]]))) (0+List.length (List.drop 0 (List.take (0+Int.toNat (z03 (IV.toInt (List.getD u00 (Int.toNat x7) default)) 0 (IntKind.wrap IntKind.i64 (ic (n6 - 0) - 1)))) u05))+List.length (List.drop (0+Int.toNat (IntKind.wrap IntKind.i64 (z03 (IV.toInt (List.getD u00 (Int.toNat x7) default)) 0 (IntKind.wrap IntKind.i64 (ic (n6 - 0) - 1))+1))) (List.take (0+(n6 - 0)) u05))+List.length (List.drop 0 (List.take 2 [IV.int (ic (n5 - 0)),IV.int (IntKind.wrap IntKind.i64 (ic (n5 - 0)+1))]))) (IntKind.wrap IntKind.i64 (x7+1)) u06 u00 u01 u02 u03 (List.take n5 (List.set u04 (0+Int.toNat (IV.toInt (List.getD u05 (0+Int.toNat (z03 (IV.toInt (List.getD u00 (Int.toNat x7) default)) 0 (IntKind.wrap IntKind.i64 (ic (n6 - 0) - 1)))) default))) (zqv true [Kd.bool,Kd.int IntKind.i64,Kd.int IntKind.i64,Kd.int IntKind.i64,Kd.int IntKind.i64,Kd.int IntKind.i64] (List.getD u04 (0+Int.toNat (IV.toInt (List.getD u05 (0+Int.toNat (z03 (IV.toInt (List.getD u00 (Int.toNat x7) default)) 0 (IntKind.wrap IntKind.i64 (ic (n6 - 0) - 1)))) default))) default) 0 [IV.bool false,IV.int 0,IV.int (z03 (z4z u01 x7) 0 (IntKind.wrap IntKind.i64 (x1 - 1))),IV.int (z03 (z4z u02 x7) 0 9),IV.int (ic (n5 - 0)),IV.int (IntKind.wrap IntKind.i64 (ic (n5 - 0)+1))]))++List.drop 0 (List.take 2 [IV.agg [IV.bool true,IV.int (z03 (z4z u03 (IntKind.wrap IntKind.i64 (IntKind.wrap IntKind.i64 (2*x7)+1))) (-3000) 3000),IV.int 0,IV.int 0,IV.int 0,IV.int 0],IV.agg [IV.bool true,IV.int (z03 (z4z u03 (IntKind.wrap IntKind.i64 (IntKind.wrap IntKind.i64 (2*x7)+2))) (-3000) 3000),IV.int 0,IV.int 0,IV.int 0,IV.int 0]])) (List.take (0+List.length (List.drop 0 (List.take (0+Int.toNat (z03 (IV.toInt (List.getD u00 (Int.toNat x7) default)) 0 (IntKind.wrap IntKind.i64 (ic (n6 - 0) - 1)))) u05))+List.length (List.drop (0+Int.toNat (IntKind.wrap IntKind.i64 (z03 (IV.toInt (List.getD u00 (Int.toNat x7) default)) 0 (IntKind.wrap IntKind.i64 (ic (n6 - 0) - 1))+1))) (List.take (0+(n6 - 0)) u05))) (List.take (0+List.length (List.drop 0 (List.take (0+Int.toNat (z03 (IV.toInt (List.getD u00 (Int.toNat x7) default)) 0 (IntKind.wrap IntKind.i64 (ic (n6 - 0) - 1)))) u05))) (List.take 0 []++List.drop 0 (List.take (0+Int.toNat (z03 (IV.toInt (List.getD u00 (Int.toNat x7) default)) 0 (IntKind.wrap IntKind.i64 (ic (n6 - 0) - 1)))) u05))++List.drop (0+Int.toNat (IntKind.wrap IntKind.i64 (z03 (IV.toInt (List.getD u00 (Int.toNat x7) default)) 0 (IntKind.wrap IntKind.i64 (ic (n6 - 0) - 1))+1))) (List.take (0+(n6 - 0)) u05))++List.drop 0 (List.take 2 [IV.int (ic (n5 - 0)),IV.int (IntKind.wrap IntKind.i64 (ic (n5 - 0)+1))])))) none) none) none) none) none) none) none) none) none) none)) none) none)) none) (k (.exit 0) (z2t x1 n5 n6 x7 u06 u00 u01 u02 u03 u04 u05))) (k (.exit 0) (z2t x1 n5 n6 x7 u06 u00 u01 u02 u03 u04 u05))):=by kernel_rfl
theorem zg3 (N:Nat) (x1:Int) (n5 n6:Nat) (x7 u06:Int) (u00 u01 u02 u03 u04 u05:List IV):(z05 0 (kSq (z04 N) (z0f z0l [1,1,1,1]) (z2s (z04 N) none [(ResultVar.tmp 4)] [[(.list false [(.int .u64)])]]))) (.exit 0) (z2t x1 n5 n6 x7 u06 u00 u01 u02 u03 u04 u05)=(lpE (z04 N) (z0f z0l [1,1,1,1,1,0,1,0,0]) ⟨[4,11,100,101,102],[500,502],[⟨(.tmp 11),502,103,false,[(.int .u64)]⟩]⟩ N (z3p 0 n5 (ic (n5 - 0)) 0 u04 []) (z05 2 (kSq (z04 N) (z0f z0l [1,1,1,1,1,1]) (z2s (z04 N) none [(ResultVar.tmp 4)] [[(.list false [(.int .u64)])]])))):=by kernel_rfl
theorem zaj (N n11 n100:Nat) (x101 x102:Int) (u00 u01:List IV) (again:St→Res) (k:Out→St→Res):rnd (z04 N) (z0f z0l [1,1,1,1,1,0,1,0,0]) (z3p n11 n100 x101 x102 u00 u01) (z3t again ⟨[4,11,100,101,102],[500,502],[⟨(.tmp 11),502,103,false,[(.int .u64)]⟩]⟩ k)=(cond (decide (x102 < x101)) (cond (decide (0≤x102)&&decide (x102 < ic (n100 - 0))) (cond (decide ((n11+List.length (List.drop 0 (List.take 1 [IV.int (zu0 (IV.toBool (IV.cell (List.getD u00 (0+Int.toNat x102) default) 0)) (IV.toInt (IV.cell (List.getD u00 (0+Int.toNat x102) default) 1)) (IV.toInt (IV.cell (List.getD u00 (0+Int.toNat x102) default) 2)) (IV.toInt (IV.cell (List.getD u00 (0+Int.toNat x102) default) 3)) (IV.toInt (IV.cell (List.getD u00 (0+Int.toNat x102) default) 4)) (IV.toInt (IV.cell (List.getD u00 (0+Int.toNat x102) default) 5)))])))*TI.bytes (Env.tyd (z04 N) 103)≤z08)) (again (z3p (n11+List.length (List.drop 0 (List.take 1 [IV.int (zu0 (IV.toBool (IV.cell (List.getD u00 (0+Int.toNat x102) default) 0)) (IV.toInt (IV.cell (List.getD u00 (0+Int.toNat x102) default) 1)) (IV.toInt (IV.cell (List.getD u00 (0+Int.toNat x102) default) 2)) (IV.toInt (IV.cell (List.getD u00 (0+Int.toNat x102) default) 3)) (IV.toInt (IV.cell (List.getD u00 (0+Int.toNat x102) default) 4)) (IV.toInt (IV.cell (List.getD u00 (0+Int.toNat x102) default) 5)))]))) n100 x101 (IntKind.wrap IntKind.i64 (x102+1)) u00 (List.take n11 u01++List.drop 0 (List.take 1 [IV.int (zu0 (IV.toBool (IV.cell (List.getD u00 (0+Int.toNat x102) default) 0)) (IV.toInt (IV.cell (List.getD u00 (0+Int.toNat x102) default) 1)) (IV.toInt (IV.cell (List.getD u00 (0+Int.toNat x102) default) 2)) (IV.toInt (IV.cell (List.getD u00 (0+Int.toNat x102) default) 3)) (IV.toInt (IV.cell (List.getD u00 (0+Int.toNat x102) default) 4)) (IV.toInt (IV.cell (List.getD u00 (0+Int.toNat x102) default) 5)))])))) none) none) (k (.exit 2) (z3p n11 n100 x101 x102 u00 u01))):=by kernel_rfl
theorem zf1 (N n11 n100:Nat) (x101 x102:Int) (u00 u01:List IV):(z05 2 (kSq (z04 N) (z0f z0l [1,1,1,1,1,1]) (z2s (z04 N) none [(ResultVar.tmp 4)] [[(.list false [(.int .u64)])]]))) (.exit 2) (z3p n11 n100 x101 x102 u00 u01)=(some ((.list false [(.int .u64)] (List.drop 0 (List.take n11 u01))),[])):=by kernel_rfl
open Go Go.Proofs
structure Ns.At (i:Nat) (s:Ns):Prop where
 nl:s.nodes.length=2*i+1
 ll:s.leaves.length=i+1
 lt:∀ x∈s.leaves,0≤x.toInt∧x.toInt < (2*i+1:Nat)
theorem ykl {part:List IV} {i:Nat} {s:Ns} (h:s.At i) (hi:i≤100):0≤nsK part i s∧nsK part i s < ((i+1:Nat):Int)∧zcc 0 (ic s.leaves.length - 1)=((i+1:Nat):Int):=by
 have e:ic s.leaves.length=((i+1:Nat):Int):=by rw [h.ll]
 obtain ⟨m,a,b⟩:=z8c (n:=(part.getD i default).toInt) (lo:=0) (hi:=ic s.leaves.length - 1) (by rw [e]; omega) (by omega) (by rw [e]; omega)
 unfold nsK;rw [e] at a b m ⊢
 exact ⟨a,by omega,by rw [m]; omega⟩
theorem yrv {part:List IV} {i:Nat} {s:Ns} (h:s.At i) (hi:i≤100):0≤yp9 part i s∧yp9 part i s < (2*i+1:Nat):=by
 obtain ⟨k0,k1,_⟩:=ykl (part:=part) h hi;have hk:(nsK part i s).toNat < s.leaves.length:=by rw [h.ll]; omega
 have e:s.leaves.getD (nsK part i s).toNat default=s.leaves[(nsK part i s).toNat]:=by simp [hk]
 unfold yp9;rw [e];exact h.lt _ (v1x hk)
theorem Ns.At.step {part byl atl val:List IV} {dim:Int} {i:Nat} {s:Ns} (h:s.At i) (hi:i≤100):(zek part byl atl val dim i s).At (i+1):=by
 obtain ⟨k0,k1,_⟩:=ykl (part:=part) h hi;refine ⟨?_,?_,?_⟩
 ·simp only [zek,v08,v2l,v03,v0i,h.nl]
  omega
 ·simp only [zek,v08,v0l,v1g,v03,v0i,h.ll]
  omega
 ·intro x hx
  simp only [zek,v0o] at hx;rcases hx with (hx | hx) | hx
  ·have:=h.lt x (v33 hx)
   omega
  ·have:=h.lt x (v32 hx)
   omega
  ·simp only [v17,v1w,v3f] at hx
   rcases hx with rfl | rfl
   ·simp only [IV.toInt,ic,h.nl]; omega
   ·simp only [IV.toInt,ic,h.nl]; omega
abbrev kN:List Kd:=[.bool,(.int .i64),(.int .i64),(.int .i64),(.int .i64),(.int .i64)]
abbrev kpN:KP:=⟨[1,2,4,5,6,7],[2,500,501],[⟨(.tmp 5),500,111,true,[.bool,(.int .i64),(.int .i64),(.int .i64),(.int .i64),(.int .i64)]⟩,⟨(.tmp 6),501,3,false,[(.int .i64)]⟩]⟩
abbrev stN (cl:Int) (part byl atl val:List IV) (dim:Int) (s:Ns) (i:Int):St:=
 ⟨[(1,(.int .i64 dim)),(2,(.ptr 2 0 0)),(4,.zs),(5,(.row 500 0 s.nodes.length)),(6,(.row 501 0 s.leaves.length)),(7,(.int .i64 i))],[(2,(some (.box [(.int .i64 cl),(.list false [(.int .i64)] part),(.list false [(.int .i64)] byl),(.list false [(.int .i64)] atl),(.list false [(.int .i64)] val)]))),(500,(some (.row true 111 true kN s.nodes))),(501,(some (.row true 3 false [(.int .i64)] s.leaves)))]⟩
theorem yhu (N:Nat):TI.bytes (Env.tyd (z04 N) 111)=48:=by rfl
theorem ylf (N:Nat):TI.bytes (Env.tyd (z04 N) 3)=8:=by rfl
theorem yve (x a b c d e f:IV):zqv true kN x 0 [a,b,c,d,e,f] = .agg [a,b,c,d,e,f]:=rfl
set_option maxHeartbeats 4000000 in
theorem ycl (N:Nat) (cl:Int) (part byl atl val:List IV) (dim:Int) (h1:1≤dim) (h4:dim≤4) (s:Ns) (i:Nat) (hs:s.At i) (hi:i < part.length) (h7:i < 7) (again:St→Res) (k:Out→St→Res) :
  rnd (z04 N) (z0f z0l [1,1,1,0,1,0,0]) (stN cl part byl atl val dim s (i:Int)) (z3t again kpN k)=again (stN cl part byl atl val dim (zek part byl atl val dim i s) ((i+1:Nat):Int)):=by
 refine (za1 N dim s.nodes.length s.leaves.length i cl part byl atl val s.nodes s.leaves again k).trans ?_;obtain ⟨k0,k1,km⟩:=ykl (part:=part) hs (by omega)
 obtain ⟨a0,a1⟩:=yrv (part:=part) hs (by omega)
 obtain ⟨dm,_,_⟩:=z8c (n:=0) (lo:=0) (hi:=dim - 1) (by omega) (by omega) (by omega)
 have eL:ic (s.leaves.length - 0)=ic s.leaves.length:=rfl;have eN:ic (s.nodes.length - 0)=ic s.nodes.length:=rfl;have hL:ic s.leaves.length=((i+1:Nat):Int):=by rw [hs.ll]
 have hN:ic s.nodes.length=((2*i+1:Nat):Int):=by rw [hs.nl]
 have w1:IntKind.wrap IntKind.i64 (ic s.leaves.length - 1)=ic s.leaves.length - 1:=z0s (by rw [hL]; omega) (by rw [hL]; omega)
 have w2:IntKind.wrap IntKind.i64 (dim - 1)=dim - 1:=z0s (by omega) (by omega)
 have w3:IntKind.wrap IntKind.i64 (2*(i:Int))=2*(i:Int):=z0s (by omega) (by omega)
 have w4:IntKind.wrap IntKind.i64 (2*(i:Int)+1)=2*(i:Int)+1:=z0s (by omega) (by omega)
 have w5:IntKind.wrap IntKind.i64 (2*(i:Int)+2)=2*(i:Int)+2:=z0s (by omega) (by omega)
 have w6:IntKind.wrap IntKind.i64 (ic s.nodes.length+1)=ic s.nodes.length+1:=z0s (by rw [hN]; omega) (by rw [hN]; omega)
 rw [eL,eN,w1,w2,w3,w4,w5,w6,v0g];have eK:z03 (IV.toInt (List.getD part i default)) 0 (ic s.leaves.length - 1)=nsK part i s:=rfl;rw [eK];have w7:IntKind.wrap IntKind.i64 (nsK part i s+1)=nsK part i s+1:=z0s (by omega) (by omega)
 rw [w7];have e0:∀ n:Nat,0+n=n:=v0p;simp only [e0];have eA:IV.toInt (List.getD s.leaves (nsK part i s).toNat default)=yp9 part i s:=rfl;rw [eA,yhu,ylf];obtain ⟨q,hq⟩:∃ q:Nat,nsK part i s=q:=⟨(nsK part i s).toNat,by omega⟩
 have eq1:(nsK part i s+1).toNat=q+1:=by omega
 have eq0:(nsK part i s).toNat=q:=by omega
 have hq1:q < i+1:=by omega
 have lt2:∀ x y:IV,(List.drop 0 (List.take 2 [x,y]))=[x,y]:=fun _ _=>rfl
 have lk:List.drop 0 (List.take q s.leaves)=List.take q s.leaves:=v0z;have lk2:List.drop (q+1) (List.take (s.leaves.length - 0) s.leaves)=List.drop (q+1) s.leaves:=by rw [v2v,v0q]
 rw [eq1,eq0,lt2,lt2,lk,lk2];have zA:(List.take q s.leaves).length=q:=by rw [v0l,hs.ll]; omega
 have zB:(List.drop (q+1) s.leaves).length=i - q:=by rw [v1g,hs.ll]; omega
 rw [zA,zB];simp only [v03,v0i];rw [v01 (show (i:Int) < ic part.length by simp only [ic]; omega),v01 (show (i:Int) < 7 by omega),v01 (show 0≤(i:Int) by omega),km,v05 (show ¬ ((i+1:Nat):Int)=0 by omega),
  v01 k0,v01 (show nsK part i s < ic s.leaves.length by rw [hL]; exact k1),dm,v05 (show ¬ (dim - 1 - 0+1=0) by omega),v01 a0,v01 (show yp9 part i s < ic s.nodes.length by rw [hN]; exact a1),
  v01 (show 0≤2*(i:Int)+1 by omega),v01 (show 0≤2*(i:Int)+2 by omega),v01 (show (s.nodes.length+(0+1+1))*48≤z08 by rw [hs.nl]; unfold z08; omega),
  v01 (show nsK part i s≤ic s.leaves.length by rw [hL]; omega),v01 (show q*8≤z08 by unfold z08; omega),v01 (show 0≤nsK part i s+1 by omega),v01 (show nsK part i s+1≤ic s.leaves.length by rw [hL]; omega),
  v01 (show (q+(i - q))*8≤z08 by unfold z08; omega),v01 (show (q+(i - q)+(0+1+1))*8≤z08 by unfold z08; omega)]
 simp only [v1d,z00,z01];have g1:(zek part byl atl val dim i s).nodes.length=s.nodes.length+(0+1+1):=by rw [(hs.step (by omega)).nl,hs.nl]; omega
 have g2:(zek part byl atl val dim i s).leaves.length=q+(i - q)+(0+1+1):=by rw [(hs.step (by omega)).ll]; omega
 have g3:(zek part byl atl val dim i s).nodes=List.take s.nodes.length (List.set s.nodes (yp9 part i s).toNat (zqv true kN (List.getD s.nodes (yp9 part i s).toNat default) 0 [IV.bool false,IV.int 0,IV.int (z03 (z4z byl (i:Int)) 0 (dim - 1)),IV.int (z03 (z4z atl (i:Int)) 0 9),IV.int (ic s.nodes.length),IV.int (ic s.nodes.length+1)])) ++
   [IV.agg [IV.bool true,IV.int (z03 (z4z val (2*(i:Int)+1)) (-3000) 3000),IV.int 0,IV.int 0,IV.int 0,IV.int 0],IV.agg [IV.bool true,IV.int (z03 (z4z val (2*(i:Int)+2)) (-3000) 3000),IV.int 0,IV.int 0,IV.int 0,IV.int 0]]:=by
  rw [yve,v13 (by rw [v2l]; exact v0a _)]
  rfl
 have g4:(zek part byl atl val dim i s).leaves=List.take (q+(i - q)) (List.take q (List.take 0 []++List.take q s.leaves)++List.drop (q+1) s.leaves)++[IV.int (ic s.nodes.length),IV.int (ic s.nodes.length+1)]:=by
  rw [List.take_zero,v29,v3u,Nat.min_self,v13 (by rw [v08,zA,zB]; exact v0a _)]
  show List.take (nsK part i s).toNat s.leaves++List.drop ((nsK part i s).toNat+1) s.leaves++_=_;rw [eq0]
 rw [show stN cl part byl atl val dim (zek part byl atl val dim i s) ((i+1:Nat):Int)=⟨[(1,(.int .i64 dim)),(2,(.ptr 2 0 0)),(4,.zs),(5,(.row 500 0 (zek part byl atl val dim i s).nodes.length)),(6,(.row 501 0 (zek part byl atl val dim i s).leaves.length)),(7,(.int .i64 ((i+1:Nat):Int)))],[(2,(some (.box [(.int .i64 cl),(.list false [(.int .i64)] part),(.list false [(.int .i64)] byl),(.list false [(.int .i64)] atl),(.list false [(.int .i64)] val)]))),(500,(some (.row true 111 true kN (zek part byl atl val dim i s).nodes))),(501,(some (.row true 3 false [(.int .i64)] (zek part byl atl val dim i s).leaves)))]⟩ from rfl,g1,g2,g3,g4,z7r (by omega)]
theorem yai (N:Nat) (cl:Int) (part byl atl val:List IV) (dim:Int) (h1:1≤dim) (h4:dim≤4) (K:Out→St→Res):∀ (d i n:Nat) (s:Ns),i+d=min part.length 7→d < n→s.At i →
  (∃ j,lpE (z04 N) (z0f z0l [1,1,1,0,1,0,0]) kpN n (stN cl part byl atl val dim s (i:Int)) K=K (.exit 0) (stN cl part byl atl val dim (ylg part byl atl val dim d i s) j))∧(ylg part byl atl val dim d i s).At (i+d)
 | 0,i,n+1,s,hd,hn,hs=>by
  refine ⟨⟨(i:Int),?_⟩,hs⟩;rw [z06];refine (za1 N dim s.nodes.length s.leaves.length i cl part byl atl val s.nodes s.leaves _ _).trans ?_
  by_cases hp:i < part.length
  ·rw [v01 (show (i:Int) < ic part.length by simp only [ic]; omega),z00,v05 (show ¬ (i:Int) < 7 by omega),z01]
   rfl
  ·rw [v05 (show ¬ (i:Int) < ic part.length by simp only [ic]; omega),z01]
   rfl
 | d+1,i,n+1,s,hd,hn,hs=>by
  obtain ⟨⟨j,ih⟩,ih2⟩:=yai N cl part byl atl val dim h1 h4 K d (i+1) n (zek part byl atl val dim i s) (by omega) (by omega) (hs.step (by omega))
  refine ⟨⟨j,?_⟩,by rw [show i+(d+1)=i+1+d by omega]; exact ih2⟩
  rw [z06,ycl N cl part byl atl val dim h1 h4 s i hs (by omega) (by omega)]
  exact ih
 | _,_,0,_,_,h,_=>by omega
theorem ykn (N:Nat):TI.bytes (Env.tyd (z04 N) 103)=8:=by rfl
abbrev kpO:KP:=⟨[4,11,100,101,102],[500,502],[⟨(.tmp 11),502,103,false,[(.int .u64)]⟩]⟩
theorem ymj (N:Nat) (L:List IV) (hL:L.length≤1000):∀ (d i n:Nat) (O:List IV),i+d=L.length→d < n→O.length=i →
  lpE (z04 N) (z0f z0l [1,1,1,1,1,0,1,0,0]) kpO n ⟨[(4,.zs),(11,(.row 502 0 O.length)),(100,(.row 500 0 L.length)),(101,(.int .i64 (ic (L.length - 0)))),(102,(.int .i64 (i:Int)))],[(500,(some (.row true 111 true kN L))),(502,(some (.row true 103 false [(.int .u64)] O)))]⟩
   (z05 2 (kSq (z04 N) (z0f z0l [1,1,1,1,1,1]) (z2s (z04 N) none [(ResultVar.tmp 4)] [[(.list false [(.int .u64)])]])))=some (.list false [.int .u64] (O++(L.drop i).map yrx),[])
 | 0,i,n+1,O,hd,hn,hO=>by
  rw [z06];refine (zaj N O.length L.length (ic (L.length - 0)) i L O _ _).trans ?_;rw [v05 (show ¬ (i:Int) < ic (L.length - 0) by simp only [ic]; omega),z01]
  refine (zf1 N O.length L.length (ic (L.length - 0)) i L O).trans ?_;rw [v0z,v0q,v1i (by omega),v16,v2a]
 | d+1,i,n+1,O,hd,hn,hO=>by
  have hi:i < L.length:=by omega
  rw [z06];refine (zaj N O.length L.length (ic (L.length - 0)) i L O _ _).trans ?_;have ih:=ymj N L hL d (i+1) n (O++[yrx L[i]]) (by omega) (by omega) (by simp [hO])
  have l1:∀ x:IV,List.drop 0 (List.take 1 [x])=[x]:=fun _=>rfl
  have eg:List.getD L (0+Int.toNat (i:Int)) default=L[i]:=by rw [v0p,v0g]; simp [hi]
  rw [v01 (show (i:Int) < ic (L.length - 0) by simp only [ic]; omega),v01 (show 0≤(i:Int) by omega),v1d,z00,z00,eg,l1,ykn,v1j,v01 (show (O.length+1)*8≤z08 by rw [hO]; unfold z08; omega),z00,v0q,z7r (by omega)]
  rw [v0m hi,v0d];rw [v08,v1j,v2w] at ih;exact ih
 | _,_,0,_,_,h,_=>by omega
theorem zh4:z32 PR B0 39 z4h:=by
 refine z0h [(17,z1s),(38,z3l),(71,z5b)] [(4,kpN),(14,kpO)] z4h [[.list false [.int .u64]]] Tryz.func39 zjo
  ⟨z79,zbz,zgq,trivial⟩ ?_
 intro vs r hwf h;unfold z4h at h
 split at h
 ·rename_i cl part byl atl val dim
  cases hc:(decide (1≤dim)&&decide (dim≤4)) with
  | false=>rw [hc] at h; simp [R.get] at h
  | true=>
   rw [hc,R.get_br,z00,R.get_ok] at h;simp only [v02,v07] at hc;refine ⟨30,?_⟩;rw [← h];refine (zid 30 cl part byl atl val dim).trans ?_;have h0:(⟨[yl1 (z03 (z4z val 0) (-3000) 3000)],[.int 0]⟩:Ns).At 0:=⟨rfl,rfl,fun x hx=>by
    rw [v1v] at hx;subst hx;exact ⟨by decide,by decide⟩⟩
   obtain ⟨⟨j,run⟩,hat⟩:=yai 30 cl part byl atl val dim hc.1 hc.2 (z05 0 (kSq (z04 30) (z0f z0l [1,1,1,1]) (z2s (z04 30) none [(ResultVar.tmp 4)] [[(.list false [(.int .u64)])]]))) (min part.length 7) 0 30 _ (by omega) (by omega) h0
   refine run.trans ?_;have e:ylg part byl atl val dim (min part.length 7) 0 ⟨[yl1 (z03 (z4z val 0) (-3000) 3000)],[.int 0]⟩=ztf part byl atl val dim:=rfl;rw [e] at hat ⊢
   have hn:=hat.nl;refine (zg3 30 dim (ztf part byl atl val dim).nodes.length (ztf part byl atl val dim).leaves.length j cl part byl atl val (ztf part byl atl val dim).nodes (ztf part byl atl val dim).leaves).trans ?_
   have:=ymj 30 (ztf part byl atl val dim).nodes (by omega) (ztf part byl atl val dim).nodes.length 0 30 [] (by omega) (by omega) rfl
   rw [v0z,v29] at this;exact this
 ·simp [R.get] at h
open Go Go.Proofs
def z0a (N:Nat):Env:=mkE [(17,z1s),(39,z4h),(38,z3l)] [(3,⟨[1,2,3,14,15],[1,2,3],[]⟩),(8,⟨[1,2,3,5],[1,2,3,500],[⟨.cell 3 5,500,88,true,[.int .i64,.list false [.int .u64]]⟩]⟩)] 63 N
abbrev z1q (x14 x15 u02 u03:Int) (u00 u01:List IV) (u04 u05 u06 u07 u08 u09 u0a u0b u0c u0d:Int):St:=⟨[(1,(.ptr 1 0 0)),(2,(.ptr 2 0 0)),(3,(.ptr 3 0 0)),(14,(.i x14)),(15,(.i x15))],[(1,(some (.box [(.i u02),(.i u03),(.list false [(.int .i64)] u00),(.list true [(.int .i64),(.list false [(.int .i64)]),(.list false [(.int .i64)]),(.list false [(.int .i64)]),(.list false [(.int .i64)])] u01)]))),(2,(some (.box [(.i u04),(.i u05),(.i u06),(.i u07),(.i u08),.zs]))),(3,(some (.box [(.i u09),(.i u0a),(.i u0b),(.i u0c),(.i u0d),.zs])))]⟩
abbrev z2h (x5 u04 u05:Int) (u00 u01:List IV) (u06 u07 u08 u09 u0a u0b u0c u0d u0e u0f:Int) (u03:Nat) (u02:List IV):St:=⟨[(1,(.ptr 1 0 0)),(2,(.ptr 2 0 0)),(3,(.ptr 3 0 0)),(5,(.i x5))],[(1,(some (.box [(.i u04),(.i u05),(.list false [(.int .i64)] u00),(.list true [(.int .i64),(.list false [(.int .i64)]),(.list false [(.int .i64)]),(.list false [(.int .i64)]),(.list false [(.int .i64)])] u01)]))),(2,(some (.box [(.i u06),(.i u07),(.i u08),(.i u09),(.i u0a),.zs]))),(3,(some (.box [(.i u0b),(.i u0c),(.i u0d),(.i u0e),(.i u0f),(.row 500 0 u03)]))),(500,(some (.row true 88 true [(.int .i64),(.list false [(.int .u64)])] u02)))]⟩
theorem zgt (N:Nat) (u02 u01:Int) (u00 u03:List IV):z0z (z0a N) z0k [.cell 2 30] [[.int .i64,.int .i64,.int .i64,.int .i64,.int .i64,.list true [.int .i64,.list false [.int .u64]]]] [(.agg [(.i u02),(.i u01),(.list false [.int .i64] u00),(.list true [.int .i64,.list false [.int .i64],.list false [.int .i64],.list false [.int .i64],.list false [.int .i64]] u03)])]=(lpE (z0a N) (z0f z0k [1,1,0,1,0,0]) ⟨[1,2,3,14,15],[1,2,3],[]⟩ N (z1q (z03 u01 1 3) 0 u02 u01 u00 u03 0 0 0 0 0 (z03 u02 1 3) (z03 u01 1 3) 0 0 0) (z05 0 (kSq (z0a N) (z0f z0k [1,1,1]) (z2s (z0a N) none [(ResultVar.cell 2 30)] [[(.int .i64),(.int .i64),(.int .i64),(.int .i64),(.int .i64),(.list true [(.int .i64),(.list false [(.int .u64)])])]])))):=by kernel_rfl
theorem z9j (N:Nat) (x14 x15 u02 u03:Int) (u00 u01:List IV) (u04 u05 u06 u07 u08 u09 u0a u0b u0c u0d:Int) (again:St→Res) (k:Out→St→Res):rnd (z0a N) (z0f z0k [1,1,0,1,0,0]) (z1q x14 x15 u02 u03 u00 u01 u04 u05 u06 u07 u08 u09 u0a u0b u0c u0d) (z3t again ⟨[1,2,3,14,15],[1,2,3],[]⟩ k)=(cond (decide (x15 < x14)) (cond (decide (0≤x15)) (cond (decide (x15=ic 0)) (again (z1q x14 (IntKind.wrap IntKind.i64 (x15+1)) u02 u03 u00 u01 u04 u05 u06 u07 u08 u09 u0a (z03 (z4z u00 x15) (-500) 500) u0c u0d)) (cond (decide (x15=ic 1)) (again (z1q x14 (IntKind.wrap IntKind.i64 (x15+1)) u02 u03 u00 u01 u04 u05 u06 u07 u08 u09 u0a u0b (z03 (z4z u00 x15) (-500) 500) u0d)) (cond (decide (x15=ic 2)) (again (z1q x14 (IntKind.wrap IntKind.i64 (x15+1)) u02 u03 u00 u01 u04 u05 u06 u07 u08 u09 u0a u0b u0c (z03 (z4z u00 x15) (-500) 500))) none))) none) (k (.exit 0) (z1q x14 x15 u02 u03 u00 u01 u04 u05 u06 u07 u08 u09 u0a u0b u0c u0d))):=by kernel_rfl
theorem zeh (N:Nat) (x14 x15 u02 u03:Int) (u00 u01:List IV) (u04 u05 u06 u07 u08 u09 u0a u0b u0c u0d:Int):(z05 0 (kSq (z0a N) (z0f z0k [1,1,1]) (z2s (z0a N) none [(ResultVar.cell 2 30)] [[(.int .i64),(.int .i64),(.int .i64),(.int .i64),(.int .i64),(.list true [(.int .i64),(.list false [(.int .u64)])])]]))) (.exit 0) (z1q x14 x15 u02 u03 u00 u01 u04 u05 u06 u07 u08 u09 u0a u0b u0c u0d)=(lpE (z0a N) (z0f z0k [1,1,1,0,1,0,0]) ⟨[1,2,3,5],[1,2,3,500],[⟨(.cell 3 5),500,88,true,[(.int .i64),(.list false [(.int .u64)])]⟩]⟩ N (z2h 0 u02 u03 u00 u01 u04 u05 u06 u07 u08 u09 u0a u0b u0c u0d 0 []) (z05 2 (kSq (z0a N) (z0f z0k [1,1,1,1]) (z2s (z0a N) none [(ResultVar.cell 2 30)] [[(.int .i64),(.int .i64),(.int .i64),(.int .i64),(.int .i64),(.list true [(.int .i64),(.list false [(.int .u64)])])]])))):=by kernel_rfl
theorem z9c (N:Nat) (x5 u04 u05:Int) (u00 u01:List IV) (u06 u07 u08 u09 u0a u0b u0c u0d u0e u0f:Int) (u03:Nat) (u02:List IV) (again:St→Res) (k:Out→St→Res):rnd (z0a N) (z0f z0k [1,1,1,0,1,0,0]) (z2h x5 u04 u05 u00 u01 u06 u07 u08 u09 u0a u0b u0c u0d u0e u0f u03 u02) (z3t again ⟨[1,2,3,5],[1,2,3,500],[⟨(.cell 3 5),500,88,true,[(.int .i64),(.list false [(.int .u64)])]⟩]⟩ k)=(cond (decide (x5 < ic (List.length u01))) (cond (decide (x5 < 4)) (cond (decide (0≤x5)&&decide (x5 < ic (List.length u01))) (cond (decide (zcc 0 (IntKind.wrap IntKind.i64 (u0c - 1))=0)) none (cond (decide (0≤x5)&&decide (x5 < ic (List.length u01))) (cond (decide (1≤u0b)&&decide (u0b≤4)) (cond (decide ((u03+List.length (List.drop 0 (List.take 1 [IV.agg [IV.int (z03 (IV.toInt (IV.cell (List.getD u01 (Int.toNat x5) default) 0)) 0 (IntKind.wrap IntKind.i64 (u0c - 1))),IV.list (y2e (IV.toList (IV.cell (List.getD u01 (Int.toNat x5) default) 1)) (IV.toList (IV.cell (List.getD u01 (Int.toNat x5) default) 2)) (IV.toList (IV.cell (List.getD u01 (Int.toNat x5) default) 3)) (IV.toList (IV.cell (List.getD u01 (Int.toNat x5) default) 4)) u0b)]])))*TI.bytes (Env.tyd (z0a N) 88)≤z08)) (again (z2h (IntKind.wrap IntKind.i64 (x5+1)) u04 u05 u00 u01 u06 u07 u08 u09 u0a u0b u0c u0d u0e u0f (u03+List.length (List.drop 0 (List.take 1 [IV.agg [IV.int (z03 (IV.toInt (IV.cell (List.getD u01 (Int.toNat x5) default) 0)) 0 (IntKind.wrap IntKind.i64 (u0c - 1))),IV.list (y2e (IV.toList (IV.cell (List.getD u01 (Int.toNat x5) default) 1)) (IV.toList (IV.cell (List.getD u01 (Int.toNat x5) default) 2)) (IV.toList (IV.cell (List.getD u01 (Int.toNat x5) default) 3)) (IV.toList (IV.cell (List.getD u01 (Int.toNat x5) default) 4)) u0b)]]))) (List.take u03 u02++List.drop 0 (List.take 1 [IV.agg [IV.int (z03 (IV.toInt (IV.cell (List.getD u01 (Int.toNat x5) default) 0)) 0 (IntKind.wrap IntKind.i64 (u0c - 1))),IV.list (y2e (IV.toList (IV.cell (List.getD u01 (Int.toNat x5) default) 1)) (IV.toList (IV.cell (List.getD u01 (Int.toNat x5) default) 2)) (IV.toList (IV.cell (List.getD u01 (Int.toNat x5) default) 3)) (IV.toList (IV.cell (List.getD u01 (Int.toNat x5) default) 4)) u0b)]])))) none) none) none)) none) (k (.exit 2) (z2h x5 u04 u05 u00 u01 u06 u07 u08 u09 u0a u0b u0c u0d u0e u0f u03 u02))) (k (.exit 2) (z2h x5 u04 u05 u00 u01 u06 u07 u08 u09 u0a u0b u0c u0d u0e u0f u03 u02))):=by kernel_rfl
theorem zeb (N:Nat) (x5 u04 u05:Int) (u00 u01:List IV) (u06 u07 u08 u09 u0a u0b u0c u0d u0e u0f:Int) (u03:Nat) (u02:List IV):(z05 2 (kSq (z0a N) (z0f z0k [1,1,1,1]) (z2s (z0a N) none [(ResultVar.cell 2 30)] [[(.int .i64),(.int .i64),(.int .i64),(.int .i64),(.int .i64),(.list true [(.int .i64),(.list false [(.int .u64)])])]]))) (.exit 2) (z2h x5 u04 u05 u00 u01 u06 u07 u08 u09 u0a u0b u0c u0d u0e u0f u03 u02)=(some ((.agg [(.i u0b),(.i u0c),(.i u0d),(.i u0e),(.i u0f),(.list true [(.int .i64),(.list false [(.int .u64)])] (List.drop 0 (List.take u03 u02)))]),[])):=by kernel_rfl
open Go Go.Proofs
abbrev kT5:List Kd:=[(.int .i64),(.list false [(.int .i64)]),(.list false [(.int .i64)]),(.list false [(.int .i64)]),(.list false [(.int .i64)])]
def bF (bias:List IV) (j:Int):Int:=z03 (z4z bias j) (-500) 500
abbrev yv4 (d c:Int) (bias ts:List IV):Ob:=.box [(.int .i64 d),(.int .i64 c),(.list false [(.int .i64)] bias),(.list true kT5 ts)]
abbrev yuo:Ob:=.box [(.int .i64 0),(.int .i64 0),(.int .i64 0),(.int .i64 0),(.int .i64 0),.zs]
abbrev stB (d c:Int) (bias ts:List IV) (D C:Int) (i:Nat) (x:Int):St:=
 ⟨[(1,(.ptr 1 0 0)),(2,(.ptr 2 0 0)),(3,(.ptr 3 0 0)),(14,(.int .i64 C)),(15,(.int .i64 x))],[(1,(some (yv4 d c bias ts))),(2,(some yuo)),(3,(some (.box [(.int .i64 D),(.int .i64 C),(.int .i64 (cond (Nat.blt 0 i) (bF bias 0) 0)),(.int .i64 (cond (Nat.blt 1 i) (bF bias 1) 0)),(.int .i64 (cond (Nat.blt 2 i) (bF bias 2) 0)),.zs])))]⟩
theorem ygf (N:Nat) (d c:Int) (bias ts:List IV) (D:Int) (C:Nat) (hC:C≤3) (K:Out→St→Res):∀ (m i n:Nat),i+m=C→m < n →
  lpE (z0a N) (z0f z0k [1,1,0,1,0,0]) ⟨[1,2,3,14,15],[1,2,3],[]⟩ n (stB d c bias ts D C i (i:Int)) K=K (.exit 0) (stB d c bias ts D C C (C:Int))
 | 0,i,n+1,hd,hn=>by
  have hi:i=C:=by omega
  subst hi;rw [z06];refine (z9j N i i d c bias ts 0 0 0 0 0 D i (cond (Nat.blt 0 i) (bF bias 0) 0) (cond (Nat.blt 1 i) (bF bias 1) 0) (cond (Nat.blt 2 i) (bF bias 2) 0) _ _).trans ?_;rw [v05 (show ¬ (i:Int) < (i:Int) by omega),z01]
 | m+1,i,n+1,hd,hn=>by
  rw [z06];refine (z9j N C i d c bias ts 0 0 0 0 0 D C (cond (Nat.blt 0 i) (bF bias 0) 0) (cond (Nat.blt 1 i) (bF bias 1) 0) (cond (Nat.blt 2 i) (bF bias 2) 0) _ _).trans ?_;have ih:=ygf N d c bias ts D C hC K m (i+1) n (by omega) (by omega)
  rw [v01 (show (i:Int) < (C:Int) by omega),z00,v01 (show 0≤(i:Int) by omega),z00,z7r (by omega)]
  have hi4:i=0∨i=1∨i=2:=by omega
  rcases hi4 with rfl | rfl | rfl
  ·rw [show decide (((0:Nat):Int)=ic 0)=true from rfl,z00]
   exact ih
  ·rw [show decide (((1:Nat):Int)=ic 0)=false from rfl,show decide (((1:Nat):Int)=ic 1)=true from rfl,z01,z00]
   exact ih
  ·rw [show decide (((2:Nat):Int)=ic 0)=false from rfl,show decide (((2:Nat):Int)=ic 1)=false from rfl,show decide (((2:Nat):Int)=ic 2)=true from rfl,z01,z01,z00]
   exact ih
 | _,_,0,_,h=>by omega
abbrev kMT:List Kd:=[(.int .i64),(.list false [(.int .u64)])]
abbrev kpM:KP:=⟨[1,2,3,5],[1,2,3,500],[⟨(.cell 3 5),500,88,true,[(.int .i64),(.list false [(.int .u64)])]⟩]⟩
abbrev stM (d c:Int) (bias ts:List IV) (D C b0 b1 b2:Int) (O:List IV) (x:Int):St:=
 ⟨[(1,(.ptr 1 0 0)),(2,(.ptr 2 0 0)),(3,(.ptr 3 0 0)),(5,(.int .i64 x))],[(1,(some (yv4 d c bias ts))),(2,(some yuo)),(3,(some (.box [(.int .i64 D),(.int .i64 C),(.int .i64 b0),(.int .i64 b1),(.int .i64 b2),(.row 500 0 O.length)]))),(500,(some (.row true 88 true kMT O)))]⟩
def ydq (D C:Int) (t:IV):IV:=.agg [.int (z03 (t.cell 0).toInt 0 (C - 1)),.list (y2e (t.cell 1).toList (t.cell 2).toList (t.cell 3).toList (t.cell 4).toList D)]
theorem yhg (N:Nat):TI.bytes (Env.tyd (z0a N) 88)=32:=by rfl
theorem y9t (N:Nat) (d c:Int) (bias ts:List IV) (D C b0 b1 b2:Int) (hD:1≤D∧D≤4) (hC:1≤C∧C≤3):∀ (m i n:Nat) (O:List IV),i+m=min ts.length 4→m < n→O.length=i →
  lpE (z0a N) (z0f z0k [1,1,1,0,1,0,0]) kpM n (stM d c bias ts D C b0 b1 b2 O (i:Int)) (z05 2 (kSq (z0a N) (z0f z0k [1,1,1,1]) (z2s (z0a N) none [(ResultVar.cell 2 30)] [[(.int .i64),(.int .i64),(.int .i64),(.int .i64),(.int .i64),(.list true [(.int .i64),(.list false [(.int .u64)])])]]))) =
   some (.agg [.int .i64 D,.int .i64 C,.int .i64 b0,.int .i64 b1,.int .i64 b2,.list true kMT (O++((ts.take 4).drop i).map (ydq D C))],[])
 | 0,i,n+1,O,hd,hn,hO=>by
  have fin:(z05 2 (kSq (z0a N) (z0f z0k [1,1,1,1]) (z2s (z0a N) none [(ResultVar.cell 2 30)] [[(.int .i64),(.int .i64),(.int .i64),(.int .i64),(.int .i64),(.list true [(.int .i64),(.list false [(.int .u64)])])]]))) (.exit 2) (stM d c bias ts D C b0 b1 b2 O (i:Int))=some (.agg [.int .i64 D,.int .i64 C,.int .i64 b0,.int .i64 b1,.int .i64 b2,.list true kMT (O++((ts.take 4).drop i).map (ydq D C))],[]):=by
   refine (zeb N i d c bias ts 0 0 0 0 0 D C b0 b1 b2 O.length O).trans ?_;rw [v0z,v0q,v1i (by rw [v0l]; omega),v16,v2a]
  rw [z06];refine (z9c N i d c bias ts 0 0 0 0 0 D C b0 b1 b2 O.length O _ _).trans ?_
  by_cases hp:i < ts.length
  ·rw [v01 (show (i:Int) < ic ts.length by simp only [ic]; omega),z00,v05 (show ¬ (i:Int) < 4 by omega),z01]
   exact fin
  ·rw [v05 (show ¬ (i:Int) < ic ts.length by simp only [ic]; omega),z01]
   exact fin
 | m+1,i,n+1,O,hd,hn,hO=>by
  have hi:i < ts.length:=by omega
  rw [z06];refine (z9c N i d c bias ts 0 0 0 0 0 D C b0 b1 b2 O.length O _ _).trans ?_;have l1:∀ x:IV,List.drop 0 (List.take 1 [x])=[x]:=fun _=>rfl
  have eg:List.getD ts (Int.toNat (i:Int)) default=ts[i]:=by rw [v0g]; simp [hi]
  have w1:IntKind.wrap IntKind.i64 (C - 1)=C - 1:=z0s (by omega) (by omega)
  obtain ⟨m1,_,_⟩:=z8c (n:=0) (lo:=0) (hi:=C - 1) (by omega) (by omega) (by omega)
  have ih:=y9t N d c bias ts D C b0 b1 b2 hD hC m (i+1) n (O++[ydq D C ts[i]]) (by omega) (by omega) (by simp [hO])
  rw [v01 (show (i:Int) < ic ts.length by simp only [ic]; omega),v01 (show (i:Int) < 4 by omega),v01 (show 0≤(i:Int) by omega),w1,m1,v05 (show ¬ (C - 1 - 0+1=0) by omega),v01 hD.1,v01 hD.2,eg,l1,yhg,v1j,
   v01 (show (O.length+1)*32≤z08 by rw [hO]; unfold z08; omega),v0q,z7r (by omega)]
  simp only [v1d,z00,z01];have ed:(ts.take 4).drop i=ts[i] :: (ts.take 4).drop (i+1):=by
   have h4:i < (ts.take 4).length:=by rw [v0l]; omega
   rw [v0m h4]
   congr 1
   rw [List.getElem_take]
  rw [ed,v0d];rw [v2w] at ih;have eL:(O++[ydq D C ts[i]]).length=O.length+1:=by simp
  rw [show stM d c bias ts D C b0 b1 b2 (O++[ydq D C ts[i]]) ((i+1:Nat):Int)=⟨[(1,(.ptr 1 0 0)),(2,(.ptr 2 0 0)),(3,(.ptr 3 0 0)),(5,(.int .i64 ((i+1:Nat):Int)))],[(1,(some (yv4 d c bias ts))),(2,(some yuo)),(3,(some (.box [(.int .i64 D),(.int .i64 C),(.int .i64 b0),(.int .i64 b1),(.int .i64 b2),(.row 500 0 (O++[ydq D C ts[i]]).length)]))),(500,(some (.row true 88 true kMT (O++[ydq D C ts[i]]))))]⟩ from rfl,eL] at ih
  exact ih
 | _,_,0,_,_,h,_=>by omega
theorem zg8:z32 PR B0 15 z54:=by
 refine z0h [(17,z1s),(39,z4h),(38,z3l)] [(3,⟨[1,2,3,14,15],[1,2,3],[]⟩),(8,kpM)] z54 [[.int .i64,.int .i64,.int .i64,.int .i64,.int .i64,.list true [.int .i64,.list false [.int .u64]]]] Tryz.func15 zhj
  ⟨z79,zh4,zbz,trivial⟩ ?_
 intro vs r hwf h;unfold z54 at h
 split at h
 ·rename_i d c bias ts
  refine ⟨20,?_⟩;rw [R.get_ok] at h;rw [← h];refine (zgt 20 d c bias ts).trans ?_;obtain ⟨_,d1,d2⟩:=z8c (n:=d) (lo:=1) (hi:=3) (by omega) (by omega) (by omega)
  obtain ⟨_,c1,c2⟩:=z8c (n:=c) (lo:=1) (hi:=3) (by omega) (by omega) (by omega)
  unfold ykt yt6 yd1 yst yu7;generalize z03 d 1 3=D at d1 d2;generalize z03 c 1 3=C' at c1 c2;obtain ⟨C,rfl⟩:∃ C:Nat,C'=C:=⟨C'.toNat,by omega⟩
  refine (ygf 20 d c bias ts D C (by omega) _ C 0 20 (by omega) (by omega)).trans ?_
  refine (zeh 20 C C d c bias ts 0 0 0 0 0 D C (cond (Nat.blt 0 C) (bF bias 0) 0) (cond (Nat.blt 1 C) (bF bias 1) 0) (cond (Nat.blt 2 C) (bF bias 2) 0)).trans ?_;refine (y9t 20 d c bias ts D C _ _ _ ⟨d1,by omega⟩ ⟨c1,by omega⟩ (min ts.length 4) 0 20 [] (by omega) (by omega) rfl).trans ?_
  rw [v0z,v29];have hC:C=1∨C=2∨C=3:=by omega
  rcases hC with rfl | rfl | rfl <;> rfl
 ·simp [R.get] at h
open Go Go.Proofs
def zuo (N:Nat):Env:=mkE [(26,z4n),(28,z7b),(22,z8u),(35,z95),(20,z99)] [] 31 N
theorem zrz (N:Nat):z0z (zuo N) zix [.tmp 0] [[.bool]] []=(some ((.bool true),[])):=by kernel_rfl
open Go Go.Proofs
def zrf (N:Nat):Env:=mkE [(71,z5b)] [] 14 N
theorem zok (N:Nat):z0z (zrf N) zhg [.cell 0 30] [[.int .i64,.int .i64,.int .i64,.int .i64,.int .i64,.list true [.int .i64,.list false [.int .u64]]]] []=(some ((.agg [(.i 1),(.i 1),(.i 3),(.i 0),(.i 0),(.list true zns [(IV.agg [IV.int 0,IV.list [IV.int (zu0 false 0 0 5 1 2),IV.int (zu0 true 10 0 0 0 0),IV.int (zu0 true 20 0 0 0 0)]])])]),[])):=by kernel_rfl
open Go Go.Proofs
theorem zo2:z32 PR B0 28 z7b:=by
 refine z0h [(71,z5b)] [] z7b [[.int .i64,.int .i64,.int .i64,.int .i64,.int .i64,.list true [.int .i64,.list false [.int .u64]]]] Tryz.func28 zrx ⟨zgq,trivial⟩ ?_;intro vs r hwf h;unfold z7b at h
 split at h
 ·skip
  rw [R.get_ok] at h;refine ⟨0,(zok 0).trans ?_⟩;rw [← h]
  rfl
 ·simp [R.get] at h
theorem zqj:z32 PR B0 27 z8f:=by
 refine z0h [(26,z4n),(28,z7b),(22,z8u),(35,z95),(20,z99)] [] z8f [[.bool]] Tryz.func27 zu2 ⟨ze9,zo2,zmq,zmn,zmx,trivial⟩ ?_;intro vs r hwf h;unfold z8f at h
 split at h
 ·skip
  rw [R.get_ok] at h;refine ⟨0,(zrz 0).trans ?_⟩;rw [← h]
 ·simp [R.get] at h
open Go Go.Proofs
def zjx (N:Nat):Env:=mkE [(29,za5),(27,z8f),(22,z8u),(19,z6h),(16,z4u),(15,z3n)] [] 55 N
theorem zjn (N:Nat) (u00 u01 u02:ByteArray):z0z (zjx N) ze1 [.tmp 6] [[.bool]] [(.str u00),(.str u01),(.str u02)]=(cond (decide (0≤min (ic (ByteArray.size u00)) 200)&&decide (min (ic (ByteArray.size u00)) 200≤ic (ByteArray.size u00))) (cond (decide (0≤min (ic (ByteArray.size u01)) 200)&&decide (min (ic (ByteArray.size u01)) 200≤ic (ByteArray.size u01))) (cond (decide (0≤min (ic (ByteArray.size u02)) 200)&&decide (min (ic (ByteArray.size u02)) 200≤ic (ByteArray.size u02))) (cond (decide (ByteArray.size (ByteArray.extract u00 0 (Int.toNat (min (ic (ByteArray.size u00)) 200))) < 4294967281)&&(decide (ByteArray.size (ByteArray.extract u01 0 (Int.toNat (min (ic (ByteArray.size u01)) 200))) < 4294967281)&&decide (ByteArray.size (zy2 (ByteArray.extract u00 0 (Int.toNat (min (ic (ByteArray.size u00)) 200))) (ByteArray.extract u01 0 (Int.toNat (min (ic (ByteArray.size u01)) 200))))≤strMax))) (cond (decide (ByteArray.size (ByteArray.extract u00 0 (Int.toNat (min (ic (ByteArray.size u00)) 200))) < 4294967281)) (cond (!zak (ByteArray.extract u00 0 (Int.toNat (min (ic (ByteArray.size u00)) 200)))) (cond (!ByteArray.toList (zy2 (ByteArray.extract u00 0 (Int.toNat (min (ic (ByteArray.size u00)) 200))) (ByteArray.extract u01 0 (Int.toNat (min (ic (ByteArray.size u01)) 200))))==ByteArray.toList {data:=#[109,111,100,101,108,10]}) (some ((.bool false),[])) (cond (decide (ByteArray.size (ByteArray.extract u00 0 (Int.toNat (min (ic (ByteArray.size u00)) 200))) < 4294967281)&&(decide (ByteArray.size (ByteArray.extract u01 0 (Int.toNat (min (ic (ByteArray.size u01)) 200))) < 4294967281)&&decide (ByteArray.size (ByteArray.extract u02 0 (Int.toNat (min (ic (ByteArray.size u02)) 200))) < 4294967281))) (cond (!zfx (ByteArray.extract u00 0 (Int.toNat (min (ic (ByteArray.size u00)) 200))) (ByteArray.extract u01 0 (Int.toNat (min (ic (ByteArray.size u01)) 200))) (ByteArray.extract u02 0 (Int.toNat (min (ic (ByteArray.size u02)) 200)))==(ByteArray.toList (ByteArray.extract u02 0 (Int.toNat (min (ic (ByteArray.size u02)) 200)))==ByteArray.toList {data:=#[109,111,100,101,108,10]})) (some ((.bool false),[])) (cond (decide (ByteArray.size (ByteArray.extract u00 0 (Int.toNat (min (ic (ByteArray.size u00)) 200))) < 4294967281)&&(decide (ByteArray.size (ByteArray.extract u01 0 (Int.toNat (min (ic (ByteArray.size u01)) 200))) < 4294967281)&&decide (ByteArray.size (zy2 (ByteArray.extract u00 0 (Int.toNat (min (ic (ByteArray.size u00)) 200))) (ByteArray.extract u01 0 (Int.toNat (min (ic (ByteArray.size u01)) 200)))) < 4294967281))) (cond (zfx (ByteArray.extract u00 0 (Int.toNat (min (ic (ByteArray.size u00)) 200))) (ByteArray.extract u01 0 (Int.toNat (min (ic (ByteArray.size u01)) 200))) (zy2 (ByteArray.extract u00 0 (Int.toNat (min (ic (ByteArray.size u00)) 200))) (ByteArray.extract u01 0 (Int.toNat (min (ic (ByteArray.size u01)) 200))))) (some ((.bool true),[])) (some ((.bool false),[]))) none)) none)) (cond (decide (ByteArray.size (ByteArray.extract u00 0 (Int.toNat (min (ic (ByteArray.size u00)) 200))) < 4294967281)&&(decide (ByteArray.size (ByteArray.extract u01 0 (Int.toNat (min (ic (ByteArray.size u01)) 200))) < 4294967281)&&decide (ByteArray.size (zy2 (ByteArray.extract u00 0 (Int.toNat (min (ic (ByteArray.size u00)) 200))) (ByteArray.extract u01 0 (Int.toNat (min (ic (ByteArray.size u01)) 200)))) < 4294967281))) (cond (zfx (ByteArray.extract u00 0 (Int.toNat (min (ic (ByteArray.size u00)) 200))) (ByteArray.extract u01 0 (Int.toNat (min (ic (ByteArray.size u01)) 200))) (zy2 (ByteArray.extract u00 0 (Int.toNat (min (ic (ByteArray.size u00)) 200))) (ByteArray.extract u01 0 (Int.toNat (min (ic (ByteArray.size u01)) 200))))) (some ((.bool true),[])) (some ((.bool false),[]))) none)) none) none) none) none) none):=by kernel_rfl
open Go Go.Proofs
theorem zfn:z32 PR B0 15 z3n:=Snd.mono zg8 fun _ _ h=>ymd h
theorem zhb:z32 PR B0 16 z4u:=Snd.mono zik fun _ _ h=>yl4 h
theorem yc5 (s:ByteArray) (k:Nat):(min (ic s.size) (k:Int)).toNat=min s.size k∧(decide (0≤min (ic s.size) (k:Int))&&decide (min (ic s.size) (k:Int)≤ic s.size))=true∧(s.extract 0 (min (ic s.size) (k:Int)).toNat).size≤k:=by
 have e:(min (ic s.size) (k:Int)).toNat=min s.size k:=by simp only [ic]; omega
 refine ⟨e,?_,?_⟩
 ·rw [v01 (show 0≤min (ic s.size) (k:Int) by simp only [ic]; omega),v01 (show min (ic s.size) (k:Int)≤ic s.size by omega)]
  rfl
 ·rw [v2q]
  omega
theorem zig:z32 PR B0 13 z8z:=by
 refine z0h [(29,za5),(27,z8f),(22,z8u),(19,z6h),(16,z4u),(15,z3n)] [] z8z [[.bool]] Tryz.func13 zl8 ⟨zur,zqj,zmq,zgu,zhb,zfn,trivial⟩ ?_;intro vs r hwf h;unfold z8z at h
 split at h
 ·rename_i a b c
  rw [R.get_ok] at h;refine ⟨0,(zjn 0 a b c).trans ?_⟩;rw [← h];obtain ⟨_,a1,a2⟩:=yc5 a 200;obtain ⟨_,b1,b2⟩:=yc5 b 200;obtain ⟨_,c1,c2⟩:=yc5 c 200;rw [show ((200:Nat):Int)=200 from rfl] at a1 a2 b1 b2 c1 c2
  rw [a1,b1,c1,z00,z00,z00];generalize a.extract 0 (min (ic a.size) 200).toNat=A at a2 ⊢
  generalize b.extract 0 (min (ic b.size) 200).toNat=B at b2 ⊢
  generalize c.extract 0 (min (ic c.size) 200).toNat=C at c2 ⊢
  have hl:=y1g B;have hz:=ytu A B (by omega)
  have hrep:=y6w a2 B;have e1:decide (A.size < 4294967281)=true:=v01 (by omega)
  have e2:decide (B.size < 4294967281)=true:=v01 (by omega)
  have e3:decide (C.size < 4294967281)=true:=v01 (by omega)
  have e4:decide ((zy2 A B).size≤strMax)=true:=v01 (by unfold strMax; omega)
  have e5:decide ((zy2 A B).size < 4294967281)=true:=v01 (by omega)
  rw [e1,e2,e3,e4,e5,hrep];cases ht:zak A with
  | true=>rfl
  | false=>
   have hr:zy2 A B=zkz:=by unfold zy2; rw [ht]; rfl
   have hf:zfx A B C=(C.toList==zkz.toList):=by unfold zfx; rw [ht]; rfl
   rw [hr,hf];show cond _ (cond (!(zkz.toList==zkz.toList)) _ (cond _ (cond (!((C.toList==zkz.toList)==(C.toList==zkz.toList))) _ _) _)) _=_;rw [v2f,v2f]
   rfl
 ·simp [R.get] at h
open Go Go.Proofs Go.RowKit
theorem zvt {P:Program} {w:World} {name:String} {g:Nat} {cs:Array Value} (hn:P.globalNamed name=some g) (hv:w.var? P name=some cs):∃ T fr,w.heap[g]?=some (.cells cs T fr):=by
 unfold World.var? at hv;rw [hn] at hv;simp only [Option.bind_some] at hv
 split at hv
 ·rename_i c T fr hh
  simp only [v00] at hv;subst hv;exact ⟨T,fr,hh⟩
 ·cases hv
theorem yfh {w:World} {name:String} {g t:Nat} {ms:Array (String × TypeId)} {tn:String} {d:DataW Unit} (h:Lib.VarReads Tryz.prog w name (.iface tn d)) (hn:Tryz.prog.globalNamed name=some g)
  (ht:(Tryz.prog.globals[g]?).map (·.type)=some t) (hu:Tryz.prog.underlying t=some (.interface ms)):∃ c T fr te pe,w.heap[g]?=some (.cells c T fr)∧c[0]?=some (.iface te pe):=by
 obtain ⟨g',t',cs,fuel,p,h1,h2,h3,h4⟩:=h;obtain rfl:=v1p (hn.symm.trans h1);obtain rfl:=v1p (ht.symm.trans h2);obtain ⟨f',u,v,hcs,_,_⟩:=iface_of_trod hu h4;obtain ⟨T,fr,hh⟩:=zvt hn h3;refine ⟨cs,T,fr,u,v,hh,?_⟩
 have:cs = #[.iface u v]:=by
  apply Array.ext';rw [hcs]
 rw [this]
 rfl
theorem yoo {W:World} {l:List (String × DataW Unit)} (hL:laidMet Tryz.prog l W) (hsh:W.ShapedOpen Tryz.prog)
  (hp:("internal/strconv.uint64pow10", Lib.tabData .u64 Lib.pow10Tab)∈l)
  {n1:String} {d1:DataW Unit} (h1:("strconv.ErrRange", .iface n1 d1)∈l)
  {n2:String} {d2:DataW Unit} (h2:("strconv.ErrSyntax", .iface n2 d2)∈l)
  : Glob B0 W:=by
 have hz:∀ g,g < 4→g < Tryz.prog.globals.size→g < W.heap.size:=fun g _ hg=>by
  have hb:((List.range Tryz.prog.globals.size).all fun g=>(((begin Tryz.prog (fun _ _=>0) default).world.heap[g]?).bind Obj.row?).isSome)=true:=by kernel_rfl
  have:=v35.1 hb g (List.mem_range.2 hg)
  obtain ⟨⟨z,t⟩,hz⟩:=Option.isSome_iff_exists.1 this;obtain ⟨cs,hh,_⟩:=hsh.1 g z t hg hz;exact (Array.getElem?_eq_some_iff.1 hh).1
 have hsize:4≤W.heap.size:=by
  first
  | exact v0x _
  | (
    have:=hz (4 - 1) (by decide) (v0c (by kernel_rfl))
    omega)
 have low:∀ {g:Nat},g < 4→(fun b=>if b < B0.ng then W.heap[b]? else none) g=W.heap[g]?:=fun h=>v1b (show _ < B0.ng from h)
 refine ⟨hsize,?_⟩;show GF _;constructor
 first | exact trivial | skip
 case gm=>
  obtain ⟨m,hm⟩:=cell_of_shapedOpen_int (P:=Tryz.prog) (g:=1) (t:=3) (zero:=#[.int .i64 0]) hsh (v0c (by kernel_rfl)) (by kernel_rfl) rfl (by kernel_rfl) (by kernel_rfl) Tryz.underlying3
  simp only [World.cell?] at hm
  split at hm
  ·rename_i c T fr' hh
   exact ⟨c,T,fr',m,(low (by decide)).trans hh,hm⟩
  ·cases hm
 case gp=>
  have gp:Tryz.prog.globalNamed "internal/strconv.uint64pow10" = some 0:=by kernel_rfl
  obtain ⟨g',t',cp,fuel,p,e1,e2,e3,e4⟩:=Lib.laidMet.reads hL hp;obtain rfl:=v1p (gp.symm.trans e1);obtain ⟨T,fr',hh⟩:=zvt gp e3;refine ⟨T,fr',(low (by decide)).trans ?_⟩
  rw [hh];have et:(Tryz.prog.globals[0]?).map (·.type)=some 262:=by kernel_rfl
  obtain rfl:=v1p (et.symm.trans e2)
  have:=Lib.cells_of_tab (e:=103) (n:=20) (by kernel_rfl) (by kernel_rfl) (by kernel_rfl) (by kernel_rfl) e4
  congr 1
  congr 1
  apply Array.ext';exact this
 case gs=>
  obtain ⟨cs,Ts,fs,tes,pes,hs1,hs2⟩:=yfh (g:=2) (Lib.laidMet.reads hL h2) (by kernel_rfl) (show _=some 120 by kernel_rfl) Tryz.underlying120
  exact ⟨cs,Ts,fs,tes,pes,(low (by decide)).trans hs1,hs2⟩
 case gr=>
  obtain ⟨cr,Tr,fr,ter,per,hr1,hr2⟩:=yfh (g:=3) (Lib.laidMet.reads hL h1) (by kernel_rfl) (show _=some 120 by kernel_rfl) Tryz.underlying120
  exact ⟨cr,Tr,fr,ter,per,(low (by decide)).trans hr1,hr2⟩
def X0:Zone:=⟨fun _=>False,fun _=>False⟩
def γ0:Nat→Value:=fun _=>.nilIface
abbrev O0:Nat→Prop:=z0c X0 γ0 []
theorem yv2 (b:Nat):¬ O0 b:=by
 rintro (⟨n,ob,h,_⟩ | h)
 ·simp [z09,lkd] at h
 ·exact h
theorem yv9 (W:World):Rel B0.base 0 W X0 γ0 ⟨[],[]⟩ y2a W:=by
 have no:∀ n ob,z09 ([]:Store) n≠some ob:=fun n ob h=>by simp [z09,lkd] at h
 refine ⟨rfl,rfl,fun i=>by simp only [St.get,lkd,VRel],fun n ob h=>absurd h (no n ob),fun b h=>?_,fun n m ob ob' b _ h=>absurd h (no n ob),Keep.refl _ _,fun b h=>?_,fun b h=>h.elim,fun p _ ob h=>absurd h (no _ ob)⟩
 ·obtain ⟨n,ob,h,_⟩:=h
  exact absurd h (no n ob)
 ·obtain ⟨n,ob,h,_⟩:=h
  exact absurd h (no n ob)
theorem y4h {f:Nat} {fn:Func} (hf:PR.funcs[f]?=some fn) (hn:(fn.name == "runtime.NumGoroutine")=false) (hb:fn.body.isNone=false) {xs:List Value} {w:World} {R:Ending→World→Prop} (h:Does PR f xs w R):Calls PR f xs.toArray w R:=by
 have:(callFunc f xs.toArray).run PR w = .ok (.enter f xs.toArray) w:=by
  unfold callFunc;have hn':¬ fn.name = "runtime.NumGoroutine":=by simpa using hn
  have hb':¬ fn.body=none:=fun h=>by rw [h] at hb; cases hb
  simp [hf,hn',hb']
 unfold Does at h;rw [this] at h;exact h
theorem ygx {f:Nat} {fn:Func} {sp:z0o} (hS:z32 PR B0 f sp) (hf:PR.funcs[f]?=some fn) (hn:(fn.name == "runtime.NumGoroutine")=false) (hb:fn.body.isNone=false) {vs:List V} {xs:List Value} {W:World}
  (hsp:(sp vs).get=some (.bool true,[])) (hbor:z82 vs=none) (hG:Glob B0 W) (hV:VRels γ0 [] W O0 (vs.map zab) xs) :
  Calls PR f xs.toArray W fun e w'=>e = .returned (.bool true)∧Below W.heap.size W w':=by
 refine y4h hf hn hb ?_;have em:zeu vs=[]:=by unfold zeu; rw [hbor]
 refine Does.mono (hS W X0 γ0 vs xs (.bool true) [] hsp hG (fun b h=>h.elim) (by rw [em]; exact yv9 W) (by rw [em]; exact hV)) ?_
 rintro e w' ⟨x,rfl,γ',hR,hx,_⟩
 simp only [yd8,zab,VRel] at hx;subst hx;exact ⟨rfl,hR.keep.os,hR.keep.tape,hR.keep.output,hR.keep.size,fun b hb=>hR.keep.block b hb (fun h=>h)⟩
end Go.FM
