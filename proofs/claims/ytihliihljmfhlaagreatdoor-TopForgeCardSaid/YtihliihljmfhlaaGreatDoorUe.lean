/-
  A small machine that reckons what a call comes to; the functions of the program, one by one. (GOALS AND CUTS: plain law: what is closed is not broken; a b, A FOREST AND AN ASK OF NUMBERS, AS STRUCTURES: what copsekee, SEARCHES, IN PLAIN LEAN: boxes that stay right; each step de, and so on.)
-/
import Derived.Test.YtihliihljmfhlaaGreatDoorUd
set_option linter.all false
set_option maxRecDepth 100000
open Array renaming length_toList→CQ,toList_append→vak
open Bool renaming and_eq_true→AI,not_true→A1,not_false→A6,true_and→BC,false_and→BM,and_self→BY,not_eq_true'→B5,and_true→CJ,and_false→vaq,false_or→vaw,or_eq_true→vaz,eq_iff_iff→va3
open ByteArray renaming size→AG,toList→AX,size_append→A3,empty→CG,append_assoc→vah,extract→vaP,size_push→va4,size_extract→vbd
open Go.IntKind renaming wrap→AA,i64→AB
open Go.Lib renaming decDigits→CI,indexByte→vat
open Go.ResultVar renaming tmp→CD,cell→va5
open Int renaming toNat→AD,toNat_natCast→BE,le_refl→DA
open List renaming length→AF,getD→AH,take→AK,length_cons→AN,drop→AO,mem_cons_self→AR,mem_cons→AS,length_append→AU,mem_append→AV,mem_cons_of_mem→AY,map_cons→AZ,map→A2,getElem?_eq_getElem→A5,length_take→A7,length_nil→BB,drop_eq_getElem_cons→BF,take_length→BI,getElem?_eq_some_iff→BL,length_map→BQ,getD_eq_getElem?_getD→BS,getElem?_eq_none→BU,not_mem_nil→BW,mem_singleton→BX,drop_zero→BZ,getElem?_cons_zero→B2,getElem?_map→B9,map_nil→CC,mem_map→CN,getElem?_take→CR,all_eq_true→CS,getElem?_cons_succ→CV,take_of_length_le→CX,length_drop→CY,length_singleton→CZ,drop_of_length_le→C2,cons_append→C3,getElem_mem→C4,size_toArray→C9,append_nil→DB,mem_of_getElem?→vab,nil_append→vac,drop_length→vad,mem_of_mem_take→vag,flatMap_cons→vai,append_assoc→var,getElem?_append→vax,mem_of_mem_drop→vay,range→vaE,length_set→vaI,all_cons→vaM,eq_nil_of_length_eq_zero→vaX,mem_range→va6,sum_cons→vbb,isPrefixOf→vbr
open List.cons renaming injEq→vaB
open Nat renaming le_of_ble_eq_true→AM,le_refl→AW,zero_add→BJ,blt→BK,ble→B6,zero_le→B7,le_trans→CW,lt_or_ge→vaa,sub_zero→vaj,add_assoc→vaG,le_mul_of_pos_right→vaK,succ_mul→vaR
open Option renaming getD→vav
open Option.some renaming injEq→AC,inj→B3
open Prod.mk renaming injEq→AQ
namespace Go.FM
open Go
theorem Z3 {m:Md} (hm:EP m=true) {t:IV} (ht:t∈m.ts):GK (E5 t) 4=true:=by
 have h:=LT hm;exact zjg (Nz (CS.1 h.2.2.2.2 t ht)).2 h.1.2
theorem tS (g:LI→Int) (k:Int) (p:Pt):∀ (ts:LI) (s s':Int),(∀ t∈ts,g (E5 t)≤G1 (E5 t) p)→s≤s'→IW g k ts s≤PW k p ts s'
 | [],_,_,_,h=>h
 | t :: r,s,s',hg,h=>by
  rw [IW,PW];have h1:=hg t (AR ..);refine tS g k p r _ _ (fun u hu=>hg u (AY _ hu)) ?_;cases (U0 t==k) <;> simp only [B1,BG] <;> omega
theorem tQ (g:LI→Int) (k:Int) (p:Pt):∀ (ts:LI) (s s':Int),(∀ t∈ts,G1 (E5 t) p≤g (E5 t))→s'≤s→PW k p ts s'≤IW g k ts s
 | [],_,_,_,h=>h
 | t :: r,s,s',hg,h=>by
  rw [IW,PW];have h1:=hg t (AR ..);refine tQ g k p r _ _ (fun u hu=>hg u (AY _ hu)) ?_;cases (U0 t==k) <;> simp only [B1,BG] <;> omega
theorem sI {m:Md} {k:Int} {b:Bx} (h:GP m k b=true):EP m=true∧HX m k=true∧b.emp=false:=by
 unfold GP at h;simp only [AI,B5] at h;exact h
theorem Ba {m:Md} {k:Int} (hm:EP m=true) (hk:HX m k=true) (p:Pt):EN m k p=PW k p m.ts (LD m k):=by
 unfold EN;rw [hm,hk];rfl
theorem ZS {m:Md} {k:Int} {b:Bx} (h:GP m k b=true) (hok:b.ok) {p:Pt} {t:Int} (hh:b.has p t=true):D5 m k b≤EN m k p∧EN m k p≤D3 m k b:=by
 obtain ⟨hm,hk,hb⟩:=sI h;unfold D5 D3;rw [h,DE,DE,Ba hm hk];exact ⟨tS _ k p m.ts _ _ (fun t ht=>((XV (Z3 hm ht) hb hok).1 p _ hh).1) (DA _),tQ _ k p m.ts _ _ (fun t ht=>((XV (Z3 hm ht) hb hok).1 p _ hh).2) (DA _)⟩
theorem zg7 {m:Md} {k:Int} {b:Bx} (h:GP m k b=true) (hok:b.ok) {p:Pt} {t:Int} (hh:b.has p t=true) (hc:∀ u∈m.ts,∀ p' t',b.has p' t'=true→G1 (E5 u) p'=G1 (E5 u) p):D5 m k b=EN m k p∧D3 m k b=EN m k p:=by
 obtain ⟨hm,hk,hb⟩:=sI h;have h1:=ZS h hok hh;have h2:EN m k p≤D5 m k b∧D3 m k b≤EN m k p:=by
  unfold D5 D3;rw [h,DE,DE,Ba hm hk];refine ⟨tQ _ k p m.ts _ _ (fun u hu=>?_) (DA _),tS _ k p m.ts _ _ (fun u hu=>?_) (DA _)⟩
  ·obtain ⟨_,⟨p',t',q1,q2⟩,_⟩:=XV (Z3 hm hu) hb hok;rw [← hc u hu p' t' q1];exact Int.le_of_eq q2
  ·obtain ⟨_,_,⟨p',t',q1,q2⟩⟩:=XV (Z3 hm hu) hb hok;rw [← hc u hu p' t' q1];exact Int.le_of_eq q2.symm
 omega
theorem nV {x:Int}:∀ {l:List Int} {p:Int},x∈l→x=p∨x∈JX p l
 | y :: r,p,h=>by
  rw [JX];cases hb:(y==p) with
  | true=>
   have hb:=B8.1 hb;rw [DE];rcases AS.1 h with h | h
   ·exact .inl (h.trans hb)
   ·rcases nV (p:=y) h with h1 | h1
    ·exact .inl (h1.trans hb)
    ·exact .inr h1
  | false=>
   rw [DG];rcases AS.1 h with h | h
   ·exact .inr (h ▸ AR ..)
   ·rcases nV (p:=y) h with h1 | h1
    ·exact .inr (h1 ▸ AR ..)
    ·exact .inr (AY _ h1)
theorem Vn {x:Int} {l:List Int} (h:x∈l):x∈I2 l:=by
 cases l with
 | nil=>cases h
 | cons y r=>
  rw [I2];rcases AS.1 h with h | h
  ·exact h ▸ AR ..
  ·rcases nV (p:=y) h with h1 | h1
   ·exact h1 ▸ AR ..
   ·exact AY _ h1
theorem zi9 {ts:LI} {f a:Int}:a∈I7 ts f↔∃ t∈ts,∃ w∈E5 t,(DH w.toInt).lf=false∧(DH w.toInt).f=f∧(DH w.toInt).a=a:=by
 have e:a∈I7 ts f↔a∈IA ts f:=by
  unfold I7;exact ⟨fun h=>(S2 _).mem_iff.1 (zP h),fun h=>Vn ((S2 _).mem_iff.2 h)⟩
 rw [e];unfold IA;simp only [List.mem_flatMap];constructor
 ·rintro ⟨t,ht,w,hw,h⟩;unfold IX at h;cases hc:(!(DH w.toInt).lf&&(DH w.toInt).f==f) with
  | false=>rw [hc,DG] at h; cases h
  | true=>
   rw [hc,DE] at h;simp only [AI,B5,B8] at hc;exact ⟨t,ht,w,hw,hc.1,hc.2,(BX.1 h).symm⟩
 ·rintro ⟨t,ht,w,hw,h1,h2,h3⟩;refine ⟨t,ht,w,hw,?_⟩;unfold IX;rw [h1,h2,va2];exact BX.2 h3.symm
def Y2 (m:Md) (s:Sp) (f:Int):Prop:=∀ a∈I7 m.ts f,¬ (s.lo≤a∧a < s.hi)
theorem zcz {lo hi a:Int} {l:List Int}:a∈KY lo hi l↔a∈l∧lo≤a∧a < hi:=by
 unfold KY;rw [List.mem_filter];simp only [B5,Bool.or_eq_false_iff,BV];constructor
 ·rintro ⟨h,h1,h2⟩; exact ⟨h,by omega,by omega⟩
 ·rintro ⟨h,h1,h2⟩; exact ⟨h,by omega,by omega⟩
theorem dY {m:Md} {q:Qy} {b:Bx} {i:Nat} {a:Int}:a∈E2 m q b i↔0≤H6 q (i:Int)∧a∈I7 m.ts (H6 q (i:Int))∧(b.g i).lo≤a∧a < (b.g i).hi:=by
 unfold E2;cases hd:decide (H6 q (i:Int) < 0) with
 | true=>
  have:=A0 hd
  rw [DE];constructor
  ·intro h; cases h
  ·rintro ⟨h,_⟩; omega
 | false=>
  have:=BH hd
  rw [DG,zcz];constructor
  ·intro h; exact ⟨by omega,h⟩
  ·exact fun h=>h.2
theorem Bo {m:Md} {q:Qy} {b:Bx} {i:Nat} (h:E2 m q b i=[]) (hf:0≤H6 q (i:Int)):Y2 m (b.g i) (H6 q (i:Int)):=by
 intro a ha hr
 have:a∈E2 m q b i:=dY.2 ⟨hf,ha,hr⟩
 rw [h] at this;cases this
theorem oS {q:Qy} {i:Nat} (hi:i < 4):H6 q (i:Int)=(i:Int):=by
 unfold H6;rw [AE (show (i:Int)≥0 by omega),AE (show (i:Int) < 4 by omega)];rfl
theorem uE {l:LI} {p p':Pt} (h:∀ w∈l,F6 w.toInt=true→(DH w.toInt).lf=false→(p.g (DH w.toInt).f.toNat≤(DH w.toInt).a↔p'.g (DH w.toInt).f.toNat≤(DH w.toInt).a)):∀ (n:Nat) (a:Int),IF l p n a=IF l p' n a
 | 0,_=>rfl
 | n+1,a=>by
  rw [IF,IF];cases decide (a≥ic l.length) with
  | true=>rfl
  | false=>
   rw [DG,DG];by_cases hlt:a.toNat < l.length
   ·have hw:l.getD a.toNat default∈l:=by rw [eE hlt]; exact C4 hlt
    generalize l.getD a.toNat default=w at hw ⊢;cases hb:F6 w.toInt with
    | false=>rfl
    | true=>
     rw [A1,DG,DG];cases hl:(DH w.toInt).lf with
     | true=>rfl
     | false=>
      have:=h w hw hb hl
      have ed:decide (p.g (DH w.toInt).f.toNat≤(DH w.toInt).a)=decide (p'.g (DH w.toInt).f.toNat≤(DH w.toInt).a):=by
       rw [va3,AP,AP];exact this
      rw [DG,DG,ed,uE h n _,uE h n _]
   ·have e:l.getD a.toNat default=default:=by
     rw [BS,BU (by omega)];rfl
    rw [e];rfl
theorem Zx {m:Md} {b:Bx} (hf:∀ f:Nat,f < 4→Y2 m (b.g f) (f:Int)) {u:IV} (hu:u∈m.ts) {p p':Pt} {t t':Int} (h:b.has p t=true) (h':b.has p' t'=true):G1 (E5 u) p'=G1 (E5 u) p:=by
 unfold G1 jI;rw [uE (p:=p') (p':=p) fun w hw hb hl=>?_];obtain ⟨⟨f0,f4⟩,_⟩:=qP hb hl;have ef:(DH w.toInt).f=(((DH w.toInt).f.toNat:Nat):Int):=by omega
 have hlt:(DH w.toInt).f.toNat < 4:=by omega
 have h1:=LX.1 (NS.1 h _ (show (DH w.toInt).f.toNat < 5 by omega));have h2:=LX.1 (NS.1 h' _ (show (DH w.toInt).f.toNat < 5 by omega));rw [dX _ _ hlt] at h1 h2;have h3:=hf _ hlt (DH w.toInt).a (zi9.2 ⟨u,hu,w,hw,hl,ef,rfl⟩);omega
theorem f5 {m:Md} {k:Int} {b:Bx} (h:GP m k b=true) (hok:b.ok) (hf:∀ f:Nat,f < 4→Y2 m (b.g f) (f:Int)) {p:Pt} {t:Int} (hh:b.has p t=true):D5 m k b=EN m k p∧D3 m k b=EN m k p:=
 zg7 h hok hh fun _ hu _ _ h'=>Zx hf hu hh h'
theorem qB {m:Md} {c lo:Int} {b:Bx}:∀ (d:Nat) (i a:Int) (z:Bool),(0 < Q9 m c lo b d i a z↔(z=true∨∃ j:Nat,j < d∧i+j≠c)∧(z=true→0 < a)∧∀ j:Nat,j < d→i+j≠c→D3 m (i+j) b < lo)∨(z=false∧∀ j:Nat,j < d→i+j=c)
 | 0,i,a,z=>by
  cases z with
  | false=>exact .inr ⟨rfl,fun j hj=>absurd hj (Nat.not_lt_zero j)⟩
  | true=>
   refine .inl ?_;rw [Q9];exact ⟨fun h=>⟨.inl rfl,fun _=>h,fun j hj=>absurd hj (Nat.not_lt_zero j)⟩,fun h=>h.2.1 rfl⟩
 | d+1,i,a,z=>by
  rw [Q9];have sh:∀ j:Nat,i+1+(j:Int)=i+((j+1:Nat):Int):=fun j=>by omega
  cases hc:(i==c) with
  | true=>
   have hc:=B8.1 hc;rw [DE];rcases qB (m:=m) (c:=c) (lo:=lo) (b:=b) d (i+1) a z with h | ⟨h1,h2⟩
   ·refine .inl (h.trans ?_);constructor
    ·rintro ⟨q1,q2,q3⟩;refine ⟨q1.imp_right ?_,q2,fun j hj hne=>?_⟩
     ·rintro ⟨j,hj,hne⟩; exact ⟨j+1,by omega,by rw [← sh j]; exact hne⟩
     ·cases j with
      | zero=>exact absurd (by simpa using hc) hne
      | succ j=>rw [← sh j] at hne ⊢; exact q3 j (by omega) hne
    ·rintro ⟨q1,q2,q3⟩;refine ⟨q1.imp_right ?_,q2,fun j hj hne=>?_⟩
     ·rintro ⟨j,hj,hne⟩;cases j with
      | zero=>exact absurd (by simpa using hc) hne
      | succ j=>exact ⟨j,by omega,by rw [sh j]; exact hne⟩
     ·rw [sh j] at hne ⊢; exact q3 (j+1) (by omega) hne
   ·refine .inr ⟨h1,fun j hj=>?_⟩;cases j with
    | zero=>simpa using hc
    | succ j=>rw [← sh j]; exact h2 j (by omega)
  | false=>
   have hc:i≠c:=fun e=>by rw [e,va2] at hc; cases hc
   rw [DG];refine .inl ?_;have key:∀ (a':Int),(0 < a'↔(z=true→0 < a)∧D3 m i b < lo)→(0 < Q9 m c lo b d (i+1) a' true↔(z=true∨∃ j:Nat,j < d+1∧i+(j:Int)≠c)∧(z=true→0 < a)∧∀ j:Nat,j < d+1→i+(j:Int)≠c→D3 m (i+j) b < lo):=fun a' ha'=>by
    rcases qB (m:=m) (c:=c) (lo:=lo) (b:=b) d (i+1) a' true with h | ⟨h1,_⟩
    ·rw [h];constructor
     ·rintro ⟨_,q2,q3⟩;obtain ⟨r1,r2⟩:=ha'.1 (q2 rfl);refine ⟨.inr ⟨0,by omega,by simpa using hc⟩,r1,fun j hj hne=>?_⟩;cases j with
      | zero=>simpa using r2
      | succ j=>rw [← sh j] at hne ⊢; exact q3 j (by omega) hne
     ·rintro ⟨_,q2,q3⟩;have r2:=q3 0 (by omega) (by simpa using hc);refine ⟨.inl rfl,fun _=>ha'.2 ⟨q2,by simpa using r2⟩,fun j hj hne=>?_⟩;rw [sh j] at hne ⊢;exact q3 (j+1) (by omega) hne
    ·cases h1
   cases z with
   | false=>
    rw [A6,Bool.true_or,DE];exact key _ ⟨fun h=>⟨fun h=>(by cases h),by omega⟩,fun h=>by have:=h.2; omega⟩
   | true=>
    rw [A1,vaw];cases hd:decide (lo - D3 m i b < a) with
    | true=>
     have hd:=A0 hd;rw [DE];exact key _ ⟨fun h=>⟨fun _=>by omega,by omega⟩,fun h=>by have:=h.2; omega⟩
    | false=>
     have hd:=BH hd;rw [DG];exact key _ ⟨fun h=>⟨fun _=>h,by omega⟩,fun h=>h.1 rfl⟩
theorem qC {m:Md} {c:Int} {b:Bx} (h:MI m c b=true):0 < SS m c b↔∀ j:Nat,(j:Int) < m.c→(j:Int)≠c→D3 m (j:Int) b < D5 m c b:=by
 have h0:=h;unfold MI at h0;rw [AI,AP] at h0;obtain ⟨hs,h2⟩:=h0;have hc:=zL (sI hs).2.1;unfold SS;rw [h,DE];rcases qB (m:=m) (c:=c) (lo:=D5 m c b) (b:=b) m.c.toNat 0 0 false with h1 | ⟨_,h1⟩
 ·rw [h1];simp only [Int.zero_add];constructor
  ·rintro ⟨_,_,q⟩ j hj hne;exact q j (by omega) hne
  ·intro q;refine ⟨.inr ?_,fun h=>(by cases h),fun j hj hne=>q j (by omega) hne⟩;by_cases e:c=0
   ·exact ⟨1,by omega,by omega⟩
   ·exact ⟨0,by omega,by omega⟩
 ·have q0:=h1 0 (by omega);have q1:=h1 1 (by omega);omega
theorem zgl (p:Pt) (x t:Int):∀ {f i:Nat},f < 4→i < 5→co (p.p x f) t i=if i=f then x else co p t i
 | 0,0,_,_=>rfl
 | 0,1,_,_=>rfl
 | 0,2,_,_=>rfl
 | 0,3,_,_=>rfl
 | 0,4,_,_=>rfl
 | 1,0,_,_=>rfl
 | 1,1,_,_=>rfl
 | 1,2,_,_=>rfl
 | 1,3,_,_=>rfl
 | 1,4,_,_=>rfl
 | 2,0,_,_=>rfl
 | 2,1,_,_=>rfl
 | 2,2,_,_=>rfl
 | 2,3,_,_=>rfl
 | 2,4,_,_=>rfl
 | 3,0,_,_=>rfl
 | 3,1,_,_=>rfl
 | 3,2,_,_=>rfl
 | 3,3,_,_=>rfl
 | 3,4,_,_=>rfl
 | f+4,_,h,_=>absurd h (by omega)
 | _,i+5,_,h=>absurd h (by omega)
theorem zS (p:Pt) (t t':Int):∀ {i:Nat},i < 4→co p t i=co p t' i
 | 0,_=>rfl
 | 1,_=>rfl
 | 2,_=>rfl
 | 3,_=>rfl
 | i+4,h=>absurd h (by omega)
theorem Bl {q:Qy} {b:Bx} (hp:G0 q=true) {p:Pt} {t:Int} (h:b.has p t=true):(JP q b).has p 0=true:=by
 rw [NS] at h ⊢;intro i hi;unfold JP;rw [hp,DE,LE _ _ (by omega) hi];by_cases e:i=4
 ·subst e;rw [BR rfl];rfl
 ·rw [A9 e,zS p 0 t (by omega)];exact h i hi
theorem Jj {q:Qy} {b:Bx} (hp:G0 q=true) {p:Pt} {t:Int} (h:b.has p t=true):(JR q b).has (I6 q p t) 0=true:=by
 have hf:q.ft.toNat < 4:=by rcases PY hp with e | e | e | e <;> rw [e] <;> decide
 rw [NS] at h ⊢;intro i hi;unfold JR I6;rw [hp,DE,DE,LE _ _ (by omega) hi];by_cases e:i=4
 ·subst e;rw [BR rfl]
  have:co (p.p t q.ft.toNat) 0 4=0:=rfl
  rw [this];rfl
 ·rw [A9 e,LE _ _ (by omega) hi,zgl p t 0 hf hi];by_cases e2:i=q.ft.toNat
  ·rw [BR e2,BR e2];exact h 4 (by omega)
  ·rw [A9 e2,A9 e2,zS p 0 t (by omega)];exact h i hi
theorem Bm {q:Qy} {b:Bx} (hb:b.ok):(JP q b).ok:=by
 unfold JP;cases G0 q with
 | true=>exact fM (s:=⟨0,0⟩) (i:=4) hb (show (0:Int)≤2147483647 by omega) (by omega)
 | false=>exact hb
theorem Jk {q:Qy} {b:Bx} (hb:b.ok):(JR q b).ok:=by
 unfold JR;cases hp:G0 q with
 | true=>
  have hf:q.ft.toNat < 5:=by rcases PY hp with e | e | e | e <;> rw [e] <;> decide
  exact fM (s:=⟨0,0⟩) (i:=4) (fM hb (hb 4 (by omega)) hf) (show (0:Int)≤2147483647 by omega) (by omega)
 | false=>exact hb
theorem dW {m:Md} {k:Int} (h0:0≤k) (h1:k < m.c):HX m k=true:=by
 unfold HX;rw [AE h0,AE h1];rfl
theorem P5 {m:Md} {k:Int} {b:Bx} (hm:EP m=true) (hk:HX m k=true) (hb:b.emp=false):GP m k b=true:=by
 unfold GP;rw [hm,hk,hb];rfl
theorem k8 {m:Md} {q:Qy} (hm:EP m=true) (hk:q.k=3) (hf:0≤q.ft∧q.ft < m.d):G0 q=true:=by
 have:=(LT hm).1
 unfold G0;rw [hk,AE (show q.ft≥0 by omega),AE (show q.ft < 4 by omega)];rfl
theorem Gj {m:Md} {q:Qy} {p:Pt} {own:Int}:XJ m q p own=true↔∃ j:Nat,(j:Int) < m.c∧(j:Int)≠q.c∧EN m (j:Int) p≥own:=by
 unfold XJ;rw [List.any_eq_true];constructor
 ·rintro ⟨c,hc,h⟩;simp only [AI,B5,A8,AP] at h;exact ⟨c,by have:=va6.1 hc; omega,h.1,h.2⟩
 ·rintro ⟨j,h1,h2,h3⟩;refine ⟨j,va6.2 (by omega),?_⟩;simp only [AI,B5,A8,AP];exact ⟨h2,h3⟩
theorem zK {m:Md} {q:Qy} {b:Bx} (hok:b.ok) (hc:HG m q b=true) {p:Pt} {t:Int} (hh:b.has p t=true):GJ m q p t=false:=by
 unfold HG at hc;rw [AI] at hc;obtain ⟨hr,hc⟩:=hc;obtain ⟨hm,⟨c0,c1⟩,_,_,hk⟩:=UU hr;have hb:=WK hh;have hcl:=dW c0 c1;have hs:=P5 hm hcl hb;rw [hb,DG] at hc;unfold GJ;rw [hr,BC];rcases eQ hk with ⟨e,_⟩ | ⟨e,h2,_⟩ | ⟨e,hf,_⟩
 ·rw [e] at hc ⊢;replace hc:(GP m q.c b&&(decide (q.lo≤D5 m q.c b)&&decide (D3 m q.c b≤q.hi)))=true:=hc;simp only [AI,AP] at hc
  have:=ZS hs hok hh
  show (!(Sp.has ⟨q.lo,q.hi⟩ (EN m q.c p)))=false;rw [Bool.not_eq_false',LX];exact ⟨by show q.lo≤_; omega,by show _≤q.hi; omega⟩
 ·rw [e] at hc ⊢;replace hc:(MI m q.c b&&decide (SS m q.c b > 0))=true:=hc;rw [AI,AP] at hc;have hall:=(qC hc.1).1 hc.2;show XJ m q p (EN m q.c p)=false;cases ho:XJ m q p (EN m q.c p) with
  | false=>rfl
  | true=>
   obtain ⟨j,h3,h4,h5⟩:=Gj.1 ho;have h6:=hall j h3 h4;have h7:=ZS hs hok hh;have h8:=ZS (P5 hm (dW (k:=(j:Int)) (by omega) h3) hb) hok hh;omega
 ·rw [e] at hc ⊢;have hp:=k8 hm e hf;have hf5:q.ft.toNat < 4:=by rcases PY hp with e | e | e | e <;> rw [e] <;> decide
  replace hc:cond (!(NA q b)) true (cond q.fl (JW m q b&&decide (PM m q b≤0)) (JW m q b&&decide (PN m q b≥0)))=true:=hc;show cond (decide (p.g q.ft.toNat≥t)) false _=false;cases hd:decide (p.g q.ft.toNat≥t) with
  | true=>rfl
  | false=>
   have hd:=BH hd;have h1:=LX.1 (NS.1 hh q.ft.toNat (by omega));have h2:=LX.1 (NS.1 hh 4 (by omega));rw [dX p t hf5] at h1;have ho:NA q b=true:=by
    unfold NA;rw [hp,hb,AE]
    ·rfl
    ·have h2':t≤b.s4.hi:=h2.2;omega
   rw [ho,A1,DG] at hc;have f1:=Bl (b:=b) hp hh;have f2:=Jj (b:=b) hp hh;have s1:=ZS (P5 hm hcl (WK f1)) (Bm hok) f1;have s2:=ZS (P5 hm hcl (WK f2)) (Jk hok) f2;rw [DG];cases hfl:q.fl with
   | true=>
    rw [hfl,DE,AI,AP] at hc;rw [DE,BV];have h3:=hc.2;unfold PM at h3;rw [hc.1,DE] at h3;omega
   | false=>
    rw [hfl,DG,AI,AP] at hc;rw [DG,BV];have h3:=hc.2;unfold PN at h3;rw [hc.1,DE] at h3;omega
theorem Vc {m:Md} {q:Qy} {b:Bx} (hr:FH m q=true) (hb:b.emp=false) (hok:b.ok) (hn:∀ i,i < 5→E2 m q b i=[]):HG m q b=true∨GJ m q b.low b.s4.hi=true:=by
 obtain ⟨hm,⟨c0,c1⟩,_,_,hk⟩:=UU hr;have hcl:=dW c0 c1;have hs:=P5 hm hcl hb;have hh:=YO b hb;have hfl:∀ f:Nat,f < 4→Y2 m (b.g f) (f:Int):=fun f hf=>by
  have:=Bo (hn f (by omega)) (by rw [oS hf]; omega)
  rwa [oS hf] at this
 unfold HG GJ;rw [hr,hb,BC,BC,DG];rcases eQ hk with ⟨e,_⟩ | ⟨e,h2,_⟩ | ⟨e,hf,_⟩
 ·rw [e];obtain ⟨q1,q2⟩:=f5 hs hok hfl hh;show (GP m q.c b&&(decide (q.lo≤D5 m q.c b)&&decide (D3 m q.c b≤q.hi)))=true∨(!(Sp.has ⟨q.lo,q.hi⟩ (EN m q.c b.low)))=true;rw [hs,q1,q2,BC];unfold Sp.has;cases (decide (q.lo≤EN m q.c b.low)&&decide (EN m q.c b.low≤q.hi)) with
  | true=>exact .inl rfl
  | false=>exact .inr rfl
 ·rw [e];show (MI m q.c b&&decide (SS m q.c b > 0))=true∨XJ m q b.low (EN m q.c b.low)=true;have hg:MI m q.c b=true:=by unfold MI; rw [hs,AE (show m.c≥2 from h2)]; rfl
  rw [hg,BC];cases ho:XJ m q b.low (EN m q.c b.low) with
  | true=>exact .inr rfl
  | false=>
   refine .inl (AE ((qC hg).2 fun j hj hne=>?_));have q1:=(f5 hs hok hfl hh).1;have q2:=(f5 (P5 hm (dW (k:=(j:Int)) (by omega) hj) hb) hok hfl hh).2;have q3:¬ EN m (j:Int) b.low≥EN m q.c b.low:=fun h=>by
    rw [Gj.2 ⟨j,hj,hne,h⟩] at ho;cases ho
   omega
 ·rw [e];have hp:=k8 hm e hf;have hf5:q.ft.toNat < 4:=by rcases PY hp with e | e | e | e <;> rw [e] <;> decide
  have ef:q.ft=((q.ft.toNat:Nat):Int):=by omega
  show cond (!(NA q b)) true (cond q.fl (JW m q b&&decide (PM m q b≤0)) (JW m q b&&decide (PN m q b≥0)))=true∨cond (decide (b.low.g q.ft.toNat≥b.s4.hi)) false (cond q.fl (decide (EN m q.c (I6 q b.low b.s4.hi) > EN m q.c b.low)) (decide (EN m q.c (I6 q b.low b.s4.hi) < EN m q.c b.low)))=true;cases ho:NA q b with
  | false=>exact .inl rfl
  | true=>
   have hlt:b.low.g q.ft.toNat < b.s4.hi:=by
    unfold NA at ho;simp only [AI,AP] at ho;have h1:=ho.2.2
    have:b.low.g q.ft.toNat=(b.g q.ft.toNat).lo:=by
     match q.ft.toNat,hf5 with
     | 0,_=>rfl
     | 1,_=>rfl
     | 2,_=>rfl
     | 3,_=>rfl
     | n+4,h=>exact absurd h (by omega)
    omega
   have f1:=Bl (b:=b) hp hh;have f2:=Jj (b:=b) hp hh;have k1:=P5 hm hcl (WK f1);have k2:=P5 hm hcl (WK f2);have fl1:∀ f:Nat,f < 4→Y2 m ((JP q b).g f) (f:Int):=fun f hf=>by
    unfold JP;rw [hp,DE,LE _ _ (by omega) (by omega),A9 (by omega)];exact hfl f hf
   have fl2:∀ f:Nat,f < 4→Y2 m ((JR q b).g f) (f:Int):=fun f hf=>by
    unfold JR;rw [hp,DE,LE _ _ (by omega) (by omega),A9 (by omega),LE _ _ (by omega) (by omega)];by_cases e2:f=q.ft.toNat
    ·rw [BR e2];have e4:H6 q ((4:Nat):Int)=q.ft:=by unfold H6; rw [e]; rfl
     have:=Bo (hn 4 (by omega)) (by rw [e4]; omega)
     rw [e4,ef,← e2] at this;exact this
    ·rw [A9 e2];exact hfl f hf
   obtain ⟨q1,q2⟩:=f5 k1 (Bm hok) fl1 f1;obtain ⟨q3,q4⟩:=f5 k2 (Jk hok) fl2 f2;have hch:JW m q b=true:=by unfold JW; rw [hp,k1,k2]; rfl
   rw [A1,DG,hch,BC,BC,AL (show ¬ b.low.g q.ft.toNat≥b.s4.hi by omega),DG];unfold PM PN;rw [hch,DE,DE,q1,q2,q3,q4];cases q.fl with
   | true=>
    rw [DE,DE];by_cases hd:EN m q.c (I6 q b.low b.s4.hi) > EN m q.c b.low
    ·exact .inr (AE hd)
    ·exact .inl (AE (by omega))
   | false=>
    rw [DG,DG];by_cases hd:EN m q.c (I6 q b.low b.s4.hi) < EN m q.c b.low
    ·exact .inr (AE hd)
    ·exact .inl (AE (by omega))
open Go
abbrev kFt:List Kd:=[.z,.list false [.z],.list false [.z],.list false [.z],.list false [.z]]
structure Ft where
 d:Int
 c:Int
 bias:LI
 ts:LI
def Ft.cs (f:Ft):List FM.V:=[.int .i64 f.d,.int .i64 f.c,.list false [.z] f.bias,.list true kFt f.ts]
def Ft.V (f:Ft):FM.V:=.agg f.cs
def Ft.M (f:Ft):Md:=kQ f.d f.c f.bias f.ts
def ftOf?:List FM.V→Option Ft
 | [.int .i64 d,.int .i64 c,.list false [.z] b,.list true [.z,.list false [.z],.list false [.z],.list false [.z],.list false [.z]] t]=>some ⟨d,c,b,t⟩
 | _=>none
def akOf?:List FM.V→Option Ak
 | [.int .i64 k,.int .i64 c,.int .i64 lo,.int .i64 size,.int .i64 ft,.int .i64 bu,.bool fl,.list false [.z] sp]=>some ⟨k,c,lo,size,ft,bu,fl,sp⟩
 | _=>none
abbrev uL (v:FM.V) (k:Ft→R):R:=RO ftOf? v k
abbrev Pd (v:FM.V) (k:Ak→R):R:=RO akOf? v k
theorem Pe {v:FM.V} {k:Ft→R} {z:FM.V × List (List FM.V)} (h:(uL v k).get=some z):∃ x:Ft,v=x.V∧(k x).get=some z:=by
 obtain ⟨l,x,rfl,hx,h⟩:=VA h;unfold ftOf? at hx;split at hx
 ·simp only [AC] at hx;subst hx;exact ⟨_,rfl,h⟩
 ·cases hx
theorem zjA {v:FM.V} {k:Ak→R} {z:FM.V × List (List FM.V)} (h:(Pd v k).get=some z):∃ x:Ak,v=x.V∧(k x).get=some z:=by
 obtain ⟨l,x,rfl,hx,h⟩:=VA h;unfold akOf? at hx;split at hx
 ·simp only [AC] at hx;subst hx;exact ⟨_,rfl,h⟩
 ·cases hx
def GY (a:Ak) (m:Md):Qy:=I5 a m.d m.c
def SX (m:Md):Bool:=(decide (1≤m.d)&&decide (m.d≤4))&&(decide (1≤m.c)&&decide (m.c≤3))
def dI:DR
 | [f]=>uL f fun f=>.ok f.M.V []
 | _=>.no
def dH:DR
 | [a,m]=>Pd a fun a=>IC m fun m=>.br (SX m) (.ok (GY a m).V []) .no
 | _=>.no
def Qy.bud (q:Qy) (b:Int):Qy:=⟨q.k,q.c,q.a0,q.b0,q.a1,q.b1,q.a2,q.b2,q.a3,q.b3,q.a4,q.b4,q.lo,q.hi,q.ft,q.fl,b⟩
theorem Sw {vs:List FM.V} {z:FM.V × List (List FM.V)} (h:(dI vs).get=some z):(hZ vs).get=some z:=by
 unfold dI at h;split at h
 ·replace h:=Pe h;obtain ⟨f,rfl,h⟩:=h;exact h
 ·simp [R.get] at h
theorem Sx {vs:List FM.V} {z:FM.V × List (List FM.V)} (h:(dH vs).get=some z):(hU vs).get=some z:=by
 unfold dH at h;split at h
 ·replace h:=zjA h;obtain ⟨a,rfl,h⟩:=h;replace h:=IO h;obtain ⟨m,rfl,h⟩:=h;exact h
 ·simp [R.get] at h
open Go
def Bx.good (b:Bx):Prop:=∀ i,i < 5 → -2147483648≤(b.g i).lo∧(b.g i).lo≤(b.g i).hi∧(b.g i).hi≤2147483647
theorem Bx.good.emp {b:Bx} (h:b.good):b.emp=false:=nJ.2 fun i hi=>(h i hi).2.1
theorem Bx.good.ok {b:Bx} (h:b.good):b.ok:=fun i hi=>(h i hi).2.2
def Sp.good (s:Sp):Prop := -2147483648≤s.lo∧s.lo≤s.hi∧s.hi≤2147483647
theorem UN {b:Bx} (hb:b.good) {s:Sp} (hs:s.good) {i:Nat} (hi:i < 5):(b.p s i).good:=by
 intro j hj;rw [LE b s hi hj];by_cases h:j=i
 ·rw [BR h]; exact hs
 ·rw [A9 h]; exact hb j hj
theorem La {lo hi:Int} (h0 : -2147483648≤lo) (h1:lo≤hi) (h2:hi≤2147483647):(MQ lo hi).good:=by
 unfold MQ;rw [AL (by omega),DG];exact ⟨h0,h1,h2⟩
theorem z7 {b:Bx} (hb:b.good) {i:Nat} (hi:i < 5) {a:Int} (h1:(b.g i).lo≤a) (h2:a < (b.g i).hi):(b.cutL (i:Int) a).good:=by
 unfold Bx.cutL;rw [BE];have h:=hb i hi;refine UN hb (La h.1 ?_ ?_) hi <;> omega
theorem n7 {b:Bx} (hb:b.good) {i:Nat} (hi:i < 5) {a:Int} (h1:(b.g i).lo≤a) (h2:a < (b.g i).hi):(b.cutH (i:Int) a).good:=by
 unfold Bx.cutH;rw [BE];have h:=hb i hi;have e:FD (a+1)=a+1:=EI (by omega) (by omega);refine UN hb ?_ hi;unfold Sp.cutH;rw [AL (by omega),DG,e];exact La (by omega) (by omega) h.2.2
theorem gI {d i:Int} {s:Sp} (h:KR d i s=true):s.good:=by
 unfold KR at h;simp only [AI,B5,EZ,Sp.emp,AP,BV] at h;obtain ⟨_,h1,h2,h3⟩:=h;exact ⟨h2.1,by omega,h3.2⟩
theorem lG {m:Md} {q:Qy} (h:FH m q=true):EP m=true∧(0≤q.c∧q.c < m.c)∧(0≤q.bu∧q.bu≤65536)∧P0 q.bx m.d=true∧Q3 m q=true:=by
 unfold FH at h;simp only [AI,AP] at h;exact ⟨h.1,⟨h.2.1,h.2.2.1⟩,⟨h.2.2.2.1,h.2.2.2.2.1⟩,h.2.2.2.2.2.1,h.2.2.2.2.2.2⟩
theorem zgN {b:Bx} {d:Int} (h:P0 b d=true):b.good:=by
 unfold P0 at h;simp only [AI] at h;intro i hi
 match i,hi with
 | 0,_=>exact gI h.1
 | 1,_=>exact gI h.2.1
 | 2,_=>exact gI h.2.2.1
 | 3,_=>exact gI h.2.2.2.1
 | 4,_=>exact gI h.2.2.2.2
 | n+5,hi=>omega
theorem gN {m:Md} {q:Qy} (h:FH m q=true):(EV q).good:=by
 have hb:=zgN (lG h).2.2.2.1;unfold EV;refine UN hb ?_ (by omega);cases hp:G0 q with
 | false=>rw [DG]; exact ⟨by decide,by decide,by decide⟩
 | true=>
  rw [DE];unfold G0 at hp;simp only [AI,AP] at hp;exact hb q.ft.toNat (by omega)
theorem rO {l:LI} {x:IV} (h:x∈GE l):x∈l:=vag h
theorem aB (n lo hi:Int) (h:lo≤hi) (h0 : -2000000000000000000≤lo) (h1:hi≤2000000000000000000):lo≤DO n lo hi∧DO n lo hi≤hi:=
 (G2 (n:=n) (lo:=lo) (hi:=hi) (by omega) (by omega) (by omega)).2
theorem mV (f:Ft):EP f.M=true:=zdb _ _ _ _
theorem mU (f:Ft):SX f.M=true:=by
 have hd:1≤f.M.d∧f.M.d≤3:=YX f.d;have hc:1≤f.M.c∧f.M.c≤3:=dV f.c;unfold SX;rw [AE hd.1,AE (show f.M.d≤4 by omega),AE hc.1,AE hc.2];rfl
theorem lE (d:Int) (l:LI) (i:Nat):KR d (i:Int) ⟨FP d l (i:Int),FQ d l (i:Int)⟩=true:=by
 have h1:=aB (EH l (2*(i:Int))) (-2) 9 (by omega) (by omega) (by omega);have h2:=aB (EH l (2*(i:Int)+1)) 0 11 (by omega) (by omega) (by omega);unfold KR Sp.emp FP FQ EZ;by_cases h:(i:Int) < d
 ·rw [AE h,DE,DE,AL (show ¬ (i:Int)≥d by omega)];simp only [BM,A6,BC,AI,B5,AP,BV];omega
 ·rw [AL h,DG,DG];simp
theorem zcA (a:Ak) (c:Int):FE a c=1∨(FE a c=2∧2≤c)∨FE a c=3:=by
 have h:=aB a.k 1 3 (by omega) (by omega) (by omega);unfold FE;cases h2:(DO a.k 1 3==2) with
 | true=>
  have h2':DO a.k 1 3=2:=by simpa using h2
  by_cases hc:c < 2
  ·rw [AE hc]; exact .inl rfl
  ·rw [AL hc]; exact .inr (.inl ⟨h2',by omega⟩)
 | false=>
  have h2':DO a.k 1 3≠2:=by simpa using h2
  rw [BM,DG];omega
theorem To (f:Ft) (a:Ak) {w:Int} (h0:0≤w) (h1:w≤65536):FH f.M ((GY a f.M).bud w)=true:=by
 have hd:1≤f.M.d∧f.M.d≤3:=YX f.d;have hc:1≤f.M.c∧f.M.c≤3:=dV f.c;have hm:=mV f;generalize f.M=m at hd hc hm ⊢;have hcl:=aB a.c 0 (m.c - 1) (by omega) (by omega) (by omega);have hlo:=aB a.size 0 18000 (by omega) (by omega) (by omega);have hft:=aB a.ft 0 (m.d - 1) (by omega) (by omega) (by omega);have hreg:P0 ((GY a m).bud w).bx m.d=true:=by
  unfold P0;simp only [AI];refine ⟨lE m.d a.sp 0,lE m.d a.sp 1,lE m.d a.sp 2,lE m.d a.sp 3,?_⟩;show KR m.d 4 ⟨0,0⟩=true;unfold KR;simp [Sp.emp,EZ]
 have hkind:Q3 m ((GY a m).bud w)=true:=by
  unfold Q3;show cond (FE a m.c==1) (decide (cond (FE a m.c==1) (J1 a) 0≤cond (FE a m.c==1) (J1 a+DO a.size 0 18000) 0)&&((cond (FE a m.c==3) (DO a.ft 0 (m.d - 1)) 0==0)&&!(cond (FE a m.c==3) a.fl false)))
   (cond (FE a m.c==2) (decide (m.c≥2)&&((cond (FE a m.c==1) (J1 a) 0==0)&&((cond (FE a m.c==1) (J1 a+DO a.size 0 18000) 0==0)&&((cond (FE a m.c==3) (DO a.ft 0 (m.d - 1)) 0==0)&&!(cond (FE a m.c==3) a.fl false)))))
    (cond (FE a m.c==3) (decide (cond (FE a m.c==3) (DO a.ft 0 (m.d - 1)) 0≥0)&&(decide (cond (FE a m.c==3) (DO a.ft 0 (m.d - 1)) 0 < m.d)&&((cond (FE a m.c==1) (J1 a) 0==0)&&(cond (FE a m.c==1) (J1 a+DO a.size 0 18000) 0==0)))) false))=true
  rcases zcA a m.c with h | ⟨h,h2⟩ | h
  ·rw [h];show (decide (J1 a≤J1 a+DO a.size 0 18000)&&true)=true;rw [AE (by omega)]; rfl
  ·rw [h];show (decide (m.c≥2)&&true)=true;rw [AE h2]; rfl
  ·rw [h];show (decide (DO a.ft 0 (m.d - 1)≥0)&&(decide (DO a.ft 0 (m.d - 1) < m.d)&&true))=true;rw [AE hft.1,AE (by omega)]; rfl
 unfold FH;rw [hm,hreg,hkind,AE (show ((GY a m).bud w).c≥0 from hcl.1),AE (show ((GY a m).bud w).c < m.c by show DO a.c 0 (m.c - 1) < m.c; omega),AE (show ((GY a m).bud w).bu≥0 from h0),AE (show ((GY a m).bud w).bu≤65536 from h1)];rfl
open Go
abbrev j8:List Kd:=[.z,.z,.z,.z,.z,.z,.z,.z,.z,.z,.z]
def QD (a:Int) (b:Bx):IV:=.agg [.int a,.int b.s0.lo,.int b.s0.hi,.int b.s1.lo,.int b.s1.hi,.int b.s2.lo,.int b.s2.hi,.int b.s3.lo,.int b.s3.hi,.int b.s4.lo,.int b.s4.hi]
abbrev HN (x:IV):Int:=cI x 0
def JL (x:IV):Bx:=⟨⟨cI x 1,cI x 2⟩,⟨cI x 3,cI x 4⟩,⟨cI x 5,cI x 6⟩,⟨cI x 7,cI x 8⟩,⟨cI x 9,cI x 10⟩⟩
theorem X1 (a:Int) (b:Bx):HN (QD a b)=a:=rfl
theorem S5 (a:Int) (b:Bx):JL (QD a b)=b:=rfl
structure En where
 todo:LI
 lo:Int
 hi:Int
 any:Bool
def E0 (l:LI):IV:=l.getD (l.length - 1) default
def EY (l:LI) (e:En):Nd:=DH (l.getD (HN (E0 e.todo)).toNat default).toInt
def d8 (l:LI) (e:En):En:=
 cond (!(F6 (l.getD (HN (E0 e.todo)).toNat default).toInt)||(JL (E0 e.todo)).emp) ⟨GE e.todo,e.lo,e.hi,e.any⟩
  (cond (!(EY l e).lf)
   ⟨GE e.todo++[QD (EY l e).l ((JL (E0 e.todo)).cutL (EY l e).f (EY l e).a),QD (EY l e).r ((JL (E0 e.todo)).cutH (EY l e).f (EY l e).a)],e.lo,e.hi,e.any⟩
   ⟨GE e.todo,min (cond e.any e.lo (EY l e).v) (EY l e).v,max (cond e.any e.hi (EY l e).v) (EY l e).v,true⟩)
def oI (b:Bx):En:=⟨[QD 0 b],0,0,false⟩
structure EnI (l:LI) (b:Bx) (e:En):Prop where
 at_:∀ (j:Nat) (x:IV),e.todo[j]?=some x→(j:Int)≤HN x∧HN x < ic l.length
 ok:∀ x∈e.todo,(JL x).ok
 val:∀ x∈e.todo,∀ p t,(JL x).has p t=true→b.has p t=true∧G1 l p=QC l p (HN x).toNat
 all:∀ p t,b.has p t=true→(∃ x∈e.todo,(JL x).has p t=true)∨(e.any=true∧e.lo≤G1 l p∧G1 l p≤e.hi)
 lo:e.any=true→∃ p t,b.has p t=true∧G1 l p=e.lo
 hi:e.any=true→∃ p t,b.has p t=true∧G1 l p=e.hi
theorem rN {l:LI} {j:Nat} {x:IV} (h:(GE l)[j]?=some x):l[j]?=some x:=by
 unfold GE at h;rw [CR] at h;split at h
 ·exact h
 ·cases h
theorem tG {l:LI} {x:IV} (hl:0 < l.length) (h:x∈l):x∈GE l∨x=E0 l:=by
 obtain ⟨j,hj⟩:=List.getElem?_of_mem h;have hjl:=(BL.1 hj).1;by_cases hc:j < l.length - 1
 ·refine .inl (vab (i:=j) ?_);unfold GE;rw [CR,BR hc];exact hj
 ·have:j=l.length - 1:=by omega
  subst this;refine .inr ?_;unfold E0;rw [BS,hj];rfl
theorem Z1 {l:LI} (hl:0 < l.length):E0 l∈l∧l[l.length - 1]?=some (E0 l):=by
 unfold E0;rw [BS,A5 (by omega)];exact ⟨C4 _,rfl⟩
theorem rM (l:LI):(GE l).length=l.length - 1:=by
 unfold GE;rw [A7]; omega
theorem Ww {l:LI} (ht:TreeOK l) {b:Bx} {e:En} (h:EnI l b e) (hl:0 < e.todo.length):EnI l b (d8 l e):=by
 obtain ⟨hm,hg⟩:=Z1 hl;have ha:=h.at_ _ _ hg;have h31:=ht.len.2;have hpm:∀ x∈GE e.todo,x∈e.todo:=fun x hx=>rO hx
 have e0:((HN (E0 e.todo)).toNat:Int)=HN (E0 e.todo):=by omega
 have hlt:(HN (E0 e.todo)).toNat < l.length:=by have:=ha.2; simp only [ic] at this; omega
 have hn:=ht.node _ hlt;have hv:=h.val _ hm;have hok:=h.ok _ hm;unfold d8;rw [hn,A1,vaw];cases he:(JL (E0 e.todo)).emp with
 | true=>
  rw [DE];refine ⟨fun j x hj=>h.at_ j x (rN hj),fun x hx=>h.ok x (hpm x hx),fun x hx=>h.val x (hpm x hx),fun p t hh=>?_,h.lo,h.hi⟩;rcases h.all p t hh with ⟨x,hx,hxh⟩ | hr
  ·rcases tG hl hx with hx | rfl
   ·exact .inl ⟨x,hx,hxh⟩
   ·have:=WK hxh
    rw [he] at this; cases this
  ·exact .inr hr
 | false=>
  rw [DG];cases hlf:(EY l e).lf with
  | true=>
   rw [A1,DG];have hvl:∀ p t,(JL (E0 e.todo)).has p t=true→b.has p t=true∧G1 l p=(EY l e).v:=fun p t hh=>by
    obtain ⟨h1,h2⟩:=hv p t hh;exact ⟨h1,h2.trans (Ov ht p hlt hlf)⟩
   have hlow:=hvl _ _ (YO _ he);refine ⟨fun j x hj=>h.at_ j x (rN hj),fun x hx=>h.ok x (hpm x hx),fun x hx=>h.val x (hpm x hx),fun p t hh=>?_,fun _=>?_,fun _=>?_⟩
   ·rcases h.all p t hh with ⟨x,hx,hxh⟩ | ⟨h1,h2,h3⟩
    ·rcases tG hl hx with hx | rfl
     ·exact .inl ⟨x,hx,hxh⟩
     ·refine .inr ⟨rfl,?_,?_⟩
      ·rw [(hvl p t hxh).2]; show min _ _≤_; omega
      ·rw [(hvl p t hxh).2]; show _≤max _ _; omega
    ·refine .inr ⟨rfl,?_,?_⟩
     ·show min (cond e.any e.lo _) _≤_;rw [h1,DE]; omega
     ·show _≤max (cond e.any e.hi _) _;rw [h1,DE]; omega
   ·show ∃ p t,b.has p t=true∧G1 l p=min (cond e.any e.lo (EY l e).v) (EY l e).v;cases hany:e.any with
    | false=>exact ⟨_,_,hlow.1,by rw [hlow.2,DG]; omega⟩
    | true=>
     rw [DE];by_cases hc:e.lo≤(EY l e).v
     ·obtain ⟨p,t,h1,h2⟩:=h.lo hany;exact ⟨p,t,h1,by omega⟩
     ·exact ⟨_,_,hlow.1,by rw [hlow.2]; omega⟩
   ·show ∃ p t,b.has p t=true∧G1 l p=max (cond e.any e.hi (EY l e).v) (EY l e).v;cases hany:e.any with
    | false=>exact ⟨_,_,hlow.1,by rw [hlow.2,DG]; omega⟩
    | true=>
     rw [DE];by_cases hc:(EY l e).v≤e.hi
     ·obtain ⟨p,t,h1,h2⟩:=h.hi hany;exact ⟨p,t,h1,by omega⟩
     ·exact ⟨_,_,hlow.1,by rw [hlow.2]; omega⟩
  | false=>
   rw [A6,DE];obtain ⟨⟨f0,f4⟩,fa,⟨l1,l2⟩,⟨r1,r2⟩,_⟩:=ht.fork _ hlt hlf;replace f0:0≤(EY l e).f:=f0;replace f4:(EY l e).f < 4:=f4;replace l1:((HN (E0 e.todo)).toNat:Int) < (EY l e).l:=l1;replace l2:(EY l e).l < ic l.length:=l2;replace r1:((HN (E0 e.todo)).toNat:Int) < (EY l e).r:=r1;replace r2:(EY l e).r < ic l.length:=r2;have ef:(EY l e).f=(((EY l e).f.toNat:Nat):Int):=by omega
   have hfl:(EY l e).f.toNat < 5:=by omega
   have fa' : -2147483648≤(EY l e).a:=by
    have:EZ (EY l e).a=true:=fa
    unfold EZ at this;simp only [AI,AP] at this;exact this.1
   have vf:∀ p:Pt,QC l p (HN (E0 e.todo)).toNat=QC l p (cond (decide (p.g (EY l e).f.toNat≤(EY l e).a)) (EY l e).l.toNat (EY l e).r.toNat):=fun p=>Ou ht p hlt hlf
   have hL:∀ p t,((JL (E0 e.todo)).cutL (EY l e).f (EY l e).a).has p t=true↔(JL (E0 e.todo)).has p t=true∧co p t (EY l e).f.toNat≤(EY l e).a:=fun p t=>by
    have:=i8 (b:=JL (E0 e.todo)) hfl (a:=(EY l e).a) (p:=p) (t:=t)
    rwa [← ef] at this
   have hH:∀ p t,((JL (E0 e.todo)).cutH (EY l e).f (EY l e).a).has p t=true↔(JL (E0 e.todo)).has p t=true∧(EY l e).a < co p t (EY l e).f.toNat:=fun p t=>by
    have:=i7 hok hfl fa' (p:=p) (t:=t)
    rwa [← ef] at this
   have okL:((JL (E0 e.todo)).cutL (EY l e).f (EY l e).a).ok:=by
    have:=z8 hok hfl (EY l e).a
    rwa [← ef] at this
   have okH:((JL (E0 e.todo)).cutH (EY l e).f (EY l e).a).ok:=by
    have:=z6 hok hfl (EY l e).a
    rwa [← ef] at this
   have hco:∀ p t,co p t (EY l e).f.toNat=p.g (EY l e).f.toNat:=fun p t=>dX p t (by omega)
   refine ⟨fun j x hj=>?_,fun x hx=>?_,fun x hx=>?_,fun p t hh=>?_,h.lo,h.hi⟩
   ·rw [vax,rM] at hj;split at hj
    ·exact h.at_ j x (rN hj)
    ·rename_i hc;have h1:=ha.1;rcases vaa (j - (e.todo.length - 1)) 1 with h0 | h0
     ·have:j - (e.todo.length - 1)=0:=by omega
      rw [this] at hj;simp only [B2,AC] at hj;subst hj;rw [X1];omega
     ·rcases vaa (j - (e.todo.length - 1)) 2 with h2 | h2
      ·have:j - (e.todo.length - 1)=1:=by omega
       rw [this] at hj;simp only [CV,B2,AC] at hj;subst hj;rw [X1];omega
      ·rw [BU (by simpa using h2)] at hj;cases hj
   ·rcases AV.1 hx with hx | hx
    ·exact h.ok x (hpm x hx)
    ·rcases AS.1 hx with rfl | hx
     ·rw [S5]; exact okL
     ·obtain rfl:=BX.1 hx;rw [S5]; exact okH
   ·rcases AV.1 hx with hx | hx
    ·exact h.val x (hpm x hx)
    ·rcases AS.1 hx with rfl | hx
     ·intro p t hh;rw [S5] at hh;obtain ⟨h1,h2⟩:=(hL p t).1 hh;obtain ⟨h3,h4⟩:=hv p t h1;rw [hco] at h2;rw [X1];exact ⟨h3,by rw [h4,vf,AE h2,DE]⟩
     ·obtain rfl:=BX.1 hx;intro p t hh;rw [S5] at hh;obtain ⟨h1,h2⟩:=(hH p t).1 hh;obtain ⟨h3,h4⟩:=hv p t h1;rw [hco] at h2;rw [X1];exact ⟨h3,by rw [h4,vf,AL (by omega),DG]⟩
   ·rcases h.all p t hh with ⟨x,hx,hxh⟩ | hr
    ·rcases tG hl hx with hx | rfl
     ·exact .inl ⟨x,AV.2 (.inl hx),hxh⟩
     ·by_cases hc:co p t (EY l e).f.toNat≤(EY l e).a
      ·exact .inl ⟨_,AV.2 (.inr (AR ..)),by rw [S5]; exact (hL p t).2 ⟨hxh,hc⟩⟩
      ·exact .inl ⟨_,AV.2 (.inr (AY _ (AR ..))),by rw [S5]; exact (hH p t).2 ⟨hxh,by omega⟩⟩
    ·exact .inr hr
theorem Wv {l:LI} (ht:TreeOK l) {b:Bx} (hb:b.ok):EnI l b (oI b):=by
 have h1:=ht.len.1;refine ⟨fun j x hj=>?_,fun x hx=>?_,fun x hx=>?_,fun p t hh=>.inl ⟨_,AR ..,by rw [S5]; exact hh⟩,(fun h=>by cases h),(fun h=>by cases h)⟩
 ·match j,hj with
  | 0,hj=>
   obtain rfl:QD 0 b=x:=by simpa [oI] using hj
   rw [X1];simp only [ic];omega
  | j+1,hj=>simp [oI] at hj
 ·obtain rfl:=BX.1 hx;rw [S5]; exact hb
 ·obtain rfl:=BX.1 hx;intro p t hh;rw [S5] at hh;exact ⟨hh,rfl⟩
def PT (l:LI):Nat:=(l.map fun x=>3 ^ (31 - (HN x).toNat)).sum
theorem EnI.depth {l:LI} (ht:TreeOK l) {b:Bx} {e:En} (h:EnI l b e):e.todo.length≤31:=by
 by_cases hc:e.todo.length≤31
 ·exact hc
 ·obtain ⟨x,hx⟩:∃ x,e.todo[31]?=some x:=⟨_,A5 (by omega)⟩
  have:=h.at_ 31 x hx
  have h2:=ht.len.2;simp only [ic] at this;omega
theorem Ws {l:LI} (hl:0 < l.length):PT l=PT (GE l)+3 ^ (31 - (HN (E0 l)).toNat):=by
 have e:l=GE l++[E0 l]:=by
  have h2:=(Z1 hl).2;have h3:l[l.length - 1]=E0 l:=B3 ((A5 (by omega)).symm.trans h2);unfold GE;rw [← h3,List.take_append_getElem,CX (by omega)]
 unfold PT
 conv=>lhs; rw [e]
 rw [List.map_append,List.sum_append];simp
theorem zjb {a b c:Nat} (h1:a < b) (h2:a < c) (ha:a < 31):3 ^ (31 - b)+3 ^ (31 - c)+1≤3 ^ (31 - a):=by
 have e:3 ^ (31 - a)=3*3 ^ (30 - a):=by
  rw [show 31 - a=(30 - a)+1 by omega,Nat.pow_succ]; omega
 have e1:3 ^ (31 - b)≤3 ^ (30 - a):=Nat.pow_le_pow_right (by omega) (by omega);have e2:3 ^ (31 - c)≤3 ^ (30 - a):=Nat.pow_le_pow_right (by omega) (by omega);have e3:0 < 3 ^ (30 - a):=Nat.pow_pos (by omega);omega
theorem Wu {l:LI} (ht:TreeOK l) {b:Bx} {e:En} (h:EnI l b e) (hl:0 < e.todo.length):PT (d8 l e).todo+1≤PT e.todo:=by
 obtain ⟨hm,hg⟩:=Z1 hl;have ha:=h.at_ _ _ hg;have h31:=ht.len.2;have hlt:(HN (E0 e.todo)).toNat < l.length:=by have:=ha.2; simp only [ic] at this; omega
 have hpos:0 < 3 ^ (31 - (HN (E0 e.todo)).toNat):=Nat.pow_pos (by omega);rw [Ws hl];unfold d8;cases !F6 (l.getD (HN (E0 e.todo)).toNat default).toInt||(JL (E0 e.todo)).emp with
 | true=>rw [DE]; show PT (GE e.todo)+1≤_; omega
 | false=>
  rw [DG];cases hlf:(EY l e).lf with
  | true=>rw [A1,DG]; show PT (GE e.todo)+1≤_; omega
  | false=>
   rw [A6,DE];obtain ⟨_,_,⟨l1,l2⟩,⟨r1,r2⟩,_⟩:=ht.fork _ hlt hlf;replace l1:((HN (E0 e.todo)).toNat:Int) < (EY l e).l:=l1;replace r1:((HN (E0 e.todo)).toNat:Int) < (EY l e).r:=r1
   have:=zjb (a:=(HN (E0 e.todo)).toNat) (b:=(EY l e).l.toNat) (c:=(EY l e).r.toNat) (by omega) (by omega) (by omega)
   unfold PT at *;rw [List.map_append,List.sum_append];simp only [AZ,CC,vbb,List.sum_nil,X1];omega
theorem Wt {l:LI} (hT:GK l 4=true) {b:Bx} (hb:b.emp=false) (hok:b.ok) {e:En} (h:EnI l b e) (hl:e.todo=[]):e.lo=HV l b∧e.hi=HU l b:=by
 obtain ⟨t1,⟨p1,u1,q1,q2⟩,⟨p2,u2,q3,q4⟩⟩:=XV hT hb hok;have hall:∀ p t,b.has p t=true→e.any=true∧e.lo≤G1 l p∧G1 l p≤e.hi:=fun p t hh=>by
  rcases h.all p t hh with ⟨x,hx,_⟩ | hr
  ·rw [hl] at hx; cases hx
  ·exact hr
 have hany:=(hall _ _ q1).1;obtain ⟨p3,u3,q5,q6⟩:=h.lo hany;obtain ⟨p4,u4,q7,q8⟩:=h.hi hany;have a1:=hall _ _ q1;have a2:=hall _ _ q3;have a3:=t1 _ _ q5;have a4:=t1 _ _ q7;omega
theorem zi2 {l:LI} (hT:GK l 4=true) {b c:Bx} (hb:b.emp=false) (hok:b.ok) (hc:c.emp=false) (hokc:c.ok) (h:∀ p,(∃ t,b.has p t=true)↔∃ t,c.has p t=true):HV l b=HV l c∧HU l b=HU l c:=by
 obtain ⟨t1,⟨p1,u1,q1,q2⟩,⟨p2,u2,q3,q4⟩⟩:=XV hT hb hok;obtain ⟨s1,⟨p3,u3,q5,q6⟩,⟨p4,u4,q7,q8⟩⟩:=XV hT hc hokc;obtain ⟨v1,w1⟩:=(h p1).1 ⟨u1,q1⟩;obtain ⟨v2,w2⟩:=(h p2).1 ⟨u2,q3⟩;obtain ⟨v3,w3⟩:=(h p3).2 ⟨u3,q5⟩;obtain ⟨v4,w4⟩:=(h p4).2 ⟨u4,q7⟩;have a1:=s1 _ _ w1;have a2:=s1 _ _ w2;have a3:=t1 _ _ w3;have a4:=t1 _ _ w4;omega
open Go
def lB (m:Md) (q:Qy) (b:Bx):Nat:=(E2 m q b 0).length+(E2 m q b 1).length+(E2 m q b 2).length+(E2 m q b 3).length+(E2 m q b 4).length
theorem Wc {m:Md} {q:Qy} {b c:Bx} {i:Nat} (h:c.g i=b.g i):E2 m q c i=E2 m q b i:=by unfold E2; rw [h]
open Go
def RA (ts:LI):Nat:=(ts.map fun t=>(E5 t).length).sum
theorem zi8 (w:IV):(IX 0 w).length+(IX 1 w).length+(IX 2 w).length+(IX 3 w).length≤1:=by
 unfold IX;cases (DH w.toInt).lf with
 | true=>simp
 | false=>
  generalize (DH w.toInt).f=f;by_cases h0:f=0
  ·subst h0; exact AW _
  by_cases h1:f=1
  ·subst h1; exact AW _
  by_cases h2:f=2
  ·subst h2; exact AW _
  by_cases h3:f=3
  ·subst h3; exact AW _
  rw [A8.2 h0,A8.2 h1,A8.2 h2,A8.2 h3];simp
theorem zi7 (f:Int) (w:IV):(IX f w).length≤1:=by
 unfold IX;cases (!(DH w.toInt).lf&&(DH w.toInt).f==f) <;> simp
theorem Fo:∀ (l:LI),(l.flatMap (IX 0)).length+(l.flatMap (IX 1)).length+(l.flatMap (IX 2)).length+(l.flatMap (IX 3)).length≤l.length
 | []=>AW _
 | w :: l=>by
  have:=Fo l
  have:=zi8 w
  simp only [vai,AU,AN];omega
theorem Fl (f:Int):∀ (l:LI),(l.flatMap (IX f)).length≤l.length
 | []=>AW _
 | w :: l=>by
  have:=Fl f l
  have:=zi7 f w
  simp only [vai,AU,AN];omega
theorem Hy:∀ (ts:LI),(IA ts 0).length+(IA ts 1).length+(IA ts 2).length+(IA ts 3).length≤RA ts
 | []=>AW _
 | t :: ts=>by
  have:=Hy ts
  have:=Fo (E5 t)
  unfold IA RA at *;simp only [vai,AU,AZ,vbb];omega
theorem r7 (f:Int):∀ (ts:LI),(IA ts f).length≤RA ts
 | []=>AW _
 | t :: ts=>by
  have:=r7 f ts
  have:=Fl f (E5 t)
  unfold IA RA at *;simp only [vai,AU,AZ,vbb];omega
theorem YW (m:Md) (q:Qy) (b:Bx) (i:Nat):(E2 m q b i).length≤(IA m.ts (H6 q (i:Int))).length:=by
 unfold E2;cases decide (H6 q (i:Int) < 0) with
 | true=>rw [DE]; exact B7 _
 | false=>
  rw [DG];unfold KY I7;refine CW (List.length_filter_le ..) ?_;rw [← (S2 (IA m.ts (H6 q (i:Int)))).length_eq];exact iX _
theorem zf6 (m:Md) (q:Qy) (b:Bx):lB m q b≤2*RA m.ts:=by
 have h0:=YW m q b 0;have h1:=YW m q b 1;have h2:=YW m q b 2;have h3:=YW m q b 3;have h4:=YW m q b 4;have h5:=r7 (H6 q ((4:Nat):Int)) m.ts;have h6:=Hy m.ts;rw [oS (by omega)] at h0 h1 h2 h3;unfold lB;simp only [Int.natCast_zero] at *;have e1:((1:Nat):Int)=1:=rfl;have e2:((2:Nat):Int)=2:=rfl;have e3:((3:Nat):Int)=3:=rfl;rw [e1] at h1;rw [e2] at h2;rw [e3] at h3;omega
theorem Bq (f:Ft):RA f.M.ts≤60:=by
 have hd:=YX f.d;have key:∀ (l:LI),RA (l.map (Z2 f.d f.c))≤15*l.length:=by
  intro l
  induction l with
  | nil=>exact AW _
  | cons t l ih=>
   obtain ⟨i,hi,hn⟩:=Fw (t.cell 1).toList (t.cell 2).toList (t.cell 3).toList (t.cell 4).toList (dim:=NY f.d) ⟨hd.1,by omega⟩;have e:(E5 (Z2 f.d f.c t)).length=2*i+1:=by
    show ((O3 (t.cell 1).toList (t.cell 2).toList (t.cell 3).toList (t.cell 4).toList (NY f.d)).nodes.map SY).length=_;rw [BQ,hn.len]
   unfold RA at *;simp only [AZ,vbb,AN];rw [e];omega
 have h4:(f.ts.take 4).length≤4:=by rw [A7]; omega
 have:=key (f.ts.take 4)
 show RA ((f.ts.take 4).map (Z2 f.d f.c))≤60;omega
open Go
open Go
theorem zaf {s:Sp}:WX s=true↔s.good:=by
 unfold WX Sp.good;simp only [AI,AP]
theorem Y3 {b:Bx}:FW b=true↔b.good:=by
 unfold FW;simp only [AI,zaf];constructor
 ·rintro ⟨h0,h1,h2,h3,h4⟩ i hi
  match i,hi with
  | 0,_=>exact h0
  | 1,_=>exact h1
  | 2,_=>exact h2
  | 3,_=>exact h3
  | 4,_=>exact h4
  | n+5,hi=>omega
 ·intro h;exact ⟨h 0 (by omega),h 1 (by omega),h 2 (by omega),h 3 (by omega),h 4 (by omega)⟩
theorem zjq {b:Bx} (h4:b.s4.lo≤b.s4.hi) (p:Pt):(∃ t,(b.p ⟨0,0⟩ 4).has p t=true)↔∃ t,b.has p t=true:=by
 constructor
 ·rintro ⟨t,h⟩;refine ⟨b.s4.lo,?_⟩;unfold Bx.has at h ⊢;simp only [AI] at h ⊢;exact ⟨h.1,h.2.1,h.2.2.1,h.2.2.2.1,LX.2 ⟨DA _,h4⟩⟩
 ·rintro ⟨t,h⟩;refine ⟨0,?_⟩;unfold Bx.has at h ⊢;simp only [AI] at h ⊢;exact ⟨h.1,h.2.1,h.2.2.1,h.2.2.2.1,LX.2 ⟨DA _,DA _⟩⟩
theorem tP {g g':LI→Int} (k:Int):∀ (ts:LI) (s:Int),(∀ t∈ts,g (E5 t)=g' (E5 t))→IW g k ts s=IW g' k ts s
 | [],_,_=>rfl
 | t :: ts,s,h=>by
  rw [IW,IW,h t (AR ..)];exact tP k ts _ fun u hu=>h u (AY _ hu)
theorem Iz {m:Md} (hm:EP m=true) (k:Int) {b:Bx} (hb:b.good):D5 m k (b.p ⟨0,0⟩ 4)=D5 m k b∧D3 m k (b.p ⟨0,0⟩ 4)=D3 m k b:=by
 have hg:(b.p ⟨0,0⟩ 4).good:=UN hb ⟨by decide,by decide,by decide⟩ (by omega);have ht:∀ t∈m.ts,HV (E5 t) (b.p ⟨0,0⟩ 4)=HV (E5 t) b∧HU (E5 t) (b.p ⟨0,0⟩ 4)=HU (E5 t) b:=fun t ht=>
  zi2 (Z3 hm ht) hg.emp hg.ok hb.emp hb.ok (zjq (hb 4 (by omega)).2.1)
 have es:GP m k (b.p ⟨0,0⟩ 4)=GP m k b:=by unfold GP; rw [hg.emp,hb.emp]
 unfold D5 D3;rw [es];cases GP m k b with
 | false=>exact ⟨rfl,rfl⟩
 | true=>
  rw [DE,DE,DE,DE];exact ⟨tP k m.ts _ fun t h=>(ht t h).1,tP k m.ts _ fun t h=>(ht t h).2⟩
def WJ (m:Md) (q:Qy) (b:Bx):Nat→Nat→Bool
 | 0,_=>true
 | d+1,i=>cond (!((i:Int)==q.c)&&decide (D3 m (i:Int) b≥D5 m q.c b)) false (WJ m q b d (i+1))
def KN (q:Qy) (b:Bx):Bx:=b.p b.s4 q.ft.toNat
def sP (m:Md) (q:Qy) (b:Bx):Bool:=
 cond b.emp true
  (cond (q.k==1) (decide (q.lo≤D5 m q.c b)&&decide (D3 m q.c b≤q.hi))
   (cond (q.k==2) (WJ m q b m.c.toNat 0)
    (cond (decide ((b.g q.ft.toNat).lo≥b.s4.hi)) true
     (cond q.fl (decide (D3 m q.c (KN q b)≤D5 m q.c b)) (decide (D5 m q.c (KN q b)≥D3 m q.c b))))))
theorem vR {m:Md} {q:Qy} {b:Bx}:∀ (d i:Nat),WJ m q b d i=true↔∀ j:Nat,i≤j→j < i+d→(j:Int)≠q.c→D3 m (j:Int) b < D5 m q.c b
 | 0,i=>⟨fun _ j h1 h2=>by omega,fun _=>rfl⟩
 | d+1,i=>by
  rw [WJ];cases hc:(!((i:Int)==q.c)&&decide (D3 m (i:Int) b≥D5 m q.c b)) with
  | true=>
   rw [DE];simp only [AI,B5,A8,AP] at hc;refine ⟨(fun h=>by cases h),fun h=>?_⟩
   have:=h i (AW _) (by omega) hc.1
   omega
  | false=>
   rw [DG,vR d (i+1)];rw [Bool.and_eq_false_iff,Bool.not_eq_false',B8,BV] at hc;constructor
   ·intro h j h1 h2 hn;rcases vaa i j with h3 | h3
    ·exact h j h3 (by omega) hn
    ·have:j=i:=by omega
     subst this;rcases hc with hc | hc
     ·exact absurd hc hn
     ·omega
   ·intro h j h1 h2 hn;exact h j (by omega) (by omega) hn
theorem zhe {m:Md} {q:Qy} {b:Bx} (hr:FH m q=true) (hb:b.emp=true∨b.good):sP m q b=HG m q b:=by
 unfold sP HG;rw [hr,BC];cases he:b.emp with
 | true=>rfl
 | false=>
  rw [DG,DG];have hg:b.good:=by
   rcases hb with h | h
   ·rw [he] at h; cases h
   ·exact h
  obtain ⟨hm,⟨c0,c1⟩,_,_,hk⟩:=lG hr;have hcl:=dW c0 c1;have hs:=P5 hm hcl he;rcases eQ hk with ⟨e,_⟩ | ⟨e,h2,_⟩ | ⟨e,hf,_⟩
  ·rw [e];show (decide (q.lo≤D5 m q.c b)&&decide (D3 m q.c b≤q.hi))=(GP m q.c b&&(decide (q.lo≤D5 m q.c b)&&decide (D3 m q.c b≤q.hi)));rw [hs,BC]
  ·rw [e];show WJ m q b m.c.toNat 0=(MI m q.c b&&decide (SS m q.c b > 0));have hmg:MI m q.c b=true:=by unfold MI; rw [hs,AE (by omega)]; rfl
   rw [hmg,BC,va3,vR,AP]
   have:=qC hmg
   constructor
   ·intro h;exact this.2 fun j hj hn=>h j (B7 _) (by omega) hn
   ·intro h j _ h2 hn;exact this.1 h j (by omega) hn
  ·rw [e];have hp:=k8 hm e hf;have h44:=hg 4 (by omega);have hg2:(KN q b).good:=UN hg h44 (by have:=hf; have:=(lG hr).1; rcases PY hp with e | e | e | e <;> rw [e] <;> decide);have s1:=Iz hm q.c hg;have s2:=Iz hm q.c hg2;have f1:JP q b=b.p ⟨0,0⟩ 4:=by unfold JP; rw [hp,DE]
   have f2:JR q b=(KN q b).p ⟨0,0⟩ 4:=by unfold JR; rw [hp,DE]; rfl
   have hch:JW m q b=true:=by
    unfold JW;rw [hp,f1,f2,P5 hm hcl (UN hg ⟨by decide,by decide,by decide⟩ (by omega)).emp,P5 hm hcl (UN hg2 ⟨by decide,by decide,by decide⟩ (by omega)).emp];rfl
   have e1:PM m q b=D3 m q.c (KN q b) - D5 m q.c b:=by unfold PM; rw [hch,DE,f1,f2,s1.1,s2.2]
   have e2:PN m q b=D5 m q.c (KN q b) - D3 m q.c b:=by unfold PN; rw [hch,DE,f1,f2,s1.2,s2.1]
   have eo:NA q b=!decide ((b.g q.ft.toNat).lo≥b.s4.hi):=by
    unfold NA;rw [hp,he];by_cases h:(b.g q.ft.toNat).lo < b.s4.hi
    ·rw [AE h,AL (by omega)]; rfl
    ·rw [AL h,AE (by omega)]; rfl
   show cond (decide ((b.g q.ft.toNat).lo≥b.s4.hi)) true _=cond (!(NA q b)) true (cond q.fl (JW m q b&&decide (PM m q b≤0)) (JW m q b&&decide (PN m q b≥0)));rw [eo,Bool.not_not,hch,BC,BC,e1,e2];have d1:decide (D3 m q.c (KN q b) - D5 m q.c b≤0)=decide (D3 m q.c (KN q b)≤D5 m q.c b):=by
    rw [va3,AP,AP]; omega
   have d2:decide (D5 m q.c (KN q b) - D3 m q.c b≥0)=decide (D5 m q.c (KN q b)≥D3 m q.c b):=by
    rw [va3,AP,AP]; omega
   rw [d1,d2]
open Go
theorem oG {x:IV} {left most:Int} {st:Int × Int} (h:SI (left,most) x=some st):left≠0∧P2 x=true∧((H9 x=true∧st=(left - 1,most))∨(H9 x=false∧st=(left+1,max most (left+1)))):=by
 unfold SI at h;cases hz:(left==0) with
 | true=>simp only [hz,Bool.true_or,B1] at h; cases h
 | false=>
  have hne:left≠0:=by simpa using hz
  simp only [hz,vaw] at h;cases hr:P2 x with
  | false=>rw [hr] at h; cases h
  | true=>
   rw [hr] at h;simp only [A1,BG] at h;cases hs:H9 x with
   | true=>rw [hs] at h; exact ⟨hne,rfl,.inl ⟨rfl,(B3 h).symm⟩⟩
   | false=>rw [hs] at h; exact ⟨hne,rfl,.inr ⟨rfl,(B3 h).symm⟩⟩
theorem sG {x:IV} (h:P2 x=true) (hs:H9 x=false):0≤E9 x∧E9 x≤4:=by
 unfold P2 at h;rw [hs,DG,AI,AP,AP] at h;exact h
theorem Hq {x:IV} {left out:LI} {most:Int} {st:Int × Int} {lo:LI × LI} (hl:∀ y∈left,(DY y).good) (ho:∀ y∈out,(DY y).good) (hd:SI (ic left.length,most) x=some st) (hp:RI (left,out) x=some lo) :
  (∀ y∈lo.1,(DY y).good)∧(∀ y∈lo.2,(DY y).good)∧st.1=ic lo.1.length:=by
 obtain ⟨hne,hr,hd⟩:=oG hd;have hlen:0 < left.length:=by simp only [ic] at hne; omega
 have ht:(EB left).good:=hl _ (Z1 hlen).1;unfold RI at hp;rcases hd with ⟨hs,rfl⟩ | ⟨hs,rfl⟩
 ·rw [hs] at hp;obtain rfl:=B3 hp;refine ⟨fun y hy=>hl y (rO hy),fun y hy=>?_,?_⟩
  ·rcases AV.1 hy with hy | hy
   ·exact ho y hy
   ·obtain rfl:=BX.1 hy;rw [KD]; exact ht
  ·show ic left.length - 1=ic (GE left).length;rw [rM]; simp only [ic]; omega
 ·rw [hs] at hp;have hpl:=sG hr hs;have ej:E9 x=(((E9 x).toNat:Nat):Int):=by omega
  cases hc:(decide (F2 x < ((EB left).g (E9 x).toNat).lo)||decide (F2 x≥((EB left).g (E9 x).toNat).hi)) with
  | true=>simp only [hc,BG,B1] at hp; cases hp
  | false=>
   simp only [hc,BG] at hp;obtain rfl:=B3 hp;simp only [Bool.or_eq_false_iff,BV] at hc;refine ⟨fun y hy=>?_,ho,?_⟩
   ·rcases AV.1 hy with hy | hy
    ·exact hl y (rO hy)
    ·rcases AS.1 hy with rfl | hy
     ·rw [KD,ej]; exact n7 ht (by omega) (by omega) (by omega)
     ·obtain rfl:=BX.1 hy;rw [KD,ej]; exact z7 ht (by omega) (by omega) (by omega)
   ·show ic left.length+1=ic (GE left++[_,_]).length;rw [AU,rM];simp only [ic,AN,BB]; omega
theorem Hp:∀ {l:LI} {left out:LI} {most:Int} {st:Int × Int} {lo:LI × LI},(∀ y∈left,(DY y).good)→(∀ y∈out,(DY y).good)→NZ l (ic left.length,most)=some st→K4 l (left,out)=some lo→∀ y∈lo.2,(DY y).good
 | [],left,out,most,st,lo,_,ho,_,hp=>by
  obtain rfl:=B3 hp;exact ho
 | x :: l,left,out,most,st,lo,hl,ho,hd,hp=>by
  rw [NZ] at hd;rw [K4] at hp;cases h1:SI (ic left.length,most) x with
  | none=>rw [h1] at hd; cases hd
  | some s1=>
   cases h2:RI (left,out) x with
   | none=>rw [h2] at hp; cases hp
   | some l1=>
    rw [h1] at hd;rw [h2] at hp;obtain ⟨g1,g2,g3⟩:=Hq hl ho h1 h2;obtain ⟨a,b⟩:=l1;obtain ⟨c,d⟩:=s1;obtain rfl:c=ic a.length:=g3;exact Hp g1 g2 hd hp
theorem oF {l:LI} (h:LK l > 0):∃ st,NZ l (1,1)=some st:=by
 unfold LK at h;cases hc:decide (ic l.length > 65536) with
 | true=>rw [hc,DE] at h; omega
 | false=>
  rw [hc,DG] at h;cases hd:NZ l (1,1) with
  | none=>rw [hd] at h; exact absurd h (by decide)
  | some st=>exact ⟨st,rfl⟩
theorem Hn {b:Bx} (hb:b.good) {l outs:LI} (h:KK b l=some outs):∀ y∈outs,(DY y).good:=by
 unfold KK at h;cases hd:decide (LK l > 0) with
 | false=>rw [hd,DG] at h; cases h
 | true=>
  rw [hd,DE] at h;obtain ⟨st,hst⟩:=oF (A0 hd);cases hp:K4 l ([b.I],[]) with
  | none=>rw [hp] at h; cases h
  | some lo=>
   rw [hp] at h;obtain rfl:=B3 h;refine Hp (left:=[b.I]) (out:=[]) (most:=1) (fun y hy=>?_) (fun y hy=>by cases hy) hst hp;obtain rfl:=BX.1 hy;rw [KD]; exact hb
open Go Go.Proofs
def YA (N:Nat):Env:=D0 [(124,NO),(174,KV),(51,L7)] [(3,⟨[0,4,5,6,7,8,9],[500],[⟨.tmp 9,500,273,true,j8⟩]⟩)] 88 N
open Go Go.Proofs
set_option maxRecDepth 100000
def QZ (l O:LI) (n:Nat) (lo hi:Int) (any:Bool):St:=⟨[(0,.list false [.int .u64] l),(4,.int .i64 0),(5,.int .i64 0),(6,.int .i64 lo),(7,.int .i64 hi),(8,.bool any),(9,.row 500 0 n)],[(500,some (.row true 273 true j8 O))]⟩
abbrev pN:KP:=⟨[0,4,5,6,7,8,9],[500],[⟨.tmp 9,500,273,true,j8⟩]⟩
noncomputable abbrev pJ (N:Nat):Out→St→DJ:=DM 0 (DN (YA N) (DF YP [1,1,1,1]) (DP (YA N) none [.tmp 4,.tmp 5] [[.z],[.z]]))
def eW (n:Nat):Int:=AA AB (ic (n - 0) - 1)
def eX (O:LI) (n:Nat):IV:=O.getD (0+(eW n).toNat) default
def JF (l:LI) (x:IV):Int:=(l.getD (HN x).toNat default).toInt
theorem zd8 (N:Nat) (l:LI) (b:Bx):DV (YA N) YP [.tmp 4,.tmp 5] [[.z],[.z]] [.list false [.int .u64] l,b.V] =
 DT (YA N) (DF YP [1,1,1,0,0,0]) pN N (QZ l [QD 0 b] 1 0 0 false) (pJ N):=by kernel_rfl
theorem Mk (N:Nat) (l O:LI) (n:Nat) (lo hi:Int) (any:Bool) (again:St→DJ) (k:Out→St→DJ):EX (YA N) (DF YP [1,1,1,0,0,0]) (QZ l O n lo hi any) (ED again pN k) =
 cond (decide (ic (n - 0) > 0)) (cond (decide (0≤eW n)&&decide (eW n < ic (n - 0))) (cond (decide (0≤eW n)&&decide (eW n≤ic (n - 0)))
 (cond (decide (0≤HN (eX O n))&&decide (HN (eX O n) < ic l.length))
 (cond (!(F6 (JF l (eX O n)))) (again (QZ l O (0+(eW n).toNat) lo hi any))
 (cond (JL (eX O n)).emp (again (QZ l O (0+(eW n).toNat) lo hi any))
 (cond (!(DH (JF l (eX O n))).lf)
 (cond (GZ (DH (JF l (eX O n))).f) (cond (decide ((0+(eW n).toNat+2)*88≤D6))
 (again (QZ l (O.take (0+(eW n).toNat)++[QD (DH (JF l (eX O n))).l ((JL (eX O n)).cutL (DH (JF l (eX O n))).f (DH (JF l (eX O n))).a),QD (DH (JF l (eX O n))).r ((JL (eX O n)).cutH (DH (JF l (eX O n))).f (DH (JF l (eX O n))).a)]) (0+(eW n).toNat+2) lo hi any)) none) none)
 (cond (!any) (again (QZ l O (0+(eW n).toNat) (min (DH (JF l (eX O n))).v (DH (JF l (eX O n))).v) (max (DH (JF l (eX O n))).v (DH (JF l (eX O n))).v) true))
 (again (QZ l O (0+(eW n).toNat) (min lo (DH (JF l (eX O n))).v) (max hi (DH (JF l (eX O n))).v) any)))))) none) none) none)
 (k (.exit 0) (QZ l O n lo hi any)):=by kernel_rfl
theorem Yg (N:Nat) (l O:LI) (n:Nat) (lo hi:Int) (any:Bool):pJ N (.exit 0) (QZ l O n lo hi any)=some (.tup [.int .i64 lo,.int .i64 hi],[]):=by kernel_rfl
theorem YZ (N:Nat) {l:LI} (hT:GK l 4=true) {b:Bx} (hb:b.good):∀ (c:Nat) (O:LI) (n:Nat) (lo hi:Int) (any:Bool),n≤O.length→EnI l b ⟨O.take n,lo,hi,any⟩→PT (O.take n) < c →
  DT (YA N) (DF YP [1,1,1,0,0,0]) pN c (QZ l O n lo hi any) (pJ N)=some (.tup [.int .i64 (HV l b),.int .i64 (HU l b)],[])
 | 0,_,_,_,_,_,_,_,h=>absurd h (by omega)
 | c+1,O,0,lo,hi,any,hn,h,hc=>by
  obtain ⟨e1,e2⟩:=Wt hT hb.emp hb.ok h rfl;replace e1:lo=HV l b:=e1;replace e2:hi=HU l b:=e2;rw [DX,Mk,show decide (ic (0 - 0) > 0)=false from rfl,DG,Yg,e1,e2]
 | c+1,O,j+1,lo,hi,any,hn,h,hc=>by
  have ht:=tZ hT;have hlen:(O.take (j+1)).length=j+1:=by rw [A7]; omega
  have hl:0 < (En.mk (O.take (j+1)) lo hi any).todo.length:=by show 0 < (O.take (j+1)).length; omega
  have hd:=h.depth ht;replace hd:(O.take (j+1)).length≤31:=hd;have hs:=Ww ht h hl;have hw:=Wu ht h hl;have htop:E0 (O.take (j+1))=O.getD j default:=by
   unfold E0;rw [hlen,BS,BS,CR,BR (by omega)];rfl
  have hpop:GE (O.take (j+1))=O.take j:=by
   unfold GE;rw [hlen,List.take_take];congr 1;omega
  have ew:eW (j+1)=(j:Int):=by
   unfold eW;rw [show ic (j+1 - 0) - 1=(j:Int) by simp only [ic]; omega];exact EI (by omega) (by omega)
  have ej:0+(eW (j+1)).toNat=j:=by rw [ew]; omega
  have ex:eX O (j+1)=E0 (O.take (j+1)):=by unfold eX; rw [ej,htop]
  have ha:=h.at_ _ _ (Z1 hl).2;replace ha:((((O.take (j+1)).length - 1:Nat)):Int)≤HN (E0 (O.take (j+1)))∧HN (E0 (O.take (j+1))) < ic l.length:=ha;have i1:decide (ic (j+1 - 0) > 0)=true:=AE (by simp only [ic]; omega);have i2:(decide (0≤eW (j+1))&&decide (eW (j+1) < ic (j+1 - 0)))=true:=by rw [ew,AE (by omega),AE (by simp only [ic]; omega)]; rfl
  have i3:(decide (0≤eW (j+1))&&decide (eW (j+1)≤ic (j+1 - 0)))=true:=by rw [ew,AE (by omega),AE (by simp only [ic]; omega)]; rfl
  rw [DX,Mk,i1,DE,i2,DE,i3,DE,ej,ex,AE (show 0≤HN (E0 (O.take (j+1))) by omega),AE ha.2,BY,DE];unfold d8 at hs hw;simp only [EY,hpop] at hs hw;have eWdef:JF l (E0 (O.take (j+1)))=(l.getD (HN (E0 (O.take (j+1)))).toNat default).toInt:=rfl;rw [← eWdef] at hs hw;have hfk:(DH (JF l (E0 (O.take (j+1))))).lf=false→GZ (DH (JF l (E0 (O.take (j+1))))).f=true:=fun hf=>by
   have hk:(HN (E0 (O.take (j+1)))).toNat < l.length:=by have:=ha.2; simp only [ic] at this; omega
   have:=(ht.fork _ hk hf).1
   replace this:0≤(DH (JF l (E0 (O.take (j+1))))).f∧(DH (JF l (E0 (O.take (j+1))))).f < 4:=this;unfold GZ;rw [AE this.1,AE (by omega)];rfl
  generalize JF l (E0 (O.take (j+1)))=wd at hs hw hfk ⊢;generalize JL (E0 (O.take (j+1)))=vb at hs hw ⊢;cases hnb:F6 wd with
  | false=>
   rw [A6,DE];simp only [hnb,A6,Bool.true_or,B1] at hs hw;exact YZ N hT hb c O j lo hi any (by omega) hs (by omega)
  | true=>
   rw [A1,DG];simp only [hnb,A1,vaw] at hs hw;cases he:vb.emp with
   | true=>
    rw [DE];simp only [he,B1] at hs hw;exact YZ N hT hb c O j lo hi any (by omega) hs (by omega)
   | false=>
    rw [DG];simp only [he,BG] at hs hw;cases hlf:(DH wd).lf with
    | true=>
     rw [A1,DG];simp only [hlf,A1,BG] at hs hw;cases any with
     | false=>
      rw [A6,DE];exact YZ N hT hb c O j _ _ true (by omega) hs (by omega)
     | true=>
      rw [A1,DG];exact YZ N hT hb c O j _ _ true (by omega) hs (by omega)
    | false=>
     rw [A6,DE];simp only [hlf,A6,B1] at hs hw;have e2:∀ v1 v2:IV,(O.take j++[v1,v2]).take (j+2)=O.take j++[v1,v2]:=fun v1 v2=>CX (by simp only [AU,A7,AN,BB]; omega)
     rw [hfk hlf,DE,AE (show (j+2)*88≤D6 by unfold D6; omega),DE];refine YZ N hT hb c _ (j+2) lo hi any (by simp only [AU,A7,AN,BB]; omega) ?_ ?_
     ·rw [e2]; exact hs
     ·rw [e2]; omega
theorem zhE:DS PR B0 212 bI:=by
 refine D2 [(124,NO),(174,KV),(51,L7)] [(3,⟨[0,4,5,6,7,8,9],[500],[⟨.tmp 9,500,273,true,j8⟩]⟩)] bI [[.z],[.z]] Tryz.func212 zaP ⟨gG,XR,ZX,trivial⟩ ?_;intro vs r hwf h;unfold bI at h;split at h
 ·rename_i l b;replace h:=IN h;obtain ⟨b,rfl,h⟩:=h;cases hg:(GK l 4&&FW b) with
  | false=>rw [hg] at h; simp [R.get] at h
  | true=>
  rw [hg,R.get_br,DE,R.get_ok] at h;rw [AI] at hg;refine ⟨3 ^ 31+1,(zd8 (3 ^ 31+1) l b).trans ?_⟩;rw [← h];have hgd:=Y3.1 hg.2;refine YZ (3 ^ 31+1) hg.1 hgd (3 ^ 31+1) [QD 0 b] 1 0 0 false (AW _) (Wv (tZ hg.1) hgd.ok) ?_;show PT [QD 0 b] < 3 ^ 31+1;unfold PT;simp only [AZ,CC,vbb,List.sum_nil,X1];show 3 ^ 31+0 < 3 ^ 31+1;omega
 ·simp [R.get] at h
open Go Go.Proofs
def YB (N:Nat):Env:=D0 [(124,NO),(173,cP)] [(6,⟨[4,5,6,7,19,20,21],[500,501],[⟨.tmp 6,500,37,true,EA⟩,⟨.tmp 7,501,37,true,EA⟩]⟩)] 75 N
open Go Go.Proofs
set_option maxRecDepth 100000
def RH (l L:LI) (n:Nat) (out:LI) (m:Nat) (i:Int):St:=⟨[(4,.zs),(5,.bool false),(6,.row 500 0 n),(7,.row 501 0 m),(19,.list true D8 l),(20,.int .i64 (ic l.length)),(21,.int .i64 i)],[(500,some (.row true 37 true EA L)),(501,some (.row true 37 true EA out))]⟩
abbrev pP:KP:=⟨[4,5,6,7,19,20,21],[500,501],[⟨.tmp 6,500,37,true,EA⟩,⟨.tmp 7,501,37,true,EA⟩]⟩
def rL (p:Int) (f:Nat→DJ):DJ:=cond (decide (p=ic 0)) (f 0) (cond (decide (p=ic 1)) (f 1) (cond (decide (p=ic 2)) (f 2) (cond (decide (p=ic 3)) (f 3) (cond (decide (p=ic 4)) (f 4) none))))
def KH (n:Nat):Int:=AA AB (ic (n - 0) - 1)
def pX (L:LI) (n:Nat):IV:=L.getD (0+(KH n).toNat) default
noncomputable abbrev j7 (N:Nat):Out→St→DJ:=DM 0 (DN (YB N) (DF YQ [1,1,1,1,1]) (DP (YB N) none [.tmp 4,.tmp 5] [[.list true EA],[.bool]]))
theorem zey (N:Nat) (l:LI) (b:Bx):DV (YB N) YQ [.tmp 4,.tmp 5] [[.list true EA],[.bool]] [b.V,.list true D8 l] =
 cond (!decide (LK l > 0)) (some (.tup [.list true EA [],.bool false],[])) (DT (YB N) (DF YQ [1,1,1,1,0,1,0,0]) pP N (RH l [b.I] 1 [] 0 0) (j7 N)):=by kernel_rfl
theorem Yv (N:Nat) (l L out:LI) (n m:Nat) (i:Int):j7 N (.exit 0) (RH l L n out m i)=some (.tup [.list true EA (AK m out),.bool true],[]):=by kernel_rfl
theorem Bc (N:Nat) (l L out:LI) (n m:Nat) (i:Int):j7 N .ret (RH l L n out m i)=some (.tup [.list true EA [],.bool false],[]):=by kernel_rfl
theorem Mw (N:Nat) (l L out:LI) (n m:Nat) (i:Int) (again:St→DJ) (k:Out→St→DJ):EX (YB N) (DF YQ [1,1,1,1,0,1,0,0]) (RH l L n out m i) (ED again pP k) =
 cond (decide (i < ic l.length)) (cond (decide (0≤i)&&decide (i < ic l.length)) (cond (decide (0≤KH n)&&decide (KH n < ic (n - 0))) (cond (decide (0≤KH n)&&decide (KH n≤ic (n - 0)))
 (cond (H9 (l.getD i.toNat default)) (cond (decide ((m+1)*80≤D6)) (again (RH l L (0+(KH n).toNat) (out.take m++[(DY (pX L n)).I]) (m+1) (FD (i+1)))) none)
 (rL (E9 (l.getD i.toNat default)) fun j=>cond (decide (F2 (l.getD i.toNat default) < cI (pX L n) (2*j))) (k .ret (RH l L (0+(KH n).toNat) out m i))
 (rL (E9 (l.getD i.toNat default)) fun j=>cond (decide (F2 (l.getD i.toNat default)≥cI (pX L n) (2*j+1))) (k .ret (RH l L (0+(KH n).toNat) out m i))
 (cond (GZ (E9 (l.getD i.toNat default))) (cond (decide ((0+(KH n).toNat+2)*80≤D6))
 (again (RH l (L.take (0+(KH n).toNat)++[((DY (pX L n)).cutH (E9 (l.getD i.toNat default)) (F2 (l.getD i.toNat default))).I,((DY (pX L n)).cutL (E9 (l.getD i.toNat default)) (F2 (l.getD i.toNat default))).I]) (0+(KH n).toNat+2) out m (FD (i+1)))) none) none)))) none) none) none)
 (k (.exit 0) (RH l L n out m i)):=by kernel_rfl
theorem Ha {p:Int} {a:Nat} (h:p=(a:Int)) (ha:a < 5) (f:Nat→DJ):rL p f=f a:=by
 subst h
 match a,ha with
 | 0,_=>rfl
 | 1,_=>rfl
 | 2,_=>rfl
 | 3,_=>rfl
 | 4,_=>rfl
 | n+5,h=>omega
theorem Um (x:IV):∀ {a:Nat},a < 5→(DY x).g a=⟨cI x (2*a),cI x (2*a+1)⟩
 | 0,_=>rfl
 | 1,_=>rfl
 | 2,_=>rfl
 | 3,_=>rfl
 | 4,_=>rfl
 | n+5,h=>by omega
def rU (o:Option (List IV × LI)):DJ:=match o with
 | some lo=>some (.tup [.list true EA lo.2,.bool true],[])
 | none=>some (.tup [.list true EA [],.bool false],[])
theorem rV (N:Nat) (l:LI) (hl:l.length≤65536):∀ (d c i:Nat) (L:LI) (n:Nat) (out:LI) (most:Int) (st:Int × Int),i+d=l.length→d < c→n≤L.length→n≤i+1→out.length≤i→NZ (l.drop i) (ic n,most)=some st →
  DT (YB N) (DF YQ [1,1,1,1,0,1,0,0]) pP c (RH l L n out out.length (i:Int)) (j7 N)=rU (K4 (l.drop i) (L.take n,out))
 | d,0,_,_,_,_,_,_,_,h,_,_,_,_=>absurd h (by omega)
 | 0,c+1,i,L,n,out,most,st,hd,_,_,_,_,_=>by
  rw [DX,Mw,IT (by omega),DG,C2 (by omega),Yv,BI];rfl
 | d+1,c+1,i,L,n,out,most,st,hd,hc,hn,hn2,ho,hdp=>by
  have hi:i < l.length:=by omega
  rw [BF hi,NZ] at hdp;rw [DX,Mw,H0 hi,DE,IH,BY,DE,IS hi,BF hi,K4];have ei:FD ((i:Int)+1)=((i+1:Nat):Int):=GQ (by omega);rw [ei];generalize l[i]=x at hdp ⊢;cases h1:SI (ic n,most) x with
  | none=>rw [h1] at hdp; cases hdp
  | some s1=>
   rw [h1] at hdp;obtain ⟨hne,hr,hcase⟩:=oG h1;obtain ⟨j,rfl⟩:∃ j,n=j+1:=⟨n - 1,by simp only [ic] at hne; omega⟩;have hlen:(L.take (j+1)).length=j+1:=by rw [A7]; omega
   have htop:E0 (L.take (j+1))=L.getD j default:=by
    unfold E0;rw [hlen,BS,BS,CR,BR (by omega)];rfl
   have hpop:GE (L.take (j+1))=L.take j:=by
    unfold GE;rw [hlen,List.take_take];congr 1;omega
   have ew:KH (j+1)=(j:Int):=by
    unfold KH;rw [show ic (j+1 - 0) - 1=(j:Int) by simp only [ic]; omega];exact EI (by omega) (by omega)
   have ej:0+(KH (j+1)).toNat=j:=by rw [ew]; omega
   have ex:pX L (j+1)=E0 (L.take (j+1)):=by unfold pX; rw [ej,htop]
   have i2:(decide (0≤KH (j+1))&&decide (KH (j+1) < ic (j+1 - 0)))=true:=by rw [ew,AE (by omega),AE (by simp only [ic]; omega)]; rfl
   have i3:(decide (0≤KH (j+1))&&decide (KH (j+1)≤ic (j+1 - 0)))=true:=by rw [ew,AE (by omega),AE (by simp only [ic]; omega)]; rfl
   have et:EB (L.take (j+1))=DY (E0 (L.take (j+1))):=rfl;rw [i2,DE,i3,DE,ej,ex];unfold RI;simp only [hpop,et];generalize E0 (L.take (j+1))=y;rcases hcase with ⟨hs,rfl⟩ | ⟨hs,rfl⟩
   ·rw [hs,DE,DE,AE (show (out.length+1)*80≤D6 by unfold D6; omega),DE,BI]
    have:=rV N l hl d c (i+1) L j (out++[(DY y).I]) most st (by omega) (by omega) (by omega) (by omega) (by simp only [AU,AN,BB]; omega) (by rw [show ic j=ic (j+1) - 1 by simp only [ic]; omega]; exact hdp)
    rw [show (out++[(DY y).I]).length=out.length+1 by simp] at this;exact this
   ·have hpl:=sG hr hs;obtain ⟨a,ha⟩:∃ a:Nat,E9 x=(a:Int):=⟨(E9 x).toNat,by omega⟩;have ha5:a < 5:=by omega
    rw [hs,DG,DG,Ha ha ha5,Ha ha ha5];have eg:=Um y ha5;rw [show (E9 x).toNat=a by omega,eg];show cond (decide (F2 x < cI y (2*a))) _ _=rU (match cond (decide (F2 x < cI y (2*a))||decide (F2 x≥cI y (2*a+1))) none _ with | some st'=>K4 (l.drop (i+1)) st' | none=>none);cases decide (F2 x < cI y (2*a)) with
    | true=>rw [DE,Bc,Bool.true_or,DE]; rfl
    | false=>
     rw [DG,vaw];cases decide (F2 x≥cI y (2*a+1)) with
     | true=>rw [DE,Bc,DE]; rfl
     | false=>
      have hin:GZ (E9 x)=true:=by unfold GZ; rw [AE hpl.1,AE (by omega)]; rfl
      rw [DG,DG,hin,DE,AE (show (j+2)*80≤D6 by unfold D6; omega),DE];have e2:∀ v1 v2:IV,(L.take j++[v1,v2]).take (j+2)=L.take j++[v1,v2]:=fun v1 v2=>CX (by simp only [AU,A7,AN,BB]; omega)
      have:=rV N l hl d c (i+1) (L.take j++[((DY y).cutH (E9 x) (F2 x)).I,((DY y).cutL (E9 x) (F2 x)).I]) (j+2) out (max most (ic (j+1)+1)) st (by omega) (by omega) (by simp only [AU,A7,AN,BB]; omega) (by omega) (by omega) (by rw [show ic (j+2)=ic (j+1)+1 by simp only [ic]; omega]; exact hdp)
      rw [e2] at this;exact this
theorem zih:DS PR B0 117 cQ:=by
 refine D2 [(124,NO),(173,cP)] [(6,⟨[4,5,6,7,19,20,21],[500,501],[⟨.tmp 6,500,37,true,EA⟩,⟨.tmp 7,501,37,true,EA⟩]⟩)] cQ [[.list true [.z,.z,.z,.z,.z,.z,.z,.z,.z,.z]],[.bool]] Tryz.func117 zbD ⟨gG,zig,trivial⟩ ?_;intro vs r hwf h;unfold cQ at h;split at h
 ·rename_i b l;replace h:=IN h;obtain ⟨b,rfl,h⟩:=h;rw [R.get_br] at h;refine ⟨l.length+1,(zey (l.length+1) l b).trans ?_⟩;cases hd:decide (LK l > 0) with
  | false=>
   have e:KK b l=none:=by unfold KK; rw [hd,DG]
   rw [e] at h;rw [A6,DE];exact h
  | true=>
   obtain ⟨st,hst⟩:=oF (A0 hd);have hl:l.length≤65536:=by
    have:=A0 hd
    unfold LK at this;by_cases hc:ic l.length > 65536
    ·rw [AE hc,DE] at this; omega
    ·simp only [ic] at hc; omega
   have run:=rV (l.length+1) l hl l.length (l.length+1) 0 [b.I] 1 [] 1 st (by omega) (by omega) (AW _) (by omega) (AW _) hst;rw [BZ] at run;have e:KK b l=(K4 l ([b.I],[])).map (·.2):=by unfold KK; rw [hd,DE]
   rw [A1,DG];refine Eq.trans run ?_;show rU (K4 l ([b.I],[]))=_;rw [e] at h;cases hp:K4 l ([b.I],[]) with
   | none=>rw [hp] at h; exact h
   | some lo=>rw [hp] at h; exact h
 ·simp [R.get] at h
open Go Go.Proofs
theorem nQ (N:Nat) (ts:LI) (b:Bx) (k:Int) (hts:ts.length≤8) (hT:∀ t∈ts,GK (E5 t) 4=true) (hb:FW b=true):∀ (m i n:Nat) (lo hi:Int),i+m=ts.length→m < n→(-2147483648*(i+1)≤lo∧lo≤2147483648*(i+1))→(-2147483648*(i+1)≤hi∧hi≤2147483648*(i+1)) →
  DT (GM N) (DF IE [1,1,1,0,1,0,0]) ⟨[1,5,6,7,8,9,40,41,42],[5],[]⟩ n ⟨[(1,(.int .i64 k)),(5,(.ptr 5 0 0)),(6,(.int .i64 0)),(7,(.int .i64 0)),(8,(.int .i64 lo)),(9,(.int .i64 hi)),(40,(.list true LN ts)),(41,(.int .i64 (ic ts.length))),(42,(.int .i64 (i:Int)))],[(5,(some (.box (Bx.cs b))))]⟩ (DM 0 (DN (GM N) (DF IE [1,1,1,1]) (DP (GM N) none [(CD 6),(CD 7)] [[.z],[.z]]))) =
   some (.tup [.int .i64 (IW (fun l=>HV l b) k (ts.drop i) lo),.int .i64 (IW (fun l=>HU l b) k (ts.drop i) hi)],[])
 | m,i,0,_,_,_,h,_,_=>absurd h (by omega)
 | 0,i,n+1,lo,hi,hd,_,_,_=>by
  have hlt:i=ts.length:=by omega
  subst hlt;rw [DX,Lz,IT (AW _),DG,vad];exact Xu N b _ _ _ _ _ _ _ _
 | m+1,i,n+1,lo,hi,hd,hn,h1,h2=>by
  have hlt:i < ts.length:=by omega
  have ei:AA AB ((i:Int)+1)=((i+1:Nat):Int):=GQ (by omega);rw [DX,Lz,ei,H0 hlt,DE,IH,BY,DE,IS hlt,BF hlt,IW,IW];obtain ⟨q1,q2⟩:=l9 (E5 ts[i]) b;have q1:=M4 q1;have q2:=M4 q2;have hti:GK (IV.toList (IV.cell ts[i] 1)) 4=true:=hT _ (C4 hlt);cases ((ts[i].cell 0).toInt==k) with
  | true=>
   rw [DE,DE,DE,hti,hb,BY,DE];have ew:AA AB (lo+HV (E5 ts[i]) b)=lo+HV (E5 ts[i]) b:=EI (by omega) (by omega);have ew2:AA AB (hi+HU (E5 ts[i]) b)=hi+HU (E5 ts[i]) b:=EI (by omega) (by omega);have ih:=nQ N ts b k hts hT hb m (i+1) n (lo+HV (E5 ts[i]) b) (hi+HU (E5 ts[i]) b) (by omega) (by omega) (by omega) (by omega);rw [← ew,← ew2] at ih;refine Eq.trans ih ?_;rw [ew,ew2]
  | false=>
   rw [DG,DG,DG];exact nQ N ts b k hts hT hb m (i+1) n lo hi (by omega) (by omega) (by omega) (by omega)
theorem zhD:DS PR B0 175 bH:=by
 refine D2 [(174,KV),(212,bI),(49,L6)] [(5,⟨[1,5,6,7,8,9,40,41,42],[5],[]⟩)] bH [[.z],[.z]] Tryz.func175 zaO ⟨XR,zhE,ZW,trivial⟩ ?_;intro vs r hwf h;unfold bH at h;split at h
 ·rename_i m k b;replace h:=IO h;obtain ⟨m,rfl,h⟩:=h;replace h:=IN h;obtain ⟨b,rfl,h⟩:=h;cases hg:(b.emp||FW b) with
  | false=>rw [hg] at h; simp [R.get] at h
  | true=>
  rw [hg,R.get_br,DE,R.get_ok] at h;refine ⟨10,?_⟩;rw [← h];refine (zdI 10 m k b).trans ?_;unfold D5 D3 GP;cases hm:EP m with
  | false=>rfl
  | true=>
   rw [A1,DG];cases h0:decide (k < 0) with
   | true=>
    have:HX m k=false:=by unfold HX; rw [AL (show ¬ 0≤k by have:=A0 h0; omega)]; rfl
    rw [this];rfl
   | false=>
    rw [DG];cases h1:decide (k≥m.c) with
    | true=>
     have:HX m k=false:=by unfold HX; rw [AL (show ¬ k < m.c by have:=A0 h1; omega),vaq]
     rw [this];rfl
    | false=>
     have hc:HX m k=true:=by unfold HX; rw [AE (show 0≤k by have:=BH h0; omega),AE (show k < m.c by have:=BH h1; omega)]; rfl
     rw [DG,hc];cases he:b.emp with
     | true=>rfl
     | false=>
      rw [he,vaw] at hg;have hb:=iO hm k;have run:=nQ 10 m.ts b k (LT hm).2.2.1 (fun t ht=>Z3 hm ht) hg m.ts.length 0 10 (LD m k) (LD m k) (by omega) (by have:=(LT hm).2.2.1; omega) (by omega) (by omega);rw [DG];rcases nT hm hc with rfl | rfl | rfl <;> exact run
 ·simp [R.get] at h
theorem sQ (N:Nat) (m:Md) (q:Qy) (b:Bx) (hb:(b.emp||FW b)=true):∀ (d i n:Nat),((i+d:Nat):Int)=m.c→d < n→m.c < 1000 →
  DT (K9 N) (DF NT [1,1,1,0,1,0,1,1,1,0,0,1,0,0]) ⟨[3,4,5,6,7,42,43],[3,4,5],[]⟩ n ⟨[(3,(.ptr 3 0 0)),(4,(.ptr 4 0 0)),(5,(.ptr 5 0 0)),(6,(.bool false)),(7,(.int .i64 (D5 m q.c b))),(42,(.int .i64 m.c)),(43,(.int .i64 (i:Int)))],[(3,(some (.box (Md.cs m)))),(4,(some (.box (Qy.cs q)))),(5,(some (.box (Bx.cs b))))]⟩ (DM 1 (DN (K9 N) (DF NT [1,1,1,0,1,0,1,1,1,0,1]) (DM 0 (DN (K9 N) (DF NT [1,1,1,1]) (DP (K9 N) none [(CD 6)] [[.bool]])))))=some (.bool (WJ m q b d i),[])
 | d,i,0,_,h,_=>absurd h (by omega)
 | 0,i,n+1,hd,_,_=>by
  rw [DX,Ma,AL (show ¬ (i:Int) < m.c by omega),DG];exact Xv N m q b _ _ _ _
 | d+1,i,n+1,hd,hn,hc=>by
  have ei:AA AB ((i:Int)+1)=((i+1:Nat):Int):=GQ (by omega);rw [DX,Ma,ei,AE (show (i:Int) < m.c by omega),DE,hb,DE,WJ];have en:((i:Int) != q.c)=!((i:Int)==q.c):=rfl;rw [en];cases ((i:Int)==q.c) with
  | true=>
   rw [A1,DG,BM,DG];exact sQ N m q b hb d (i+1) n (by omega) (by omega) hc
  | false=>
   rw [A6,DE,BC];cases decide (D3 m (i:Int) b≥D5 m q.c b) with
   | true=>
    rw [DE,DE];exact Xw N m q b _ _ _ _
   | false=>
    rw [DG,DG];exact sQ N m q b hb d (i+1) n (by omega) (by omega) hc
theorem zhF:DS PR B0 118 bJ:=by
 refine D2 [(174,KV),(175,bH)] [(9,⟨[3,4,5,6,7,42,43],[3,4,5],[]⟩)] bJ [[.bool]] Tryz.func118 zaQ ⟨XR,zhD,trivial⟩ ?_;intro vs r hwf h;unfold bJ at h;split at h
 ·rename_i m q b;replace h:=IO h;obtain ⟨m,rfl,h⟩:=h;replace h:=I0 h;obtain ⟨q,rfl,h⟩:=h;replace h:=IN h;obtain ⟨b,rfl,h⟩:=h;cases hg:(FH m q&&(b.emp||FW b)) with
  | false=>rw [hg] at h; simp [R.get] at h
  | true=>
  rw [hg,R.get_br,DE,R.get_ok] at h;rw [AI] at hg;obtain ⟨hr,hb⟩:=hg;have hb':b.emp=true∨b.good:=by
   rw [vaz] at hb;exact hb.imp id Y3.1
  refine ⟨1000,?_⟩;rw [← h,← zhe hr hb'];refine (zdJ 1000 m q b).trans ?_;obtain ⟨hm,_,_,_,hk⟩:=lG hr;unfold sP;cases he:b.emp with
  | true=>rfl
  | false=>
   have hgd:FW b=true:=by rw [he,vaw] at hb; exact hb
   rw [DG,DG,hgd,vaw,DE];rcases eQ hk with ⟨e,_⟩ | ⟨e,h2,_⟩ | ⟨e,hf,_⟩
   ·rw [e];show cond (decide (q.lo≤D5 m q.c b)) (some (V.bool (decide (D3 m q.c b≤q.hi)),[])) (some (V.bool false,[]))=some (V.bool (decide (q.lo≤D5 m q.c b)&&decide (D3 m q.c b≤q.hi)),[]);cases decide (q.lo≤D5 m q.c b) <;> rfl
   ·rw [e];have hc:=(LT hm).2.1;exact sQ 1000 m q b (by rw [he,hgd]; rfl) m.c.toNat 0 1000 (by omega) (by omega) (by omega)
   ·rw [e];have hp:=k8 hm e hf;have hg2:FW (KN q b)=true:=Y3.2 (UN (Y3.1 hgd) ((Y3.1 hgd) 4 (by omega)) (by rcases PY hp with e | e | e | e <;> rw [e] <;> decide));have fin:(cond (decide ((b.g q.ft.toNat).lo≥b.s4.hi)) (some (V.bool true,[])) (cond ((KN q b).emp||FW (KN q b)) (cond q.fl (some (V.bool (decide (D3 m q.c (KN q b)≤D5 m q.c b)),[])) (some (V.bool (decide (D5 m q.c (KN q b)≥D3 m q.c b)),[]))) none):DJ) =
      some (V.bool (cond (decide ((b.g q.ft.toNat).lo≥b.s4.hi)) true (cond q.fl (decide (D3 m q.c (KN q b)≤D5 m q.c b)) (decide (D5 m q.c (KN q b)≥D3 m q.c b)))),[]):=by
     rw [hg2,Bool.or_true,DE];cases decide ((b.g q.ft.toNat).lo≥b.s4.hi) <;> cases q.fl <;> rfl
    refine Eq.trans ?_ fin;unfold KN;rcases PY hp with e | e | e | e <;> rw [e] <;> rfl
 ·simp [R.get] at h
theorem Hm (N:Nat) (m:Md) (q:Qy) (hr:FH m q=true) (l:LI) (hl:l.length < 100000) (hg:∀ y∈l,(DY y).good):∀ (d i n:Nat),i+d=l.length→d < n →
  DT (JM N) (DF LG [1,1,1,0,1,0,1,0,1,0,1,0,0]) ⟨[3,4,6,9,29,30,31],[3,4],[]⟩ n ⟨[(3,(.ptr 3 0 0)),(4,(.ptr 4 0 0)),(6,(.bool false)),(9,(.bool true)),(29,(.list true EA l)),(30,(.int .i64 (ic l.length))),(31,(.int .i64 (i:Int)))],[(3,(some (.box (Md.cs m)))),(4,(some (.box (Qy.cs q))))]⟩ (DM 1 (DN (JM N) (DF LG [1,1,1,0,1,0,1,0,1,1]) (DM 0 (DN (JM N) (DF LG [1,1,1,1]) (DP (JM N) none [(CD 6)] [[.bool]]))))) =
   some (.bool ((l.drop i).all fun x=>HG m q (DY x)),[])
 | d,i,0,_,h=>absurd h (by omega)
 | 0,i,n+1,hd,_=>by
  rw [DX,tL,IT (by omega),DG,C2 (by omega)];exact Bb N m q _ _ l _ _
 | d+1,i,n+1,hd,hn=>by
  have hi:i < l.length:=by omega
  have hgi:=hg _ (C4 hi);rw [DX,tL,H0 hi,DE,IH,BY,DE,GQ (by omega),IS hi,BF hi,vaM,hr,Y3.2 hgi,Bool.or_true,BY,DE];cases HG m q (DY l[i]) with
  | false=>
   rw [A6,DE];exact Xt N m q _ _ l _ _
  | true=>
   rw [A1,DG,BC];exact Hm N m q hr l hl hg d (i+1) n (by omega) (by omega)
theorem zgi {b:Bx} {l outs:LI} (h:KK b l=some outs):outs.length≤65536:=by
 have key:∀ {l:LI} {st lo:LI × LI},K4 l st=some lo→lo.2.length≤st.2.length+l.length:=by
  intro l
  induction l with
  | nil=>intro st lo h; obtain rfl:=B3 h; exact AW _
  | cons x l ih=>
   intro st lo h;rw [K4] at h;cases h1:RI st x with
   | none=>rw [h1] at h; cases h
   | some s1=>
    rw [h1] at h
    have:=ih h
    have h2:s1.2.length≤st.2.length+1:=by
     unfold RI at h1;cases hs:H9 x with
     | true=>rw [hs] at h1; obtain rfl:=B3 h1; simp
     | false=>
      rw [hs,DG] at h1;cases hc:(decide (F2 x < ((EB st.1).g (E9 x).toNat).lo)||decide (F2 x≥((EB st.1).g (E9 x).toNat).hi)) with
      | true=>rw [hc] at h1; cases h1
      | false=>rw [hc] at h1; obtain rfl:=B3 h1; exact Nat.le_succ _
    simp only [AN];omega
 unfold KK at h;cases hd:decide (LK l > 0) with
 | false=>rw [hd,DG] at h; cases h
 | true=>
  rw [hd,DE] at h;have hl:l.length≤65536:=by
   have:=A0 hd
   unfold LK at this;by_cases hc:ic l.length > 65536
   ·rw [AE hc,DE] at this; omega
   ·simp only [ic] at hc; omega
  cases hp:K4 l ([b.I],[]) with
  | none=>rw [hp] at h; cases h
  | some lo=>
   rw [hp] at h;obtain rfl:=B3 h
   have:=key hp
   simp only [BB] at this;show lo.2.length≤65536;omega
theorem sY:DS PR B0 54 R0:=by
 refine D2 [(119,a8),(118,bJ),(117,cQ),(62,R6),(93,L8),(38,PK)] [(8,⟨[3,4,6,9,29,30,31],[3,4],[]⟩)] R0 [[.bool]] Tryz.func54 zaN ⟨zhw,zhF,zih,s8,ZY,lQ,trivial⟩ ?_;intro vs r hwf h;unfold R0 at h;split at h
 ·rename_i m q v;replace h:=IO h;obtain ⟨m,rfl,h⟩:=h;replace h:=I0 h;obtain ⟨q,rfl,h⟩:=h;replace h:=Pg h;obtain ⟨v,rfl,h⟩:=h;rw [R.get_ok] at h;refine ⟨70000,?_⟩;rw [← h];refine (zdH 70000 m q v).trans ?_;unfold NB;cases hr:FH m q with
  | false=>rfl
  | true=>
   rw [A1,DG,BC];cases v.kind==1 with
   | true=>
    rw [DE,DE];cases hp:KK (EV q) v.proof with
    | none=>
     show cond false _ _=_;rw [DG,DX,tL];exact Bb 70000 m q _ _ [] _ _
    | some l=>
     show cond true _ _=_;rw [DE];have hl:=zgi hp
     have:=Hm 70000 m q hr l (by omega) (Hn (gN hr) hp) l.length 0 70000 (by omega) (by omega)
     rw [BZ] at this;exact this
   | false=>
    rw [DG,DG];cases v.kind==2 with
    | false=>rfl
    | true=>
     rw [DE,DE];show cond ((EV q).has v.p v.twin) (some (V.bool (GJ m q v.p v.twin),[])) (some (V.bool false,[]))=some (V.bool ((EV q).has v.p v.twin&&GJ m q v.p v.twin),[]);cases (EV q).has v.p v.twin <;> rfl
 ·simp [R.get] at h
open Go Go.Proofs
def QN (N:Nat):Env:=D0 [] [(4,⟨[2,13,14,15],[],[]⟩)] 37 N
abbrev OH (b2:Bool) (l13:LI) (x14 x15:Int):St:=⟨[(2,(.bool b2)),(13,(.list true [.bool,.z,.z] l13)),(14,(.i x14)),(15,(.i x15))],[]⟩
theorem zdG (N:Nat) (l:LI):DV (QN N) T3 [.tmp 2] [[.bool]] [.list true [.bool,.z,.z] l]=(cond (decide (ic (AF l) < 1)) (some ((.bool false),[])) (cond (decide (ic (AF l) > 65536)) (some ((.bool false),[])) (DT (QN N) (DF T3 [1,1,0,1,0,0]) ⟨[2,13,14,15],[],[]⟩ N (OH false l (ic (AF l)) 0) (DM 0 (DN (QN N) (DF T3 [1,1,1]) (DP (QN N) none [.tmp 2] [[.bool]])))))):=by kernel_rfl
theorem Ly (N:Nat) (b2:Bool) (l13:LI) (x14 x15:Int) (again:St→DJ) (k:Out→St→DJ):EX (QN N) (DF T3 [1,1,0,1,0,0]) (OH b2 l13 x14 x15) (ED again ⟨[2,13,14,15],[],[]⟩ k)=(cond (decide (x15 < x14)) (cond (decide (0≤x15)&&decide (x15 < ic (AF l13))) (cond (IV.toBool (IV.cell (AH l13 (AD x15) default) 0)) (cond (! (IV.toBool (IV.cell (AH l13 (AD x15) default) 0)==true&&(IV.toInt (IV.cell (AH l13 (AD x15) default) 1)==0&&(IV.toInt (IV.cell (AH l13 (AD x15) default) 2)==0&&true)))) (k .ret (OH false l13 x14 x15)) (cond (decide (IV.toInt (IV.cell (AH l13 (AD x15) default) 1) < 0)) (k .ret (OH false l13 x14 x15)) (cond (decide (IV.toInt (IV.cell (AH l13 (AD x15) default) 1) > 4)) (k .ret (OH false l13 x14 x15)) (again (OH b2 l13 x14 (AA AB (x15+1))))))) (cond (decide (IV.toInt (IV.cell (AH l13 (AD x15) default) 1) < 0)) (k .ret (OH false l13 x14 x15)) (cond (decide (IV.toInt (IV.cell (AH l13 (AD x15) default) 1) > 4)) (k .ret (OH false l13 x14 x15)) (again (OH b2 l13 x14 (AA AB (x15+1))))))) none) (k (.exit 0) (OH b2 l13 x14 x15))):=by kernel_rfl
theorem Xr (N:Nat) (b2:Bool) (l13:LI) (x14 x15:Int):(DM 0 (DN (QN N) (DF T3 [1,1,1]) (DP (QN N) none [.tmp 2] [[.bool]]))) (.exit 0) (OH b2 l13 x14 x15)=(some ((.bool true),[])):=by kernel_rfl
theorem Xs (N:Nat) (b2:Bool) (l13:LI) (x14 x15:Int):(DM 0 (DN (QN N) (DF T3 [1,1,1]) (DP (QN N) none [.tmp 2] [[.bool]]))) .ret (OH b2 l13 x14 x15)=(some ((.bool b2),[])):=by kernel_rfl
def Qf (N:Nat):Env:=D0 [(104,bG)] [] 47 N
theorem zdC (N:Nat) (u00:Int) (u01:LI) (u04 u05 u06 u07 u03 u02:Int):DV (Qf N) wV [.tmp 2] [[.bool]] [.agg [.i u00,.list true [.bool,.z,.z] u01,.i u04,.i u05,.i u06,.i u07,.i u03,.i u02]]=(cond (decide (u02 < 0)) (some ((.bool false),[])) (cond (decide (u02 > 65536)) (some ((.bool false),[])) (cond (u04==0&&(u05==0&&(u06==0&&(u07==0&&true)))) (cond (u00==1) (cond (u03==0) (some ((.bool (XT u01)),[])) (some ((.bool false),[]))) (cond (u00==2) (some ((.bool (ic (AF u01)==0)),[])) (cond (u00==3) (cond (u03==0) (some ((.bool (ic (AF u01)==0)),[])) (some ((.bool false),[]))) (cond (u00==4) (cond (u03==0) (some ((.bool (ic (AF u01)==0)),[])) (some ((.bool false),[]))) (some ((.bool false),[])))))) (cond (u00==1) (some ((.bool false),[])) (cond (u00==2) (some ((.bool (ic (AF u01)==0)),[])) (cond (u00==3) (some ((.bool false),[])) (cond (u00==4) (some ((.bool false),[])) (some ((.bool false),[]))))))))):=by kernel_rfl
def TL (N:Nat):Env:=D0 [(42,OM),(105,YD),(94,TQ)] [(2,⟨[0,11,12,13],[900000],[]⟩)] 26 N
abbrev aH (l11:LI) (x12 x13:Int) (u00:BA):St:=⟨[(0,(.ptr 900000 0 0)),(11,(.list false [.z] l11)),(12,(.i x12)),(13,(.i x13))],[(900000,(some (.bld u00)))]⟩
theorem zdD (N:Nat) (b word:BA) (l:LI):DV (TL N) WM [] [] [.bor [.bld b],.str word,.list false [.z] l]=(cond (decide (AG b+AG word≤strMax)) (DT (TL N) (DF WM [1,0,1,0,0]) ⟨[0,11,12,13],[900000],[]⟩ N (aH l (ic (AF l)) 0 (b++word)) (DM 0 (DN (TL N) (DF WM [1,1]) (DP (TL N) (some [.bld b]) [] [])))) none):=by kernel_rfl
theorem Lx (N:Nat) (l11:LI) (x12 x13:Int) (u00:BA) (again:St→DJ) (k:Out→St→DJ):EX (TL N) (DF WM [1,0,1,0,0]) (aH l11 x12 x13 u00) (ED again ⟨[0,11,12,13],[900000],[]⟩ k)=(cond (decide (x13 < x12)) (cond (decide (0≤x13)&&decide (x13 < ic (AF l11))) (cond (decide (AG u00+1≤strMax)) (cond (decide (AG (ByteArray.push u00 (MZ 32))+AG (DL (IV.toInt (AH l11 (AD x13) default)))≤strMax)) (again (aH l11 x12 (AA AB (x13+1)) (ByteArray.push u00 (MZ 32)++DL (IV.toInt (AH l11 (AD x13) default))))) none) none) none) (k (.exit 0) (aH l11 x12 x13 u00))):=by kernel_rfl
theorem Xo (N:Nat) (b:BA) (l11:LI) (x12 x13:Int) (u00:BA):(DM 0 (DN (TL N) (DF WM [1,1]) (DP (TL N) (some [.bld b]) [] []))) (.exit 0) (aH l11 x12 x13 u00)=(cond (decide (AG u00+1≤strMax)) (some ((.tup []),[[.bld (ByteArray.push u00 (MZ 10))]])) none):=by kernel_rfl
def Qg (N:Nat):Env:=D0 [(122,QS)] [] 20 N
theorem zdE (N:Nat) (l:LI) (i:Int):DV (Qg N) wW [.tmp 4] [[.z]] [.list false [.str] l,.i i]=(cond (decide (i≥ic (AF l))) (some ((.i 0),[])) (cond (decide (0≤i)&&decide (i < ic (AF l))) (some ((.i (FA (IV.toStr (AH l (AD i) default)))),[])) none)):=by kernel_rfl
open Go Go.Proofs
theorem Nj (N:Nat) (l:LI) (K:Out→St→DJ) (hl:l.length≤65536)
  (hx:∀ b2 x14 x15,K (.exit 0) ⟨[(2,(.bool b2)),(13,(.list true [.bool,.z,.z] l)),(14,(.int .i64 x14)),(15,(.int .i64 x15))],[]⟩=some (.bool true,[]))
  (hr:∀ b2 x14 x15,K .ret ⟨[(2,(.bool b2)),(13,(.list true [.bool,.z,.z] l)),(14,(.int .i64 x14)),(15,(.int .i64 x15))],[]⟩=some (.bool b2,[])) :
  ∀ (d i n:Nat),i+d=l.length→d < n→DT (QN N) (DF T3 [1,1,0,1,0,0]) ⟨[2,13,14,15],[],[]⟩ n ⟨[(2,(.bool false)),(13,(.list true [.bool,.z,.z] l)),(14,(.int .i64 (ic l.length))),(15,(.int .i64 (i:Int)))],[]⟩ K=some (.bool ((l.drop i).all lY),[])
 | 0,i,n+1,hd,_=>by
  rw [DX,Ly];rw [IT (by omega),C2 (by omega)];simp only [BG,List.all_nil];exact hx ..
 | d+1,i,n+1,hd,hn=>by
  rw [DX,Ly];have hi:i < l.length:=by omega
  rw [H0 hi,IH,GQ (by omega),IS hi,BF hi,vaM];generalize l[i]=x;have ih:=Nj N l K hl hx hr d (i+1) n (by omega) (by omega);rw [ih];generalize (AO (i+1) l).all lY=rest;unfold lY H9 E9 F2;simp only [B1,CJ,oB,oC,TU];cases hs:IV.toBool (IV.cell x 0) <;> cases hp0:decide (IV.toInt (IV.cell x 1) < 0) <;> cases hp4:decide (4 < IV.toInt (IV.cell x 1)) <;> cases hz:decide (IV.toInt (IV.cell x 1)=0) <;> cases ha:decide (IV.toInt (IV.cell x 2)=0) <;>
   (simp only [B1,BG,A1,A6,CJ,vaq,BC,BM,va2,hr]
    try rfl)
 | 0,_,0,_,h=>by omega
 | _+1,_,0,_,h=>by omega
theorem zhC:DS PR B0 104 bG:=by
 refine D2 [] [(4,⟨[2,13,14,15],[],[]⟩)] bG [[.bool]] Tryz.func104 zaM trivial ?_;intro vs r hwf h;unfold bG at h;split at h
 ·rename_i l;refine ⟨l.length+1,?_⟩;rw [← h];refine (zdG (l.length+1) l).trans ?_;simp only [R.get_ok];unfold XT;by_cases h1:l.length < 1
  ·have e1:decide (ic l.length < 1)=true:=AE (by show ((l.length:Nat):Int) < 1; omega);have e2:decide (1≤l.length)=false:=AL (by omega);rw [e1,e2]; rfl
  ·have e1:decide (ic l.length < 1)=false:=AL (by show ¬ ((l.length:Nat):Int) < 1; omega);have e2:decide (1≤l.length)=true:=AE (by omega);rw [e1,e2];simp only [BG,BC];by_cases h3:l.length≤65536
   ·have e3:decide (ic l.length > 65536)=false:=AL (by show ¬ ((l.length:Nat):Int) > 65536; omega);have e4:decide (l.length≤65536)=true:=AE h3;rw [e3,e4];simp only [BG,BC]
    have:=Nj (l.length+1) l _ h3 (fun b2 x14 x15=>Xr (l.length+1) b2 l x14 x15) (fun b2 x14 x15=>Xs (l.length+1) b2 l x14 x15) l.length 0 (l.length+1) (by omega) (by omega)
    rw [BZ] at this;exact this
   ·have e3:decide (ic l.length > 65536)=true:=AE (by show ((l.length:Nat):Int) > 65536; omega);have e4:decide (l.length≤65536)=false:=AL h3;rw [e3,e4]; rfl
 ·simp [R.get] at h
theorem zcO (l:LI):(ic l.length==0)=l.isEmpty:=by
 cases l with
 | nil=>rfl
 | cons a l=>
  simp only [ic,List.isEmpty_cons,AN];rw [A8];omega
theorem zhy:DS PR B0 45 bB:=by
 refine D2 [(104,bG)] [] bB [[.bool]] Tryz.func45 zaI ⟨zhC,trivial⟩ ?_;intro vs r hwf h;unfold bB at h;split at h
 ·rename_i k p a b c d t s;refine ⟨0,?_⟩;rw [← h];refine (zdC 0 k p a b c d t s).trans ?_;simp only [R.get_ok,zcO];unfold Vd.right Vd.bare;simp only [oB,oC,CJ];generalize XT p=sp;generalize p.isEmpty=pe;cases decide (s < 0) <;> cases decide (65536 < s) <;> simp only [B1,BG,A1,A6,BC,BM]
  by_cases k1:k=1
  ·subst k1;cases a==0 <;> cases b==0 <;> cases c==0 <;> cases d==0 <;> cases t==0 <;> cases sp <;> cases pe <;> rfl
  by_cases k2:k=2
  ·subst k2;cases a==0 <;> cases b==0 <;> cases c==0 <;> cases d==0 <;> cases t==0 <;> cases sp <;> cases pe <;> rfl
  by_cases k3:k=3
  ·subst k3;cases a==0 <;> cases b==0 <;> cases c==0 <;> cases d==0 <;> cases t==0 <;> cases sp <;> cases pe <;> rfl
  by_cases k4:k=4
  ·subst k4;cases a==0 <;> cases b==0 <;> cases c==0 <;> cases d==0 <;> cases t==0 <;> cases sp <;> cases pe <;> rfl
  simp only [A8.2 k1,A8.2 k2,A8.2 k3,A8.2 k4,BG,BM,Bool.or_false,Bool.cond_self]
 ·simp [R.get] at h
theorem kU:∀ (l:LI) (s:BA),s.size≤(O6 s l).size
 | [],s=>AW _
 | x :: l,s=>by
  simp only [O6];refine CW ?_ (kU l _);simp only [A3,va4];omega
theorem Dz (N:Nat) (l:LI) (K:Out→St→DJ) (hl:l.length≤strMax) (z:DJ)
  (hx:∀ s x12 x13,s=O6 s []→K (.exit 0) ⟨[(0,(.ptr 900000 0 0)),(11,(.list false [.z] l)),(12,(.int .i64 x12)),(13,(.int .i64 x13))],[(900000,(some (.bld s)))]⟩=cond (decide (s.size+1≤strMax)) (some (.tup [],[[.bld (s.push (MZ 10))]])) none) :
  ∀ (d i n:Nat) (s:BA),i+d=l.length→d < n→(O6 s (l.drop i)).size≤strMax→DT (TL N) (DF WM [1,0,1,0,0]) ⟨[0,11,12,13],[900000],[]⟩ n ⟨[(0,(.ptr 900000 0 0)),(11,(.list false [.z] l)),(12,(.int .i64 (ic l.length))),(13,(.int .i64 (i:Int)))],[(900000,(some (.bld s)))]⟩ K =
   cond (decide ((O6 s (l.drop i)).size+1≤strMax)) (some (.tup [],[[.bld ((O6 s (l.drop i)).push (MZ 10))]])) none
 | 0,i,n+1,s,hd,_,_=>by
  rw [DX,Lx,IT (by omega),C2 (by omega)];simp only [BG,O6];exact hx s _ _ rfl
 | d+1,i,n+1,s,hd,hn,hs=>by
  have hi:i < l.length:=by omega
  unfold strMax at hl;rw [DX,Lx,H0 hi,IH,GQ (by omega),IS hi];rw [BF hi] at hs ⊢;simp only [O6] at hs ⊢;have e32:MZ 32=32:=rfl;rw [e32];have hsz:=kU (l.drop (i+1)) (s.push 32++DL l[i].toInt);have h1:decide (s.size+1≤strMax)=true:=AE (by
   simp only [A3,va4] at hsz;omega)
  have h2:decide ((s.push 32).size+(DL l[i].toInt).size≤strMax)=true:=AE (by
   simp only [A3] at hsz;omega)
  rw [h1,h2];simp only [B1,CJ];exact Dz N l K (by unfold strMax; omega) z hx d (i+1) n _ (by omega) (by omega) hs
 | 0,_,0,_,_,h,_=>by omega
 | _+1,_,0,_,_,h,_=>by omega
theorem zhz:DS PR B0 46 bC:=by
 refine D2 [(42,OM),(105,YD),(94,TQ)] [(2,⟨[0,11,12,13],[900000],[]⟩)] bC [] Tryz.func46 zaJ ⟨gH,Kq,tA,trivial⟩ ?_;intro vs r hwf h;unfold bC at h;split at h
 ·rename_i s w l;refine ⟨l.length+1,?_⟩;rw [← h];refine (zdD (l.length+1) s w l).trans ?_;simp only [R.get_br,R.get_ok,R.get_no];have hwf:=hwf (by simp [K2,FI]);simp only [S8,QE,wfLs,wfL] at hwf;rw [R.get_br,R.get_ok,R.get_no] at h;cases hc:decide ((GN s w l).size≤strMax) with
  | false=>rw [hc] at h; cases h
  | true=>
   have hle:=A0 hc;unfold GN at hle ⊢;rw [va4] at hle;have h1:=kU l (s++w);have e1:decide (s.size+w.size≤strMax)=true:=AE (by rw [A3] at h1; omega);rw [e1];simp only [B1]
   have:=Dz (l.length+1) l _ hwf.2.2.1.1 none (fun s' x12 x13 _=>Xo (l.length+1) s l x12 x13 s') l.length 0 (l.length+1) (s++w) (by omega) (by omega) (by rw [BZ]; omega)
   rw [BZ] at this;refine this.trans ?_;rw [AE hle];rfl
 ·simp [R.get] at h
theorem zhA:DS PR B0 180 bD:=by
 refine D2 [(122,QS)] [] bD [[.z]] Tryz.func180 zaK ⟨lR,trivial⟩ ?_;intro vs r hwf h;unfold bD at h;split at h
 ·rename_i l i;refine ⟨0,?_⟩;rw [← h];refine (zdE 0 l i).trans ?_;simp only [R.get_br,R.get_ok,R.get_no];unfold GA;rw [R.get_br,R.get_ok,R.get_no] at h;cases hc:decide (0≤i) with
  | false=>rw [hc] at h; cases h
  | true=>
   have h0:=A0 hc;simp only [B1,BC];have e:decide (i≥ic l.length)=decide (ic l.length≤i):=rfl;rw [e];cases h2:decide (ic l.length≤i) with
   | true=>rfl
   | false=>
    have h3:=BH h2;rw [AE (show i < ic l.length by omega)];rfl
 ·simp [R.get] at h
open Go Go.Proofs
def GW (N:Nat):Env:=D0 [(180,bD),(82,TR),(64,MX)] [(7,⟨[2,4,7],[2,7,51],[⟨.cell 7 1,51,101,true,[.bool,.z,.z]⟩]⟩),(16,⟨[2,6,7,66],[2,7],[]⟩)] 87 N
abbrev VE (s4:BA) (u01 u02 u03 u04 u05 u06 u07 u08:Int) (u00:Nat) (u09 u0a u0b u0c u0d u0e:Int) (lo51:LI):St:=⟨[(2,(.ptr 2 0 0)),(4,(.str s4)),(7,(.ptr 7 0 0))],[(2,(some (.box [.i u01,.zs,.i u02,.i u03,.i u04,.i u05,.i u06,.i u07]))),(7,(some (.box [.i u08,.row 51 0 u00,.i u09,.i u0a,.i u0b,.i u0c,.i u0d,.i u0e]))),(51,(some (.row true 101 true D8 lo51)))]⟩
abbrev TB (l6:LI) (x66 u00 u01 u02 u03 u04 u05 u06 u07 u08 u09 u0a u0b u0c u0d:Int):St:=⟨[(2,(.ptr 2 0 0)),(6,(.list false [.str] l6)),(7,(.ptr 7 0 0)),(66,(.i x66))],[(2,(some (.box [.i u00,.zs,.i u01,.i u02,.i u03,.i u04,.i u05,.i u06]))),(7,(some (.box [.i u07,.zs,.i u08,.i u09,.i u0a,.i u0b,.i u0c,.i u0d])))]⟩
theorem zdF (N:Nat) (s:BA):DV (GW N) HQ [.cell 2 50] [[.z,.list true [.bool,.z,.z],.z,.z,.z,.z,.z,.z]] [.str s]=(cond (decide (AG s < 4294967281)) (cond (decide (AG (cutL s {data:=#[10]}) < 4294967281)&&decide (1≤AG {data:=#[32]})) (cond (decide (0≤0)&&decide (0 < ic (AF (A2 IV.str (D1 (cutL s {data:=#[10]}) {data:=#[32]}))))) (cond (AX (IV.toStr (AH (A2 IV.str (D1 (cutL s {data:=#[10]}) {data:=#[32]})) (AD 0) default))==AX {data:=#[104,111,108,100,115]}) (DT (GW N) (DF HQ [1,1,1,1,0,1,0,1,0,1,0,0]) ⟨[2,4,7],[2,7,51],[⟨(.cell 7 1),51,101,true,D8⟩]⟩ N (VE (FT s {data:=#[10]}) 0 0 0 0 0 0 0 1 0 0 0 0 0 0 (GA (A2 IV.str (D1 (cutL s {data:=#[10]}) {data:=#[32]})) 1) []) (DM 1 (DM 0 (DN (GW N) (DF HQ [1,1,1,1,1]) (DP (GW N) none [.cell 2 50] [[.z,.list true D8,.z,.z,.z,.z,.z,.z]]))))) (cond (AX (IV.toStr (AH (A2 IV.str (D1 (cutL s {data:=#[10]}) {data:=#[32]})) (AD 0) default))==AX {data:=#[102,97,105,108,115]}) (DT (GW N) (DF HQ [1,1,1,1,0,1,0,1,1,1,0,1,0,1,0,0]) ⟨[2,6,7,66],[2,7],[]⟩ N (TB (A2 IV.str (D1 (cutL s {data:=#[10]}) {data:=#[32]})) 0 0 0 0 0 0 0 0 2 0 0 0 0 0 (GA (A2 IV.str (D1 (cutL s {data:=#[10]}) {data:=#[32]})) 1)) (DM 3 (DN (GW N) (DF HQ [1,1,1,1,0,1,0,1,1,1,0,1,1]) (DM 0 (DN (GW N) (DF HQ [1,1,1,1,1]) (DP (GW N) none [.cell 2 50] [[.z,.list true D8,.z,.z,.z,.z,.z,.z]])))))) (cond (AX (IV.toStr (AH (A2 IV.str (D1 (cutL s {data:=#[10]}) {data:=#[32]})) (AD 0) default))==AX {data:=#[117,110,107,110,111,119,110]}) (some ((.agg [.i 3,.list true D8 [],.i 0,.i 0,.i 0,.i 0,.i 0,(.i (GA (A2 IV.str (D1 (cutL s {data:=#[10]}) {data:=#[32]})) 1))]),[])) (cond (AX (IV.toStr (AH (A2 IV.str (D1 (cutL s {data:=#[10]}) {data:=#[32]})) (AD 0) default))==AX {data:=#[119,114,111,110,103]}) (some ((.agg [.i 4,.list true D8 [],.i 0,.i 0,.i 0,.i 0,.i 0,(.i (GA (A2 IV.str (D1 (cutL s {data:=#[10]}) {data:=#[32]})) 1))]),[])) (some ((.agg [.i 0,.list true D8 [],.i 0,.i 0,.i 0,.i 0,.i 0,(.i (GA (A2 IV.str (D1 (cutL s {data:=#[10]}) {data:=#[32]})) 1))]),[])))))) none) none) none):=by kernel_rfl
theorem ziQ (N:Nat) (s4:BA) (u01 u02 u03 u04 u05 u06 u07 u08:Int) (u00:Nat) (u09 u0a u0b u0c u0d u0e:Int) (lo51:LI) (again:St→DJ) (k:Out→St→DJ):EX (GW N) (DF HQ [1,1,1,1,0,1,0,1,0,1,0,0]) (VE s4 u01 u02 u03 u04 u05 u06 u07 u08 u00 u09 u0a u0b u0c u0d u0e lo51) (ED again ⟨[2,4,7],[2,7,51],[⟨(.cell 7 1),51,101,true,D8⟩]⟩ k)=(cond (!AX s4==AX {data:=#[]}) (cond (decide (ic (u00 - 0)≤65536)) (cond (decide (AG s4 < 4294967281)) (cond (decide (AG (cutL s4 {data:=#[10]}) < 4294967281)&&decide (1≤AG {data:=#[32]})) (cond (decide (0≤0)&&decide (0 < ic (AF (A2 IV.str (D1 (cutL s4 {data:=#[10]}) {data:=#[32]}))))) (cond (AX (IV.toStr (AH (A2 IV.str (D1 (cutL s4 {data:=#[10]}) {data:=#[32]})) (AD 0) default))==AX {data:=#[115,117,109]}) (cond (decide ((u00+1)*24≤D6)) (again (VE (FT s4 {data:=#[10]}) u01 u02 u03 u04 u05 u06 u07 u08 (u00+1) u09 u0a u0b u0c u0d u0e (AK u00 lo51++[IV.agg [IV.bool true,IV.int 0,IV.int 0]]))) none) (cond (decide ((u00+1)*24≤D6)) (again (VE (FT s4 {data:=#[10]}) u01 u02 u03 u04 u05 u06 u07 u08 (u00+1) u09 u0a u0b u0c u0d u0e (AK u00 lo51++[IV.agg [IV.bool false,IV.int (GA (A2 IV.str (D1 (cutL s4 {data:=#[10]}) {data:=#[32]})) 1),IV.int (GA (A2 IV.str (D1 (cutL s4 {data:=#[10]}) {data:=#[32]})) 2)]]))) none)) none) none) none) (k (.exit 1) (VE s4 u01 u02 u03 u04 u05 u06 u07 u08 u00 u09 u0a u0b u0c u0d u0e lo51))) (k (.exit 1) (VE s4 u01 u02 u03 u04 u05 u06 u07 u08 u00 u09 u0a u0b u0c u0d u0e lo51))):=by kernel_rfl
theorem gL (N:Nat) (l6:LI) (x66 u00 u01 u02 u03 u04 u05 u06 u07 u08 u09 u0a u0b u0c u0d:Int) (again:St→DJ) (k:Out→St→DJ):EX (GW N) (DF HQ [1,1,1,1,0,1,0,1,1,1,0,1,0,1,0,0]) (TB l6 x66 u00 u01 u02 u03 u04 u05 u06 u07 u08 u09 u0a u0b u0c u0d) (ED again ⟨[2,6,7,66],[2,7],[]⟩ k)=(cond (decide (x66 < 4)) (cond (decide (0≤AA AB (2+x66))) (cond (decide (x66=ic 0)) (again (TB l6 (AA AB (x66+1)) u00 u01 u02 u03 u04 u05 u06 u07 (GA l6 (AA AB (2+x66))) u09 u0a u0b u0c u0d)) (cond (decide (x66=ic 1)) (again (TB l6 (AA AB (x66+1)) u00 u01 u02 u03 u04 u05 u06 u07 u08 (GA l6 (AA AB (2+x66))) u0a u0b u0c u0d)) (cond (decide (x66=ic 2)) (again (TB l6 (AA AB (x66+1)) u00 u01 u02 u03 u04 u05 u06 u07 u08 u09 (GA l6 (AA AB (2+x66))) u0b u0c u0d)) (cond (decide (x66=ic 3)) (again (TB l6 (AA AB (x66+1)) u00 u01 u02 u03 u04 u05 u06 u07 u08 u09 u0a (GA l6 (AA AB (2+x66))) u0c u0d)) none)))) none) (k (.exit 3) (TB l6 x66 u00 u01 u02 u03 u04 u05 u06 u07 u08 u09 u0a u0b u0c u0d))):=by kernel_rfl
theorem Xp (N:Nat) (s4:BA) (u01 u02 u03 u04 u05 u06 u07 u08:Int) (u00:Nat) (u09 u0a u0b u0c u0d u0e:Int) (lo51:LI):(DM 1 (DM 0 (DN (GW N) (DF HQ [1,1,1,1,1]) (DP (GW N) none [.cell 2 50] [[.z,.list true D8,.z,.z,.z,.z,.z,.z]])))) (.exit 1) (VE s4 u01 u02 u03 u04 u05 u06 u07 u08 u00 u09 u0a u0b u0c u0d u0e lo51)=(some ((.agg [.i u08,.list true D8 (AO 0 (AK u00 lo51)),.i u09,.i u0a,.i u0b,.i u0c,.i u0d,.i u0e]),[])):=by kernel_rfl
theorem Xq (N:Nat) (l6:LI) (x66 u00 u01 u02 u03 u04 u05 u06 u07 u08 u09 u0a u0b u0c u0d:Int):(DM 3 (DN (GW N) (DF HQ [1,1,1,1,0,1,0,1,1,1,0,1,1]) (DM 0 (DN (GW N) (DF HQ [1,1,1,1,1]) (DP (GW N) none [.cell 2 50] [[.z,.list true D8,.z,.z,.z,.z,.z,.z]]))))) (.exit 3) (TB l6 x66 u00 u01 u02 u03 u04 u05 u06 u07 u08 u09 u0a u0b u0c u0d)=(some ((.agg [.i u07,.list true D8 [],.i u08,.i u09,.i u0a,.i u0b,.i (GA l6 6),.i u0d]),[])):=by kernel_rfl
def TK (N:Nat):Env:=D0 [(45,bB),(46,bC),(47,TP)] [(9,⟨[2,3,25,26,27],[3],[]⟩)] 61 N
abbrev X5 (s2:BA) (l25:LI) (x26 x27:Int) (so3:BA):St:=⟨[(2,(.str s2)),(3,(.ptr 3 0 0)),(25,(.list true D8 l25)),(26,(.i x26)),(27,(.i x27))],[(3,(some (.bld so3)))]⟩
theorem zdB (N:Nat) (v:Vd):DV (TK N) WL [.tmp 2] [[.str]] [(Vd.V v)]=(cond (!Vd.right v) (some ((.str ({data:=#[]})),[])) (cond (Vd.kind v==1) (cond (decide (AG (GN CG {data:=#[104,111,108,100,115]} [IV.int (Vd.spent v),IV.int (ic (AF (Vd.proof v)))])≤strMax)) (DT (TK N) (DF WL [1,1,1,0,1,0,1,0,1,1,0,0]) ⟨[2,3,25,26,27],[3],[]⟩ N (X5 ({data:=#[]}) (Vd.proof v) (ic (AF (Vd.proof v))) 0 (GN CG {data:=#[104,111,108,100,115]} [IV.int (Vd.spent v),IV.int (ic (AF (Vd.proof v)))])) (DM 1 (DM 0 (DN (TK N) (DF WL [1,1,1,1]) (DP (TK N) none [.tmp 2] [[.str]]))))) none) (cond (Vd.kind v==2) (cond (decide (AG (GN CG {data:=#[102,97,105,108,115]} (AO 0 (AK (1+4+1) (AK (1+4) (AK 1 [IV.int (Vd.spent v)]++[IV.int (Vd.w0 v),IV.int (Vd.w1 v),IV.int (Vd.w2 v),IV.int (Vd.w3 v)])++[IV.int (Vd.twin v)]))))≤strMax)) (some ((.str (GN CG {data:=#[102,97,105,108,115]} (AO 0 (AK (1+4+1) (AK (1+4) (AK 1 [IV.int (Vd.spent v)]++[IV.int (Vd.w0 v),IV.int (Vd.w1 v),IV.int (Vd.w2 v),IV.int (Vd.w3 v)])++[IV.int (Vd.twin v)]))))),[])) none) (cond (Vd.kind v==3) (cond (decide (AG (GN CG {data:=#[117,110,107,110,111,119,110]} [IV.int (Vd.spent v)])≤strMax)) (some ((.str (GN CG {data:=#[117,110,107,110,111,119,110]} [IV.int (Vd.spent v)])),[])) none) (cond (decide (AG (GN CG {data:=#[119,114,111,110,103]} [IV.int (Vd.spent v)])≤strMax)) (some ((.str (GN CG {data:=#[119,114,111,110,103]} [IV.int (Vd.spent v)])),[])) none))))):=by kernel_rfl
theorem Lw (N:Nat) (s2:BA) (l25:LI) (x26 x27:Int) (so3:BA) (again:St→DJ) (k:Out→St→DJ):EX (TK N) (DF WL [1,1,1,0,1,0,1,0,1,1,0,0]) (X5 s2 l25 x26 x27 so3) (ED again ⟨[2,3,25,26,27],[3],[]⟩ k)=(cond (decide (x27 < x26)) (cond (decide (0≤x27)&&decide (x27 < ic (AF l25))) (cond (IV.toBool (IV.cell (AH l25 (AD x27) default) 0)) (cond (decide (AG (GN so3 {data:=#[115,117,109]} [])≤strMax)) (again (X5 s2 l25 x26 (AA AB (x27+1)) (GN so3 {data:=#[115,117,109]} []))) none) (cond (decide (AG (GN so3 {data:=#[99,117,116]} [IV.int (IV.toInt (IV.cell (AH l25 (AD x27) default) 1)),IV.int (IV.toInt (IV.cell (AH l25 (AD x27) default) 2))])≤strMax)) (again (X5 s2 l25 x26 (AA AB (x27+1)) (GN so3 {data:=#[99,117,116]} [IV.int (IV.toInt (IV.cell (AH l25 (AD x27) default) 1)),IV.int (IV.toInt (IV.cell (AH l25 (AD x27) default) 2))]))) none)) none) (k (.exit 1) (X5 s2 l25 x26 x27 so3))):=by kernel_rfl
theorem Xn (N:Nat) (s2:BA) (l25:LI) (x26 x27:Int) (so3:BA):(DM 1 (DM 0 (DN (TK N) (DF WL [1,1,1,1]) (DP (TK N) none [.tmp 2] [[.str]])))) (.exit 1) (X5 s2 l25 x26 x27 so3)=(some ((.str so3),[])):=by kernel_rfl
def Qe (N:Nat):Env:=D0 [(11,RZ),(123,bE)] [] 17 N
theorem zdA (N:Nat) (s:BA):DV (Qe N) wU [.cell 2 50,.tmp 3] [[.z,.list true [.bool,.z,.z],.z,.z,.z,.z,.z,.z],[.bool]] [.str s]=(cond (decide (AG s < 4294967281)) (cond (AX s==AX {data:=#[]}) (some ((.tup [.agg [.i 0,.list true D8 [],.i 0,.i 0,.i 0,.i 0,.i 0,.i 0],.bool false]),[])) (cond (decide (AG (GT (JI s))≤strMax)) (cond (!AX (GT (JI s))==AX s) (some ((.tup [.agg [.i 0,.list true D8 [],.i 0,.i 0,.i 0,.i 0,.i 0,.i 0],.bool false]),[])) (some ((.tup [(Vd.V (JI s)),.bool true]),[]))) none)) none):=by kernel_rfl
open Go Go.Proofs
theorem ziJ (s sep:BA) (h:1≤sep.size):0 < ((D1 s sep).map IV.str).length:=by
 rw [BQ];unfold D1;rw [Lib.splitB_all sep h 0 _ s rfl];omega
theorem tH (s:BA):decide (0 < ic (AF (A2 IV.str (D1 s U6))))=true:=AE (by
 have:=ziJ s U6 (by decide)
 simp only [ic];omega)
theorem Aa {s sep:BA} (h:s.size < 4294967281):decide (AG (cutL s sep) < 4294967281)=true:=AE (by
 have:=(jC s sep).1
 omega)
theorem Vv {s:BA} (h:(s.toList==EF.toList)=false):(FT s FC).size < s.size:=by
 have h0:0 < s.size:=by
  rcases Nat.eq_zero_or_pos s.size with e | e
  ·exfalso
   have:s=EF:=ByteArray.ext (Array.eq_empty_of_size_eq_zero e)
   rw [this] at h;simp at h
  ·exact e
 have h0:0 < s.data.toList.length:=h0;show (Lib.cut s.data.toList FC.data.toList).2.1.toArray.size < s.data.toList.length;rw [C9];unfold Lib.cut;split
 ·have e1:(FC.data.toList).length=1:=rfl;rw [CY,e1];omega
 ·exact h0
theorem Am:decide (1≤AG U6)=true:=rfl
theorem Ib (N:Nat) (a0 a2 a3 a4 a5 a6 a7 b0 b2 b3 b4 b5 b6 b7:Int) (K:Out→St→DJ)
  (hx:∀ s (p:LI),K (.exit 1) ⟨[(2,(.ptr 2 0 0)),(4,(.str s)),(7,(.ptr 7 0 0))],[(2,(some (.box [(.int .i64 a0),.zs,(.int .i64 a2),(.int .i64 a3),(.int .i64 a4),(.int .i64 a5),(.int .i64 a6),(.int .i64 a7)]))),(7,(some (.box [(.int .i64 b0),(.row 51 0 p.length),(.int .i64 b2),(.int .i64 b3),(.int .i64 b4),(.int .i64 b5),(.int .i64 b6),(.int .i64 b7)]))),(51,(some (.row true 101 true D8 p)))]⟩=some ((.agg [(.int .i64 b0),(.list true D8 (AO 0 (AK p.length p))),(.int .i64 b2),(.int .i64 b3),(.int .i64 b4),(.int .i64 b5),(.int .i64 b6),(.int .i64 b7)]),[])) :
  ∀ (m n:Nat) (s:BA) (p:LI),s.size < m→m≤n→s.size < 4294967281 →
   DT (GW N) (DF HQ [1,1,1,1,0,1,0,1,0,1,0,0]) ⟨[2,4,7],[2,7,51],[⟨(.cell 7 1),51,101,true,D8⟩]⟩ n ⟨[(2,(.ptr 2 0 0)),(4,(.str s)),(7,(.ptr 7 0 0))],[(2,(some (.box [(.int .i64 a0),.zs,(.int .i64 a2),(.int .i64 a3),(.int .i64 a4),(.int .i64 a5),(.int .i64 a6),(.int .i64 a7)]))),(7,(some (.box [(.int .i64 b0),(.row 51 0 p.length),(.int .i64 b2),(.int .i64 b3),(.int .i64 b4),(.int .i64 b5),(.int .i64 b6),(.int .i64 b7)]))),(51,(some (.row true 101 true D8 p)))]⟩ K =
   some ((.agg [(.int .i64 b0),(.list true D8 (ZM m s p)),(.int .i64 b2),(.int .i64 b3),(.int .i64 b4),(.int .i64 b5),(.int .i64 b6),(.int .i64 b7)]),[])
 | m+1,n+1,s,p,hm,hn,hs=>by
  rw [DX,ziQ];have ep:AO 0 (AK p.length p)=p:=by rw [BZ,BI]
  have e65:decide (ic (p.length - 0)≤65536)=decide (p.length≤65536):=by
   rw [va3];simp only [AP,ic];omega
  unfold ZM;rw [e65];cases h1:(s.toList==EF.toList) with
  | true=>
   simp only [A1,DG,BM];refine (hx s p).trans ?_;rw [ep]
  | false=>
   simp only [A6,DE,BC];cases h2:decide (p.length≤65536) with
   | false=>
    simp only [DG];refine (hx s p).trans ?_;rw [ep]
   | true=>
    have h2:=A0 h2;simp only [DE];have hlt:=Vv h1;rw [AE hs,Aa hs,Am,tH];simp only [AW,decide_true,CJ,DE];rw [AE (show (p.length+1)*24≤D6 by unfold D6; omega)];simp only [DE];have el:∀ x:IV,p.length+1=(p++[x]).length:=fun x=>by
     rw [AU]; rfl
    have ih:=fun x:IV=>Ib N a0 a2 a3 a4 a5 a6 a7 b0 b2 b3 b4 b5 b6 b7 K hx m n (FT s FC) (p++[x]) (by omega) (by omega) (by omega)
    unfold lC NI;have ez:AD 0=0:=rfl;rw [ez];unfold IG;cases h3:(AX (IV.toStr (AH (A2 IV.str (D1 (cutL s FC) U6)) 0 default))==AX U7) with
    | true=>
     simp only [DE];rw [BI,el];exact ih _
    | false=>
     simp only [DG];rw [BI,el];exact ih _
 | 0,_,_,_,h,_,_=>by omega
 | _+1,0,_,_,_,h,_=>by omega
theorem U5 {a b c:Int} (h:AA .i64 (a+b)=c):AA .i64 (a+b)=c:=h
theorem zgF (N n:Nat) (l:LI) (x w0 w1 w2 w3:Int) (K:Out→St→DJ):DT (GW N) (DF HQ [1,1,1,1,0,1,0,1,1,1,0,1,0,1,0,0]) ⟨[2,6,7,66],[2,7],[]⟩ (n+1) ⟨[(2,(.ptr 2 0 0)),(6,(.list false [.str] l)),(7,(.ptr 7 0 0)),(66,(.int .i64 0))],[(2,(some (.box [(.int .i64 0),.zs,(.int .i64 0),(.int .i64 0),(.int .i64 0),(.int .i64 0),(.int .i64 0),(.int .i64 0)]))),(7,(some (.box [(.int .i64 2),.zs,(.int .i64 w0),(.int .i64 w1),(.int .i64 w2),(.int .i64 w3),(.int .i64 0),(.int .i64 x)])))]⟩ K =
  DT (GW N) (DF HQ [1,1,1,1,0,1,0,1,1,1,0,1,0,1,0,0]) ⟨[2,6,7,66],[2,7],[]⟩ n ⟨[(2,(.ptr 2 0 0)),(6,(.list false [.str] l)),(7,(.ptr 7 0 0)),(66,(.int .i64 1))],[(2,(some (.box [(.int .i64 0),.zs,(.int .i64 0),(.int .i64 0),(.int .i64 0),(.int .i64 0),(.int .i64 0),(.int .i64 0)]))),(7,(some (.box [(.int .i64 2),.zs,(.int .i64 (GA l 2)),(.int .i64 w1),(.int .i64 w2),(.int .i64 w3),(.int .i64 0),(.int .i64 x)])))]⟩ K:=by
 rw [DX,gL,U5 (a:=2) (b:=0) (c:=2) rfl,U5 (a:=0) (b:=1) (c:=1) rfl];simp only [show decide ((0:Int) < 4)=true from rfl,show decide ((0:Int)≤2)=true from rfl,show decide ((0:Int)=ic 0)=true from rfl,DE]
theorem zgG (N n:Nat) (l:LI) (x w0 w1 w2 w3:Int) (K:Out→St→DJ):DT (GW N) (DF HQ [1,1,1,1,0,1,0,1,1,1,0,1,0,1,0,0]) ⟨[2,6,7,66],[2,7],[]⟩ (n+1) ⟨[(2,(.ptr 2 0 0)),(6,(.list false [.str] l)),(7,(.ptr 7 0 0)),(66,(.int .i64 1))],[(2,(some (.box [(.int .i64 0),.zs,(.int .i64 0),(.int .i64 0),(.int .i64 0),(.int .i64 0),(.int .i64 0),(.int .i64 0)]))),(7,(some (.box [(.int .i64 2),.zs,(.int .i64 w0),(.int .i64 w1),(.int .i64 w2),(.int .i64 w3),(.int .i64 0),(.int .i64 x)])))]⟩ K =
  DT (GW N) (DF HQ [1,1,1,1,0,1,0,1,1,1,0,1,0,1,0,0]) ⟨[2,6,7,66],[2,7],[]⟩ n ⟨[(2,(.ptr 2 0 0)),(6,(.list false [.str] l)),(7,(.ptr 7 0 0)),(66,(.int .i64 2))],[(2,(some (.box [(.int .i64 0),.zs,(.int .i64 0),(.int .i64 0),(.int .i64 0),(.int .i64 0),(.int .i64 0),(.int .i64 0)]))),(7,(some (.box [(.int .i64 2),.zs,(.int .i64 w0),(.int .i64 (GA l 3)),(.int .i64 w2),(.int .i64 w3),(.int .i64 0),(.int .i64 x)])))]⟩ K:=by
 rw [DX,gL,U5 (a:=2) (b:=1) (c:=3) rfl,U5 (a:=1) (b:=1) (c:=2) rfl];simp only [show decide ((1:Int) < 4)=true from rfl,show decide ((0:Int)≤3)=true from rfl,show decide ((1:Int)=ic 0)=false from rfl,show decide ((1:Int)=ic 1)=true from rfl,DE,DG]
theorem zgH (N n:Nat) (l:LI) (x w0 w1 w2 w3:Int) (K:Out→St→DJ):DT (GW N) (DF HQ [1,1,1,1,0,1,0,1,1,1,0,1,0,1,0,0]) ⟨[2,6,7,66],[2,7],[]⟩ (n+1) ⟨[(2,(.ptr 2 0 0)),(6,(.list false [.str] l)),(7,(.ptr 7 0 0)),(66,(.int .i64 2))],[(2,(some (.box [(.int .i64 0),.zs,(.int .i64 0),(.int .i64 0),(.int .i64 0),(.int .i64 0),(.int .i64 0),(.int .i64 0)]))),(7,(some (.box [(.int .i64 2),.zs,(.int .i64 w0),(.int .i64 w1),(.int .i64 w2),(.int .i64 w3),(.int .i64 0),(.int .i64 x)])))]⟩ K =
  DT (GW N) (DF HQ [1,1,1,1,0,1,0,1,1,1,0,1,0,1,0,0]) ⟨[2,6,7,66],[2,7],[]⟩ n ⟨[(2,(.ptr 2 0 0)),(6,(.list false [.str] l)),(7,(.ptr 7 0 0)),(66,(.int .i64 3))],[(2,(some (.box [(.int .i64 0),.zs,(.int .i64 0),(.int .i64 0),(.int .i64 0),(.int .i64 0),(.int .i64 0),(.int .i64 0)]))),(7,(some (.box [(.int .i64 2),.zs,(.int .i64 w0),(.int .i64 w1),(.int .i64 (GA l 4)),(.int .i64 w3),(.int .i64 0),(.int .i64 x)])))]⟩ K:=by
 rw [DX,gL,U5 (a:=2) (b:=2) (c:=4) rfl,U5 (a:=2) (b:=1) (c:=3) rfl];simp only [show decide ((2:Int) < 4)=true from rfl,show decide ((0:Int)≤4)=true from rfl,show decide ((2:Int)=ic 0)=false from rfl,show decide ((2:Int)=ic 1)=false from rfl,show decide ((2:Int)=ic 2)=true from rfl,DE,DG]
theorem zgI (N n:Nat) (l:LI) (x w0 w1 w2 w3:Int) (K:Out→St→DJ):DT (GW N) (DF HQ [1,1,1,1,0,1,0,1,1,1,0,1,0,1,0,0]) ⟨[2,6,7,66],[2,7],[]⟩ (n+1) ⟨[(2,(.ptr 2 0 0)),(6,(.list false [.str] l)),(7,(.ptr 7 0 0)),(66,(.int .i64 3))],[(2,(some (.box [(.int .i64 0),.zs,(.int .i64 0),(.int .i64 0),(.int .i64 0),(.int .i64 0),(.int .i64 0),(.int .i64 0)]))),(7,(some (.box [(.int .i64 2),.zs,(.int .i64 w0),(.int .i64 w1),(.int .i64 w2),(.int .i64 w3),(.int .i64 0),(.int .i64 x)])))]⟩ K =
  DT (GW N) (DF HQ [1,1,1,1,0,1,0,1,1,1,0,1,0,1,0,0]) ⟨[2,6,7,66],[2,7],[]⟩ n ⟨[(2,(.ptr 2 0 0)),(6,(.list false [.str] l)),(7,(.ptr 7 0 0)),(66,(.int .i64 4))],[(2,(some (.box [(.int .i64 0),.zs,(.int .i64 0),(.int .i64 0),(.int .i64 0),(.int .i64 0),(.int .i64 0),(.int .i64 0)]))),(7,(some (.box [(.int .i64 2),.zs,(.int .i64 w0),(.int .i64 w1),(.int .i64 w2),(.int .i64 (GA l 5)),(.int .i64 0),(.int .i64 x)])))]⟩ K:=by
 rw [DX,gL,U5 (a:=2) (b:=3) (c:=5) rfl,U5 (a:=3) (b:=1) (c:=4) rfl];simp only [show decide ((3:Int) < 4)=true from rfl,show decide ((0:Int)≤5)=true from rfl,show decide ((3:Int)=ic 0)=false from rfl,show decide ((3:Int)=ic 1)=false from rfl,show decide ((3:Int)=ic 2)=false from rfl,show decide ((3:Int)=ic 3)=true from rfl,DE,DG]
theorem zgJ (N n:Nat) (l:LI) (x w0 w1 w2 w3:Int):DT (GW N) (DF HQ [1,1,1,1,0,1,0,1,1,1,0,1,0,1,0,0]) ⟨[2,6,7,66],[2,7],[]⟩ (n+1) ⟨[(2,(.ptr 2 0 0)),(6,(.list false [.str] l)),(7,(.ptr 7 0 0)),(66,(.int .i64 4))],[(2,(some (.box [(.int .i64 0),.zs,(.int .i64 0),(.int .i64 0),(.int .i64 0),(.int .i64 0),(.int .i64 0),(.int .i64 0)]))),(7,(some (.box [(.int .i64 2),.zs,(.int .i64 w0),(.int .i64 w1),(.int .i64 w2),(.int .i64 w3),(.int .i64 0),(.int .i64 x)])))]⟩ (DM 3 (DN (GW N) (DF HQ [1,1,1,1,0,1,0,1,1,1,0,1,1]) (DM 0 (DN (GW N) (DF HQ [1,1,1,1,1]) (DP (GW N) none [(va5 2 50)] [[.z,(.list true D8),.z,.z,.z,.z,.z,.z]]))))) =
  some ((.agg [(.int .i64 2),(.list true D8 []),(.int .i64 w0),(.int .i64 w1),(.int .i64 w2),(.int .i64 w3),(.int .i64 (GA l 6)),(.int .i64 x)]),[]):=by
 rw [DX,gL];simp only [show decide ((4:Int) < 4)=false from rfl,DG];exact Xq N _ _ _ _ _ _ _ _ _ _ _ _ _ _ _ _
theorem zgK (N n:Nat) (l:LI) (x:Int):DT (GW N) (DF HQ [1,1,1,1,0,1,0,1,1,1,0,1,0,1,0,0]) ⟨[2,6,7,66],[2,7],[]⟩ (n+1+1+1+1+1) ⟨[(2,(.ptr 2 0 0)),(6,(.list false [.str] l)),(7,(.ptr 7 0 0)),(66,(.int .i64 0))],[(2,(some (.box [(.int .i64 0),.zs,(.int .i64 0),(.int .i64 0),(.int .i64 0),(.int .i64 0),(.int .i64 0),(.int .i64 0)]))),(7,(some (.box [(.int .i64 2),.zs,(.int .i64 0),(.int .i64 0),(.int .i64 0),(.int .i64 0),(.int .i64 0),(.int .i64 x)])))]⟩ (DM 3 (DN (GW N) (DF HQ [1,1,1,1,0,1,0,1,1,1,0,1,1]) (DM 0 (DN (GW N) (DF HQ [1,1,1,1,1]) (DP (GW N) none [(va5 2 50)] [[.z,(.list true D8),.z,.z,.z,.z,.z,.z]]))))) =
  some ((.agg [(.int .i64 2),(.list true D8 []),(.int .i64 (GA l 2)),(.int .i64 (GA l 3)),(.int .i64 (GA l 4)),(.int .i64 (GA l 5)),(.int .i64 (GA l 6)),(.int .i64 x)]),[]):=
 (zgF N (n+1+1+1+1) l x 0 0 0 0 _).trans ((zgG N (n+1+1+1) l x _ 0 0 0 _).trans ((zgH N (n+1+1) l x _ _ 0 0 _).trans ((zgI N (n+1) l x _ _ _ 0 _).trans (zgJ N n l x _ _ _ _))))
theorem zhB:DS PR B0 123 bE:=by
 refine D2 [(180,bD),(82,TR),(64,MX)] [(7,⟨[2,4,7],[2,7,51],[⟨.cell 7 1,51,101,true,[.bool,.z,.z]⟩]⟩),(16,⟨[2,6,7,66],[2,7],[]⟩)] bE [[.z,.list true [.bool,.z,.z],.z,.z,.z,.z,.z,.z]] Tryz.func123 zaL ⟨zhA,tB,ZZ,trivial⟩ ?_;intro vs r hwf h;unfold bE at h;split at h
 ·rename_i s;refine ⟨s.size+1+1+1+1+1+1,?_⟩;rw [← h];refine (zdF (s.size+1+1+1+1+1+1) s).trans ?_;simp only [R.get_br,R.get_ok,R.get_no];cases hs:decide (s.size < 4294967281) with
  | false=>rfl
  | true=>
   have hs:=A0 hs;simp only [DE];rw [Aa hs,Am,tH];simp only [AW,decide_true,CJ,DE];have ez:AD 0=0:=rfl;rw [ez];unfold JI NI IG;have hlt:=(jC s FC).2;generalize A2 IV.str (D1 (cutL s FC) U6)=l;generalize (AX (IV.toStr (AH l 0 default))==AX PF)=q1;generalize (AX (IV.toStr (AH l 0 default))==AX Z8)=q2;generalize (AX (IV.toStr (AH l 0 default))==AX Z9)=q3;generalize (AX (IV.toStr (AH l 0 default))==AX aA)=q4;cases q1
   ·cases q2
    ·cases q3
     ·cases q4 <;> simp only [DE,DG]
     ·simp only [DE,DG]
    ·simp only [DE,DG];exact zgK _ (s.size+1) _ _
   ·simp only [DE];exact Ib _ _ _ _ _ _ _ _ _ _ _ _ _ _ _ _ (fun s' p=>Xp _ s' _ _ _ _ _ _ _ _ _ _ _ _ _ _ _ p) ((FT s FC).size+1) _ (FT s FC) [] (by omega) (by omega) (by omega)
 ·simp [R.get] at h
theorem Dx (s w:BA) (l:LI):s.size≤(GN s w l).size:=by
 unfold GN
 have:=kU l (s++w)
 rw [A3] at this;rw [va4];omega
theorem rS:∀ (l:LI) (s:BA),s.size≤(RG s l).size
 | [],s=>AW _
 | x :: l,s=>by
  unfold RG;refine CW ?_ (rS l _);cases H9 x
  ·exact Dx _ _ _
  ·exact Dx _ _ _
theorem Hj (N:Nat) (l:LI) (t:BA) (K:Out→St→DJ) (hl:l.length≤65536)
  (hx:∀ s x26 x27,K (.exit 1) ⟨[(2,(.str t)),(3,(.ptr 3 0 0)),(25,(.list true D8 l)),(26,(.int .i64 x26)),(27,(.int .i64 x27))],[(3,(some (.bld s)))]⟩=some (.str s,[])) :
  ∀ (d i n:Nat) (s:BA),i+d=l.length→d < n→(RG s (l.drop i)).size≤strMax →
   DT (TK N) (DF WL [1,1,1,0,1,0,1,0,1,1,0,0]) ⟨[2,3,25,26,27],[3],[]⟩ n ⟨[(2,(.str t)),(3,(.ptr 3 0 0)),(25,(.list true D8 l)),(26,(.int .i64 (ic l.length))),(27,(.int .i64 (i:Int)))],[(3,(some (.bld s)))]⟩ K=some (.str (RG s (l.drop i)),[])
 | 0,i,n+1,s,hd,_,_=>by
  rw [DX,Lw,IT (by omega),C2 (l:=l) (i:=i) (by omega)];simp only [DG,RG];exact hx s _ _
 | d+1,i,n+1,s,hd,hn,hs=>by
  have hi:i < l.length:=by omega
  rw [DX,Lw,H0 hi,IH,GQ (by omega),IS hi];rw [BF hi] at hs ⊢;simp only [RG] at hs ⊢;simp only [DE,CJ];have hsz:=rS (l.drop (i+1)) (cond (H9 l[i]) (GN s U7 []) (GN s gX [.int (E9 l[i]),.int (F2 l[i])]));have ih:=fun s' h'=>Hj N l t K hl hx d (i+1) n s' (by omega) (by omega) h'
  have es:(l[i].cell 0).toBool=H9 l[i]:=rfl;rw [es];cases hc:H9 l[i] with
  | true=>
   rw [hc] at hsz hs;simp only [DE] at hsz hs ⊢;rw [AE (show (GN s U7 []).size≤strMax by omega)];simp only [DE];exact ih _ hs
  | false=>
   rw [hc] at hsz hs;simp only [DG] at hsz hs ⊢;have e2:[IV.int (IV.toInt (IV.cell l[i] 1)),IV.int (IV.toInt (IV.cell l[i] 2))]=[.int (E9 l[i]),.int (F2 l[i])]:=rfl;rw [e2,AE (show (GN s gX [.int (E9 l[i]),.int (F2 l[i])]).size≤strMax by omega)];simp only [DE];exact ih _ hs
 | 0,_,0,_,_,h,_=>by omega
 | _+1,_,0,_,_,h,_=>by omega
theorem zgT {v:Vd} (h:v.right=true):v.proof.length≤65536:=by
 unfold Vd.right at h;simp only [AI,vaz] at h;rcases h.2.2 with h1 | h1 | h1
 ·have:=h1.2.2
  unfold XT at this;simp only [AI,AP] at this;exact this.2.1
 ·have:=h1.2
  cases hp:v.proof with
  | nil=>simp
  | cons a b=>rw [hp] at this; cases this
 ·have:=h1.2.2
  cases hp:v.proof with
  | nil=>simp
  | cons a b=>rw [hp] at this; cases this
theorem sX:DS PR B0 11 RZ:=by
 refine D2 [(45,bB),(46,bC),(47,TP)] [(9,⟨[2,3,25,26,27],[3],[]⟩)] RZ [[.str]] Tryz.func11 zaH ⟨zhy,zhz,s9,trivial⟩ ?_;intro vs r hwf h;unfold RZ at h;split at h
 ·rename_i k p a b c d t s;obtain ⟨v,hv⟩:∃ v:Vd,v=⟨k,p,a,b,c,d,t,s⟩:=⟨_,rfl⟩;refine ⟨v.proof.length+1,?_⟩;rw [← h];rw [← hv] at h ⊢;have hn:=zdB (v.proof.length+1) v;rw [show Vd.V v = .agg [.int .i64 k,.list true [.bool,.z,.z] p,.int .i64 a,.int .i64 b,.int .i64 c,.int .i64 d,.int .i64 t,.int .i64 s] by rw [hv]; rfl] at hn;refine hn.trans ?_;clear hn;rw [R.get_br,R.get_ok,R.get_no] at h;simp only [R.get_br,R.get_ok,R.get_no];cases hc:decide ((GT v).size≤strMax) with
  | false=>rw [hc] at h; cases h
  | true=>
   have hle:=A0 hc;simp only [DE];unfold GT at hle ⊢;cases hr:Vd.right v with
   | false=>rfl
   | true=>
    rw [hr] at hle;simp only [A1,DE,DG] at hle ⊢;have e0:CG=EF:=rfl;simp only [e0];cases k1:v.kind==1 with
    | true=>
     rw [k1] at hle;simp only [DE] at hle ⊢;have h1:=rS v.proof (GN EF PF [.int v.spent,.int (ic v.proof.length)]);rw [AE (show (GN EF PF [.int v.spent,.int (ic v.proof.length)]).size≤strMax by omega)];simp only [DE]
     have:=Hj (v.proof.length+1) v.proof EF _ (zgT hr) (fun s' x26 x27=>Xn (v.proof.length+1) EF v.proof x26 x27 s') v.proof.length 0 (v.proof.length+1) (GN EF PF [.int v.spent,.int (ic v.proof.length)]) (by omega) (by omega) (by rw [BZ]; exact hle)
     rw [BZ] at this;exact this
    | false=>
     rw [k1] at hle;simp only [DG] at hle ⊢;cases k2:v.kind==2 with
     | true=>
      rw [k2] at hle;simp only [DE] at hle ⊢;have ew:(AO 0 (AK (1+4+1) (AK (1+4) (AK 1 [IV.int (Vd.spent v)]++[IV.int (Vd.w0 v),IV.int (Vd.w1 v),IV.int (Vd.w2 v),IV.int (Vd.w3 v)])++[IV.int (Vd.twin v)])))=[.int v.spent,.int v.w0,.int v.w1,.int v.w2,.int v.w3,.int v.twin]:=rfl;rw [ew,AE hle];rfl
     | false=>
      rw [k2] at hle;simp only [DG] at hle ⊢;cases k3:v.kind==3 with
      | true=>
       rw [k3] at hle;simp only [DE] at hle ⊢;rw [AE hle];rfl
      | false=>
       rw [k3] at hle;simp only [DG] at hle ⊢;rw [AE hle];rfl
 ·simp [R.get] at h
theorem zhx:DS PR B0 58 bA:=by
 refine D2 [(11,RZ),(123,bE)] [] bA [[.z,.list true [.bool,.z,.z],.z,.z,.z,.z,.z,.z],[.bool]] Tryz.func58 zaG ⟨sX,zhB,trivial⟩ ?_;intro vs r hwf h;unfold bA at h;split at h
 ·rename_i s;refine ⟨0,?_⟩;rw [← h];refine (zdA 0 s).trans ?_;simp only [R.get_br,R.get_ok,R.get_no] at h ⊢;cases h1:decide (s.size < 4294967281) with
  | false=>rfl
  | true=>
   rw [h1] at h;simp only [DE] at h ⊢;cases h2:decide ((GT (JI s)).size≤strMax) with
   | false=>rw [h2] at h; cases h
   | true=>
    simp only [DE];unfold J6 ZI;cases h3:(s.toList==EF.toList) with
    | true=>rfl
    | false=>
     cases h4:((GT (JI s)).toList==s.toList) with
     | true=>rfl
     | false=>rfl
 ·simp [R.get] at h
open Go
abbrev L4:BA:=⟨#[113,117,101,114,121,32]⟩
abbrev Oz:BA:=⟨#[109,111,100,101,108,10]⟩
def FF (s:BA):LI:=cond (s.toList==EF.toList) [] ((D1 (F3 s FC) FC).map IV.str)
def V3:DR
 | [.str s]=>.br (decide (s.size < 4294967281)) (.ok (.list false [.str] (FF s)) []) .no
 | _=>.no
def mM:Vd:=⟨4,[],0,0,0,0,0,0⟩
def YH (m:Md) (l:BA):Bool:=MY l&&(MA l==m.d&&FH m (FK l))
def vA (m:Md) (q:Qy):Vd:=cond ((P4 m q).kind==3||NB m q (P4 m q)) (P4 m q) mM
def NQ (m:Md) (l:BA):Vd:=cond (YH m l) (vA m (FK l)) mM
def bW:DR
 | [m,.str l]=>IC m fun m=>.br (decide (l.size < 4294967281)) (.ok (NQ m l).V []) .no
 | _=>.no
def ME (i:Nat):BA:=(L4++DL (i:Int))++FC
def UE (i:Int):BA:=(L4++DL i)++FC
def UP (m:Md):BA→Nat→LI→BA
 | s,_,[]=>s
 | s,i,x :: l=>UP m (s++ME i++GT (NQ m x.toStr)) (i+1) l
def lI (a b:BA):BA:=cond (PC a) (UP (G5 a) EF 0 (FF b)) Oz
def bX:DR
 | [.str a,.str b]=>.br (decide (a.size < 4294967281)&&(decide (b.size < 4294967281)&&decide ((lI a b).size≤strMax))) (.ok (.str (lI a b)) []) .no
 | _=>.no
def iF:DR
 | [.str s,.int .u8 c]=>.ok (.int .i64 (vat s.data.toList c.toNat.toUInt8)) []
 | _=>.no
def UI (l:List UInt8):Nat→Nat→Option Nat
 | 0,at_=>some at_
 | n+1,at_=>cond (decide (vat (l.drop at_) 10 < 0)) none (UI l n (at_+(vat (l.drop at_) 10).toNat+1))
def NX (s:BA) (n:Int):Bool:=(UI s.data.toList n.toNat 0).isSome
def nZ (s:BA) (n:Int):Nat:=(UI s.data.toList n.toNat 0).getD 0
def JY (s:BA) (n:Int):BA:=cond (NX s n) (s.extract 0 (nZ s n)) EF
def WR (s:BA) (n:Int):BA:=cond (NX s n) (s.extract (nZ s n) s.size) EF
def aT:DR
 | [.str s,.int .i64 n]=>.br (decide (s.size < 4294967281)) (.ok (.tup [.str (JY s n),.str (WR s n),.bool (NX s n)]) []) .no
 | _=>.no
def W9 (s:BA):LI:=(D1 (F3 s FC) U6).map IV.str
def OW (s:BA):Int:=
 cond (!((NI (W9 s)).toList==PF.toList)||!(ic (W9 s).length==3)) 1
  (cond (!(LC (DU (W9 s) 2))||(decide (FA (DU (W9 s) 2) < 0)||decide (FA (DU (W9 s) 2) > 65536))) 1 (FD (1+FA (DU (W9 s) 2))))
def aU:DR
 | [.str s]=>.br (decide (s.size < 4294967281)) (.ok (.int .i64 (OW s)) []) .no
 | _=>.no
abbrev Q1:List Kd:=[.z,.list true [.bool,.z,.z],.z,.z,.z,.z,.z,.z]
def Vd.I (v:Vd):IV:=.agg [.int v.kind,.list v.proof,.int v.w0,.int v.w1,.int v.w2,.int v.w3,.int v.twin,.int v.spent]
def L0 (x:IV):Vd:=⟨cI x 0,(x.cell 1).toList,cI x 2,cI x 3,cI x 4,cI x 5,cI x 6,cI x 7⟩
def J8 (s:BA) (i:Nat):BA:=F8 s (ME i)
def UV (s:BA) (i:Nat):BA:=JY (J8 s i) (OW (JY (J8 s i) 1))
def lH (s:BA) (i:Nat):BA:=WR (J8 s i) (OW (JY (J8 s i) 1))
def Iw (s:BA) (i:Nat):Bool:=OT s (ME i)&&(NX (J8 s i) 1&&(NX (J8 s i) (OW (JY (J8 s i) 1))&&ZI (UV s i)))
def gR:Nat→Nat→BA→LI→Option LI
 | 0,_,_,_=>none
 | n+1,i,s,out=>cond (s.toList==EF.toList) (some out) (cond (Iw s i) (gR n (i+1) (lH s i) (out++[(J6 (UV s i)).I])) none)
def IY (s:BA):Option LI:=gR (s.size+1) 0 s []
def VW:DR
 | [.str s]=>.br (decide (s.size < 4294967281)) (.br (IY s).isSome (.ok (.tup [.list true Q1 ((IY s).getD []),.bool true]) []) (.ok (.tup [.list true Q1 [],.bool false]) [])) .no
 | _=>.no
def P3 (s:BA) (i:Int):BA:=F8 s (UE i)
def O8 (s:BA) (i:Int):BA:=JY (P3 s i) (OW (JY (P3 s i) 1))
def Iv (s:BA) (i:Int):BA:=WR (P3 s i) (OW (JY (P3 s i) 1))
def SB (m:Md) (l:BA) (v:Vd):Bool:=
 cond (YH m l) (cond (v.kind==3) (v.spent==(FK l).bu)
   (cond (v.kind==1||v.kind==2) (decide (v.spent≥1)&&(decide (v.spent≤(FK l).bu)&&NB m (FK l) v)) false))
  (v.kind==4&&v.spent==0)
def aS:DR
 | [m,.str l,v]=>IC m fun m=>uN v fun v=>.br (decide (l.size < 4294967281)) (.ok (.bool (SB m l v)) []) .no
 | _=>.no
def TT (m:Md):LI→LI→Bool
 | [],_=>true
 | v :: r,ls=>SB m (ls.getD 0 default).toStr (L0 v)&&TT m r (ls.drop 1)
def UQ (a b r:BA):Bool:=
 cond (PC a) (match IY r with
  | some vs=>ic vs.length==ic (FF b).length&&TT (G5 a) vs (FF b)
  | none=>false) (r.toList==Oz.toList)
def aR:DR
 | [.str a,.str b,.str r]=>.br (decide (a.size < 4294967281)&&(decide (b.size < 4294967281)&&decide (r.size < 4294967281))) (.ok (.bool (UQ a b r)) []) .no
 | _=>.no
open Go Go.Proofs
theorem o6:∀ (l:List UInt8) (c:UInt8),-1≤vat l c∧vat l c < l.length
 | [],_=>⟨by show (-1:Int) ≤ -1; omega,by show (-1:Int) < 0; omega⟩
 | b :: l,c=>by
  have ih:=o6 l c;unfold vat;rw [AN];split
  ·omega
  ·split
   ·omega
   ·omega
theorem ziB:DS PR B0 121 iF:=by
 intro w X γ vs xs r out hsp hg hx hR hV;unfold iF at hsp;simp only at hsp;split at hsp
 ·rename_i s c;simp only [R.get,AC,AQ] at hsp;obtain ⟨rfl,rfl⟩:=hsp;obtain ⟨x0,x1,rfl⟩:∃ x0 x1,xs=[x0,x1]:=by
   have:=hV.length
   simp at this
   match xs,this with
   | [a,b],_=>exact ⟨a,b,rfl⟩
  simp only [AZ,CC,EC,VRels,VRel,B4] at hV;obtain ⟨⟨rfl,hs⟩,rfl,_⟩:=hV;refine P7 hR rfl rfl (Does.of_calls Tryz.func121 (by kernel_rfl) (by kernel_rfl) ((Tryz.strings_IndexByte s c w).mono ?_));rintro e w' ⟨rfl,rfl⟩;refine ⟨_,rfl,Keep.refl _ _,fun O _=>?_⟩;simp only [VRel];have hb:=o6 s.data.toList c.toNat.toUInt8;have hz:s.data.toList.length=s.size:=by rw [CQ]; rfl
  have e1:AB.min = -9223372036854775808:=rfl;have e2:AB.max=9223372036854775807:=rfl;unfold strMax at hs;exact ⟨by first | rfl | trivial,by omega,by omega⟩
 ·simp [R.get] at hsp
open Go Go.Proofs
def Rb (N:Nat):Env:=D0 [(64,MX),(65,R7)] [] 8 N
theorem zd6 (N:Nat) (s:BA):DV (Rb N) xO [.tmp 2] [[.list false [.str]]] [.str s]=(cond (AX s==AX {data:=#[]}) (some ((.list false [.str] []),[])) (cond (decide (AG (F3 s {data:=#[10]}) < 4294967281)&&decide (1≤AG {data:=#[10]})) (some ((.list false [.str] (A2 IV.str (D1 (F3 s {data:=#[10]}) {data:=#[10]}))),[])) none)):=by kernel_rfl
def Ra (N:Nat):Env:=D0 [(23,VS),(54,R0),(93,L8),(53,V8)] [] 46 N
theorem zd5 (N:Nat) (m:Md) (line:BA):DV (Ra N) xN [.cell 4 50] [[.z,.list true [.bool,.z,.z],.z,.z,.z,.z,.z,.z]] [(Md.V m),.str line]=(cond (decide (AG line < 4294967281)) (cond (!MY line) (some ((.agg [.i 4,.list true D8 [],.i 0,.i 0,.i 0,.i 0,.i 0,.i 0]),[])) (cond (MA line != Md.d m) (some ((.agg [.i 4,.list true D8 [],.i 0,.i 0,.i 0,.i 0,.i 0,.i 0]),[])) (cond (!FH m (FK line)) (some ((.agg [.i 4,.list true D8 [],.i 0,.i 0,.i 0,.i 0,.i 0,.i 0]),[])) (cond (Vd.kind (P4 m (FK line))==3) (some ((Vd.V (P4 m (FK line))),[])) (cond (NB m (FK line) (P4 m (FK line))) (some ((Vd.V (P4 m (FK line))),[])) (some ((.agg [.i 4,.list true D8 [],.i 0,.i 0,.i 0,.i 0,.i 0,.i 0]),[]))))))) none):=by kernel_rfl
def TM (N:Nat):Env:=D0 [(11,RZ),(26,bW),(29,V3),(42,OM),(47,TP),(94,TQ),(17,WC)] [(6,⟨[4,5,7,18,19,20],[5,7],[]⟩)] 37 N
abbrev VG (u00 s4:BA) (l18:LI) (x19 x20:Int) (so7:BA):St:=⟨[(4,(.str s4)),(5,(.ptr 5 0 0)),(7,(.ptr 7 0 0)),(18,(.list false [.str] l18)),(19,(.i x19)),(20,(.i x20))],[(5,(some (.box (Md.cs (G5 u00))))),(7,(some (.bld so7)))]⟩
theorem zd7 (N:Nat) (u00 u01:BA):DV (TM N) WN [.tmp 4] [[.str]] [.str u00,.str u01]=(cond (decide (AG u00 < 4294967281)) (cond (!PC u00) (some ((.str ({data:=#[109,111,100,101,108,10]})),[])) (cond (decide (AG u01 < 4294967281)) (DT (TM N) (DF WN [1,1,1,1,0,1,0,0]) ⟨[4,5,7,18,19,20],[5,7],[]⟩ N (VG u00 ({data:=#[]}) (FF u01) (ic (AF (FF u01))) 0 CG) (DM 0 (DN (TM N) (DF WN [1,1,1,1,1]) (DP (TM N) none [.tmp 4] [[.str]])))) none)) none):=by kernel_rfl
theorem Mj (N:Nat) (u00 s4:BA) (l18:LI) (x19 x20:Int) (so7:BA) (again:St→DJ) (k:Out→St→DJ):EX (TM N) (DF WN [1,1,1,1,0,1,0,0]) (VG u00 s4 l18 x19 x20 so7) (ED again ⟨[4,5,7,18,19,20],[5,7],[]⟩ k)=(cond (decide (x20 < x19)) (cond (decide (0≤x20)&&decide (x20 < ic (AF l18))) (cond (decide (AG {data:=#[113,117,101,114,121,32]}+AG (DL x20)≤strMax)) (cond (decide (AG ({data:=#[113,117,101,114,121,32]}++DL x20)+AG {data:=#[10]}≤strMax)) (cond (decide (AG so7+AG (UE x20)≤strMax)) (cond (decide (AG (IV.toStr (AH l18 (AD x20) default)) < 4294967281)) (cond (decide (AG (GT (NQ (G5 u00) (IV.toStr (AH l18 (AD x20) default))))≤strMax)) (cond (decide (AG (so7++(UE x20))+AG (GT (NQ (G5 u00) (IV.toStr (AH l18 (AD x20) default))))≤strMax)) (again (VG u00 s4 l18 x19 (AA AB (x20+1)) (so7++(UE x20)++GT (NQ (G5 u00) (IV.toStr (AH l18 (AD x20) default)))))) none) none) none) none) none) none) none) (k (.exit 0) (VG u00 s4 l18 x19 x20 so7))):=by kernel_rfl
theorem Yf (N:Nat) (u00 s4:BA) (l18:LI) (x19 x20:Int) (so7:BA):(DM 0 (DN (TM N) (DF WN [1,1,1,1,1]) (DP (TM N) none [.tmp 4] [[.str]]))) (.exit 0) (VG u00 s4 l18 x19 x20 so7)=(some ((.str so7),[])):=by kernel_rfl
def QK (N:Nat):Env:=D0 [(121,iF)] [(3,⟨[0,4,5,6,7,9,10],[],[]⟩)] 29 N
abbrev QG (s0 s4 s5:BA) (b6:Bool) (x7 x9 x10:Int):St:=⟨[(0,(.str s0)),(4,(.str s4)),(5,(.str s5)),(6,(.bool b6)),(7,(.i x7)),(9,(.i x9)),(10,(.i x10))],[]⟩
theorem zdo (N:Nat) (s:BA) (n:Int):DV (QK N) TZ [.tmp 4,.tmp 5,.tmp 6] [[.str],[.str],[.bool]] [.str s,.i n]=(DT (QK N) (DF TZ [1,1,0,1,0,0]) ⟨[0,4,5,6,7,9,10],[],[]⟩ N (QG s ({data:=#[]}) ({data:=#[]}) false 0 n 0) (DM 0 (DN (QK N) (DF TZ [1,1,1]) (DP (QK N) none [.tmp 4,.tmp 5,.tmp 6] [[.str],[.str],[.bool]])))):=by kernel_rfl
theorem ziP (N:Nat) (s0 s4 s5:BA) (b6:Bool) (x7 x9 x10:Int) (again:St→DJ) (k:Out→St→DJ):EX (QK N) (DF TZ [1,1,0,1,0,0]) (QG s0 s4 s5 b6 x7 x9 x10) (ED again ⟨[0,4,5,6,7,9,10],[],[]⟩ k)=(cond (decide (x10 < x9)) (cond (decide (0≤x7)&&decide (x7≤ic (AG s0))) (cond (decide (vat (Array.toList (ByteArray.data (vaP s0 (AD x7) (AG s0)))) (Nat.toUInt8 (AD 10)) < 0)) (k .ret (QG s0 ({data:=#[]}) ({data:=#[]}) false x7 x9 x10)) (again (QG s0 s4 s5 b6 (AA AB (x7+AA AB (vat (Array.toList (ByteArray.data (vaP s0 (AD x7) (AG s0)))) (Nat.toUInt8 (AD 10))+1))) x9 (AA AB (x10+1))))) none) (k (.exit 0) (QG s0 s4 s5 b6 x7 x9 x10))):=by kernel_rfl
theorem Xi (N:Nat) (s0 s4 s5:BA) (b6:Bool) (x7 x9 x10:Int):(DM 0 (DN (QK N) (DF TZ [1,1,1]) (DP (QK N) none [.tmp 4,.tmp 5,.tmp 6] [[.str],[.str],[.bool]]))) (.exit 0) (QG s0 s4 s5 b6 x7 x9 x10)=(cond (decide (0≤x7)&&decide (x7≤ic (AG s0))) (cond (decide (0≤x7)&&decide (x7≤ic (AG s0))) (some ((.tup [.str (vaP s0 0 (AD x7)),.str (vaP s0 (AD x7) (AG s0)),.bool true]),[])) none) none):=by kernel_rfl
theorem Xj (N:Nat) (s0 s4 s5:BA) (b6:Bool) (x7 x9 x10:Int):(DM 0 (DN (QK N) (DF TZ [1,1,1]) (DP (QK N) none [.tmp 4,.tmp 5,.tmp 6] [[.str],[.str],[.bool]]))) .ret (QG s0 s4 s5 b6 x7 x9 x10)=(some ((.tup [.str s4,.str s5,.bool b6]),[])):=by kernel_rfl
def Ps (N:Nat):Env:=D0 [(122,QS),(64,MX),(65,R7)] [] 37 N
theorem zdp (N:Nat) (u00:BA):DV (Ps N) wJ [.tmp 2] [[.z]] [.str u00]=(cond (decide (AG (F3 u00 {data:=#[10]}) < 4294967281)&&decide (1≤AG {data:=#[32]})) (cond (decide (0≤0)&&decide (0 < ic (AF (A2 IV.str (D1 (F3 u00 {data:=#[10]}) {data:=#[32]}))))) (cond (!AX (IV.toStr (AH (A2 IV.str (D1 (F3 u00 {data:=#[10]}) {data:=#[32]})) (AD 0) default))==AX {data:=#[104,111,108,100,115]}) (some ((.i 1),[])) (cond (ic (AF (A2 IV.str (D1 (F3 u00 {data:=#[10]}) {data:=#[32]}))) != 3) (some ((.i 1),[])) (cond (decide (0≤2)&&decide (2 < ic (AF (A2 IV.str (D1 (F3 u00 {data:=#[10]}) {data:=#[32]}))))) (cond (!LC (IV.toStr (AH (A2 IV.str (D1 (F3 u00 {data:=#[10]}) {data:=#[32]})) (AD 2) default))) (some ((.i 1),[])) (cond (decide (FA (IV.toStr (AH (A2 IV.str (D1 (F3 u00 {data:=#[10]}) {data:=#[32]})) (AD 2) default)) < 0)) (some ((.i 1),[])) (cond (decide (FA (IV.toStr (AH (A2 IV.str (D1 (F3 u00 {data:=#[10]}) {data:=#[32]})) (AD 2) default)) > 65536)) (some ((.i 1),[])) (some ((.i (AA AB (1+FA (IV.toStr (AH (A2 IV.str (D1 (F3 u00 {data:=#[10]}) {data:=#[32]})) (AD 2) default))))),[]))))) none))) none) none):=by kernel_rfl
def Pr (N:Nat):Env:=D0 [(23,VS),(54,R0),(93,L8)] [] 66 N
theorem zdn (N:Nat) (m:Md) (a1:BA) (a2:Vd):DV (Pr N) wI [.tmp 6] [[.bool]] [(Md.V m),.str a1,(Vd.V a2)]=(cond (decide (AG a1 < 4294967281)) (cond (!MY a1) (cond (Vd.kind a2==4) (some ((.bool (Vd.spent a2==0)),[])) (some ((.bool false),[]))) (cond (MA a1 != Md.d m) (cond (Vd.kind a2==4) (some ((.bool (Vd.spent a2==0)),[])) (some ((.bool false),[]))) (cond (!FH m (FK a1)) (cond (Vd.kind a2==4) (some ((.bool (Vd.spent a2==0)),[])) (some ((.bool false),[]))) (cond (Vd.kind a2==3) (some ((.bool (Vd.spent a2==Qy.bu (FK a1))),[])) (cond (Vd.kind a2==1) (cond (decide (Vd.spent a2≥1)) (cond (decide (Vd.spent a2≤Qy.bu (FK a1))) (some ((.bool (NB m (FK a1) a2)),[])) (some ((.bool false),[]))) (some ((.bool false),[]))) (cond (Vd.kind a2==2) (cond (decide (Vd.spent a2≥1)) (cond (decide (Vd.spent a2≤Qy.bu (FK a1))) (some ((.bool (NB m (FK a1) a2)),[])) (some ((.bool false),[]))) (some ((.bool false),[]))) (some ((.bool false),[])))))))) none):=by kernel_rfl
open Go
theorem Uo {s t:BA} (h:s.data.toList=t.data.toList):s=t:=ByteArray.ext (Array.ext' h)
theorem wC (s t:BA):(s.toList==t.toList)=decide (s=t):=by
 rw [Lib.toList_data,Lib.toList_data];by_cases h:s=t
 ·subst h; simp
 ·rw [AL h,A8];exact fun e=>h (Uo e)
theorem gF (s:BA):s.size=s.data.toList.length:=by rw [CQ]; rfl
theorem ziI (s sep:BA):(D1 s sep).map (·.data.toList)=Lib.split s.data.toList sep.data.toList:=by
 unfold D1 Lib.split;rw [Lib.splitB_data]
open Go
theorem Ag (s t:BA):(s++t).data.toList=s.data.toList++t.data.toList:=by simp
def KI (n:Int):Prop := -9223372036854775808≤n∧n≤9223372036854775807
def UZ (x:IV):Prop:=KI (E9 x)∧KI (F2 x)
structure Vd.rng (v:Vd):Prop where
 w0:KI v.w0
 w1:KI v.w1
 w2:KI v.w2
 w3:KI v.w3
 twin:KI v.twin
 spent:KI v.spent
 proof:∀ x∈v.proof,UZ x
theorem Fx:∀ (l:LI) (s:BA),(∀ x∈l,KI x.toInt)→(O6 s l).size≤s.size+22*l.length
 | [],s,_=>AW _
 | x :: l,s,h=>by
  rw [O6];refine CW (Fx l _ (fun y hy=>h y (AY _ hy))) ?_;have hx:=h x (AR ..)
  have:=Y6 (n:=x.toInt) hx.1 hx.2
  rw [A3,va4,AN];omega
theorem Y9 (s w:BA) (l:LI) (h:∀ x∈l,KI x.toInt):(GN s w l).size≤s.size+w.size+22*l.length+1:=by
 unfold GN
 have:=Fx l (s++w) h
 rw [A3] at this;rw [va4];omega
theorem Hf:∀ (l:LI) (s:BA),(∀ x∈l,UZ x)→(RG s l).size≤s.size+48*l.length
 | [],s,_=>AW _
 | x :: l,s,h=>by
  rw [RG];refine CW (Hf l _ (fun y hy=>h y (AY _ hy))) ?_;have hx:=h x (AR ..);rw [AN];cases H9 x
  ·have:=Y9 s gX [.int (E9 x),.int (F2 x)] (fun y hy=>by
    simp only [AS,List.mem_nil_iff,CU] at hy;rcases hy with rfl | rfl
    ·exact hx.1
    ·exact hx.2)
   have e:gX.size=3:=rfl;simp only [BG,AN,BB] at this ⊢;omega
  ·have:=Y9 s U7 [] (fun y hy=>by cases hy)
   have e:U7.size=3:=rfl;simp only [B1,BB] at this ⊢;omega
open Go
theorem zgU {v:Vd} (h:v.right=true):v.proof.length≤65536:=by
 unfold Vd.right at h;simp only [AI,vaz] at h;rcases h.2.2 with h1 | h1 | h1
 ·have:=h1.2.2
  unfold XT at this;simp only [AI,AP] at this;exact this.2.1
 ·have:=h1.2
  cases hp:v.proof with
  | nil=>simp
  | cons a b=>rw [hp] at this; cases this
 ·have:=h1.2.2
  cases hp:v.proof with
  | nil=>simp
  | cons a b=>rw [hp] at this; cases this
theorem o8 {l:List Int} (h:∀ n∈l,KI n):∀ x∈l.map IV.int,KI x.toInt:=by
 intro x hx;obtain ⟨n,hn,rfl⟩:=CN.1 hx;exact h n hn
theorem zcP {n:Nat} (h:n≤65536):KI (ic n):=by unfold KI ic; omega
theorem Hd {v:Vd} (hr:v.rng):(GT v).size≤4000000:=by
 unfold GT;cases h:v.right with
 | false=>simp only [BG]; decide
 | true=>
  simp only [B1];have hp:=zgU h;cases v.kind==1 with
  | true=>
   simp only [B1];have h1:=Hf v.proof (GN EF PF [.int v.spent,.int (ic v.proof.length)]) hr.proof;have h2:=Y9 EF PF [.int v.spent,.int (ic v.proof.length)] (o8 (l:=[v.spent,ic v.proof.length]) (by
    intro n hn;simp only [AS,List.mem_nil_iff,CU] at hn;rcases hn with rfl | rfl
    ·exact hr.spent
    ·exact zcP hp))
   have e1:EF.size=0:=rfl;have e2:PF.size=5:=rfl;simp only [AN,BB] at h2;omega
  | false=>
   simp only [BG];cases v.kind==2 with
   | true=>
    simp only [B1];have h2:=Y9 EF Z8 [.int v.spent,.int v.w0,.int v.w1,.int v.w2,.int v.w3,.int v.twin] (o8 (l:=[v.spent,v.w0,v.w1,v.w2,v.w3,v.twin]) (by
     intro n hn;simp only [AS,List.mem_nil_iff,CU] at hn;rcases hn with rfl | rfl | rfl | rfl | rfl | rfl
     ·exact hr.spent
     ·exact hr.w0
     ·exact hr.w1
     ·exact hr.w2
     ·exact hr.w3
     ·exact hr.twin))
    have e1:EF.size=0:=rfl;have e2:Z8.size=5:=rfl;simp only [AN,BB] at h2;omega
   | false=>
    simp only [BG];have hs:∀ x∈[IV.int v.spent],KI x.toInt:=o8 (l:=[v.spent]) (by
     intro n hn;simp only [AS,List.mem_nil_iff,CU] at hn;subst hn;exact hr.spent)
    have e1:EF.size=0:=rfl;cases v.kind==3 with
    | true=>
     simp only [B1];have h2:=Y9 EF Z9 [.int v.spent] hs;have e2:Z9.size=7:=rfl;simp only [AN,BB] at h2;omega
    | false=>
     simp only [BG];have h2:=Y9 EF aA [.int v.spent] hs;have e2:aA.size=5:=rfl;simp only [AN,BB] at h2;omega
theorem O5 (l:LI) (i:Int):KI (GA l i):=by
 unfold GA;cases decide (ic l.length≤i) with
 | true=>simp only [B1]; unfold KI; omega
 | false=>
  simp only [BG]
  have:=vL (l.getD i.toNat default).toStr
  exact this
theorem HO:KI 0:=⟨by decide,by decide⟩
theorem zgD (s:BA):UZ (lC s):=by
 unfold lC;cases ((NI (IG s)).toList==U7.toList) with
 | true=>exact ⟨HO,HO⟩
 | false=>exact ⟨O5 _ _,O5 _ _⟩
theorem Ia:∀ (m:Nat) (s:BA) (p:LI),(∀ x∈p,UZ x)→∀ x∈ZM m s p,UZ x
 | 0,_,_,h=>h
 | m+1,s,p,h=>by
  unfold ZM;cases (!(s.toList==EF.toList)&&decide (p.length≤65536)) with
  | false=>exact h
  | true=>
   simp only [B1];refine Ia m _ _ (fun x hx=>?_);rcases AV.1 hx with h1 | h1
   ·exact h x h1
   ·rw [BX.1 h1];exact zgD s
theorem zgE (s:BA):(JI s).rng:=by
 unfold JI;cases ((NI (IG s)).toList==PF.toList) with
 | true=>exact ⟨HO,HO,HO,HO,HO,O5 _ _,Ia _ _ _ (fun x hx=>by cases hx)⟩
 | false=>
  cases ((NI (IG s)).toList==Z8.toList) with
  | true=>exact ⟨O5 _ _,O5 _ _,O5 _ _,O5 _ _,O5 _ _,O5 _ _,fun x hx=>by cases hx⟩
  | false=>
   cases ((NI (IG s)).toList==Z9.toList) with
   | true=>exact ⟨HO,HO,HO,HO,HO,O5 _ _,fun x hx=>by cases hx⟩
   | false=>
    cases ((NI (IG s)).toList==aA.toList) with
    | true=>exact ⟨HO,HO,HO,HO,HO,O5 _ _,fun x hx=>by cases hx⟩
    | false=>exact ⟨HO,HO,HO,HO,HO,O5 _ _,fun x hx=>by cases hx⟩
open Go
theorem gJ {x y:IV}:tJ x y=true↔H9 x=H9 y∧E9 x=E9 y∧F2 x=F2 y:=by simp [tJ]
theorem Ja:∀ {l m:LI},MP l m=true→MP m l=true
 | [],[],_=>rfl
 | [],_ :: _,h=>by simp [MP] at h
 | _ :: _,[],h=>by simp [MP] at h
 | x :: l,y :: m,h=>by
  simp only [MP,AI] at h ⊢;obtain ⟨h1,h2,h3⟩:=gJ.1 h.1;exact ⟨gJ.2 ⟨h1.symm,h2.symm,h3.symm⟩,Ja h.2⟩
theorem Jb:∀ {l m n:LI},MP l m=true→MP m n=true→MP l n=true
 | [],[],[],_,_=>rfl
 | [],[],_ :: _,_,h=>by simp [MP] at h
 | [],_ :: _,_,h,_=>by simp [MP] at h
 | _ :: _,[],_,h,_=>by simp [MP] at h
 | _ :: _,_ :: _,[],_,h=>by simp [MP] at h
 | x :: l,y :: m,z :: n,h,k=>by
  simp only [MP,AI] at h k ⊢;obtain ⟨h1,h2,h3⟩:=gJ.1 h.1;obtain ⟨k1,k2,k3⟩:=gJ.1 k.1;exact ⟨gJ.2 ⟨h1.trans k1,h2.trans k2,h3.trans k3⟩,Jb h.2 k.2⟩
structure VSame (a b:Vd):Prop where
 kind:a.kind=b.kind
 proof:MP a.proof b.proof=true
 w0:a.w0=b.w0
 w1:a.w1=b.w1
 w2:a.w2=b.w2
 w3:a.w3=b.w3
 twin:a.twin=b.twin
 spent:a.spent=b.spent
theorem VSame.symm {a b:Vd} (h:VSame a b):VSame b a:=⟨h.kind.symm,Ja h.proof,h.w0.symm,h.w1.symm,h.w2.symm,h.w3.symm,h.twin.symm,h.spent.symm⟩
theorem VSame.trans {a b c:Vd} (h:VSame a b) (k:VSame b c):VSame a c:=⟨h.kind.trans k.kind,Jb h.proof k.proof,h.w0.trans k.w0,h.w1.trans k.w1,h.w2.trans k.w2,h.w3.trans k.w3,h.twin.trans k.twin,h.spent.trans k.spent⟩
open Go
theorem zcv (x y:List UInt8) (r:List (List UInt8)):Lib.join (x :: y :: r) [32]=x++32 :: Lib.join (y :: r) [32]:=by
 rw [Lib.join_cons,Lib.join_cons];simp [Lib.joinTail]
theorem Lj:∀ (x:List UInt8) (r:List (List UInt8)),(∀ w∈x :: r,(32:UInt8) ∉ w)→Lib.split (Lib.join (x :: r) [32]) [32]=x :: r
 | x,[],h=>by rw [Lib.join_one]; exact Ll x 32 (h x (AR ..))
 | x,y :: r,h=>by
  rw [zcv,Li x _ 32 (h x (AR ..)),Lj y r (fun w hw=>h w (AY _ hw))]
theorem kL:∀ {l m:List BA},l.map (·.data.toList)=m.map (·.data.toList)→l=m
 | [],[],_=>rfl
 | [],_ :: _,h=>by simp at h
 | _ :: _,[],h=>by simp at h
 | x :: l,y :: m,h=>by
  simp only [AZ,vaB] at h;rw [TW h.1,kL h.2]
theorem Dy (ws:List BA) (h0:ws≠[]) (h:∀ w∈ws,(32:UInt8) ∉ w.data.toList):G4 (F9 ws GR)=ws.map IV.str:=by
 unfold G4;congr 1;apply kL;rw [Lh];cases ws with
 | nil=>exact absurd rfl h0
 | cons x r=>
  show Lib.split (Lib.join ((x :: r).map (·.data.toList)) [32]) [32]=_;rw [AZ];exact Lj _ _ (fun w hw=>by
   rcases AS.1 hw with rfl | hw
   ·exact h x (AR ..)
   ·obtain ⟨y,hy,rfl⟩:=CN.1 hw;exact h y (AY _ hy))
theorem Jr (u:Nat):∀ c∈H8 u,c.toNat=46∨(48≤c.toNat∧c.toNat≤57):=by
 intro c hc;rw [gE] at hc;rcases AV.1 hc with h | h
 ·exact .inr (WS _ c h)
 ·split at h
  ·cases h
  ·rename_i h0;rcases AS.1 h with rfl | h
   ·exact .inl rfl
   ·exact .inr ((jE h0 (by omega:u % 256 < 256)).2.1 c h)
theorem rR (n:Int):∀ c∈KJ n,45≤c.toNat∧c.toNat≤57:=by
 intro c hc;unfold KJ at hc;split at hc
 ·rcases AS.1 hc with rfl | h
  ·exact ⟨by decide,by decide⟩
  ·have:=Jr _ c h
   omega
 ·have:=Jr _ c hc
  omega
theorem zcr (n:Int):∀ c∈Lib.itoa n,45≤c.toNat∧c.toNat≤57:=by
 intro c hc
 have:=zcq n c hc
 omega
theorem zcs (n:Int):Lib.itoa n≠[]:=by
 unfold Lib.itoa;split
 ·simp
 ·exact jD _
theorem SU {l:List UInt8} (h:∀ c∈l,45≤c.toNat∧c.toNat≤57):(32:UInt8) ∉ l:=fun hc=>by
 have:=(h _ hc).1
 revert this;decide
theorem dP {x y:BA} (h:x≠y):(x.toList==y.toList)=false:=by rw [iR]; exact AL h
theorem TV (x:BA):(x.toList==x.toList)=true:=by simp
theorem Ey {w x:BA} (hw:∀ c∈w.data.toList,97≤c.toNat) (hx:x.data.toList≠[]) (h:∀ c∈x.data.toList,45≤c.toNat∧c.toNat≤57):(w.toList==x.toList)=false:=by
 refine dP (fun e=>?_);subst e;cases hl:w.data.toList with
 | nil=>exact hx hl
 | cons c r=>
  have h1:=hw c (by rw [hl]; exact AR ..);have h2:=h c (by rw [hl]; exact AR ..);omega
def K0:List UInt8→Bool
 | []=>true
 | [c]=>!(c==46)
 | a :: b :: r=>!(a==46&&b==46)&&K0 (b :: r)
theorem qO:∀ {l:List UInt8},(∀ c∈l,c≠46)→K0 l=true
 | [],_=>rfl
 | [c],h=>by simp [K0,h c (AR ..)]
 | a :: b :: r,h=>by
  have ha:=h a (AR ..);have e:(a==46)=false:=A8.2 ha;simp only [K0,e,BM,A6,BC];exact qO (fun c hc=>h c (AY _ hc))
theorem qN:∀ {l:List UInt8} {c:UInt8} {r:List UInt8},(∀ c∈l,c≠46)→c≠46→K0 (c :: r)=true→K0 (l++46 :: c :: r)=true
 | [],c,r,_,hc,hr=>by
  have e:(c==46)=false:=A8.2 hc;simp only [vac,K0,e,vaq,A6,BC,hr]
 | [a],c,r,h,hc,hr=>by
  have e:(a==46)=false:=A8.2 (h a (AR ..))
  have:=qN (l:=[]) (fun c hc=>by cases hc) hc hr
  simp only [vac] at this;simp only [C3,vac,K0,e,BM,A6,BC];simpa only [K0] using this
 | a :: b :: l,c,r,h,hc,hr=>by
  have e:(a==46)=false:=A8.2 (h a (AR ..))
  have:=qN (l:=b :: l) (fun c hc=>h c (AY _ hc)) hc hr
  simp only [C3] at this ⊢;simp only [K0,e,BM,A6,BC];exact this
theorem pC:∀ (w r:List UInt8),K0 w=true→Lib.index (w++46 :: 46 :: r) [46,46]=w.length
 | [],r,_=>by simp [Lib.index,vbr]
 | [c],r,h=>by
  have e:(c==46)=false:=by simpa [K0] using h
  have e':((46:UInt8)==c)=false:=by rw [A8] at e ⊢; exact fun h=>e h.symm
  have h0:=pC [] r rfl;simp only [vac,BB] at h0;rw [List.singleton_append,Lib.index,h0];simp [vbr,e']
 | a :: b :: l,r,h=>by
  simp only [K0,AI] at h;have ih:=pC (b :: l) r h.2;have e:[(46:UInt8),46].isPrefixOf (a :: b :: l++46 :: 46 :: r)=false:=by
   simp only [C3,vbr,CJ];have h1:=h.1;cases ha:(a==46) with
   | false=>
    have:((46:UInt8)==a)=false:=by rw [A8] at ha ⊢; exact fun h=>ha h.symm
    rw [this,BM]
   | true=>
    rw [ha,BC] at h1;have hb:(b==46)=false:=by simpa using h1
    have:((46:UInt8)==b)=false:=by rw [A8] at hb ⊢; exact fun h=>hb h.symm
    rw [this,vaq]
  have e2:(((b :: l).length:Int) == -1)=false:=by rw [A8]; simp only [AN]; omega
  rw [C3,Lib.index];rw [C3] at e;rw [e,ih,e2];simp
theorem Fd (u:Nat):K0 (H8 u)=true:=by
 have hd:∀ c∈CI (u / 256),c≠46:=fun c hc e=>by
  subst e
  have:=WS _ _ hc
  revert this;decide
 rw [gE];by_cases h:u % 256=0
 ·rw [BR h,DB];exact qO hd
 ·rw [A9 h];obtain ⟨_,h2,l,c,h3,_⟩:=jE h (by omega:u % 256 < 256);have hp:∀ c∈JZ (u % 256),c≠46:=fun c hc e=>by
   subst e
   have:=h2 _ hc
   revert this;decide
  cases hl:JZ (u % 256) with
  | nil=>rw [h3] at hl; simp at hl
  | cons x r=>
   rw [hl] at hp;exact qN hd (hp x (AR ..)) (qO hp)
theorem zfb (n:Int):K0 (KJ n)=true:=by
 unfold KJ;split
 ·obtain ⟨c,r,h,_⟩:=sR n.natAbs
  have:=Fd n.natAbs
  rw [h] at this ⊢;simp only [K0,AI];exact ⟨by rfl,this⟩
 ·exact Fd _
theorem Vz (w r:List UInt8) (h:K0 w=true):Lib.cut (w++46 :: 46 :: r) [46,46]=(w,r,true):=by
 unfold Lib.cut;rw [pC w r h,BR (by omega)];simp
theorem Lg (a b:Int):cutL (MR a b) Z7=DQ a∧FT (MR a b) Z7=DQ b:=by
 have e:(MR a b).data.toList=KJ a++46 :: 46 :: KJ b:=by
  unfold MR;simp only [ByteArray.data_append,vak];show (KJ a++[46,46])++KJ b=_;simp
 unfold cutL FT;rw [e]
 have:=Vz (KJ a) (KJ b) (zfb a)
 show (⟨(Lib.cut _ [46,46]).1.toArray⟩:BA)=_∧(⟨(Lib.cut _ [46,46]).2.1.toArray⟩:BA)=_;rw [this];exact ⟨rfl,rfl⟩
theorem Qy.eq_of {p q:Qy} (h:p.eq q=true):p=q:=by
 cases p; cases q;simp only [Qy.eq,AI,B8,B4] at h;simp only [Qy.mk.injEq];exact h
theorem Qy.eq_self (p:Qy):p.eq p=true:=by
 simp [Qy.eq]
theorem QW {n:Int} (h:D7 n):FA (DL n)=n:=vM rfl h.1 h.2
theorem gA {n:Int} (h:D7 n):F1 (DQ n)=n:=(zgd h).2
theorem ZJ (n:Int):∀ c∈(DQ n).data.toList,45≤c.toNat∧c.toNat≤57:=rR n
theorem OV (n:Int):∀ c∈(DL n).data.toList,45≤c.toNat∧c.toNat≤57:=zcr n
theorem zf8 (n:Int):(DQ n).data.toList≠[]:=by
 obtain ⟨c,r,h,_⟩:=Hh n;rw [h];simp
theorem Le (a b:Int):∀ c∈(MR a b).data.toList,45≤c.toNat∧c.toNat≤57:=by
 intro c hc;unfold MR at hc;simp only [ByteArray.data_append,vak,AV] at hc;rcases hc with (h | h) | h
 ·exact rR a c h
 ·have h:c∈[(46:UInt8),46]:=h;simp only [AS,BW,CU,or_self] at h;subst h;decide
 ·exact rR b c h
theorem zjG (q:Qy) (D:Nat):∀ w∈I8 q D,(32:UInt8) ∉ w.data.toList:=by
 intro w hw;unfold I8 at hw;have key:∀ x∈HH q,(32:UInt8) ∉ x.data.toList:=by
  intro x hx;unfold HH at hx;cases h1:(q.k==1) <;> rw [h1] at hx <;> simp only [B1,BG] at hx
  ·cases h2:(q.k==2) <;> rw [h2] at hx <;> simp only [B1,BG,AS,BW,CU] at hx
   ·rcases hx with rfl | rfl | rfl | rfl
    ·cases q.fl <;> decide
    ·exact SU (OV _)
    ·decide
    ·exact SU (OV _)
   ·rcases hx with rfl | rfl
    ·decide
    ·exact SU (OV _)
  ·simp only [AS,BW,CU] at hx;rcases hx with rfl | rfl | rfl | rfl | rfl | rfl
   ·decide
   ·exact SU (OV _)
   ·decide
   ·exact SU (ZJ _)
   ·decide
   ·exact SU (ZJ _)
 rcases AV.1 hw with h | h
 ·rcases AV.1 h with h | h
  ·exact key w h
  ·rcases AS.1 h with rfl | h
   ·decide
   ·obtain ⟨s,_,rfl⟩:=CN.1 h;exact SU (Le _ _)
 ·simp only [AS,BW,CU] at h;rcases h with rfl | rfl
  ·decide
  ·exact SU (OV _)
theorem Cl (w:BA):∀ (l:LI) (r:LI) (k:Int),(∀ x∈l,(w.toList==x.toStr.toList)=false)→FU (l++.str w :: r) w k=k+(l.length:Int)
 | [],r,k,_=>by
  simp only [vac,FU,IV.toStr,TV,B1,BB];omega
 | x :: l,r,k,h=>by
  rw [C3,FU,h x (AR ..),BG,Cl w l r (k+1) (fun y hy=>h y (AY _ hy))];simp only [AN];omega
theorem zce (q:Qy):∀ x∈(HH q).map IV.str,(NG.toList==x.toStr.toList)=false:=by
 intro y hy;obtain ⟨x,hx,rfl⟩:=CN.1 hy;simp only [IV.toStr];have li:∀ c∈NG.data.toList,97≤c.toNat:=by decide
 have ni:=fun n=>Ey li (zcs n) (OV n)
 have np:=fun n=>Ey li (zf8 n) (ZJ n)
 have dd:∀ {a b:BA},a.data.toList≠b.data.toList→(a.toList==b.toList)=false:=fun h=>dP (fun e=>h (by rw [e]))
 unfold HH at hx;cases h1:(q.k==1) <;> rw [h1] at hx <;> simp only [B1,BG] at hx
 ·cases h2:(q.k==2) <;> rw [h2] at hx <;> simp only [B1,BG,AS,BW,CU] at hx
  ·rcases hx with rfl | rfl | rfl | rfl
   ·cases q.fl <;> exact dd (by decide)
   ·exact ni _
   ·exact dd (by decide)
   ·exact ni _
  ·rcases hx with rfl | rfl
   ·exact dd (by decide)
   ·exact ni _
 ·simp only [AS,BW,CU] at hx;rcases hx with rfl | rfl | rfl | rfl | rfl | rfl
  ·exact dd (by decide)
  ·exact ni _
  ·exact dd (by decide)
  ·exact np _
  ·exact dd (by decide)
  ·exact np _
theorem zcf (q:Qy) (hc:D7 q.c) (hlo:D7 q.lo) (hhi:D7 q.hi) (hft:D7 q.ft) (hk:q.k=1∨q.k=2∨q.k=3) (n1:q.k≠1→q.lo=0∧q.hi=0) (n3:q.k≠3→q.ft=0∧q.fl=false) :
  EK ((HH q).map IV.str)=⟨q.k,q.c,0,0,0,0,0,0,0,0,0,0,q.lo,q.hi,q.ft,q.fl,0⟩:=by
 have dd:∀ {a b:BA},a.data.toList≠b.data.toList→(a.toList==b.toList)=false:=fun h=>dP (fun e=>h (by rw [e]))
 obtain ⟨k,c,a0,b0,a1,b1,a2,b2,a3,b3,a4,b4,lo,hi,ft,fl,bu⟩:=q;simp only at hc hlo hhi hft hk n1 n3 ⊢;rcases hk with rfl | rfl | rfl
 ·obtain ⟨rfl,rfl⟩:=n3 (by decide);show EK [IV.str MS,IV.str (DL c),IV.str U4,IV.str (DQ lo),IV.str U8,IV.str (DQ hi)]=_;unfold EK;rw [show DU [IV.str MS,IV.str (DL c),IV.str U4,IV.str (DQ lo),IV.str U8,IV.str (DQ hi)] 0=MS from rfl,TV,B1,
   show DU [IV.str MS,IV.str (DL c),IV.str U4,IV.str (DQ lo),IV.str U8,IV.str (DQ hi)] 1=DL c from rfl,show DU [IV.str MS,IV.str (DL c),IV.str U4,IV.str (DQ lo),IV.str U8,IV.str (DQ hi)] 3=DQ lo from rfl,
   show DU [IV.str MS,IV.str (DL c),IV.str U4,IV.str (DQ lo),IV.str U8,IV.str (DQ hi)] 5=DQ hi from rfl,QW hc,gA hlo,gA hhi]
 ·obtain ⟨rfl,rfl⟩:=n3 (by decide);obtain ⟨rfl,rfl⟩:=n1 (by decide);show EK [IV.str OD,IV.str (DL c)]=_;unfold EK;rw [show DU [IV.str OD,IV.str (DL c)] 0=OD from rfl,dd (show OD.data.toList≠MS.data.toList by decide),BG,TV,B1,show DU [IV.str OD,IV.str (DL c)] 1=DL c from rfl,QW hc]
 ·obtain ⟨rfl,rfl⟩:=n1 (by decide);cases fl with
  | true=>
   show EK [IV.str L3,IV.str (DL c),IV.str OE,IV.str (DL ft)]=_;unfold EK;rw [show DU [IV.str L3,IV.str (DL c),IV.str OE,IV.str (DL ft)] 0=L3 from rfl,dd (show L3.data.toList≠MS.data.toList by decide),BG,dd (show L3.data.toList≠OD.data.toList by decide),BG,dd (show L3.data.toList≠MT.data.toList by decide),TV,vaw,B1,
    show DU [IV.str L3,IV.str (DL c),IV.str OE,IV.str (DL ft)] 1=DL c from rfl,show DU [IV.str L3,IV.str (DL c),IV.str OE,IV.str (DL ft)] 3=DL ft from rfl,QW hc,QW hft]
  | false=>
   show EK [IV.str MT,IV.str (DL c),IV.str OE,IV.str (DL ft)]=_;unfold EK;rw [show DU [IV.str MT,IV.str (DL c),IV.str OE,IV.str (DL ft)] 0=MT from rfl,dd (show MT.data.toList≠MS.data.toList by decide),BG,dd (show MT.data.toList≠OD.data.toList by decide),BG,dd (show MT.data.toList≠L3.data.toList by decide),TV,Bool.or_false,B1,
    show DU [IV.str MT,IV.str (DL c),IV.str OE,IV.str (DL ft)] 1=DL c from rfl,show DU [IV.str MT,IV.str (DL c),IV.str OE,IV.str (DL ft)] 3=DL ft from rfl,QW hc,QW hft]
theorem uH (A B:LI) (i:Nat):DU (A++B) (A.length+i)=DU B i:=by
 unfold DU;congr 1;rw [AH,List.getElem?_append_right (by omega),Nat.add_sub_cancel_left];rfl
def J9 (q:Qy) (D:Nat):LI:=(NG :: ((q.spans.take D).map fun s=>MR s.1 s.2)++[U3,DL q.bu]).map IV.str
theorem Ph (q:Qy) (D:Nat):(I8 q D).map IV.str=(HH q).map IV.str++J9 q D:=by
 unfold I8 J9;simp
theorem zgy (q:Qy) (hc:D7 q.c) (hlo:D7 q.lo) (hhi:D7 q.hi) (hft:D7 q.ft) (hbu:D7 q.bu) (hsp:∀ s∈q.spans,D7 s.1∧D7 s.2) (D:Nat) (h1:1≤D) (h4:D≤4) (hk:q.k=1∨q.k=2∨q.k=3) (ht:q=FO q D) :
  fU ((I8 q D).map IV.str) (HH q).length D=q:=by
 rw [Ph];have ht':=ht;have n1:q.k≠1→q.lo=0∧q.hi=0:=fun hn=>by
  have e:(q.k==1)=false:=A8.2 hn;have a:=congrArg Qy.lo ht';have b:=congrArg Qy.hi ht';simp only [FO,e,BG] at a b;exact ⟨a,b⟩
 have n3:q.k≠3→q.ft=0∧q.fl=false:=fun hn=>by
  have e:(q.k==3)=false:=A8.2 hn;have a:=congrArg Qy.ft ht';have b:=congrArg Qy.fl ht';simp only [FO,e,BG] at a b;exact ⟨a,b⟩
 have hh:=zcf q hc hlo hhi hft hk n1 n3;have hlen:((HH q).map IV.str).length=(HH q).length:=BQ ..
 generalize hA:(HH q).map IV.str=A at hh hlen;have htk:AK (HH q).length (A++J9 q D)=A:=by rw [← hlen]; exact List.take_left
 have spA_of:∀ (i:Nat) (a b:Int),D7 a→DU (J9 q D) i=MR a b→RK (A++J9 q D) ((HH q).length+i)=a:=fun i a b ha e=>by
  unfold RK;rw [← hlen,uH,e,(Lg a b).1];exact gA ha
 have spB_of:∀ (i:Nat) (a b:Int),D7 b→DU (J9 q D) i=MR a b→RL (A++J9 q D) ((HH q).length+i)=b:=fun i a b hb e=>by
  unfold RL;rw [← hlen,uH,e,(Lg a b).2];exact gA hb
 have hlast:(A++J9 q D).length - 1=(HH q).length+((J9 q D).length - 1):=by
  rw [AU,hlen]
  have:0 < (J9 q D).length:=by unfold J9; simp
  omega
 unfold fU;rw [htk,hh,hlast,← hlen,uH,hlen];clear htk hh hlast;obtain ⟨k,c,a0,b0,a1,b1,a2,b2,a3,b3,a4,b4,lo,hi,ft,fl,bu⟩:=q;have s0:=hsp (a0,b0) (by simp [Qy.spans]);have s1:=hsp (a1,b1) (by simp [Qy.spans]);have s2:=hsp (a2,b2) (by simp [Qy.spans]);have s3:=hsp (a3,b3) (by simp [Qy.spans]);simp only [FO,Qy.mk.injEq,vaO] at ht;obtain ⟨t1,t2,t3,t4,t5,t6,t7,t8,t9,t10,_⟩:=ht;have hD:D=1∨D=2∨D=3∨D=4:=by omega
 have n45:a4=0∧b4=0:=by
  rw [AL (show ¬ (4:Int) < D by omega)] at t9 t10;exact ⟨t9,t10⟩
 obtain ⟨rfl,rfl⟩:=n45;have hbu:D7 bu:=hbu;rcases hD with rfl | rfl | rfl | rfl
 ·simp only [show decide ((1:Int) < ((1:Nat):Int))=false from rfl,show decide ((2:Int) < ((1:Nat):Int))=false from rfl,show decide ((3:Int) < ((1:Nat):Int))=false from rfl,BG] at t3 t4 t5 t6 t7 t8;subst t3 t4 t5 t6 t7 t8;rw [spA_of 1 a0 b0 s0.1 rfl,spB_of 1 a0 b0 s0.2 rfl,show DU (J9 ⟨k,c,a0,b0,0,0,0,0,0,0,0,0,lo,hi,ft,fl,bu⟩ 1) ((J9 ⟨k,c,a0,b0,0,0,0,0,0,0,0,0,lo,hi,ft,fl,bu⟩ 1).length - 1)=DL bu from rfl,QW hbu];rfl
 ·simp only [show decide ((2:Int) < ((2:Nat):Int))=false from rfl,show decide ((3:Int) < ((2:Nat):Int))=false from rfl,BG] at t5 t6 t7 t8;subst t5 t6 t7 t8;rw [spA_of 1 a0 b0 s0.1 rfl,spB_of 1 a0 b0 s0.2 rfl,spA_of 2 a1 b1 s1.1 rfl,spB_of 2 a1 b1 s1.2 rfl,show DU (J9 ⟨k,c,a0,b0,a1,b1,0,0,0,0,0,0,lo,hi,ft,fl,bu⟩ 2) ((J9 ⟨k,c,a0,b0,a1,b1,0,0,0,0,0,0,lo,hi,ft,fl,bu⟩ 2).length - 1)=DL bu from rfl,QW hbu];rfl
 ·simp only [show decide ((3:Int) < ((3:Nat):Int))=false from rfl,BG] at t7 t8;subst t7 t8;rw [spA_of 1 a0 b0 s0.1 rfl,spB_of 1 a0 b0 s0.2 rfl,spA_of 2 a1 b1 s1.1 rfl,spB_of 2 a1 b1 s1.2 rfl,spA_of 3 a2 b2 s2.1 rfl,spB_of 3 a2 b2 s2.2 rfl,show DU (J9 ⟨k,c,a0,b0,a1,b1,a2,b2,0,0,0,0,lo,hi,ft,fl,bu⟩ 3) ((J9 ⟨k,c,a0,b0,a1,b1,a2,b2,0,0,0,0,lo,hi,ft,fl,bu⟩ 3).length - 1)=DL bu from rfl,QW hbu];rfl
 ·rw [spA_of 1 a0 b0 s0.1 rfl,spB_of 1 a0 b0 s0.2 rfl,spA_of 2 a1 b1 s1.1 rfl,spB_of 2 a1 b1 s1.2 rfl,spA_of 3 a2 b2 s2.1 rfl,spB_of 3 a2 b2 s2.2 rfl,spA_of 4 a3 b3 s3.1 rfl,spB_of 4 a3 b3 s3.2 rfl,show DU (J9 ⟨k,c,a0,b0,a1,b1,a2,b2,a3,b3,0,0,lo,hi,ft,fl,bu⟩ 4) ((J9 ⟨k,c,a0,b0,a1,b1,a2,b2,a3,b3,0,0,lo,hi,ft,fl,bu⟩ 4).length - 1)=DL bu from rfl,QW hbu];rfl
theorem Gc {q:Qy} {d:Int} (h:N6 q d=true):1≤d∧d≤4∧q=FO q d∧JS q.c=true∧JS q.ft=true∧JS q.bu=true∧(q.k=1∨q.k=2∨q.k=3):=by
 unfold N6 at h;simp only [AI,B5,BV,vaz,B8] at h;obtain ⟨⟨h1,h2⟩,h3,h4,h5,h6,h7⟩:=h;exact ⟨by omega,by omega,Qy.eq_of h3,h4,h5,h6,h7⟩
theorem zjE (q:Qy) (D:Nat):I8 q D≠[]:=by
 unfold I8;simp
theorem Tn {q:Qy} {d:Int} (hc:D7 q.c) (hlo:D7 q.lo) (hhi:D7 q.hi) (hft:D7 q.ft) (hbu:D7 q.bu) (hsp:∀ s∈q.spans,D7 s.1∧D7 s.2) (h:N6 q d=true):MY (E6 q d)=true∧FK (E6 q d)=q∧MA (E6 q d)=d:=by
 obtain ⟨h1,h4,ht,_,_,_,hk⟩:=Gc h;obtain ⟨D,rfl⟩:∃ D:Nat,d=D:=⟨d.toNat,by omega⟩;have hp:E6 q (D:Int)=F9 (I8 q D) GR:=by
  unfold E6;rw [h];rfl
 have hline:G4 (E6 q (D:Int))=(I8 q D).map IV.str:=by
  rw [hp];exact Dy _ (zjE q D) (zjG q D)
 have hI:M6 (E6 q (D:Int))=((HH q).length:Int):=by
  unfold M6;rw [hline,Ph];show FU ((HH q).map IV.str++IV.str NG :: _) NG 0=_;rw [Cl NG _ _ 0 (zce q),BQ];omega
 have hD:N3 (E6 q (D:Int))=(D:Int):=by
  unfold N3;rw [hline,hI,BQ]
  have:(I8 q D).length=(HH q).length+1+D+2:=by
   unfold I8;simp only [AU,AN,BQ,A7,BB,Qy.spans];omega
  rw [this];simp only [ic];omega
 have hQ:eZ (E6 q (D:Int))=q:=by
  unfold eZ;rw [hline,hI,hD];exact zgy q hc hlo hhi hft hbu hsp D (by omega) (by omega) hk ht
 have hok:MY (E6 q (D:Int))=true:=by
  unfold MY;rw [hI,hD,hQ,AL (show ¬ ((HH q).length:Int) < 0 by omega),AL (show ¬ (D:Int) < 1 by omega),AL (show ¬ (D:Int) > 4 by omega),TV];rfl
 refine ⟨hok,?_,?_⟩
 ·unfold FK;rw [hok,hQ];rfl
 ·unfold MA;rw [hok,hD];rfl
theorem Hg {q:Qy} {d:Int} (h:N6 q d=false):E6 q d=X3:=by
 unfold E6;rw [h];rfl
open Go
theorem j4 (c:UInt8) (x y:List UInt8) (r:List (List UInt8)):Lib.join (x :: y :: r) [c]=x++c :: Lib.join (y :: r) [c]:=by
 rw [Lib.join_cons,Lib.join_cons];simp [Lib.joinTail]
theorem tF (c:UInt8):∀ (x:List UInt8) (r:List (List UInt8)),(∀ w∈x :: r,c ∉ w)→Lib.split (Lib.join (x :: r) [c]) [c]=x :: r
 | x,[],h=>by rw [Lib.join_one]; exact Ll x c (h x (AR ..))
 | x,y :: r,h=>by
  rw [j4,Li x _ c (h x (AR ..)),tF c y r (fun w hw=>h w (AY _ hw))]
theorem qH (c e:UInt8) (hne:e≠c):∀ (l:List (List UInt8)),(∀ w∈l,e ∉ w)→e ∉ Lib.join l [c]
 | [],_=>by rw [Lib.join_nil]; simp
 | [x],h=>by rw [Lib.join_one]; exact h x (AR ..)
 | x :: y :: r,h=>by
  rw [j4];intro hm;rcases AV.1 hm with hm | hm
  ·exact h x (AR ..) hm
  ·rcases AS.1 hm with hm | hm
   ·exact hne hm
   ·exact qH c e hne (y :: r) (fun w hw=>h w (AY _ hw)) hm
structure WsOK (ws:List BA):Prop where
 ne:ws≠[]
 sp:∀ w∈ws,(32:UInt8) ∉ w.data.toList
 lf:∀ w∈ws,(10:UInt8) ∉ w.data.toList
def FN (ws:List BA):IV:=.str (F9 ws GR)
theorem Cx (ws:List BA):(F9 ws GR).data.toList=Lib.join (ws.map (·.data.toList)) [32]:=rfl
theorem Dw (ws:List BA):(FG ws).data.toList=(F9 ws GR).data.toList++[10]:=by
 unfold FG;simp
theorem tV:∀ (x:List BA) (r:List (List BA)),(FY (x :: r)).data.toList=Lib.join ((x :: r).map fun ws=>(F9 ws GR).data.toList) [10]++[10]
 | x,[]=>by
  have e:FY [x]=FG x:=by
   show FG x++CG=_;rw [ByteArray.append_empty]
  rw [e,Dw,AZ,CC,Lib.join_one]
 | x,y :: r=>by
  have e:(FY (x :: y :: r)).data.toList=(FG x).data.toList++(FY (y :: r)).data.toList:=by
   rw [FY];simp
  rw [e,tV y r,Dw];simp only [AZ];rw [j4];simp
theorem Oj {s:BA} {l:List UInt8} (h:s.data.toList=l++[10]):(Z4 s).data.toList=l:=by
 have hz:s.size=l.length+1:=by rw [S1,h,AU]; rfl
 have hs:SO s PG=true:=by
  unfold SO;have e1:AG PG=1:=rfl;rw [e1,AE (show 1≤s.size by omega),BC,iR];refine AE (TW ?_);rw [ByteArray.data_extract,Array.toList_extract,List.extract_eq_take_drop,h,hz];simp
 have e1:AG PG=1:=rfl;unfold Z4 F3;rw [hs,e1];show (s.extract 0 (s.size - 1)).data.toList=l;rw [ByteArray.data_extract,Array.toList_extract,List.extract_eq_take_drop,h,hz];simp
theorem zc1 (x:List BA) (r:List (List BA)) (h:∀ ws∈x :: r,WsOK ws):UH (FY (x :: r))=(x :: r).map FN:=by
 unfold UH;have hd:(D1 (Z4 (FY (x :: r))) PG)=(x :: r).map fun ws=>F9 ws GR:=by
  apply kL;rw [Lh,Oj (tV x r)];show Lib.split (Lib.join ((x :: r).map fun ws=>(F9 ws GR).data.toList) [10]) [10]=_;rw [List.map_map,AZ,tF]
  ·rfl
  ·intro w hw;rw [← AZ (f:=fun ws=>(F9 ws GR).data.toList)] at hw;obtain ⟨ws,hws,rfl⟩:=CN.1 hw;rw [Cx];refine qH 32 10 (by decide) _ fun v hv=>?_
   obtain ⟨u,hu,rfl⟩:=CN.1 hv;exact (h ws hws).lf u hu
 rw [hd,List.map_map];rfl
theorem kR {ws:List BA} (h:WsOK ws) (r:LI):EW (FN ws :: r)=ws.map IV.str:=Dy ws h.ne h.sp
theorem qU {l:List UInt8} (h:∀ c∈l,45≤c.toNat∧c.toNat≤57):(32:UInt8) ∉ l∧(10:UInt8) ∉ l:=by
 refine ⟨SU h,fun hc=>?_⟩
 have:=(h _ hc).1
 revert this;decide
theorem WQ {n most:Int} (h0:0≤n) (h1:n≤most) (h2:most≤1000):FB (DL n) most=n:=by
 have hv:FA (DL n)=n:=vM rfl (by omega) (by omega);have hn:LC (DL n)=true:=by
  unfold LC
  have:(DL n).data.toList=Lib.itoa n:=rfl
  rw [this,vN n (by omega) (by omega)]
 unfold FB;rw [hn,hv,AL (show ¬ n < 0 by omega),AL (show ¬ n > most by omega)];rfl
theorem UW {n:Int} (h : -2147483648≤n∧n≤2147483647):F1 (DQ n)=n:=gA (by unfold D7; omega)
structure NdIn (x:Nd):Prop where
 v : -2147483648≤x.v∧x.v≤2147483647
 f:0≤x.f∧x.f < 4
 a : -2147483648≤x.a∧x.a≤2147483647
 l:0≤x.l∧x.l < 31
 r:0≤x.r∧x.r < 31
 lf:x.lf=true→x.f=0∧x.a=0∧x.l=0∧x.r=0
 fk:x.lf=false→x.v=0
theorem oW {n:Int} (h:EZ n=true) : -2147483648≤n∧n≤2147483647:=by
 unfold EZ at h
 rwa [AI,AP,AP] at h
theorem zgS {x:Nd} (h:MN x=true):NdIn x:=by
 obtain ⟨lf,v,f,a,l,r⟩:=x;unfold MN at h;cases lf with
 | true=>
  simp only [B1,AI,Nd.eq,B8] at h;obtain ⟨⟨_,_,h1,h2,h3,h4,_⟩,hv⟩:=h;subst h1 h2 h3 h4;have z4:(0:Int)≤0∧(0:Int) < 4:=by decide
  have z31:(0:Int)≤0∧(0:Int) < 31:=by decide
  have zf:(-2147483648:Int)≤0∧(0:Int)≤2147483647:=by decide
  exact ⟨oW hv,z4,zf,z31,z31,fun _=>⟨rfl,rfl,rfl,rfl⟩,fun h=>Bool.noConfusion h⟩
 | false=>
  simp only [BG,AI,B8,AP,QV] at h;obtain ⟨hv,hf0,hf1,ha,⟨hl0,hl1⟩,hr0,hr1⟩:=h;subst hv;have zf:(-2147483648:Int)≤0∧(0:Int)≤2147483647:=by decide
  have l0:(0:Int)≤l:=by omega
  have r0:(0:Int)≤r:=by omega
  exact ⟨zf,⟨hf0,hf1⟩,oW ha,⟨l0,hl1⟩,⟨r0,hr1⟩,fun h=>Bool.noConfusion h,fun _=>rfl⟩
theorem VC (w:BA) (h:(w.data.toList.all fun c=>!(c==32)&&!(c==10))=true):(32:UInt8) ∉ w.data.toList∧(10:UInt8) ∉ w.data.toList:=by
 rw [CS] at h;refine ⟨fun hc=>?_,fun hc=>?_⟩
 ·have:=h _ hc
  revert this;decide
 ·have:=h _ hc
  revert this;decide
theorem g6 {ws:List BA} (hne:ws≠[]) (h:∀ w∈ws,(32:UInt8) ∉ w.data.toList∧(10:UInt8) ∉ w.data.toList):WsOK ws:=⟨hne,fun w hw=>(h w hw).1,fun w hw=>(h w hw).2⟩
theorem W4 (n:Int):(32:UInt8) ∉ (DL n).data.toList∧(10:UInt8) ∉ (DL n).data.toList:=qU (OV n)
theorem rT (n:Int):(32:UInt8) ∉ (DQ n).data.toList∧(10:UInt8) ∉ (DQ n).data.toList:=qU (ZJ n)
theorem Fg (x:Nd):WsOK (LU x):=by
 unfold LU;cases x.lf with
 | true=>
  refine g6 (by simp) fun w hw=>?_
  simp only [B1,AS,BW,CU] at hw;rcases hw with rfl | rfl
  ·exact VC _ (by decide)
  ·exact rT _
 | false=>
  refine g6 (by simp) fun w hw=>?_
  simp only [BG,AS,BW,CU] at hw;rcases hw with rfl | rfl | rfl | rfl | rfl | rfl | rfl | rfl
  ·exact VC _ (by decide)
  ·exact W4 _
  ·exact VC _ (by decide)
  ·exact rT _
  ·exact VC _ (by decide)
  ·exact W4 _
  ·exact VC _ (by decide)
  ·exact W4 _
theorem zgB {x:Nd} (h:NdIn x):ND ((LU x).map IV.str)=x:=by
 obtain ⟨lf,v,f,a,l,r⟩:=x;obtain ⟨hv,hf,ha,hl,hr,h1,h2⟩:=h;simp only at hv hf ha hl hr h1 h2;cases lf with
 | true=>
  obtain ⟨rfl,rfl,rfl,rfl⟩:=h1 rfl;have e0:ND ((LU ⟨true,v,0,0,0,0⟩).map IV.str)=⟨true,F1 (DQ v),0,0,0,0⟩:=by
   have:(AX (DU ((LU ⟨true,v,0,0,0,0⟩).map IV.str) 0)==AX S6)=true:=TV _
   unfold ND;rw [this];rfl
  rw [e0,UW hv]
 | false=>
  have h2:=h2 rfl;subst h2;have e0:ND ((LU ⟨false,0,f,a,l,r⟩).map IV.str)=⟨false,0,FB (DL f) 4,F1 (DQ a),FB (DL l) 31,FB (DL r) 31⟩:=by
   have:(AX (DU ((LU ⟨false,0,f,a,l,r⟩).map IV.str) 0)==AX S6)=false:=dP (x:=mI) (y:=S6) (by decide)
   unfold ND;rw [this];rfl
  rw [e0,WQ hf.1 (by omega) (by omega),UW ha,WQ hl.1 (by omega) (by omega),WQ hr.1 (by omega) (by omega)]
def Pb (w:IV):Prop:=∃ n,w = .int n
def Pc (t:IV):Prop:=∃ k l,t = .agg [.int k,.list l]∧∀ w∈l,Pb w
def gY (m:Md):Prop:=∀ t∈m.ts,Pc t
theorem Fk {dim n:Int}:∀ {l:LI} {i:Nat},J3 dim n i l=true→∀ w∈l,F6 w.toInt=true
 | [],_,_,w,hw=>by cases hw
 | x :: l,i,h,w,hw=>by
  unfold J3 at h;rw [AI,AI] at h;rcases AS.1 hw with rfl | hw
  ·exact h.1.1
  ·exact Fk h.2 w hw
theorem zji {d c:Int} {t:IV} (h:G8 d c t=true):0≤(t.cell 0).toInt∧(t.cell 0).toInt < c∧1≤(t.cell 1).toList.length∧(t.cell 1).toList.length≤31∧∀ w∈(t.cell 1).toList,F6 w.toInt=true:=by
 unfold G8 GK at h;simp only [AI,B5,BV] at h;obtain ⟨h1,h2,⟨h3,h4⟩,h5,_⟩:=h;exact ⟨by omega,by omega,AM h3,AM h4,Fk h5⟩
theorem zgC {l:LI} (hw:∀ w∈l,Pb w) (hn:∀ w∈l,F6 w.toInt=true) (R:LI):ML ((HI l).map FN++R) l.length=l:=by
 apply List.ext_getElem?;intro i;unfold ML;by_cases hi:i < l.length
 ·rw [B9,List.getElem?_range hi];have hdr:AO i ((HI l).map FN++R)=FN (LU (DH l[i].toInt)) :: (((HI l).map FN).drop (i+1)++R):=by
   have hl:((HI l).map FN).length=l.length:=by simp [HI]
   rw [List.drop_append_of_le_length (by omega),BF (by omega)];simp [HI]
  have hb:=hn l[i] (C4 hi);obtain ⟨p1,p2⟩:=kT hb;obtain ⟨n,hn'⟩:=hw l[i] (C4 hi);have e:(IV.int (IM (ND (EW (AO i ((HI l).map FN++R))))))=l[i]:=by
   rw [hdr,kR (Fg _),zgB (zgS p2),p1,hn'];rfl
  show some (IV.int (IM (ND (EW (AO i ((HI l).map FN++R))))))=_;rw [e,A5 hi]
 ·rw [BU (by simp; omega),BU (by omega)]
theorem Oc (t:IV):∀ ws∈S4 t,WsOK ws:=by
 intro ws hws;unfold S4 at hws;rcases AS.1 hws with rfl | hws
 ·refine g6 (by simp) fun w hw=>?_
  simp only [AS,BW,CU] at hw;rcases hw with rfl | rfl | rfl
  ·exact VC _ (by decide)
  ·exact W4 _
  ·exact W4 _
 ·unfold HI at hws;obtain ⟨w,_,rfl⟩:=CN.1 hws;exact Fg _
theorem Hz {d c:Int} (hc:c≤3):∀ (n:Nat) (ts:LI),ts.length≤n→(∀ t∈ts,Pc t)→ts.all (G8 d c)=true→K6 n ((GH ts).map FN)=ts
 | 0,[],_,_,_=>rfl
 | 0,_ :: _,h,_,_=>by simp at h
 | n+1,[],_,_,_=>rfl
 | n+1,t :: r,h,hw,ht=>by
  rw [vaM,AI] at ht;obtain ⟨k,l,rfl,hl⟩:=hw t (AR ..);obtain ⟨h1,h2,h3,h4,h5⟩:=zji ht.1;have h1:0≤k:=h1;have h2:k < c:=h2;have h3:1≤l.length:=h3;have h4:l.length≤31:=h4;have h5:∀ w∈l,F6 w.toInt=true:=h5;have hws:=Oc (.agg [.int k,.list l]) [OF,DL k,DL (ic l.length)] (AR ..);have e:(GH (.agg [.int k,.list l] :: r)).map FN=FN [OF,DL k,DL (ic l.length)] :: ((HI l).map FN++(GH r).map FN):=by
   show (([OF,DL k,DL (ic l.length)] :: HI l)++GH r).map FN=_;rw [List.map_append,AZ];rfl
  have hnx:=kR hws ((HI l).map FN++(GH r).map FN);have hk:MK (FN [OF,DL k,DL (ic l.length)] :: ((HI l).map FN++(GH r).map FN))=l.length:=by
   unfold MK;rw [hnx];show (FB (DL (ic l.length)) 31).toNat=_;rw [WQ (by simp only [ic]; omega) (by simp only [ic]; omega) (by omega)];simp only [ic];omega
  have hr:ZL (FN [OF,DL k,DL (ic l.length)] :: ((HI l).map FN++(GH r).map FN)) = .agg [.int k,.list l]:=by
   unfold ZL;rw [hk,hnx];show IV.agg [IV.int (FB (DL k) 3),IV.list (ML ((HI l).map FN++(GH r).map FN) l.length)]=_;rw [WQ h1 (by omega) (by omega),zgC hl h5]
  have hdl:AO l.length ((HI l).map FN++(GH r).map FN)=(GH r).map FN:=by
   have:l.length=((HI l).map FN).length:=by simp [HI]
   rw [this,List.drop_left]
  rw [e,K6,hr,hk,hdl,Hz hc n r (by simp at h; omega) (fun t ht=>hw t (AY _ ht)) ht.2]
theorem zc9 {m:Md} (h:EP m=true):(1≤m.d∧m.d≤4)∧(1≤m.c∧m.c≤3)∧m.ts.length≤8∧(HE m.c 0 m.b0=true∧HE m.c 1 m.b1=true∧HE m.c 2 m.b2=true)∧m.ts.all (G8 m.d m.c)=true:=by
 unfold EP at h;simp only [AI,B5,BV] at h;obtain ⟨⟨h1,h2,h3,h4,h5⟩,⟨h6,h7,h8⟩,h9⟩:=h;exact ⟨⟨by omega,by omega⟩,⟨by omega,by omega⟩,AM h5,⟨h6,h7,h8⟩,h9⟩
theorem nB {c j b:Int} (h:HE c j b=true):(-2147483648≤b∧b≤2147483647)∧(c≤j→b=0):=by
 unfold HE at h;rw [AI] at h;refine ⟨oW h.1,fun hj=>?_⟩
 have:=h.2
 rw [AE (show j≥c from hj)] at this;simpa using this
theorem o4 (m:Md):∀ ws∈SP m,WsOK ws:=by
 intro ws hws;unfold SP at hws;simp only [AS,BW,CU] at hws;rcases hws with rfl | rfl
 ·refine g6 (by simp) fun w hw=>?_
  simp only [AS,BW,CU] at hw;rcases hw with rfl | rfl | rfl
  ·exact VC _ (by decide)
  ·exact W4 _
  ·exact W4 _
 ·refine g6 (by simp) fun w hw=>?_
  rcases AS.1 hw with rfl | hw
  ·exact VC _ (by decide)
  ·obtain ⟨b,_,rfl⟩:=CN.1 hw;exact rT _
theorem Oe:∀ (ts:LI),∀ ws∈GH ts,WsOK ws
 | [],ws,h=>by cases h
 | t :: r,ws,h=>by
  rw [GH] at h;rcases AV.1 h with h | h
  ·exact Oc t ws h
  ·exact Oe r ws h
theorem zgA {m:Md} (h:EP m=true) (hw:gY m):r8 ((LQ m).map FN)=m:=by
 obtain ⟨hd,hc,hl,⟨g0,g1,g2⟩,ht⟩:=zc9 h;obtain ⟨d,c,b0,b1,b2,ts⟩:=m;simp only at hd hc hl g0 g1 g2 ht;obtain ⟨i0,_⟩:=nB g0;obtain ⟨i1,z1⟩:=nB g1;obtain ⟨i2,z2⟩:=nB g2;have hh1:=o4 ⟨d,c,b0,b1,b2,ts⟩ [NF,DL d,DL c] (AR ..);have hh2:=o4 ⟨d,c,b0,b1,b2,ts⟩ (IZ :: ([b0,b1,b2].take c.toNat).map DQ) (AY _ (AR ..));have e:(LQ ⟨d,c,b0,b1,b2,ts⟩).map FN=FN [NF,DL d,DL c] :: FN (IZ :: ([b0,b1,b2].take c.toNat).map DQ) :: (GH ts).map FN:=rfl;have hn1:=kR hh1 (FN (IZ :: ([b0,b1,b2].take c.toNat).map DQ) :: (GH ts).map FN);have hn2:=kR hh2 ((GH ts).map FN);have hC:ZK ((LQ ⟨d,c,b0,b1,b2,ts⟩).map FN)=c:=by
  unfold ZK;rw [e,hn1];show FB (DL c) 3=c;exact WQ (by omega) (by omega) (by omega)
 have hT:K6 9 (AO 2 ((LQ ⟨d,c,b0,b1,b2,ts⟩).map FN))=ts:=by
  rw [e];show K6 9 ((GH ts).map FN)=ts;exact Hz (by omega) 9 ts (by omega) hw ht
 have hD:FB (DU (EW ((LQ ⟨d,c,b0,b1,b2,ts⟩).map FN)) 1) 4=d:=by
  rw [e,hn1];show FB (DL d) 4=d;exact WQ (by omega) (by omega) (by omega)
 have hB:∀ j,K5 ((LQ ⟨d,c,b0,b1,b2,ts⟩).map FN) c j=cond (decide ((j:Int) < c)) (F1 (DU ((IZ :: ([b0,b1,b2].take c.toNat).map DQ).map IV.str) (1+j))) 0:=fun j=>by
  unfold K5;rw [e];show cond _ (F1 (DU (EW (FN (IZ :: ([b0,b1,b2].take c.toNat).map DQ) :: (GH ts).map FN)) (1+j))) 0=_;rw [hn2]
 unfold r8;rw [hC,hT,hD,hB,hB,hB];obtain ⟨C,rfl⟩:∃ C:Nat,c=(C:Int):=⟨c.toNat,by omega⟩;have w0:∀ l,DU ((IZ :: l).map IV.str) (1+0)=DU (l.map IV.str) 0:=fun l=>rfl
 have w1:∀ l,DU ((IZ :: l).map IV.str) (1+1)=DU (l.map IV.str) 1:=fun l=>rfl
 have w2:∀ l,DU ((IZ :: l).map IV.str) (1+2)=DU (l.map IV.str) 2:=fun l=>rfl
 have v0:∀ x l,DU ((x :: l).map IV.str) 0=x:=fun x l=>rfl
 have v1:∀ x y l,DU ((x :: y :: l).map IV.str) 1=y:=fun x y l=>rfl
 have v2:∀ x y z l,DU ((x :: y :: z :: l).map IV.str) 2=z:=fun x y z l=>rfl
 rw [w0,w1,w2,BE];rcases (show C=1∨C=2∨C=3 by omega) with rfl | rfl | rfl
 ·
  have y1:=z1 (by omega);have y2:=z2 (by omega);have t:([b0,b1,b2].take 1).map DQ=[DQ b0]:=rfl;rw [t,v0,UW i0,AE (show ((0:Nat):Int) < ((1:Nat):Int) by omega),AL (show ¬ ((1:Nat):Int) < ((1:Nat):Int) by omega),AL (show ¬ ((2:Nat):Int) < ((1:Nat):Int) by omega),y1,y2];rfl
 ·
  have y2:=z2 (by omega);have t:([b0,b1,b2].take 2).map DQ=[DQ b0,DQ b1]:=rfl;rw [t,v0,v1,UW i0,UW i1,AE (show ((0:Nat):Int) < ((2:Nat):Int) by omega),AE (show ((1:Nat):Int) < ((2:Nat):Int) by omega),AL (show ¬ ((2:Nat):Int) < ((2:Nat):Int) by omega),y2];rfl
 ·
  have t:([b0,b1,b2].take 3).map DQ=[DQ b0,DQ b1,DQ b2]:=rfl;rw [t,v0,v1,v2,UW i0,UW i1,UW i2,AE (show ((0:Nat):Int) < ((3:Nat):Int) by omega),AE (show ((1:Nat):Int) < ((3:Nat):Int) by omega),AE (show ((2:Nat):Int) < ((3:Nat):Int) by omega)];rfl
theorem zi6 {m:Md} (h:EP m=true) (hw:gY m):PC (H3 m)=true∧G5 (H3 m)=m:=by
 have hp:H3 m=FY (LQ m):=by unfold H3; rw [h]; rfl
 have hc:YR (H3 m)=m:=by
  unfold YR
  have:UH (H3 m)=(LQ m).map FN:=by
   rw [hp];exact zc1 _ _ (fun ws hws=>by
    have hws:ws∈SP m++GH m.ts:=hws;rcases AV.1 hws with hws | hws
    ·exact o4 m ws hws
    ·exact Oe m.ts ws hws)
  rw [this,zgA h hw]
 have hk:PC (H3 m)=true:=by
  unfold PC;rw [hc,TV,CJ]
  have:((H3 m).toList==X3.toList)=false:=dP (fun e=>by
   have hd:=tV [NF,DL m.d,DL m.c] ((IZ :: ([m.b0,m.b1,m.b2].take m.c.toNat).map DQ) :: GH m.ts);have e':FY (LQ m)=X3:=by rw [← hp,e]
   have:FY (LQ m)=FY ([NF,DL m.d,DL m.c] :: ((IZ :: ([m.b0,m.b1,m.b2].take m.c.toNat).map DQ) :: GH m.ts)):=rfl
   rw [← this,e'] at hd
   have:=congrArg AF hd
   rw [AU] at this;simp at this)
  rw [this];rfl
 refine ⟨hk,?_⟩;unfold G5;rw [hk,hc];rfl
theorem zc8 (d c:Int) (bias ts:LI):gY (kQ d c bias ts):=by
 intro t ht;have ht:t∈RN d c ts:=ht;unfold RN at ht;obtain ⟨u,_,rfl⟩:=CN.1 ht;refine ⟨_,_,rfl,fun w hw=>?_⟩;unfold MJ at hw;obtain ⟨x,_,rfl⟩:=CN.1 hw;exact ⟨_,rfl⟩
open Go
def W8 (L:List (List UInt8)):List UInt8:=L.flatMap fun l=>l++[10]
theorem pV (l:List UInt8) (L:List (List UInt8)):W8 (l :: L)=l++10 :: W8 L:=by simp [W8]
theorem zjo {s:BA} {l:List UInt8} (h:s.data.toList=l++[10]):(F3 s FC).data.toList=l:=Oj h
def gV:Nat→List Vd→BA
 | _,[]=>EF
 | i,v :: r=>ME i++(GT v++gV (i+1) r)
theorem Ci (i:Nat):0 < (ME i).size:=by
 unfold ME;rw [A3];show 0 < _+1;omega
theorem Ox:∀ (i:Nat) (vs:List Vd),vs.length≤(gV i vs).size
 | _,[]=>AW _
 | i,v :: r=>by
  have:=Ox (i+1) r
  have hp:=Ci i;unfold gV;rw [A3,A3,AN];omega
open Go
open Go
theorem zjM:mM.right=true∧mM.rng:=⟨by decide,{ w0:=HO,w1:=HO,w2:=HO,w3:=HO,twin:=HO,spent:=HO,proof:=fun x hx=>by cases hx }⟩
theorem Ii (m:Md):∀ (ls:LI) (s:BA) (i:Nat),UP m s i ls=s++gV i (ls.map fun x=>NQ m x.toStr)
 | [],s,i=>by
  show s=s++EF;exact (ByteArray.append_empty).symm
 | x :: l,s,i=>by
  rw [UP,Ii m l,AZ,gV,vah,vah]
open Go Go.Proofs
theorem Ke:DS PR B0 29 V3:=by
 refine D2 [(64,MX),(65,R7)] [] V3 [[.list false [.str]]] Tryz.func29 zbe ⟨ZZ,tC,trivial⟩ ?_;intro vs r hwf h;unfold V3 at h;split at h
 ·rename_i s;cases hg:(decide (s.size < 4294967281)) with
  | false=>rw [hg] at h; simp [R.get] at h
  | true=>
  rw [hg,R.get_br,DE,R.get_ok] at h;refine ⟨0,(zd6 0 s).trans ?_⟩;have hz:=A0 hg;have ht:=Z5 s FC;rw [show decide (1≤AG { data:=#[10] })=true from rfl,CJ,AE (show (F3 s { data:=#[10] }).size < 4294967281 by exact Nat.lt_of_le_of_lt ht hz),DE,← h];unfold FF;cases (s.toList==EF.toList) <;> rfl
 ·simp [R.get] at h
theorem zhV:DS PR B0 26 bW:=by
 refine D2 [(23,VS),(54,R0),(93,L8),(53,V8)] [] bW [[.z,.list true [.bool,.z,.z],.z,.z,.z,.z,.z,.z]] Tryz.func26 zbd ⟨Js,sY,ZY,Km,trivial⟩ ?_;intro vs r hwf h;unfold bW at h;split at h
 ·rename_i m l;replace h:=IO h;obtain ⟨m,rfl,h⟩:=h;cases hg:(decide (l.size < 4294967281)) with
  | false=>rw [hg] at h; simp [R.get] at h
  | true=>
  rw [hg,R.get_br,DE,R.get_ok] at h;refine ⟨0,(zd5 0 m l).trans ?_⟩;rw [hg,DE,← h];unfold NQ YH vA;rw [show (MA l != m.d)=!(MA l==m.d) from rfl];cases MY l
  ·rfl
  cases (MA l==m.d)
  ·rfl
  cases FH m (FK l)
  ·rfl
  cases ((P4 m (FK l)).kind==3)
  ·cases NB m (FK l) (P4 m (FK l)) <;> rfl
  ·rfl
 ·simp [R.get] at h
theorem Ij (m:Md) (s:BA) (i:Nat) (l:LI):s.size+l.length≤(UP m s i l).size:=by
 rw [Ii,A3]
 have:=Ox i (l.map fun x=>NQ m x.toStr)
 rw [BQ] at this;omega
theorem Ix (N:Nat) (a:BA) (ls:LI) (hs:∀ x∈ls,x.toStr.size < 4294967281) (hl:ls.length≤strMax) (K:Out→St→DJ) (hx:∀ x y so,K (.exit 0) (VG a EF ls x y so)=some (.str so,[])) :
  ∀ (d i n:Nat) (so:BA),i+d=ls.length→d < n→(UP (G5 a) so i (ls.drop i)).size≤strMax →
   DT (TM N) (DF WN [1,1,1,1,0,1,0,0]) ⟨[4,5,7,18,19,20],[5,7],[]⟩ n (VG a EF ls (ic ls.length) (i:Int) so) K=some (.str (UP (G5 a) so i (ls.drop i)),[])
 | 0,i,n+1,so,hd,_,_=>by
  rw [DX,Mj,IT (by omega),C2 (by omega),DG];exact hx _ _ _
 | d+1,i,n+1,so,hd,hn,hz=>by
  have hi:i < ls.length:=by omega
  rw [BF hi] at hz ⊢;rw [UP] at hz ⊢;have h1:=Ij (G5 a) (so++ME i++GT (NQ (G5 a) ls[i].toStr)) (i+1) (ls.drop (i+1));have h2:(so++ME i++GT (NQ (G5 a) ls[i].toStr)).size=so.size+(L4.size+(DL (i:Int)).size+FC.size)+(GT (NQ (G5 a) ls[i].toStr)).size:=by
   unfold ME;simp only [A3]
  have e1:L4.size=6:=rfl;have e2:FC.size=1:=rfl;have h3:(so++ME i).size=so.size+(L4.size+(DL (i:Int)).size+FC.size):=by
   unfold ME;simp only [A3]
  have h4:=hs ls[i] (C4 hi);unfold strMax at hl;rw [DX,Mj,H0 hi,IH,GQ (by omega),IS hi];rw [AE (show AG { data:=#[113,117,101,114,121,32] }+(DL (i:Int)).size≤strMax by show L4.size+_≤_; omega)];rw [AE (show AG ({ data:=#[113,117,101,114,121,32] }++DL (i:Int))+AG { data:=#[10] }≤strMax by rw [A3]; show L4.size+_+FC.size≤_; omega)];rw [AE (show so.size+(UE (i:Int)).size≤strMax by rw [← A3]; show (so++ME i).size≤_; omega)];rw [AE h4,AE (show (GT (NQ (G5 a) ls[i].toStr)).size≤strMax by omega)];rw [AE (show (so++UE (i:Int)).size+(GT (NQ (G5 a) ls[i].toStr)).size≤strMax by show (so++ME i).size+_≤_; omega)];simp only [DE,CJ];exact Ix N a ls hs (by unfold strMax; omega) K hx d (i+1) n _ (by omega) (by omega) hz
 | 0,_,0,_,_,h,_=>by omega
 | _+1,_,0,_,_,h,_=>by omega
theorem ziK {s sep:BA} {n:Nat} (h:s.size < n):∀ x∈D1 s sep,x.size < n:=fun x hx=>by
 have:=(XS sep _ s).2 x hx
 omega
theorem Ea {s:BA} {n:Nat} (h:s.size < n):∀ x∈FF s,x.toStr.size < n:=by
 intro x hx;unfold FF at hx;cases he:(s.toList==EF.toList) with
 | true=>rw [he,DE] at hx; cases hx
 | false=>
  rw [he,DG] at hx;obtain ⟨y,hy,rfl⟩:=CN.1 hx;have ht:=Z5 s FC;exact ziK (Nat.lt_of_le_of_lt ht h) y hy
theorem zhW:DS PR B0 27 bX:=by
 refine D2 [(11,RZ),(26,bW),(29,V3),(42,OM),(47,TP),(94,TQ),(17,WC)] [(6,⟨[4,5,7,18,19,20],[5,7],[]⟩)] bX [[.str]] Tryz.func27 zbf ⟨sX,zhV,Ke,gH,s9,tA,Ku,trivial⟩ ?_;intro vs r hwf h;unfold bX at h;split at h
 ·rename_i a b;cases hg:(decide (a.size < 4294967281)&&(decide (b.size < 4294967281)&&decide ((lI a b).size≤strMax))) with
  | false=>rw [hg] at h; simp [R.get] at h
  | true=>
  rw [hg,R.get_br,DE,R.get_ok] at h;rw [AI,AI] at hg;have hz:=A0 hg.2.2;refine ⟨(FF b).length+1,(zd7 _ a b).trans ?_⟩;rw [hg.1,DE,← h];unfold lI at hz ⊢;cases ht:PC a with
  | false=>rfl
  | true=>
   rw [ht,DE] at hz;simp only [A1,DG,DE];rw [hg.2.1,DE];have hl:=Ij (G5 a) EF 0 (FF b);have e0:EF.size=0:=rfl
   have:=Ix ((FF b).length+1) a (FF b) (Ea (A0 hg.2.1)) (by omega) _ (fun x y so=>Yf ((FF b).length+1) a EF (FF b) x y so) (FF b).length 0 ((FF b).length+1) EF (by omega) (by omega) (by rw [BZ]; exact hz)
   rw [BZ] at this;exact this
 ·simp [R.get] at h
theorem Zr (s:BA) (a:Nat):(s.extract a s.size).data.toList=s.data.toList.drop a:=by
 rw [ByteArray.data_extract,Array.toList_extract,List.extract_eq_take_drop];exact CX (by rw [CY,gF]; omega)
def Ac (s:BA):Option Nat→DJ
 | some e=>some (.tup [.str (s.extract 0 e),.str (s.extract e s.size),.bool true],[])
 | none=>some (.tup [.str EF,.str EF,.bool false],[])
theorem Ad (N:Nat) (s:BA) (n:Int) (hs:s.size < 4294967281) (K:Out→St→DJ)
  (hx:∀ at_ x,K (.exit 0) (QG s EF EF false at_ n x)=cond (decide (0≤at_)&&decide (at_≤ic s.size)) (cond (decide (0≤at_)&&decide (at_≤ic s.size)) (some (.tup [.str (s.extract 0 at_.toNat),.str (s.extract at_.toNat s.size),.bool true],[])) none) none)
  (hr:∀ at_ x,K .ret (QG s EF EF false at_ n x)=some (.tup [.str EF,.str EF,.bool false],[])) :
  ∀ (f d at_ i:Nat),at_+d=s.size→d < f→i≤at_ →
   DT (QK N) (DF TZ [1,1,0,1,0,0]) ⟨[0,4,5,6,7,9,10],[],[]⟩ f (QG s EF EF false (at_:Int) n (i:Int)) K=Ac s (UI s.data.toList (n - i).toNat at_)
 | f+1,d,at_,i,hd,hf,hi=>by
  have hin:(decide (0≤((at_:Nat):Int))&&decide (((at_:Nat):Int)≤ic s.size))=true:=by
   rw [AE (show 0≤((at_:Nat):Int) by omega),AE (show ((at_:Nat):Int)≤ic s.size by simp only [ic]; omega)];rfl
  rw [DX,ziP];by_cases hn:((i:Nat):Int) < n
  ·rw [AE hn,DE,hin,DE,BE,Zr];rw [show (Nat.toUInt8 (AD 10))=(10:UInt8) from rfl];have hb:=o6 (s.data.toList.drop at_) 10;rw [CY,← gF] at hb;obtain ⟨k,hk⟩:∃ k,(n - i).toNat=k+1:=⟨(n - i).toNat - 1,by omega⟩;rw [hk,UI];cases hc:decide (vat (s.data.toList.drop at_) 10 < 0) with
   | true=>
    rw [DE,DE];exact hr _ _
   | false=>
    rw [DG,DG];have h0:=BH hc;obtain ⟨j,hj⟩:∃ j:Nat,vat (s.data.toList.drop at_) 10=(j:Int):=⟨(vat (s.data.toList.drop at_) 10).toNat,by omega⟩;rw [hj] at hb ⊢;have w1:AA AB ((j:Int)+1)=(j:Int)+1:=EI (by omega) (by omega);have w2:AA AB ((at_:Int)+((j:Int)+1))=((at_+j+1:Nat):Int):=by
     rw [show (at_:Int)+((j:Int)+1)=((at_+j+1:Nat):Int) by omega];exact EI (by omega) (by omega)
    have w3:AA AB ((i:Int)+1)=((i+1:Nat):Int):=by
     rw [show (i:Int)+1=((i+1:Nat):Int) by omega];exact EI (by omega) (by omega)
    rw [w1,w2,w3,BE];have ih:=Ad N s n hs K hx hr f (s.size - (at_+j+1)) (at_+j+1) (i+1) (by omega) (by omega) (by omega);rw [ih]
    have:(n - ((i+1:Nat):Int)).toNat=k:=by omega
    rw [this]
  ·rw [AL hn,DG,show (n - i).toNat=0 by omega,UI,hx,hin,DE,DE,BE];rfl
 | 0,d,at_,i,_,hf,_=>by omega
theorem Wb (s:BA) (n:Int):Ac s (UI s.data.toList n.toNat 0)=some (.tup [.str (JY s n),.str (WR s n),.bool (NX s n)],[]):=by
 unfold JY WR NX nZ;cases UI s.data.toList n.toNat 0 <;> rfl
theorem zhp:DS PR B0 56 aT:=by
 refine D2 [(121,iF)] [(3,⟨[0,4,5,6,7,9,10],[],[]⟩)] aT [[.str],[.str],[.bool]] Tryz.func56 zaq ⟨ziB,trivial⟩ ?_;intro vs r hwf h;unfold aT at h;split at h
 ·rename_i s n;cases hg:(decide (s.size < 4294967281)) with
  | false=>rw [hg] at h; simp [R.get] at h
  | true=>
  rw [hg,R.get_br,DE,R.get_ok] at h;refine ⟨s.size+1,(zdo _ s n).trans ?_⟩
  have:=Ad (s.size+1) s n (A0 hg) _ (fun a x=>Xi (s.size+1) s EF EF false a n x) (fun a x=>Xj (s.size+1) s EF EF false a n x) (s.size+1) s.size 0 0 (by omega) (by omega) (by omega)
  refine this.trans ?_;rw [show (n - ((0:Nat):Int)).toNat=n.toNat by omega,Wb,← h]
 ·simp [R.get] at h
theorem zhq:DS PR B0 57 aU:=by
 refine D2 [(122,QS),(64,MX),(65,R7)] [] aU [[.z]] Tryz.func57 zar ⟨lR,ZZ,tC,trivial⟩ ?_;intro vs r hwf h;unfold aU at h;split at h
 ·rename_i s;cases hg:(decide (s.size < 4294967281)) with
  | false=>rw [hg] at h; simp [R.get] at h
  | true=>
  rw [hg,R.get_br,DE,R.get_ok] at h;refine ⟨0,(zdp 0 s).trans ?_⟩;have hz:=A0 hg;have ht:=Z5 s FC;rw [show decide (1≤AG { data:=#[32] })=true from rfl,CJ,AE (show (F3 s { data:=#[10] }).size < 4294967281 by exact Nat.lt_of_le_of_lt ht hz),DE];rw [tH,show (decide ((0:Nat)≤0)&&true)=true from rfl,DE,← h];show _=(some (V.int .i64 (OW s),[]):DJ);unfold OW NI DU W9;rw [show AD 0=0 from rfl,show AD 2=2 from rfl];generalize hL:A2 IV.str (D1 (F3 s FC) U6)=L;cases ((L.getD 0 default).toStr.toList==PF.toList)
  ·rfl
  cases h3:(ic L.length==3) with
  | false=>
   rw [show (ic L.length != 3)=!(ic L.length==3) from rfl,h3];rfl
  | true=>
   rw [show (ic L.length != 3)=!(ic L.length==3) from rfl,h3];have e3:ic L.length=3:=by simpa using h3
   rw [e3,show (decide ((0:Nat)≤2)&&decide ((2:Int) < 3))=true from rfl];simp only [A1,Bool.or_self,DG,DE];cases LC (L.getD 2 default).toStr
   ·rfl
   cases decide (FA (L.getD 2 default).toStr < 0)
   ·cases decide (FA (L.getD 2 default).toStr > 65536) <;> rfl
   ·rfl
 ·simp [R.get] at h
theorem zho:DS PR B0 48 aS:=by
 refine D2 [(23,VS),(54,R0),(93,L8)] [] aS [[.bool]] Tryz.func48 zap ⟨Js,sY,ZY,trivial⟩ ?_;intro vs r hwf h;unfold aS at h;split at h
 ·rename_i m l v;replace h:=IO h;obtain ⟨m,rfl,h⟩:=h;replace h:=Pg h;obtain ⟨v,rfl,h⟩:=h;cases hg:(decide (l.size < 4294967281)) with
  | false=>rw [hg] at h; simp [R.get] at h
  | true=>
  rw [hg,R.get_br,DE,R.get_ok] at h;refine ⟨0,(zdn 0 m l v).trans ?_⟩;rw [hg,DE,← h];unfold SB YH;rw [show (MA l != m.d)=!(MA l==m.d) from rfl];have hw:(cond (v.kind==4) (some (V.bool (v.spent==0),[])) (some (V.bool false,[])):DJ)=some (V.bool (v.kind==4&&v.spent==0),[]):=by cases v.kind==4 <;> rfl
  cases MY l
  ·exact hw
  cases (MA l==m.d)
  ·exact hw
  cases FH m (FK l)
  ·exact hw
  simp only [A1,DG,DE,BY];cases v.kind==3
  ·cases v.kind==1 <;> cases v.kind==2 <;> cases decide (v.spent≥1) <;> cases decide (v.spent≤(FK l).bu) <;> rfl
  ·rfl
 ·simp [R.get] at h
open Go Go.Proofs
def QJ (N:Nat):Env:=D0 [(56,aT),(57,aU),(58,bA),(42,OM),(55,YE)] [(3,⟨[0,2,3,4,5],[56],[⟨.tmp 4,56,50,true,Q1⟩]⟩)] 59 N
abbrev NJ (s0:BA) (b3:Bool) (n4:Nat) (x5:Int) (lo56:LI):St:=⟨[(0,(.str s0)),(2,.zs),(3,(.bool b3)),(4,(.row 56 0 n4)),(5,(.i x5))],[(56,(some (.row true 50 true [.z,.list true D8,.z,.z,.z,.z,.z,.z] lo56)))]⟩
theorem zdm (N:Nat) (u00:BA):DV (QJ N) TY [.tmp 2,.tmp 3] [[.list true [.z,.list true [.bool,.z,.z],.z,.z,.z,.z,.z,.z]],[.bool]] [.str u00]=(DT (QJ N) (DF TY [1,1,0,1,0,0]) ⟨[0,2,3,4,5],[56],[⟨(.tmp 4),56,50,true,[.z,.list true D8,.z,.z,.z,.z,.z,.z]⟩]⟩ N (NJ u00 false 0 0 []) (DM 0 (DN (QJ N) (DF TY [1,1,1]) (DP (QJ N) none [.tmp 2,.tmp 3] [[.list true [.z,.list true D8,.z,.z,.z,.z,.z,.z]],[.bool]])))):=by kernel_rfl
theorem ziO (N:Nat) (s0:BA) (b3:Bool) (n4:Nat) (x5:Int) (lo56:LI) (again:St→DJ) (k:Out→St→DJ):EX (QJ N) (DF TY [1,1,0,1,0,0]) (NJ s0 b3 n4 x5 lo56) (ED again ⟨[0,2,3,4,5],[56],[⟨(.tmp 4),56,50,true,[.z,.list true D8,.z,.z,.z,.z,.z,.z]⟩]⟩ k)=(cond (!AX s0==AX {data:=#[]}) (cond (decide (AG {data:=#[113,117,101,114,121,32]}+AG (DL x5)≤strMax)) (cond (decide (AG ({data:=#[113,117,101,114,121,32]}++DL x5)+AG {data:=#[10]}≤strMax)) (cond (!OT s0 (UE x5)) (k .ret (NJ s0 false n4 x5 lo56)) (cond (decide (AG (P3 s0 x5) < 4294967281)) (cond (!NX (P3 s0 x5) 1) (k .ret (NJ s0 false n4 x5 lo56)) (cond (decide (AG (JY (P3 s0 x5) 1) < 4294967281)) (cond (decide (AG (P3 s0 x5) < 4294967281)) (cond (!NX (P3 s0 x5) (OW (JY (P3 s0 x5) 1))) (k .ret (NJ s0 false n4 x5 lo56)) (cond (decide (AG (O8 s0 x5) < 4294967281)) (cond (decide (AG (GT (JI (O8 s0 x5)))≤strMax)) (cond (!ZI (O8 s0 x5)) (k .ret (NJ s0 false n4 x5 lo56)) (cond (decide ((n4+1)*80≤D6)) (again (NJ (Iv s0 x5) b3 (n4+1) (AA AB (x5+1)) (AK n4 lo56++[IV.agg [IV.int (Vd.kind (J6 (O8 s0 x5))),IV.list (Vd.proof (J6 (O8 s0 x5))),IV.int (Vd.w0 (J6 (O8 s0 x5))),IV.int (Vd.w1 (J6 (O8 s0 x5))),IV.int (Vd.w2 (J6 (O8 s0 x5))),IV.int (Vd.w3 (J6 (O8 s0 x5))),IV.int (Vd.twin (J6 (O8 s0 x5))),IV.int (Vd.spent (J6 (O8 s0 x5)))]]))) none)) none) none)) none) none)) none)) none) none) (k (.exit 0) (NJ s0 b3 n4 x5 lo56))):=by kernel_rfl
theorem Xg (N:Nat) (s0:BA) (b3:Bool) (n4:Nat) (x5:Int) (lo56:LI):(DM 0 (DN (QJ N) (DF TY [1,1,1]) (DP (QJ N) none [.tmp 2,.tmp 3] [[.list true [.z,.list true D8,.z,.z,.z,.z,.z,.z]],[.bool]]))) (.exit 0) (NJ s0 b3 n4 x5 lo56)=(some ((.tup [.list true [.z,.list true D8,.z,.z,.z,.z,.z,.z] (AO 0 (AK n4 lo56)),.bool true]),[])):=by kernel_rfl
theorem Xh (N:Nat) (s0:BA) (b3:Bool) (n4:Nat) (x5:Int) (lo56:LI):(DM 0 (DN (QJ N) (DF TY [1,1,1]) (DP (QJ N) none [.tmp 2,.tmp 3] [[.list true [.z,.list true D8,.z,.z,.z,.z,.z,.z]],[.bool]]))) .ret (NJ s0 b3 n4 x5 lo56)=(some ((.tup [.list true [.z,.list true D8,.z,.z,.z,.z,.z,.z] [],.bool b3]),[])):=by kernel_rfl
def QI (N:Nat):Env:=D0 [(15,VW),(48,aS),(29,V3),(17,WC)] [(9,⟨[6,7,10,38,39,40],[7],[]⟩)] 54 N
abbrev QF (u00:BA) (b6:Bool) (l10 l38:LI) (x39 x40:Int):St:=⟨[(6,(.bool b6)),(7,(.ptr 7 0 0)),(10,(.list false [.str] l10)),(38,(.list true [.z,.list true D8,.z,.z,.z,.z,.z,.z] l38)),(39,(.i x39)),(40,(.i x40))],[(7,(some (.box (Md.cs (G5 u00)))))]⟩
theorem zdl (N:Nat) (u00 u01 u02:BA):DV (QI N) TX [.tmp 6] [[.bool]] [.str u00,.str u01,.str u02]=(cond (decide (AG u00 < 4294967281)) (cond (!PC u00) (some ((.bool (AX u02==AX {data:=#[109,111,100,101,108,10]})),[])) (cond (decide (AG u02 < 4294967281)) (cond (Option.isSome (IY u02)) (cond (decide (AG u01 < 4294967281)) (cond (ic (AF (vav (IY u02) [])) != ic (AF (FF u01))) (some ((.bool false),[])) (DT (QI N) (DF TX [1,1,1,1,1,1,0,1,0,0]) ⟨[6,7,10,38,39,40],[7],[]⟩ N (QF u00 false (FF u01) (vav (IY u02) []) (ic (AF (vav (IY u02) []))) 0) (DM 0 (DN (QI N) (DF TX [1,1,1,1,1,1,1]) (DP (QI N) none [.tmp 6] [[.bool]]))))) none) (cond (decide (AG u01 < 4294967281)) (some ((.bool false),[])) none)) none)) none):=by kernel_rfl
theorem Ls (N:Nat) (u00:BA) (b6:Bool) (l10 l38:LI) (x39 x40:Int) (again:St→DJ) (k:Out→St→DJ):EX (QI N) (DF TX [1,1,1,1,1,1,0,1,0,0]) (QF u00 b6 l10 l38 x39 x40) (ED again ⟨[6,7,10,38,39,40],[7],[]⟩ k)=(cond (decide (x40 < x39)) (cond (decide (0≤x40)&&decide (x40 < ic (AF l38))) (cond (decide (0≤x40)&&decide (x40 < ic (AF l10))) (cond (decide (AG (IV.toStr (AH l10 (AD x40) default)) < 4294967281)) (cond (!SB (G5 u00) (IV.toStr (AH l10 (AD x40) default)) (L0 (AH l38 (AD x40) default))) (k .ret (QF u00 false l10 l38 x39 x40)) (again (QF u00 b6 l10 l38 x39 (AA AB (x40+1))))) none) none) none) (k (.exit 0) (QF u00 b6 l10 l38 x39 x40))):=by kernel_rfl
theorem Xe (N:Nat) (u00:BA) (b6:Bool) (l10 l38:LI) (x39 x40:Int):(DM 0 (DN (QI N) (DF TX [1,1,1,1,1,1,1]) (DP (QI N) none [.tmp 6] [[.bool]]))) (.exit 0) (QF u00 b6 l10 l38 x39 x40)=(some ((.bool true),[])):=by kernel_rfl
theorem Xf (N:Nat) (u00:BA) (b6:Bool) (l10 l38:LI) (x39 x40:Int):(DM 0 (DN (QI N) (DF TX [1,1,1,1,1,1,1]) (DP (QI N) none [.tmp 6] [[.bool]]))) .ret (QF u00 b6 l10 l38 x39 x40)=(some ((.bool b6),[])):=by kernel_rfl
open Go Go.Proofs
theorem Gl (s:BA) (n:Int):(JY s n).size≤s.size:=by
 unfold JY;cases NX s n with
 | true=>rw [DE,vbd]; omega
 | false=>exact B7 _
theorem Tt (s:BA) (n:Int):(WR s n).size≤s.size:=by
 unfold WR;cases NX s n with
 | true=>rw [DE,vbd]; omega
 | false=>exact B7 _
theorem zjp {s p:BA} (h:OT s p=true) (hp:0 < p.size):(F8 s p).size < s.size:=by
 have h1:Lib.hasPrefix s.data.toList p.data.toList=true:=h;have h2:p.data.toList.length≤s.data.toList.length:=by
  unfold Lib.hasPrefix at h1;rw [List.isPrefixOf_iff_prefix] at h1;exact h1.length_le
 have e:(F8 s p).size=s.data.toList.length - p.data.toList.length:=by
  unfold F8 Lib.trimPrefix;rw [BR h1];show (List.toArray _).size=_;rw [C9,CY]
 rw [gF] at hp ⊢;rw [← gF,e,gF];omega
def zi5:Option LI→DJ
 | some l=>some (.tup [.list true Q1 l,.bool true],[])
 | none=>some (.tup [.list true Q1 [],.bool false],[])
theorem zct (i:Nat) (h:i≤9223372036854775807):(DL (i:Int)).size≤21:=Y6 (by show -9223372036854775808≤_; omega) (by show _≤(9223372036854775807:Int); omega)
theorem Lk (N:Nat) (K:Out→St→DJ)
  (hx:∀ s x O,K (.exit 0) (NJ s false O.length x O)=some (.tup [.list true Q1 (AO 0 (AK O.length O)),.bool true],[]))
  (hr:∀ s x O n,K .ret (NJ s false n x O)=some (.tup [.list true Q1 [],.bool false],[])) :
  ∀ (m n:Nat) (s:BA) (i:Nat) (O:LI),s.size < m→m≤n→s.size < 4294967281→i+s.size≤4294967281→O.length=i →
   DT (QJ N) (DF TY [1,1,0,1,0,0]) ⟨[0,2,3,4,5],[56],[⟨(.tmp 4),56,50,true,Q1⟩]⟩ n (NJ s false O.length (i:Int) O) K=zi5 (gR m i s O)
 | m+1,n+1,s,i,O,hm,hn,hs,hi,hO=>by
  rw [DX,ziO,gR];cases h0:(s.toList==EF.toList) with
  | true=>
   rw [A1,DG,DE,hx,BZ,BI];rfl
  | false=>
   have hit:=zct i (by omega);have e1:AG { data:=#[113,117,101,114,121,32] }=6:=rfl;have e2:AG { data:=#[10] }=1:=rfl;rw [A6,DE,DG];rw [AE (show AG { data:=#[113,117,101,114,121,32] }+(DL (i:Int)).size≤strMax by unfold strMax; omega),DE];rw [AE (show AG ({ data:=#[113,117,101,114,121,32] }++DL (i:Int))+AG { data:=#[10] }≤strMax by rw [A3]; unfold strMax; omega),DE];unfold Iw;rw [show UE (i:Int)=ME i from rfl];cases hp:OT s (ME i) with
   | false=>
    rw [A6,DE,BM,DG,hr];rfl
   | true=>
    have hlt:(J8 s i).size < s.size:=zjp hp (Ci i);have ho1:=Gl (J8 s i) 1;have ho2:=Gl (J8 s i) (OW (JY (J8 s i) 1));have hb2:=Tt (J8 s i) (OW (JY (J8 s i) 1));rw [A1,DG,BC];rw [show P3 s (i:Int)=J8 s i from rfl,show O8 s (i:Int)=UV s i from rfl,show Iv s (i:Int)=lH s i from rfl];rw [AE (show (J8 s i).size < 4294967281 by omega),DE];cases hc1:NX (J8 s i) 1 with
    | false=>
     rw [A6,DE,BM,DG,hr];rfl
    | true=>
     rw [A1,DG,BC,AE (show (JY (J8 s i) 1).size < 4294967281 by omega),DE,DE];cases hc2:NX (J8 s i) (OW (JY (J8 s i) 1)) with
     | false=>
      rw [A6,DE,BM,DG,hr];rfl
     | true=>
      have hpz:=Hd (zgE (UV s i));rw [A1,DG,BC,AE (show (UV s i).size < 4294967281 by show (JY _ _).size < _; omega),DE,AE (show (GT (JI (UV s i))).size≤strMax by unfold strMax; omega),DE];cases hc3:ZI (UV s i) with
      | false=>
       rw [A6,DE,DG,hr];rfl
      | true=>
       rw [A1,DG,DE,AE (show (O.length+1)*80≤D6 by unfold D6; omega),DE,BI,GQ (by omega)];have hsz:(lH s i).size < s.size:=Nat.lt_of_le_of_lt hb2 hlt;have ih:=Lk N K hx hr m n (lH s i) (i+1) (O++[(J6 (UV s i)).I]) (by omega) (by omega) (by omega) (by omega) (by rw [AU]; simp; omega);rw [← ih,AU];rfl
 | 0,_,_,_,_,h,_,_,_,_=>by omega
 | _+1,0,_,_,_,_,h,_,_,_=>by omega
theorem Jw:DS PR B0 15 VW:=by
 refine D2 [(56,aT),(57,aU),(58,bA),(42,OM),(55,YE)] [(3,⟨[0,2,3,4,5],[56],[⟨.tmp 4,56,50,true,Q1⟩]⟩)] VW [[.list true [.z,.list true [.bool,.z,.z],.z,.z,.z,.z,.z,.z]],[.bool]] Tryz.func15 zao ⟨zhp,zhq,zhx,gH,Kr,trivial⟩ ?_;intro vs r hwf h;unfold VW at h;split at h
 ·rename_i s;rw [R.get_br] at h;cases hg:decide (s.size < 4294967281) with
  | false=>rw [hg] at h; simp [R.get] at h
  | true=>
   have hs:=A0 hg;refine ⟨s.size+1,(zdm _ s).trans ?_⟩
   have:=Lk (s.size+1) _ (fun s' x O=>Xg (s.size+1) s' false O.length x O) (fun s' x O n=>Xh (s.size+1) s' false n x O) (s.size+1) (s.size+1) s 0 [] (by omega) (by omega) hs (by omega) rfl
   refine this.trans ?_;rw [hg,DE,R.get_br] at h;rw [← h];unfold IY;cases gR (s.size+1) 0 s [] <;> rfl
 ·simp [R.get] at h
theorem vQ (N:Nat) (a:BA) (ls vs:LI) (hs:∀ x∈ls,x.toStr.size < 4294967281) (hl:vs.length=ls.length) (hm:vs.length≤4294967281) (K:Out→St→DJ)
  (hx:∀ x y,K (.exit 0) (QF a false ls vs x y)=some (.bool true,[])) (hr:∀ x y,K .ret (QF a false ls vs x y)=some (.bool false,[])) :
  ∀ (d i n:Nat),i+d=vs.length→d < n →
   DT (QI N) (DF TX [1,1,1,1,1,1,0,1,0,0]) ⟨[6,7,10,38,39,40],[7],[]⟩ n (QF a false ls vs (ic vs.length) (i:Int)) K=some (.bool (TT (G5 a) (vs.drop i) (ls.drop i)),[])
 | 0,i,n+1,hd,_=>by
  rw [DX,Ls,IT (by omega),C2 (l:=vs) (by omega),DG];exact hx _ _
 | d+1,i,n+1,hd,hn=>by
  have hi:i < vs.length:=by omega
  have hi2:i < ls.length:=by omega
  have h4:=hs ls[i] (C4 hi2);rw [DX,Ls,H0 hi,IH,H0 (l:=ls) hi2,GQ (by omega),IS hi,IS hi2];rw [BF hi,BF hi2,AE h4];simp only [DE,CJ];show _=(some (V.bool (SB (G5 a) ls[i].toStr (L0 vs[i])&&TT (G5 a) (vs.drop (i+1)) (ls.drop (i+1))),[]):DJ);cases SB (G5 a) ls[i].toStr (L0 vs[i]) with
  | false=>
   rw [A6,DE,BM];exact hr _ _
  | true=>
   rw [A1,DG,BC];exact vQ N a ls vs hs hl hm K hx hr d (i+1) n (by omega) (by omega)
 | 0,_,0,_,h=>by omega
 | _+1,_,0,_,h=>by omega
theorem zcU (s:BA):(FF s).length≤s.size+1:=by
 unfold FF;cases (s.toList==EF.toList) with
 | true=>exact B7 _
 | false=>
  rw [DG,BQ];have h1:=(XS FC (Lib.countB (F3 s FC) FC) (F3 s FC)).1;have h2:=Lib.countB_le FC (by decide) _ (F3 s FC) (AW _);have h3:=Z5 s FC;show (Lib.splitB FC 0 (Lib.countB (F3 s FC) FC) (F3 s FC)).length≤_;omega
theorem zhn:DS PR B0 12 aR:=by
 refine D2 [(15,VW),(48,aS),(29,V3),(17,WC)] [(9,⟨[6,7,10,38,39,40],[7],[]⟩)] aR [[.bool]] Tryz.func12 zan ⟨Jw,zho,Ke,Ku,trivial⟩ ?_;intro vs r hwf h;unfold aR at h;split at h
 ·rename_i a b r0;cases hg:(decide (a.size < 4294967281)&&(decide (b.size < 4294967281)&&decide (r0.size < 4294967281))) with
  | false=>rw [hg] at h; simp [R.get] at h
  | true=>
  rw [hg,R.get_br,DE,R.get_ok] at h;rw [AI,AI] at hg;refine ⟨(FF b).length+1,(zdl _ a b r0).trans ?_⟩;rw [hg.1,hg.2.1,hg.2.2,DE,DE,DE,← h];unfold UQ;cases ht:PC a with
  | false=>rfl
  | true=>
   simp only [A1,DG,DE];cases hq:IY r0 with
   | none=>rfl
   | some vs=>
    show cond (ic vs.length != ic (FF b).length) _ _=(some (V.bool (ic vs.length==ic (FF b).length&&TT (G5 a) vs (FF b)),[]):DJ);cases he:(ic vs.length==ic (FF b).length) with
    | false=>
     rw [show (ic vs.length != ic (FF b).length)=!(ic vs.length==ic (FF b).length) from rfl,he];rfl
    | true=>
     rw [show (ic vs.length != ic (FF b).length)=!(ic vs.length==ic (FF b).length) from rfl,he];have hl:vs.length=(FF b).length:=by
      have:ic vs.length=ic (FF b).length:=by simpa using he
      simp only [ic] at this;omega
     have hbz:=A0 hg.2.1;have hll:=zcU b
     have:=vQ ((FF b).length+1) a (FF b) vs (Ea hbz) hl (by omega) _ (fun x y=>Xe ((FF b).length+1) a false (FF b) vs x y) (fun x y=>Xf ((FF b).length+1) a false (FF b) vs x y) vs.length 0 ((FF b).length+1) (by omega) (by omega)
     rw [BZ,BZ] at this;exact this
 ·simp [R.get] at h
open Go
theorem Dv:∀ (x:List UInt8) (L:List (List UInt8)),W8 (x :: L)=Lib.join (x :: L) [10]++[10]
 | x,[]=>by rw [pV,Lib.join_one]; rfl
 | x,y :: L=>by rw [pV,Dv y L,j4]; simp
theorem zcV (s:BA) (hs:s.data.toList≠[]):(FF s).map (fun y=>y.toStr.data.toList)=Lib.split (F3 s FC).data.toList [10]:=by
 unfold FF;have e:(s.toList==EF.toList)=false:=by
  rw [wC];exact AL fun h=>hs (by rw [h])
 rw [e,DG,List.map_map]
 have:((fun x=>x.toStr.data.toList) ∘ IV.str)=fun b:BA=>b.data.toList:=rfl
 rw [this,ziI]
theorem zcY {s:BA} {x:List UInt8} {L:List (List UInt8)} (h:s.data.toList=W8 (x :: L)) (hno:∀ l∈x :: L,(10:UInt8) ∉ l):(FF s).map (fun y=>y.toStr.data.toList)=x :: L:=by
 rw [Dv] at h;rw [zcV s (by rw [h]; simp),zjo h,tF 10 x L hno]
theorem zcW (s:BA):∃ l:List BA,FF s=l.map IV.str:=by
 unfold FF;cases (s.toList==EF.toList) with
 | true=>exact ⟨[],rfl⟩
 | false=>exact ⟨_,rfl⟩
theorem zcX {s:BA} {L:List BA} (h:(FF s).map (fun y=>y.toStr.data.toList)=L.map (·.data.toList)):FF s=L.map IV.str:=by
 obtain ⟨l,hl⟩:=zcW s;rw [hl] at h ⊢;rw [List.map_map] at h
 have:((fun x=>x.toStr.data.toList) ∘ IV.str)=fun b:BA=>b.data.toList:=rfl
 rw [this] at h;rw [kL h]
theorem zcZ:FF EF=[]:=by simp [FF]
open Go
theorem zf9 {q:Qy} (hq:q.In) (d:Int):(E6 q d).size≤2000:=by
 cases h:N6 q d with
 | false=>rw [Hg h]; decide
 | true=>
  obtain ⟨h1,h4,_,_,_,_,hk⟩:=Gc h;have hp:E6 q d=F9 (I8 q d.toNat) GR:=by
   unfold E6;rw [h];rfl
  have zi:∀ {n:Int},D7 n→(DL n).size≤100:=fun h=>by have:=pI h; omega
  have zp:∀ {n:Int},D7 n→(DQ n).size≤100:=fun h=>by have:=(XL _ h).2; omega
  have hl:(I8 q d.toNat).length≤15:=by
   unfold I8 HH;simp only [AU,AN,BQ,A7,BB,Qy.spans];cases (q.k==1) <;> cases (q.k==2) <;> simp only [B1,BG,AN,BB] <;> omega
  have hz:=Cy (I8 q d.toNat) (fun w hw=>by
   unfold I8 at hw;rcases AV.1 hw with hw | hw
   ·rcases AV.1 hw with hw | hw
    ·unfold HH at hw;cases h1:(q.k==1) <;> rw [h1] at hw <;> simp only [B1,BG] at hw
     ·cases h2:(q.k==2) <;> rw [h2] at hw <;> simp only [B1,BG,AS,BW,CU] at hw
      ·rcases hw with rfl | rfl | rfl | rfl
       ·cases q.fl <;> decide
       ·exact zi hq.c
       ·decide
       ·exact zi hq.ft
      ·rcases hw with rfl | rfl
       ·decide
       ·exact zi hq.c
     ·simp only [AS,BW,CU] at hw;rcases hw with rfl | rfl | rfl | rfl | rfl | rfl
      ·decide
      ·exact zi hq.c
      ·decide
      ·exact zp hq.lo
      ·decide
      ·exact zp hq.hi
    ·rcases AS.1 hw with rfl | hw
     ·decide
     ·obtain ⟨s,hs,rfl⟩:=CN.1 hw;have hs:=vag hs;have hin:D7 s.1∧D7 s.2:=by
       simp only [Qy.spans,AS,BW,CU] at hs;rcases hs with rfl | rfl | rfl | rfl | rfl
       ·exact ⟨hq.a0,hq.b0⟩
       ·exact ⟨hq.a1,hq.b1⟩
       ·exact ⟨hq.a2,hq.b2⟩
       ·exact ⟨hq.a3,hq.b3⟩
       ·exact ⟨hq.a4,hq.b4⟩
      have:=Lf hin.1 hin.2
      omega
   ·simp only [AS,BW,CU] at hw;rcases hw with rfl | rfl
    ·decide
    ·exact zi hq.bu)
  rw [hp];omega
theorem Qy.In.sp {q:Qy} (hq:q.In):∀ s∈q.spans,D7 s.1∧D7 s.2:=by
 intro s hs;simp only [Qy.spans,AS,BW,CU] at hs;rcases hs with rfl | rfl | rfl | rfl | rfl
 ·exact ⟨hq.a0,hq.b0⟩
 ·exact ⟨hq.a1,hq.b1⟩
 ·exact ⟨hq.a2,hq.b2⟩
 ·exact ⟨hq.a3,hq.b3⟩
 ·exact ⟨hq.a4,hq.b4⟩
theorem zfm {q:Qy} {d:Int} (h1:1≤d) (h4:d≤4) (hc:JS q.c=true) (hf:JS q.ft=true) (hb:JS q.bu=true)
  (hk:(q.k=1∧q.ft=0∧q.fl=false)∨(q.k=2∧q.lo=0∧q.hi=0∧q.ft=0∧q.fl=false)∨(q.k=3∧q.lo=0∧q.hi=0))
  (z0:(0:Int) < d∨(q.a0=0∧q.b0=0)) (z1:(1:Int) < d∨(q.a1=0∧q.b1=0)) (z2:(2:Int) < d∨(q.a2=0∧q.b2=0)) (z3:(3:Int) < d∨(q.a3=0∧q.b3=0)) (z4:(4:Int) < d∨(q.a4=0∧q.b4=0)):N6 q d=true:=by
 have cz:∀ (x:Int) (j:Int),(j < d∨x=0)→cond (decide (j < d)) x 0=x:=fun x j h=>by
  rcases h with h | h
  ·rw [AE h]; rfl
  ·subst h; cases decide (j < d) <;> rfl
 have ht:FO q d=q:=by
  obtain ⟨k,c,a0,b0,a1,b1,a2,b2,a3,b3,a4,b4,lo,hi,ft,fl,bu⟩:=q;simp only at hk z0 z1 z2 z3 z4;simp only [FO,Qy.mk.injEq,vaO];refine ⟨cz _ _ (z0.imp_right (·.1)),cz _ _ (z0.imp_right (·.2)),cz _ _ (z1.imp_right (·.1)),cz _ _ (z1.imp_right (·.2)),cz _ _ (z2.imp_right (·.1)),cz _ _ (z2.imp_right (·.2)),cz _ _ (z3.imp_right (·.1)),cz _ _ (z3.imp_right (·.2)),cz _ _ (z4.imp_right (·.1)),cz _ _ (z4.imp_right (·.2)),?_⟩;rcases hk with ⟨rfl,rfl,rfl⟩ | ⟨rfl,rfl,rfl,rfl,rfl⟩ | ⟨rfl,rfl,rfl⟩ <;> exact ⟨rfl,rfl,rfl,rfl,trivial⟩
 have hk3:(q.k==1||(q.k==2||q.k==3))=true:=by
  rcases hk with ⟨h,_⟩ | ⟨h,_⟩ | ⟨h,_⟩ <;> rw [h] <;> rfl
 unfold N6;rw [ht,Qy.eq_self,hc,hf,hb,hk3,AL (show ¬ d < 1 by omega),AL (show ¬ d > 4 by omega)];rfl
theorem zgL (d:Int) (l:LI) (i:Int) : -2≤FP d l i∧FP d l i≤9:=by
 unfold FP
 have:=(G2 (n:=EH l (2*i)) (lo := -2) (hi:=9) (by omega) (by omega) (by omega)).2
 cases decide (i < d) <;> simp only [B1,BG] <;> omega
theorem zgM (d:Int) (l:LI) (i:Int) : -2≤FQ d l i∧FQ d l i≤20:=by
 unfold FQ
 have:=(G2 (n:=EH l (2*i)) (lo := -2) (hi:=9) (by omega) (by omega) (by omega)).2
 have:=(G2 (n:=EH l (2*i+1)) (lo:=0) (hi:=11) (by omega) (by omega) (by omega)).2
 cases decide (i < d) <;> simp only [B1,BG] <;> omega
theorem sA {d:Int} (l:LI) {i:Int} (h:d≤i):FP d l i=0∧FQ d l i=0:=by
 unfold FP FQ;rw [AL (show ¬ i < d by omega)];exact ⟨rfl,rfl⟩
theorem Dc (a:Ak) (cls:Int):FE a cls=1∨FE a cls=2∨FE a cls=3:=by
 unfold FE
 have:=(G2 (n:=a.k) (lo:=1) (hi:=3) (by omega) (by omega) (by omega)).2
 cases (DO a.k 1 3==2&&decide (cls < 2)) with
 | true=>exact .inl rfl
 | false=>
  rw [DG];omega
theorem sS {n:Int} (h0:0≤n) (h1:n≤1073741824):JS n=true:=by
 unfold JS;rw [AE h0,AE h1];rfl
theorem zgv (a:Ak) {dim cls:Int} (hd:1≤dim∧dim≤4) (hc:1≤cls∧cls≤3):N6 (I5 a dim cls) dim=true:=by
 have c1:=(G2 (n:=a.c) (lo:=0) (hi:=cls - 1) (by omega) (by omega) (by omega)).2;have f1:=(G2 (n:=a.ft) (lo:=0) (hi:=dim - 1) (by omega) (by omega) (by omega)).2;have b1:=(G2 (n:=a.bu) (lo:=0) (hi:=65536) (by omega) (by omega) (by omega)).2;refine zfm hd.1 hd.2 (sS (by show 0≤DO a.c 0 (cls - 1); omega) (by show DO a.c 0 (cls - 1)≤_; omega)) ?_ (sS b1.1 (by show DO a.bu 0 65536≤_; omega)) ?_ ?_ ?_ ?_ ?_ ?_
 ·show JS (cond (FE a cls==3) (DO a.ft 0 (dim - 1)) 0)=true;cases (FE a cls==3) with
  | true=>exact sS (n:=DO a.ft 0 (dim - 1)) f1.1 (by omega)
  | false=>rfl
 ·show (FE a cls=1∧cond (FE a cls==3) (DO a.ft 0 (dim - 1)) 0=0∧cond (FE a cls==3) a.fl false=false) ∨
   (FE a cls=2∧cond (FE a cls==1) (J1 a) 0=0∧cond (FE a cls==1) (J1 a+DO a.size 0 18000) 0=0∧cond (FE a cls==3) (DO a.ft 0 (dim - 1)) 0=0∧cond (FE a cls==3) a.fl false=false) ∨
   (FE a cls=3∧cond (FE a cls==1) (J1 a) 0=0∧cond (FE a cls==1) (J1 a+DO a.size 0 18000) 0=0)
  rcases Dc a cls with h | h | h <;> rw [h]
  ·exact .inl ⟨rfl,rfl,rfl⟩
  ·exact .inr (.inl ⟨rfl,rfl,rfl,rfl,rfl⟩)
  ·exact .inr (.inr ⟨rfl,rfl,rfl⟩)
 ·exact .inl (by omega)
 ·rcases Int.lt_or_le 1 dim with h | h
  ·exact .inl h
  ·exact .inr (sA a.sp h)
 ·rcases Int.lt_or_le 2 dim with h | h
  ·exact .inl h
  ·exact .inr (sA a.sp h)
 ·rcases Int.lt_or_le 3 dim with h | h
  ·exact .inl h
  ·exact .inr (sA a.sp h)
 ·exact .inr ⟨rfl,rfl⟩
theorem zgu (a:Ak) {dim cls:Int} (hd:1≤dim∧dim≤4) (hc:1≤cls∧cls≤3):(I5 a dim cls).In:=by
 have c1:=(G2 (n:=a.c) (lo:=0) (hi:=cls - 1) (by omega) (by omega) (by omega)).2;have f1:=(G2 (n:=a.ft) (lo:=0) (hi:=dim - 1) (by omega) (by omega) (by omega)).2;have b1:=(G2 (n:=a.bu) (lo:=0) (hi:=65536) (by omega) (by omega) (by omega)).2;have l1:=(G2 (n:=a.lo) (lo := -9000) (hi:=9000) (by omega) (by omega) (by omega)).2;have s1:=(G2 (n:=a.size) (lo:=0) (hi:=18000) (by omega) (by omega) (by omega)).2;have k1:=Dc a cls;have A:=fun i=>zgL dim a.sp i
 have B:=fun i=>zgM dim a.sp i
 have zA:∀ i,D7 (FP dim a.sp i):=fun i=>by have:=A i; unfold D7; omega
 have zB:∀ i,D7 (FQ dim a.sp i):=fun i=>by have:=B i; unfold D7; omega
 refine ⟨?_,?_,zA 0,zB 0,zA 1,zB 1,zA 2,zB 2,zA 3,zB 3,?_,?_,?_,?_,?_,?_⟩
 ·show D7 (FE a cls); unfold D7; omega
 ·show D7 (DO a.c 0 (cls - 1)); unfold D7; omega
 ·show D7 0; unfold D7; omega
 ·show D7 0; unfold D7; omega
 ·show D7 (cond (FE a cls==1) (J1 a) 0);unfold J1 D7;cases (FE a cls==1) <;> simp only [B1,BG] <;> omega
 ·show D7 (cond (FE a cls==1) (J1 a+DO a.size 0 18000) 0);unfold J1 D7;cases (FE a cls==1) <;> simp only [B1,BG] <;> omega
 ·show D7 (cond (FE a cls==3) (DO a.ft 0 (dim - 1)) 0);unfold D7;cases (FE a cls==3) <;> simp only [B1,BG] <;> omega
 ·show D7 (DO a.bu 0 65536); unfold D7; omega
theorem UJ {l:List UInt8} (h:∀ c∈l,45≤c.toNat∧c.toNat≤57):(10:UInt8) ∉ l:=(qU h).2
theorem zjF (q:Qy) (D:Nat):∀ w∈I8 q D,(10:UInt8) ∉ w.data.toList:=by
 intro w hw;unfold I8 at hw;have key:∀ x∈HH q,(10:UInt8) ∉ x.data.toList:=by
  intro x hx;unfold HH at hx;cases h1:(q.k==1) <;> rw [h1] at hx <;> simp only [B1,BG] at hx
  ·cases h2:(q.k==2) <;> rw [h2] at hx <;> simp only [B1,BG,AS,BW,CU] at hx
   ·rcases hx with rfl | rfl | rfl | rfl
    ·cases q.fl <;> decide
    ·exact UJ (OV _)
    ·decide
    ·exact UJ (OV _)
   ·rcases hx with rfl | rfl
    ·decide
    ·exact UJ (OV _)
  ·simp only [AS,BW,CU] at hx;rcases hx with rfl | rfl | rfl | rfl | rfl | rfl
   ·decide
   ·exact UJ (OV _)
   ·decide
   ·exact UJ (ZJ _)
   ·decide
   ·exact UJ (ZJ _)
 rcases AV.1 hw with h | h
 ·rcases AV.1 h with h | h
  ·exact key w h
  ·rcases AS.1 h with rfl | h
   ·decide
   ·obtain ⟨s,_,rfl⟩:=CN.1 h;exact UJ (Le _ _)
 ·simp only [AS,BW,CU] at h;rcases h with rfl | rfl
  ·decide
  ·exact UJ (OV _)
theorem He (q:Qy) (d:Int):(10:UInt8) ∉ (E6 q d).data.toList:=by
 cases h:N6 q d with
 | false=>
  rw [Hg h];decide
 | true=>
  have:E6 q d=F9 (I8 q d.toNat) GR:=by
   unfold E6;rw [h];rfl
  rw [this,Cx];refine qH 32 10 (by decide) _ fun v hv=>?_
  obtain ⟨u,hu,rfl⟩:=CN.1 hv;exact zjF q d.toNat u hu
theorem zjB {n lo hi:Int} (h0:lo≤n) (h1:n≤hi) (h2:lo=0) (h3:hi≤1000000):DO n lo hi=n:=by
 subst h2;have hm:=(G2 (n:=n) (lo:=0) (hi:=hi) (by omega) (by omega) (by omega)).1;unfold DO;rw [hm];have e:Int.tmod n (hi - 0+1)=n:=Int.tmod_eq_of_lt h0 (by omega);rw [e,AL (show ¬ n < 0 by omega),DG,Int.zero_add];exact EI (by omega) (by omega)
theorem Tm (a:Ak) (m:Md) {w:Int} (h0:0≤w) (h1:w≤65536):(GY a m).bud w=GY ⟨a.k,a.c,a.lo,a.size,a.ft,w,a.fl,a.sp⟩ m:=by
 unfold GY I5 Qy.bud;simp only [zjB h0 h1 rfl (by omega)];rfl
theorem vK (a:Ak) {m:Md} (hd:1≤m.d∧m.d≤4) (hc:1≤m.c∧m.c≤3) {w:Int} (h0:0≤w) (h1:w≤65536) :
  N6 ((GY a m).bud w) m.d=true∧((GY a m).bud w).In∧MY (E6 ((GY a m).bud w) m.d)=true∧FK (E6 ((GY a m).bud w) m.d)=(GY a m).bud w∧MA (E6 ((GY a m).bud w) m.d)=m.d:=by
 rw [Tm a m h0 h1];have ho:=zgv ⟨a.k,a.c,a.lo,a.size,a.ft,w,a.fl,a.sp⟩ hd hc;have hi:=zgu ⟨a.k,a.c,a.lo,a.size,a.ft,w,a.fl,a.sp⟩ hd hc;have hp:=Tn hi.c hi.lo hi.hi hi.ft hi.bu hi.sp ho;exact ⟨ho,hi,hp.1,hp.2.1,hp.2.2⟩
open Go
structure Sits (m:Md) (q:Qy):Prop where
 right:FH m q=true
 few:lB m q (EV q)≤199
 ok:N6 q m.d=true
 ask:MY (E6 q m.d)=true
 qq:FK (E6 q m.d)=q
 dd:MA (E6 q m.d)=m.d
theorem Zu {m:Md} (h:RA m.ts≤99) (q:Qy):lB m q (EV q)≤199:=by
 have:=zf6 m q (EV q)
 omega
theorem zhf (f:Ft) (a:Ak) {w:Int} (h0:0≤w) (h1:w≤65536):Sits f.M ((GY a f.M).bud w)∧((GY a f.M).bud w).In:=by
 have hd:1≤f.M.d∧f.M.d≤3:=YX f.d;have hc:1≤f.M.c∧f.M.c≤3:=dV f.c;obtain ⟨l1,l2,l3,l4,l5⟩:=vK a (m:=f.M) ⟨hd.1,by omega⟩ hc h0 h1;exact ⟨⟨To f a h0 h1,Zu (by have:=Bq f; omega) _,l1,l3,l4,l5⟩,l2⟩
def J7 (d:Int):BA→List Qy→BA
 | s,[]=>s
 | s,q :: l=>J7 d (s++E6 q d++FC) l
theorem Hv (d:Int):∀ (l:List Qy) (s:BA),(J7 d s l).data.toList=s.data.toList++W8 (l.map fun q=>(E6 q d).data.toList)
 | [],s=>by simp [J7,W8]
 | q :: l,s=>by
  rw [J7,Hv d l,AZ,pV,Ag,Ag];simp
theorem zgt (d:Int) (l:List Qy):FF (J7 d EF l)=l.map fun q=>IV.str (E6 q d):=by
 cases l with
 | nil=>exact zcZ
 | cons q l=>
  have h:=zcY (s:=J7 d EF (q :: l)) (x:=(E6 q d).data.toList) (L:=l.map fun q=>(E6 q d).data.toList) (by rw [Hv]; rfl) (by
   intro y hy;rcases AS.1 hy with rfl | hy
   ·exact He q d
   ·obtain ⟨r,_,rfl⟩:=CN.1 hy;exact He r d)
  have h2:=zcX (s:=J7 d EF (q :: l)) (L:=(q :: l).map fun q=>E6 q d) (by rw [h]; simp);rw [h2,List.map_map];rfl
open Go
def I3 (x:Int):BA:=strOfNums (A2 IV.toInt [IV.int (AA IntKind.u8 (AA AB (48+x)))])
abbrev W5:List Kd:=[.z,.z,.z,.z,.z,.z,.z,.z,.z,.z,.z,.z,.z,.z,.z,.bool,.z]
def Qy.I (q:Qy):IV:=.agg [.int q.k,.int q.c,.int q.a0,.int q.b0,.int q.a1,.int q.b1,.int q.a2,.int q.b2,.int q.a3,.int q.b3,.int q.a4,.int q.b4,.int q.lo,.int q.hi,.int q.ft,.bool q.fl,.int q.bu]
def NC (x:IV):Qy:=⟨cI x 0,cI x 1,cI x 2,cI x 3,cI x 4,cI x 5,cI x 6,cI x 7,cI x 8,cI x 9,cI x 10,cI x 11,cI x 12,cI x 13,cI x 14,(x.cell 15).toBool,cI x 16⟩
def NP (x:IV):Ak:=⟨cI x 0,cI x 1,cI x 2,cI x 3,cI x 4,cI x 5,(x.cell 6).toBool,(x.cell 7).toList⟩
def bP:DR
 | []=>.ok (.bool true) []
 | _=>.no
open Go
open Go
open Go Go.Proofs
theorem zge {m:Md} (h:EP m=true):1≤(H3 m).size∧(H3 m).size≤300000:=by
 obtain ⟨hd,hc,hl,_,ht⟩:=qJ h;have hp:H3 m=FY (LQ m):=by unfold H3; rw [h]; rfl
 have hall:∀ (ts:LI),ts.all (G8 m.d m.c)=true→(∀ l∈GH ts,l.length≤8∧∀ w∈l,w.size≤100)∧(GH ts).length≤32*ts.length:=fun ts=>by
  induction ts with
  | nil=>exact fun _=>⟨fun l hl=>(by cases hl),AW _⟩
  | cons t r ih=>
   intro h;rw [vaM,AI] at h;obtain ⟨i1,i2⟩:=ih h.2;obtain ⟨j1,j2⟩:=Oa hc.2 h.1;rw [GH];refine ⟨fun l hl=>?_,?_⟩
   ·rcases AV.1 hl with hl | hl
    ·exact j1 l hl
    ·exact i1 l hl
   ·rw [AU,AN];omega
 obtain ⟨a1,a2⟩:=hall m.ts ht;have hz:=tW (LQ m) (fun l hl=>by
  have hl:l∈SP m++GH m.ts:=hl;rcases AV.1 hl with hl | hl
  ·exact Ch h l hl
  ·exact a1 l hl)
 have hn:(LQ m).length=2+(GH m.ts).length:=by
  show (SP m++GH m.ts).length=_;rw [AU];rfl
 rw [hp];refine ⟨?_,by omega⟩;have e:FY (LQ m)=FG [NF,DL m.d,DL m.c]++FY (([IZ :: ([m.b0,m.b1,m.b2].take m.c.toNat).map DQ])++GH m.ts):=rfl;rw [e,A3]
 have:1≤(FG [NF,DL m.d,DL m.c]).size:=by
  unfold FG;rw [A3];have e1:AG PG=1:=rfl;omega
 omega
open Go
theorem zcp (i:Nat) (h:i≤9223372036854775807):(DL (i:Int)).size≤21:=Y6 (by show -9223372036854775808≤_; omega) (by show _≤(9223372036854775807:Int); omega)
def Aj (i:Nat):Bool:=(I3 (i:Int)).toList==(DL (i:Int)).toList
theorem Wm:(vaE 10).all Aj=true:=by kernel_rfl
theorem Wn {i:Nat} (h:i < 10):I3 (i:Int)=DL (i:Int):=by
 have:=CS.1 Wm i (va6.2 h)
 unfold Aj at this;rw [wC] at this;exact A0 this
theorem zi3 {l:LI} {k i:Nat} (h:i < l.length) (hk:i < k):(l.take k).drop i=l[i] :: (l.take k).drop (i+1):=by
 rw [BF (by rw [A7]; omega),List.getElem_take]
theorem Nt {l:LI} {k i:Nat} (h:¬ (i < l.length∧i < k)):(l.take k).drop i=[]:=C2 (by rw [A7]; omega)
theorem zfl {m:Md} (h:SX m=true):(1≤m.d∧m.d≤4)∧(1≤m.c∧m.c≤3):=by
 unfold SX at h;simp only [AI,AP] at h;exact ⟨⟨h.1.1,h.1.2⟩,⟨h.2.1,h.2.2⟩⟩
theorem Tp {m:Md} (h:SX m=true) (a:Ak) {w:Int} (h0:0≤w) (h1:w≤65536):(E6 ((GY a m).bud w) m.d).size≤2000:=by
 obtain ⟨hd,hc⟩:=zfl h;exact zf9 (vK a hd hc h0 h1).2.1 _
theorem Hw (d:Int):∀ (l:List Qy) (s:BA),(∀ q∈l,(E6 q d).size≤2000)→(J7 d s l).size≤s.size+2001*l.length
 | [],s,_=>AW _
 | q :: l,s,h=>by
  have h1:=h q (AR ..);have h2:=Hw d l (s++E6 q d++FC) fun x hx=>h x (AY _ hx)
  rw [A3,A3] at h2;have e:FC.size=1:=rfl;rw [J7,AN];omega
open Go Go.Proofs
def HD (N:Nat):Env:=D0 [(32,PI),(35,R3),(74,V0)] [(4,⟨[1,2,4,5,6,7],[2,500,501],[⟨.tmp 5,500,108,true,[.bool,.z,.z,.z,.z,.z]⟩,⟨.tmp 6,501,3,false,[.z]⟩]⟩),(14,⟨[4,11,100,101,102],[500,502],[⟨.tmp 11,502,106,false,[.int .u64]⟩]⟩)] 113 N
abbrev X7 (x1:Int) (n5 n6:Nat) (x7 u06:Int) (u00 u01 u02 u03 u04 u05:LI):St:=⟨[(1,(.i x1)),(2,(.ptr 2 0 0)),(4,.zs),(5,(.row 500 0 n5)),(6,(.row 501 0 n6)),(7,(.i x7))],[(2,(some (.box [.i u06,.list false [.z] u00,.list false [.z] u01,.list false [.z] u02,.list false [.z] u03]))),(500,(some (.row true 108 true [.bool,.z,.z,.z,.z,.z] u04))),(501,(some (.row true 3 false [.z] u05)))]⟩
abbrev aI (n11 n100:Nat) (x101 x102:Int) (u00 u01:LI):St:=⟨[(4,.zs),(11,(.row 502 0 n11)),(100,(.row 500 0 n100)),(101,(.i x101)),(102,(.i x102))],[(500,(some (.row true 108 true [.bool,.z,.z,.z,.z,.z] u00))),(502,(some (.row true 106 false [.int .u64] u01)))]⟩
theorem zdP (N:Nat) (u00:Int) (u01 t_By t_At u02:LI) (a1:Int):DV (HD N) MB [.tmp 4] [[.list false [.int .u64]]] [.agg [.i u00,.list false [.z] u01,.list false [.z] t_By,.list false [.z] t_At,.list false [.z] u02],.i a1]=(DT (HD N) (DF MB [1,1,1,0,1,0,0]) ⟨[1,2,4,5,6,7],[2,500,501],[⟨(.tmp 5),500,108,true,[.bool,.z,.z,.z,.z,.z]⟩,⟨(.tmp 6),501,3,false,[.z]⟩]⟩ N (X7 a1 1 1 0 u00 u01 t_By t_At u02 [(IV.agg [IV.bool true,IV.int (DO (EH u02 0) (-3000) 3000),IV.int 0,IV.int 0,IV.int 0,IV.int 0])] [(IV.int 0)]) (DM 0 (DN (HD N) (DF MB [1,1,1,1]) (DP (HD N) none [.tmp 4] [[.list false [.int .u64]]])))):=by kernel_rfl
theorem Mf (N:Nat) (x1:Int) (n5 n6:Nat) (x7 u06:Int) (u00 u01 u02 u03 u04 u05:LI) (again:St→DJ) (k:Out→St→DJ):EX (HD N) (DF MB [1,1,1,0,1,0,0]) (X7 x1 n5 n6 x7 u06 u00 u01 u02 u03 u04 u05) (ED again ⟨[1,2,4,5,6,7],[2,500,501],[⟨(.tmp 5),500,108,true,[.bool,.z,.z,.z,.z,.z]⟩,⟨(.tmp 6),501,3,false,[.z]⟩]⟩ k)=(cond (decide (x7 < ic (AF u00))) (cond (decide (x7 < 7)) (cond (decide (0≤x7)&&decide (x7 < ic (AF u00))) (cond (decide (NH 0 (AA AB (ic (n6 - 0) - 1))=0)) none (cond (decide (0≤DO (IV.toInt (AH u00 (AD x7) default)) 0 (AA AB (ic (n6 - 0) - 1)))&&decide (DO (IV.toInt (AH u00 (AD x7) default)) 0 (AA AB (ic (n6 - 0) - 1)) < ic (n6 - 0))) (cond (decide (0≤x7)) (cond (decide (NH 0 (AA AB (x1 - 1))=0)) none (cond (decide (0≤x7)) (cond (decide (0≤IV.toInt (AH u05 (0+AD (DO (IV.toInt (AH u00 (AD x7) default)) 0 (AA AB (ic (n6 - 0) - 1)))) default))&&decide (IV.toInt (AH u05 (0+AD (DO (IV.toInt (AH u00 (AD x7) default)) 0 (AA AB (ic (n6 - 0) - 1)))) default) < ic (n5 - 0))) (cond (decide (0≤AA AB (AA AB (2*x7)+1))) (cond (decide (0≤AA AB (AA AB (2*x7)+2))) (cond (decide ((n5+AF (AO 0 (AK 2 [IV.agg [IV.bool true,IV.int (DO (EH u03 (AA AB (AA AB (2*x7)+1))) (-3000) 3000),IV.int 0,IV.int 0,IV.int 0,IV.int 0],IV.agg [IV.bool true,IV.int (DO (EH u03 (AA AB (AA AB (2*x7)+2))) (-3000) 3000),IV.int 0,IV.int 0,IV.int 0,IV.int 0]])))*TI.bytes (Env.tyd (HD N) 108)≤D6)) (cond (decide (0≤DO (IV.toInt (AH u00 (AD x7) default)) 0 (AA AB (ic (n6 - 0) - 1)))&&decide (DO (IV.toInt (AH u00 (AD x7) default)) 0 (AA AB (ic (n6 - 0) - 1))≤ic (n6 - 0))) (cond (decide ((0+AF (AO 0 (AK (0+AD (DO (IV.toInt (AH u00 (AD x7) default)) 0 (AA AB (ic (n6 - 0) - 1)))) u05)))*TI.bytes (Env.tyd (HD N) 3)≤D6)) (cond (decide (0≤AA AB (DO (IV.toInt (AH u00 (AD x7) default)) 0 (AA AB (ic (n6 - 0) - 1))+1))&&decide (AA AB (DO (IV.toInt (AH u00 (AD x7) default)) 0 (AA AB (ic (n6 - 0) - 1))+1)≤ic (n6 - 0))) (cond (decide ((0+AF (AO 0 (AK (0+AD (DO (IV.toInt (AH u00 (AD x7) default)) 0 (AA AB (ic (n6 - 0) - 1)))) u05))+AF (AO (0+AD (AA AB (DO (IV.toInt (AH u00 (AD x7) default)) 0 (AA AB (ic (n6 - 0) - 1))+1))) (AK (0+(n6 - 0)) u05)))*TI.bytes (Env.tyd (HD N) 3)≤D6)) (cond (decide ((0+AF (AO 0 (AK (0+AD (DO (IV.toInt (AH u00 (AD x7) default)) 0 (AA AB (ic (n6 - 0) - 1)))) u05))+AF (AO (0+AD (AA AB (DO (IV.toInt (AH u00 (AD x7) default)) 0 (AA AB (ic (n6 - 0) - 1))+1))) (AK (0+(n6 - 0)) u05))+AF (AO 0 (AK 2 [IV.int (ic (n5 - 0)),IV.int (AA AB (ic (n5 - 0)+1))])))*TI.bytes (Env.tyd (HD N) 3)≤D6)) (again (X7 x1 (n5+AF (AO 0 (AK 2 [IV.agg [IV.bool true,IV.int (DO (EH u03 (AA AB (AA AB (2*x7)+1))) (-3000) 3000),IV.int 0,IV.int 0,IV.int 0,IV.int 0],IV.agg [IV.bool true,IV.int (DO (EH u03 (AA AB (AA AB (2*x7)+2))) (-3000) 3000),IV.int 0,IV.int 0,IV.int 0,IV.int 0]]))) (0+AF (AO 0 (AK (0+AD (DO (IV.toInt (AH u00 (AD x7) default)) 0 (AA AB (ic (n6 - 0) - 1)))) u05))+AF (AO (0+AD (AA AB (DO (IV.toInt (AH u00 (AD x7) default)) 0 (AA AB (ic (n6 - 0) - 1))+1))) (AK (0+(n6 - 0)) u05))+AF (AO 0 (AK 2 [IV.int (ic (n5 - 0)),IV.int (AA AB (ic (n5 - 0)+1))]))) (AA AB (x7+1)) u06 u00 u01 u02 u03 (AK n5 (List.set u04 (0+AD (IV.toInt (AH u05 (0+AD (DO (IV.toInt (AH u00 (AD x7) default)) 0 (AA AB (ic (n6 - 0) - 1)))) default))) (N8 true [Kd.bool,Kd.int AB,Kd.int AB,Kd.int AB,Kd.int AB,Kd.int AB] (AH u04 (0+AD (IV.toInt (AH u05 (0+AD (DO (IV.toInt (AH u00 (AD x7) default)) 0 (AA AB (ic (n6 - 0) - 1)))) default))) default) 0 [IV.bool false,IV.int 0,IV.int (DO (EH u01 x7) 0 (AA AB (x1 - 1))),IV.int (DO (EH u02 x7) 0 9),IV.int (ic (n5 - 0)),IV.int (AA AB (ic (n5 - 0)+1))]))++AO 0 (AK 2 [IV.agg [IV.bool true,IV.int (DO (EH u03 (AA AB (AA AB (2*x7)+1))) (-3000) 3000),IV.int 0,IV.int 0,IV.int 0,IV.int 0],IV.agg [IV.bool true,IV.int (DO (EH u03 (AA AB (AA AB (2*x7)+2))) (-3000) 3000),IV.int 0,IV.int 0,IV.int 0,IV.int 0]])) (AK (0+AF (AO 0 (AK (0+AD (DO (IV.toInt (AH u00 (AD x7) default)) 0 (AA AB (ic (n6 - 0) - 1)))) u05))+AF (AO (0+AD (AA AB (DO (IV.toInt (AH u00 (AD x7) default)) 0 (AA AB (ic (n6 - 0) - 1))+1))) (AK (0+(n6 - 0)) u05))) (AK (0+AF (AO 0 (AK (0+AD (DO (IV.toInt (AH u00 (AD x7) default)) 0 (AA AB (ic (n6 - 0) - 1)))) u05))) (AK 0 []++AO 0 (AK (0+AD (DO (IV.toInt (AH u00 (AD x7) default)) 0 (AA AB (ic (n6 - 0) - 1)))) u05))++AO (0+AD (AA AB (DO (IV.toInt (AH u00 (AD x7) default)) 0 (AA AB (ic (n6 - 0) - 1))+1))) (AK (0+(n6 - 0)) u05))++AO 0 (AK 2 [IV.int (ic (n5 - 0)),IV.int (AA AB (ic (n5 - 0)+1))])))) none) none) none) none) none) none) none) none) none) none)) none) none)) none) (k (.exit 0) (X7 x1 n5 n6 x7 u06 u00 u01 u02 u03 u04 u05))) (k (.exit 0) (X7 x1 n5 n6 x7 u06 u00 u01 u02 u03 u04 u05))):=by kernel_rfl
theorem Ya (N:Nat) (x1:Int) (n5 n6:Nat) (x7 u06:Int) (u00 u01 u02 u03 u04 u05:LI):(DM 0 (DN (HD N) (DF MB [1,1,1,1]) (DP (HD N) none [.tmp 4] [[.list false [.int .u64]]]))) (.exit 0) (X7 x1 n5 n6 x7 u06 u00 u01 u02 u03 u04 u05)=(DT (HD N) (DF MB [1,1,1,1,1,0,1,0,0]) ⟨[4,11,100,101,102],[500,502],[⟨(.tmp 11),502,106,false,[.int .u64]⟩]⟩ N (aI 0 n5 (ic (n5 - 0)) 0 u04 []) (DM 2 (DN (HD N) (DF MB [1,1,1,1,1,1]) (DP (HD N) none [.tmp 4] [[.list false [.int .u64]]])))):=by kernel_rfl
theorem Mg (N n11 n100:Nat) (x101 x102:Int) (u00 u01:LI) (again:St→DJ) (k:Out→St→DJ):EX (HD N) (DF MB [1,1,1,1,1,0,1,0,0]) (aI n11 n100 x101 x102 u00 u01) (ED again ⟨[4,11,100,101,102],[500,502],[⟨(.tmp 11),502,106,false,[.int .u64]⟩]⟩ k)=(cond (decide (x102 < x101)) (cond (decide (0≤x102)&&decide (x102 < ic (n100 - 0))) (cond (decide ((n11+AF (AO 0 (AK 1 [IV.int (H2 (IV.toBool (IV.cell (AH u00 (0+AD x102) default) 0)) (IV.toInt (IV.cell (AH u00 (0+AD x102) default) 1)) (IV.toInt (IV.cell (AH u00 (0+AD x102) default) 2)) (IV.toInt (IV.cell (AH u00 (0+AD x102) default) 3)) (IV.toInt (IV.cell (AH u00 (0+AD x102) default) 4)) (IV.toInt (IV.cell (AH u00 (0+AD x102) default) 5)))])))*TI.bytes (Env.tyd (HD N) 106)≤D6)) (again (aI (n11+AF (AO 0 (AK 1 [IV.int (H2 (IV.toBool (IV.cell (AH u00 (0+AD x102) default) 0)) (IV.toInt (IV.cell (AH u00 (0+AD x102) default) 1)) (IV.toInt (IV.cell (AH u00 (0+AD x102) default) 2)) (IV.toInt (IV.cell (AH u00 (0+AD x102) default) 3)) (IV.toInt (IV.cell (AH u00 (0+AD x102) default) 4)) (IV.toInt (IV.cell (AH u00 (0+AD x102) default) 5)))]))) n100 x101 (AA AB (x102+1)) u00 (AK n11 u01++AO 0 (AK 1 [IV.int (H2 (IV.toBool (IV.cell (AH u00 (0+AD x102) default) 0)) (IV.toInt (IV.cell (AH u00 (0+AD x102) default) 1)) (IV.toInt (IV.cell (AH u00 (0+AD x102) default) 2)) (IV.toInt (IV.cell (AH u00 (0+AD x102) default) 3)) (IV.toInt (IV.cell (AH u00 (0+AD x102) default) 4)) (IV.toInt (IV.cell (AH u00 (0+AD x102) default) 5)))])))) none) none) (k (.exit 2) (aI n11 n100 x101 x102 u00 u01))):=by kernel_rfl
theorem Yb (N n11 n100:Nat) (x101 x102:Int) (u00 u01:LI):(DM 2 (DN (HD N) (DF MB [1,1,1,1,1,1]) (DP (HD N) none [.tmp 4] [[.list false [.int .u64]]]))) (.exit 2) (aI n11 n100 x101 x102 u00 u01)=(some ((.list false [.int .u64] (AO 0 (AK n11 u01))),[])):=by kernel_rfl
open Go Go.Proofs
structure Ns.At (i:Nat) (s:Ns):Prop where
 nl:s.nodes.length=2*i+1
 ll:s.leaves.length=i+1
 lt:∀ x∈s.leaves,0≤x.toInt∧x.toInt < (2*i+1:Nat)
theorem qQ {part:LI} {i:Nat} {s:Ns} (h:s.At i) (hi:i≤100):0≤HT part i s∧HT part i s < ((i+1:Nat):Int)∧NH 0 (ic s.leaves.length - 1)=((i+1:Nat):Int):=by
 have e:ic s.leaves.length=((i+1:Nat):Int):=by rw [h.ll]
 obtain ⟨m,a,b⟩:=G2 (n:=(part.getD i default).toInt) (lo:=0) (hi:=ic s.leaves.length - 1) (by rw [e]; omega) (by omega) (by rw [e]; omega);unfold HT;rw [e] at a b m ⊢;exact ⟨a,by omega,by rw [m]; omega⟩
theorem zfh {part:LI} {i:Nat} {s:Ns} (h:s.At i) (hi:i≤100):0≤RB part i s∧RB part i s < (2*i+1:Nat):=by
 obtain ⟨k0,k1,_⟩:=qQ (part:=part) h hi;have hk:(HT part i s).toNat < s.leaves.length:=by rw [h.ll]; omega
 have e:s.leaves.getD (HT part i s).toNat default=s.leaves[(HT part i s).toNat]:=by simp [hk]
 unfold RB;rw [e];exact h.lt _ (C4 hk)
theorem Ns.At.step {part byl atl val:LI} {dim:Int} {i:Nat} {s:Ns} (h:s.At i) (hi:i≤100):(J4 part byl atl val dim i s).At (i+1):=by
 obtain ⟨k0,k1,_⟩:=qQ (part:=part) h hi;refine ⟨?_,?_,?_⟩
 ·simp only [J4,AU,vaI,AN,BB,h.nl];omega
 ·simp only [J4,AU,A7,CY,AN,BB,h.ll];omega
 ·intro x hx;simp only [J4,AV] at hx;rcases hx with (hx | hx) | hx
  ·have:=h.lt x (vag hx)
   omega
  ·have:=h.lt x (vay hx)
   omega
  ·simp only [AS,BW,CU] at hx;rcases hx with rfl | rfl
   ·simp only [IV.toInt,ic,h.nl]; omega
   ·simp only [IV.toInt,ic,h.nl]; omega
abbrev kN:List Kd:=[.bool,.z,.z,.z,.z,.z]
abbrev pO:KP:=⟨[1,2,4,5,6,7],[2,500,501],[⟨(.tmp 5),500,108,true,[.bool,.z,.z,.z,.z,.z]⟩,⟨(.tmp 6),501,3,false,[.z]⟩]⟩
abbrev gK (cl:Int) (part byl atl val:LI) (dim:Int) (s:Ns) (i:Int):St:=
 ⟨[(1,(.int .i64 dim)),(2,(.ptr 2 0 0)),(4,.zs),(5,(.row 500 0 s.nodes.length)),(6,(.row 501 0 s.leaves.length)),(7,(.int .i64 i))],[(2,(some (.box [(.int .i64 cl),(.list false [.z] part),(.list false [.z] byl),(.list false [.z] atl),(.list false [.z] val)]))),(500,(some (.row true 108 true kN s.nodes))),(501,(some (.row true 3 false [.z] s.leaves)))]⟩
theorem zfc (N:Nat):TI.bytes (Env.tyd (HD N) 108)=48:=by rfl
theorem zcl (N:Nat):TI.bytes (Env.tyd (HD N) 3)=8:=by rfl
theorem zgo (x a b c d e f:IV):N8 true kN x 0 [a,b,c,d,e,f] = .agg [a,b,c,d,e,f]:=rfl
set_option maxHeartbeats 4000000 in
theorem zfd (N:Nat) (cl:Int) (part byl atl val:LI) (dim:Int) (h1:1≤dim) (h4:dim≤4) (s:Ns) (i:Nat) (hs:s.At i) (hi:i < part.length) (h7:i < 7) (again:St→DJ) (k:Out→St→DJ) :
  EX (HD N) (DF MB [1,1,1,0,1,0,0]) (gK cl part byl atl val dim s (i:Int)) (ED again pO k)=again (gK cl part byl atl val dim (J4 part byl atl val dim i s) ((i+1:Nat):Int)):=by
 refine (Mf N dim s.nodes.length s.leaves.length i cl part byl atl val s.nodes s.leaves again k).trans ?_;obtain ⟨k0,k1,km⟩:=qQ (part:=part) hs (by omega);obtain ⟨a0,a1⟩:=zfh (part:=part) hs (by omega);obtain ⟨dm,_,_⟩:=G2 (n:=0) (lo:=0) (hi:=dim - 1) (by omega) (by omega) (by omega);have eL:ic (s.leaves.length - 0)=ic s.leaves.length:=rfl;have eN:ic (s.nodes.length - 0)=ic s.nodes.length:=rfl;have hL:ic s.leaves.length=((i+1:Nat):Int):=by rw [hs.ll]
 have hN:ic s.nodes.length=((2*i+1:Nat):Int):=by rw [hs.nl]
 have w1:IntKind.wrap IntKind.i64 (ic s.leaves.length - 1)=ic s.leaves.length - 1:=EI (by rw [hL]; omega) (by rw [hL]; omega);have w2:IntKind.wrap IntKind.i64 (dim - 1)=dim - 1:=EI (by omega) (by omega);have w3:IntKind.wrap IntKind.i64 (2*(i:Int))=2*(i:Int):=EI (by omega) (by omega);have w4:IntKind.wrap IntKind.i64 (2*(i:Int)+1)=2*(i:Int)+1:=EI (by omega) (by omega);have w5:IntKind.wrap IntKind.i64 (2*(i:Int)+2)=2*(i:Int)+2:=EI (by omega) (by omega);have w6:IntKind.wrap IntKind.i64 (ic s.nodes.length+1)=ic s.nodes.length+1:=EI (by rw [hN]; omega) (by rw [hN]; omega);rw [eL,eN,w1,w2,w3,w4,w5,w6,Int.toNat_natCast];have eK:DO (IV.toInt (List.getD part i default)) 0 (ic s.leaves.length - 1)=HT part i s:=rfl;rw [eK];have w7:IntKind.wrap IntKind.i64 (HT part i s+1)=HT part i s+1:=EI (by omega) (by omega);rw [w7];have e0:∀ n:Nat,0+n=n:=Nat.zero_add;simp only [e0];have eA:IV.toInt (List.getD s.leaves (HT part i s).toNat default)=RB part i s:=rfl;rw [eA,zfc,zcl];obtain ⟨q,hq⟩:∃ q:Nat,HT part i s=q:=⟨(HT part i s).toNat,by omega⟩;have eq1:(HT part i s+1).toNat=q+1:=by omega
 have eq0:(HT part i s).toNat=q:=by omega
 have hq1:q < i+1:=by omega
 have lt2:∀ x y:IV,(List.drop 0 (List.take 2 [x,y]))=[x,y]:=fun _ _=>rfl
 have lk:List.drop 0 (List.take q s.leaves)=List.take q s.leaves:=List.drop_zero;have lk2:List.drop (q+1) (List.take (s.leaves.length - 0) s.leaves)=List.drop (q+1) s.leaves:=by rw [Nat.sub_zero,List.take_length]
 rw [eq1,eq0,lt2,lt2,lk,lk2];have zA:(List.take q s.leaves).length=q:=by rw [List.length_take,hs.ll]; omega
 have zB:(List.drop (q+1) s.leaves).length=i - q:=by rw [List.length_drop,hs.ll]; omega
 rw [zA,zB];simp only [List.length_cons,List.length_nil];rw [decide_eq_true (show (i:Int) < ic part.length by simp only [ic]; omega),decide_eq_true (show (i:Int) < 7 by omega),decide_eq_true (show 0≤(i:Int) by omega),km,decide_eq_false (show ¬ ((i+1:Nat):Int)=0 by omega),
  decide_eq_true k0,decide_eq_true (show HT part i s < ic s.leaves.length by rw [hL]; exact k1),dm,decide_eq_false (show ¬ (dim - 1 - 0+1=0) by omega),decide_eq_true a0,decide_eq_true (show RB part i s < ic s.nodes.length by rw [hN]; exact a1),
  decide_eq_true (show 0≤2*(i:Int)+1 by omega),decide_eq_true (show 0≤2*(i:Int)+2 by omega),decide_eq_true (show (s.nodes.length+(0+1+1))*48≤D6 by rw [hs.nl]; unfold D6; omega),
  decide_eq_true (show HT part i s≤ic s.leaves.length by rw [hL]; omega),decide_eq_true (show q*8≤D6 by unfold D6; omega),decide_eq_true (show 0≤HT part i s+1 by omega),decide_eq_true (show HT part i s+1≤ic s.leaves.length by rw [hL]; omega),
  decide_eq_true (show (q+(i - q))*8≤D6 by unfold D6; omega),decide_eq_true (show (q+(i - q)+(0+1+1))*8≤D6 by unfold D6; omega)]
 simp only [Bool.and_true,DE,DG];have g1:(J4 part byl atl val dim i s).nodes.length=s.nodes.length+(0+1+1):=by rw [(hs.step (by omega)).nl,hs.nl]; omega
 have g2:(J4 part byl atl val dim i s).leaves.length=q+(i - q)+(0+1+1):=by rw [(hs.step (by omega)).ll]; omega
 have g3:(J4 part byl atl val dim i s).nodes=List.take s.nodes.length (List.set s.nodes (RB part i s).toNat (N8 true kN (List.getD s.nodes (RB part i s).toNat default) 0 [IV.bool false,IV.int 0,IV.int (DO (EH byl (i:Int)) 0 (dim - 1)),IV.int (DO (EH atl (i:Int)) 0 9),IV.int (ic s.nodes.length),IV.int (ic s.nodes.length+1)])) ++
   [IV.agg [IV.bool true,IV.int (DO (EH val (2*(i:Int)+1)) (-3000) 3000),IV.int 0,IV.int 0,IV.int 0,IV.int 0],IV.agg [IV.bool true,IV.int (DO (EH val (2*(i:Int)+2)) (-3000) 3000),IV.int 0,IV.int 0,IV.int 0,IV.int 0]]:=by
  rw [zgo,List.take_of_length_le (by rw [List.length_set]; exact Nat.le_refl _)];rfl
 have g4:(J4 part byl atl val dim i s).leaves=List.take (q+(i - q)) (List.take q (List.take 0 []++List.take q s.leaves)++List.drop (q+1) s.leaves)++[IV.int (ic s.nodes.length),IV.int (ic s.nodes.length+1)]:=by
  rw [List.take_zero,List.nil_append,List.take_take,Nat.min_self,List.take_of_length_le (by rw [List.length_append,zA,zB]; exact Nat.le_refl _)];show List.take (HT part i s).toNat s.leaves++List.drop ((HT part i s).toNat+1) s.leaves++_=_;rw [eq0]
 rw [show gK cl part byl atl val dim (J4 part byl atl val dim i s) ((i+1:Nat):Int)=⟨[(1,(.int .i64 dim)),(2,(.ptr 2 0 0)),(4,.zs),(5,(.row 500 0 (J4 part byl atl val dim i s).nodes.length)),(6,(.row 501 0 (J4 part byl atl val dim i s).leaves.length)),(7,(.int .i64 ((i+1:Nat):Int)))],[(2,(some (.box [(.int .i64 cl),(.list false [.z] part),(.list false [.z] byl),(.list false [.z] atl),(.list false [.z] val)]))),(500,(some (.row true 108 true kN (J4 part byl atl val dim i s).nodes))),(501,(some (.row true 3 false [.z] (J4 part byl atl val dim i s).leaves)))]⟩ from rfl,g1,g2,g3,g4,GQ (by omega)]
theorem Fs (N:Nat) (cl:Int) (part byl atl val:LI) (dim:Int) (h1:1≤dim) (h4:dim≤4) (K:Out→St→DJ):∀ (d i n:Nat) (s:Ns),i+d=min part.length 7→d < n→s.At i →
  (∃ j,DT (HD N) (DF MB [1,1,1,0,1,0,0]) pO n (gK cl part byl atl val dim s (i:Int)) K=K (.exit 0) (gK cl part byl atl val dim (ZB part byl atl val dim d i s) j))∧(ZB part byl atl val dim d i s).At (i+d)
 | 0,i,n+1,s,hd,hn,hs=>by
  refine ⟨⟨(i:Int),?_⟩,hs⟩;rw [DX];refine (Mf N dim s.nodes.length s.leaves.length i cl part byl atl val s.nodes s.leaves _ _).trans ?_;by_cases hp:i < part.length
  ·rw [AE (show (i:Int) < ic part.length by simp only [ic]; omega),DE,AL (show ¬ (i:Int) < 7 by omega),DG];rfl
  ·rw [AL (show ¬ (i:Int) < ic part.length by simp only [ic]; omega),DG];rfl
 | d+1,i,n+1,s,hd,hn,hs=>by
  obtain ⟨⟨j,ih⟩,ih2⟩:=Fs N cl part byl atl val dim h1 h4 K d (i+1) n (J4 part byl atl val dim i s) (by omega) (by omega) (hs.step (by omega));refine ⟨⟨j,?_⟩,by rw [show i+(d+1)=i+1+d by omega]; exact ih2⟩;rw [DX,zfd N cl part byl atl val dim h1 h4 s i hs (by omega) (by omega)];exact ih
 | _,_,0,_,_,h,_=>by omega
theorem zjr (N:Nat):TI.bytes (Env.tyd (HD N) 106)=8:=by rfl
abbrev Df:KP:=⟨[4,11,100,101,102],[500,502],[⟨(.tmp 11),502,106,false,[(.int .u64)]⟩]⟩
theorem Gk (N:Nat) (L:LI) (hL:L.length≤1000):∀ (d i n:Nat) (O:LI),i+d=L.length→d < n→O.length=i →
  DT (HD N) (DF MB [1,1,1,1,1,0,1,0,0]) Df n ⟨[(4,.zs),(11,(.row 502 0 O.length)),(100,(.row 500 0 L.length)),(101,(.int .i64 (ic (L.length - 0)))),(102,(.int .i64 (i:Int)))],[(500,(some (.row true 108 true kN L))),(502,(some (.row true 106 false [(.int .u64)] O)))]⟩
   (DM 2 (DN (HD N) (DF MB [1,1,1,1,1,1]) (DP (HD N) none [(CD 4)] [[(.list false [(.int .u64)])]])))=some (.list false [.int .u64] (O++(L.drop i).map SY),[])
 | 0,i,n+1,O,hd,hn,hO=>by
  rw [DX];refine (Mg N O.length L.length (ic (L.length - 0)) i L O _ _).trans ?_;rw [AL (show ¬ (i:Int) < ic (L.length - 0) by simp only [ic]; omega),DG];refine (Yb N O.length L.length (ic (L.length - 0)) i L O).trans ?_;rw [BZ,BI,C2 (by omega),CC,DB]
 | d+1,i,n+1,O,hd,hn,hO=>by
  have hi:i < L.length:=by omega
  rw [DX];refine (Mg N O.length L.length (ic (L.length - 0)) i L O _ _).trans ?_;have ih:=Gk N L hL d (i+1) n (O++[SY L[i]]) (by omega) (by omega) (by simp [hO]);have l1:∀ x:IV,AO 0 (AK 1 [x])=[x]:=fun _=>rfl
  have eg:AH L (0+AD (i:Int)) default=L[i]:=by rw [BJ,BE]; simp [hi]
  rw [AE (show (i:Int) < ic (L.length - 0) by simp only [ic]; omega),AE (show 0≤(i:Int) by omega),CJ,DE,DE,eg,l1,zjr,CZ,AE (show (O.length+1)*8≤D6 by rw [hO]; unfold D6; omega),DE,BI,GQ (by omega)];rw [BF hi,AZ];rw [AU,CZ,var] at ih;exact ih
 | _,_,0,_,_,h,_=>by omega
theorem zhK:DS PR B0 36 bM:=by
 refine D2 [(32,PI),(35,R3),(74,V0)] [(4,pO),(14,Df)] bM [[.list false [.int .u64]]] Tryz.func36 zaW
  ⟨lO,sZ,Ka,trivial⟩ ?_
 intro vs r hwf h;unfold bM at h;split at h
 ·rename_i cl part byl atl val dim;cases hc:(decide (1≤dim)&&decide (dim≤4)) with
  | false=>rw [hc] at h; simp [R.get] at h
  | true=>
   rw [hc,R.get_br,DE,R.get_ok] at h;simp only [AI,AP] at hc;refine ⟨30,?_⟩;rw [← h];refine (zdP 30 cl part byl atl val dim).trans ?_;have h0:(⟨[LP (DO (EH val 0) (-3000) 3000)],[.int 0]⟩:Ns).At 0:=⟨rfl,rfl,fun x hx=>by
    rw [BX] at hx;subst hx;exact ⟨by decide,by decide⟩⟩
   obtain ⟨⟨j,run⟩,hat⟩:=Fs 30 cl part byl atl val dim hc.1 hc.2 (DM 0 (DN (HD 30) (DF MB [1,1,1,1]) (DP (HD 30) none [(CD 4)] [[(.list false [(.int .u64)])]]))) (min part.length 7) 0 30 _ (by omega) (by omega) h0;refine run.trans ?_;have e:ZB part byl atl val dim (min part.length 7) 0 ⟨[LP (DO (EH val 0) (-3000) 3000)],[.int 0]⟩=O3 part byl atl val dim:=rfl;rw [e] at hat ⊢;have hn:=hat.nl;refine (Ya 30 dim (O3 part byl atl val dim).nodes.length (O3 part byl atl val dim).leaves.length j cl part byl atl val (O3 part byl atl val dim).nodes (O3 part byl atl val dim).leaves).trans ?_
   have:=Gk 30 (O3 part byl atl val dim).nodes (by omega) (O3 part byl atl val dim).nodes.length 0 30 [] (by omega) (by omega) rfl
   rw [BZ,vac] at this;exact this
 ·simp [R.get] at h
open Go Go.Proofs
def I9 (N:Nat):Env:=D0 [(32,PI),(36,bM),(35,R3)] [(3,⟨[1,2,3,14,15],[1,2,3],[]⟩),(8,⟨[1,2,3,5],[1,2,3,500],[⟨.cell 3 5,500,85,true,[.z,.list false [.int .u64]]⟩]⟩)] 63 N
abbrev VF (x14 x15 u02 u03:Int) (u00 u01:LI) (u04 u05 u06 u07 u08 u09 u0a u0b u0c u0d:Int):St:=⟨[(1,(.ptr 1 0 0)),(2,(.ptr 2 0 0)),(3,(.ptr 3 0 0)),(14,(.i x14)),(15,(.i x15))],[(1,(some (.box [.i u02,.i u03,.list false [.z] u00,.list true [.z,.list false [.z],.list false [.z],.list false [.z],.list false [.z]] u01]))),(2,(some (.box [.i u04,.i u05,.i u06,.i u07,.i u08,.zs]))),(3,(some (.box [.i u09,.i u0a,.i u0b,.i u0c,.i u0d,.zs])))]⟩
abbrev X6 (x5 u04 u05:Int) (u00 u01:LI) (u06 u07 u08 u09 u0a u0b u0c u0d u0e u0f:Int) (u03:Nat) (u02:LI):St:=⟨[(1,(.ptr 1 0 0)),(2,(.ptr 2 0 0)),(3,(.ptr 3 0 0)),(5,(.i x5))],[(1,(some (.box [.i u04,.i u05,.list false [.z] u00,.list true [.z,.list false [.z],.list false [.z],.list false [.z],.list false [.z]] u01]))),(2,(some (.box [.i u06,.i u07,.i u08,.i u09,.i u0a,.zs]))),(3,(some (.box [.i u0b,.i u0c,.i u0d,.i u0e,.i u0f,.row 500 0 u03]))),(500,(some (.row true 85 true [.z,.list false [.int .u64]] u02)))]⟩
theorem zdM (N:Nat) (u02 u01:Int) (u00 u03:LI):DV (I9 N) M0 [.cell 2 31] [[.z,.z,.z,.z,.z,.list true [.z,.list false [.int .u64]]]] [.agg [.i u02,.i u01,.list false [.z] u00,.list true [.z,.list false [.z],.list false [.z],.list false [.z],.list false [.z]] u03]]=(DT (I9 N) (DF M0 [1,1,0,1,0,0]) ⟨[1,2,3,14,15],[1,2,3],[]⟩ N (VF (DO u01 1 3) 0 u02 u01 u00 u03 0 0 0 0 0 (DO u02 1 3) (DO u01 1 3) 0 0 0) (DM 0 (DN (I9 N) (DF M0 [1,1,1]) (DP (I9 N) none [.cell 2 31] [[.z,.z,.z,.z,.z,.list true [.z,.list false [.int .u64]]]])))):=by kernel_rfl
theorem Mb (N:Nat) (x14 x15 u02 u03:Int) (u00 u01:LI) (u04 u05 u06 u07 u08 u09 u0a u0b u0c u0d:Int) (again:St→DJ) (k:Out→St→DJ):EX (I9 N) (DF M0 [1,1,0,1,0,0]) (VF x14 x15 u02 u03 u00 u01 u04 u05 u06 u07 u08 u09 u0a u0b u0c u0d) (ED again ⟨[1,2,3,14,15],[1,2,3],[]⟩ k)=(cond (decide (x15 < x14)) (cond (decide (0≤x15)) (cond (decide (x15=ic 0)) (again (VF x14 (AA AB (x15+1)) u02 u03 u00 u01 u04 u05 u06 u07 u08 u09 u0a (DO (EH u00 x15) (-500) 500) u0c u0d)) (cond (decide (x15=ic 1)) (again (VF x14 (AA AB (x15+1)) u02 u03 u00 u01 u04 u05 u06 u07 u08 u09 u0a u0b (DO (EH u00 x15) (-500) 500) u0d)) (cond (decide (x15=ic 2)) (again (VF x14 (AA AB (x15+1)) u02 u03 u00 u01 u04 u05 u06 u07 u08 u09 u0a u0b u0c (DO (EH u00 x15) (-500) 500))) none))) none) (k (.exit 0) (VF x14 x15 u02 u03 u00 u01 u04 u05 u06 u07 u08 u09 u0a u0b u0c u0d))):=by kernel_rfl
theorem Xx (N:Nat) (x14 x15 u02 u03:Int) (u00 u01:LI) (u04 u05 u06 u07 u08 u09 u0a u0b u0c u0d:Int):(DM 0 (DN (I9 N) (DF M0 [1,1,1]) (DP (I9 N) none [.cell 2 31] [[.z,.z,.z,.z,.z,.list true [.z,.list false [.int .u64]]]]))) (.exit 0) (VF x14 x15 u02 u03 u00 u01 u04 u05 u06 u07 u08 u09 u0a u0b u0c u0d)=(DT (I9 N) (DF M0 [1,1,1,0,1,0,0]) ⟨[1,2,3,5],[1,2,3,500],[⟨(.cell 3 5),500,85,true,[.z,.list false [.int .u64]]⟩]⟩ N (X6 0 u02 u03 u00 u01 u04 u05 u06 u07 u08 u09 u0a u0b u0c u0d 0 []) (DM 2 (DN (I9 N) (DF M0 [1,1,1,1]) (DP (I9 N) none [.cell 2 31] [[.z,.z,.z,.z,.z,.list true [.z,.list false [.int .u64]]]])))):=by kernel_rfl
theorem Mc (N:Nat) (x5 u04 u05:Int) (u00 u01:LI) (u06 u07 u08 u09 u0a u0b u0c u0d u0e u0f:Int) (u03:Nat) (u02:LI) (again:St→DJ) (k:Out→St→DJ):EX (I9 N) (DF M0 [1,1,1,0,1,0,0]) (X6 x5 u04 u05 u00 u01 u06 u07 u08 u09 u0a u0b u0c u0d u0e u0f u03 u02) (ED again ⟨[1,2,3,5],[1,2,3,500],[⟨(.cell 3 5),500,85,true,[.z,.list false [.int .u64]]⟩]⟩ k)=(cond (decide (x5 < ic (AF u01))) (cond (decide (x5 < 4)) (cond (decide (0≤x5)&&decide (x5 < ic (AF u01))) (cond (decide (NH 0 (AA AB (u0c - 1))=0)) none (cond (decide (0≤x5)&&decide (x5 < ic (AF u01))) (cond (decide (1≤u0b)&&decide (u0b≤4)) (cond (decide ((u03+AF (AO 0 (AK 1 [IV.agg [IV.int (DO (IV.toInt (IV.cell (AH u01 (AD x5) default) 0)) 0 (AA AB (u0c - 1))),IV.list (MJ (IV.toList (IV.cell (AH u01 (AD x5) default) 1)) (IV.toList (IV.cell (AH u01 (AD x5) default) 2)) (IV.toList (IV.cell (AH u01 (AD x5) default) 3)) (IV.toList (IV.cell (AH u01 (AD x5) default) 4)) u0b)]])))*TI.bytes (Env.tyd (I9 N) 85)≤D6)) (again (X6 (AA AB (x5+1)) u04 u05 u00 u01 u06 u07 u08 u09 u0a u0b u0c u0d u0e u0f (u03+AF (AO 0 (AK 1 [IV.agg [IV.int (DO (IV.toInt (IV.cell (AH u01 (AD x5) default) 0)) 0 (AA AB (u0c - 1))),IV.list (MJ (IV.toList (IV.cell (AH u01 (AD x5) default) 1)) (IV.toList (IV.cell (AH u01 (AD x5) default) 2)) (IV.toList (IV.cell (AH u01 (AD x5) default) 3)) (IV.toList (IV.cell (AH u01 (AD x5) default) 4)) u0b)]]))) (AK u03 u02++AO 0 (AK 1 [IV.agg [IV.int (DO (IV.toInt (IV.cell (AH u01 (AD x5) default) 0)) 0 (AA AB (u0c - 1))),IV.list (MJ (IV.toList (IV.cell (AH u01 (AD x5) default) 1)) (IV.toList (IV.cell (AH u01 (AD x5) default) 2)) (IV.toList (IV.cell (AH u01 (AD x5) default) 3)) (IV.toList (IV.cell (AH u01 (AD x5) default) 4)) u0b)]])))) none) none) none)) none) (k (.exit 2) (X6 x5 u04 u05 u00 u01 u06 u07 u08 u09 u0a u0b u0c u0d u0e u0f u03 u02))) (k (.exit 2) (X6 x5 u04 u05 u00 u01 u06 u07 u08 u09 u0a u0b u0c u0d u0e u0f u03 u02))):=by kernel_rfl
theorem Xy (N:Nat) (x5 u04 u05:Int) (u00 u01:LI) (u06 u07 u08 u09 u0a u0b u0c u0d u0e u0f:Int) (u03:Nat) (u02:LI):(DM 2 (DN (I9 N) (DF M0 [1,1,1,1]) (DP (I9 N) none [.cell 2 31] [[.z,.z,.z,.z,.z,.list true [.z,.list false [.int .u64]]]]))) (.exit 2) (X6 x5 u04 u05 u00 u01 u06 u07 u08 u09 u0a u0b u0c u0d u0e u0f u03 u02)=(some ((.agg [.i u0b,.i u0c,.i u0d,.i u0e,.i u0f,.list true [.z,.list false [.int .u64]] (AO 0 (AK u03 u02))]),[])):=by kernel_rfl
open Go Go.Proofs
abbrev kT5:List Kd:=[.z,(.list false [.z]),(.list false [.z]),(.list false [.z]),(.list false [.z])]
def bF (bias:LI) (j:Int):Int:=DO (EH bias j) (-500) 500
abbrev nG (d c:Int) (bias ts:LI):Ob:=.box [(.int .i64 d),(.int .i64 c),(.list false [.z] bias),(.list true kT5 ts)]
abbrev nI:Ob:=.box [(.int .i64 0),(.int .i64 0),(.int .i64 0),(.int .i64 0),(.int .i64 0),.zs]
abbrev Lo (d c:Int) (bias ts:LI) (D C:Int) (i:Nat) (x:Int):St:=
 ⟨[(1,(.ptr 1 0 0)),(2,(.ptr 2 0 0)),(3,(.ptr 3 0 0)),(14,(.int .i64 C)),(15,(.int .i64 x))],[(1,(some (nG d c bias ts))),(2,(some nI)),(3,(some (.box [(.int .i64 D),(.int .i64 C),(.int .i64 (cond (BK 0 i) (bF bias 0) 0)),(.int .i64 (cond (BK 1 i) (bF bias 1) 0)),(.int .i64 (cond (BK 2 i) (bF bias 2) 0)),.zs])))]⟩
theorem vS (N:Nat) (d c:Int) (bias ts:LI) (D:Int) (C:Nat) (hC:C≤3) (K:Out→St→DJ):∀ (m i n:Nat),i+m=C→m < n →
  DT (I9 N) (DF M0 [1,1,0,1,0,0]) ⟨[1,2,3,14,15],[1,2,3],[]⟩ n (Lo d c bias ts D C i (i:Int)) K=K (.exit 0) (Lo d c bias ts D C C (C:Int))
 | 0,i,n+1,hd,hn=>by
  have hi:i=C:=by omega
  subst hi;rw [DX];refine (Mb N i i d c bias ts 0 0 0 0 0 D i (cond (BK 0 i) (bF bias 0) 0) (cond (BK 1 i) (bF bias 1) 0) (cond (BK 2 i) (bF bias 2) 0) _ _).trans ?_;rw [AL (show ¬ (i:Int) < (i:Int) by omega),DG]
 | m+1,i,n+1,hd,hn=>by
  rw [DX];refine (Mb N C i d c bias ts 0 0 0 0 0 D C (cond (BK 0 i) (bF bias 0) 0) (cond (BK 1 i) (bF bias 1) 0) (cond (BK 2 i) (bF bias 2) 0) _ _).trans ?_;have ih:=vS N d c bias ts D C hC K m (i+1) n (by omega) (by omega);rw [AE (show (i:Int) < (C:Int) by omega),DE,AE (show 0≤(i:Int) by omega),DE,GQ (by omega)];have hi4:i=0∨i=1∨i=2:=by omega
  rcases hi4 with rfl | rfl | rfl
  ·rw [show decide (((0:Nat):Int)=ic 0)=true from rfl,DE];exact ih
  ·rw [show decide (((1:Nat):Int)=ic 0)=false from rfl,show decide (((1:Nat):Int)=ic 1)=true from rfl,DG,DE];exact ih
  ·rw [show decide (((2:Nat):Int)=ic 0)=false from rfl,show decide (((2:Nat):Int)=ic 1)=false from rfl,show decide (((2:Nat):Int)=ic 2)=true from rfl,DG,DG,DE];exact ih
 | _,_,0,_,h=>by omega
abbrev j5:List Kd:=[.z,(.list false [(.int .u64)])]
abbrev De:KP:=⟨[1,2,3,5],[1,2,3,500],[⟨(.cell 3 5),500,85,true,[.z,(.list false [(.int .u64)])]⟩]⟩
abbrev tK (d c:Int) (bias ts:LI) (D C b0 b1 b2:Int) (O:LI) (x:Int):St:=
 ⟨[(1,(.ptr 1 0 0)),(2,(.ptr 2 0 0)),(3,(.ptr 3 0 0)),(5,(.int .i64 x))],[(1,(some (nG d c bias ts))),(2,(some nI)),(3,(some (.box [(.int .i64 D),(.int .i64 C),(.int .i64 b0),(.int .i64 b1),(.int .i64 b2),(.row 500 0 O.length)]))),(500,(some (.row true 85 true j5 O)))]⟩
def XY (D C:Int) (t:IV):IV:=.agg [.int (DO (t.cell 0).toInt 0 (C - 1)),.list (MJ (t.cell 1).toList (t.cell 2).toList (t.cell 3).toList (t.cell 4).toList D)]
theorem zjj (N:Nat):TI.bytes (Env.tyd (I9 N) 85)=32:=by rfl
theorem Oi (N:Nat) (d c:Int) (bias ts:LI) (D C b0 b1 b2:Int) (hD:1≤D∧D≤4) (hC:1≤C∧C≤3):∀ (m i n:Nat) (O:LI),i+m=min ts.length 4→m < n→O.length=i →
  DT (I9 N) (DF M0 [1,1,1,0,1,0,0]) De n (tK d c bias ts D C b0 b1 b2 O (i:Int)) (DM 2 (DN (I9 N) (DF M0 [1,1,1,1]) (DP (I9 N) none [(va5 2 31)] [[.z,.z,.z,.z,.z,(.list true [.z,(.list false [(.int .u64)])])]]))) =
   some (.agg [.int .i64 D,.int .i64 C,.int .i64 b0,.int .i64 b1,.int .i64 b2,.list true j5 (O++((ts.take 4).drop i).map (XY D C))],[])
 | 0,i,n+1,O,hd,hn,hO=>by
  have fin:(DM 2 (DN (I9 N) (DF M0 [1,1,1,1]) (DP (I9 N) none [(va5 2 31)] [[.z,.z,.z,.z,.z,(.list true [.z,(.list false [(.int .u64)])])]]))) (.exit 2) (tK d c bias ts D C b0 b1 b2 O (i:Int))=some (.agg [.int .i64 D,.int .i64 C,.int .i64 b0,.int .i64 b1,.int .i64 b2,.list true j5 (O++((ts.take 4).drop i).map (XY D C))],[]):=by
   refine (Xy N i d c bias ts 0 0 0 0 0 D C b0 b1 b2 O.length O).trans ?_;rw [BZ,BI,C2 (by rw [A7]; omega),CC,DB]
  rw [DX];refine (Mc N i d c bias ts 0 0 0 0 0 D C b0 b1 b2 O.length O _ _).trans ?_;by_cases hp:i < ts.length
  ·rw [AE (show (i:Int) < ic ts.length by simp only [ic]; omega),DE,AL (show ¬ (i:Int) < 4 by omega),DG];exact fin
  ·rw [AL (show ¬ (i:Int) < ic ts.length by simp only [ic]; omega),DG];exact fin
 | m+1,i,n+1,O,hd,hn,hO=>by
  have hi:i < ts.length:=by omega
  rw [DX];refine (Mc N i d c bias ts 0 0 0 0 0 D C b0 b1 b2 O.length O _ _).trans ?_;have l1:∀ x:IV,AO 0 (AK 1 [x])=[x]:=fun _=>rfl
  have eg:AH ts (AD (i:Int)) default=ts[i]:=by rw [BE]; simp [hi]
  have w1:AA AB (C - 1)=C - 1:=EI (by omega) (by omega);obtain ⟨m1,_,_⟩:=G2 (n:=0) (lo:=0) (hi:=C - 1) (by omega) (by omega) (by omega);have ih:=Oi N d c bias ts D C b0 b1 b2 hD hC m (i+1) n (O++[XY D C ts[i]]) (by omega) (by omega) (by simp [hO]);rw [AE (show (i:Int) < ic ts.length by simp only [ic]; omega),AE (show (i:Int) < 4 by omega),AE (show 0≤(i:Int) by omega),w1,m1,AL (show ¬ (C - 1 - 0+1=0) by omega),AE hD.1,AE hD.2,eg,l1,zjj,CZ,
   AE (show (O.length+1)*32≤D6 by rw [hO]; unfold D6; omega),BI,GQ (by omega)]
  simp only [CJ,DE,DG];have ed:(ts.take 4).drop i=ts[i] :: (ts.take 4).drop (i+1):=by
   have h4:i < (ts.take 4).length:=by rw [A7]; omega
   rw [BF h4];congr 1;rw [List.getElem_take]
  rw [ed,AZ];rw [var] at ih;have eL:(O++[XY D C ts[i]]).length=O.length+1:=by simp
  rw [show tK d c bias ts D C b0 b1 b2 (O++[XY D C ts[i]]) ((i+1:Nat):Int)=⟨[(1,(.ptr 1 0 0)),(2,(.ptr 2 0 0)),(3,(.ptr 3 0 0)),(5,(.int .i64 ((i+1:Nat):Int)))],[(1,(some (nG d c bias ts))),(2,(some nI)),(3,(some (.box [(.int .i64 D),(.int .i64 C),(.int .i64 b0),(.int .i64 b1),(.int .i64 b2),(.row 500 0 (O++[XY D C ts[i]]).length)]))),(500,(some (.row true 85 true j5 (O++[XY D C ts[i]]))))]⟩ from rfl,eL] at ih;exact ih
 | _,_,0,_,_,h,_=>by omega
theorem zhH:DS PR B0 7 hZ:=by
 refine D2 [(32,PI),(36,bM),(35,R3)] [(3,⟨[1,2,3,14,15],[1,2,3],[]⟩),(8,De)] hZ [[.z,.z,.z,.z,.z,.list true [.z,.list false [.int .u64]]]] Tryz.func7 zaT
  ⟨lO,zhK,sZ,trivial⟩ ?_
 intro vs r hwf h;unfold hZ at h;split at h
 ·rename_i d c bias ts;refine ⟨20,?_⟩;rw [R.get_ok] at h;rw [← h];refine (zdM 20 d c bias ts).trans ?_;obtain ⟨_,d1,d2⟩:=G2 (n:=d) (lo:=1) (hi:=3) (by omega) (by omega) (by omega);obtain ⟨_,c1,c2⟩:=G2 (n:=c) (lo:=1) (hi:=3) (by omega) (by omega) (by omega);unfold RN Z2 SC KF NY;generalize DO d 1 3=D at d1 d2;generalize DO c 1 3=C' at c1 c2;obtain ⟨C,rfl⟩:∃ C:Nat,C'=C:=⟨C'.toNat,by omega⟩;refine (vS 20 d c bias ts D C (by omega) _ C 0 20 (by omega) (by omega)).trans ?_;refine (Xx 20 C C d c bias ts 0 0 0 0 0 D C (cond (BK 0 C) (bF bias 0) 0) (cond (BK 1 C) (bF bias 1) 0) (cond (BK 2 C) (bF bias 2) 0)).trans ?_;refine (Oi 20 d c bias ts D C _ _ _ ⟨d1,by omega⟩ ⟨c1,by omega⟩ (min ts.length 4) 0 20 [] (by omega) (by omega) rfl).trans ?_;rw [BZ,vac];have hC:C=1∨C=2∨C=3:=by omega
  rcases hC with rfl | rfl | rfl <;> rfl
 ·simp [R.get] at h
open Go Go.Proofs
def Qo (N:Nat):Env:=D0 [(54,R0),(52,bL),(27,bX),(53,V8),(13,R8)] [] 31 N
theorem zdV (N:Nat):DV (Qo N) xC [.tmp 0] [[.bool]] []=(some ((.bool true),[])):=by kernel_rfl
open Go Go.Proofs
def Qj (N:Nat):Env:=D0 [(74,V0)] [] 14 N
theorem zdO (N:Nat):DV (Qj N) wZ [.cell 0 31] [[.z,.z,.z,.z,.z,.list true [.z,.list false [.int .u64]]]] []=(some ((.agg [.i 1,.i 1,.i 3,.i 0,.i 0,.list true LN [(IV.agg [IV.int 0,IV.list [IV.int (H2 false 0 0 5 1 2),IV.int (H2 true 10 0 0 0 0),IV.int (H2 true 20 0 0 0 0)]])]]),[])):=by kernel_rfl
open Go Go.Proofs
theorem zhJ:DS PR B0 52 bL:=by
 refine D2 [(74,V0)] [] bL [[.z,.z,.z,.z,.z,.list true [.z,.list false [.int .u64]]]] Tryz.func52 zaV ⟨Ka,trivial⟩ ?_;intro vs r hwf h;unfold bL at h;split at h
 ·skip
  rw [R.get_ok] at h;refine ⟨0,(zdO 0).trans ?_⟩;rw [← h];rfl
 ·simp [R.get] at h
theorem zhO:DS PR B0 14 bP:=by
 refine D2 [(54,R0),(52,bL),(27,bX),(53,V8),(13,R8)] [] bP [[.bool]] Tryz.func14 za2 ⟨sY,zhJ,zhW,Km,tD,trivial⟩ ?_;intro vs r hwf h;unfold bP at h;split at h
 ·skip
  rw [R.get_ok] at h;refine ⟨0,(zdV 0).trans ?_⟩;rw [← h]
 ·simp [R.get] at h
open Go Go.Proofs
open Go Go.Proofs
theorem zhj:DS PR B0 7 dI:=Snd.mono zhH fun _ _ h=>Sw h
theorem zhi:DS PR B0 9 dH:=Snd.mono zhG fun _ _ h=>Sx h
theorem zc7 (s:BA) (k:Nat):(min (ic s.size) (k:Int)).toNat=min s.size k∧(decide (0≤min (ic s.size) (k:Int))&&decide (min (ic s.size) (k:Int)≤ic s.size))=true∧(s.extract 0 (min (ic s.size) (k:Int)).toNat).size≤k:=by
 have e:(min (ic s.size) (k:Int)).toNat=min s.size k:=by simp only [ic]; omega
 refine ⟨e,?_,?_⟩
 ·rw [AE (show 0≤min (ic s.size) (k:Int) by simp only [ic]; omega),AE (show min (ic s.size) (k:Int)≤ic s.size by omega)];rfl
 ·rw [vbd];omega
open Go Go.Proofs
open Go Go.Proofs
open Go Go.Proofs
open Go Go.Proofs
open Go Go.Proofs
theorem zgx (q:Qy):NC q.I=q:=rfl
open Go
def NW (j:Nat):Bx→List Int→List Bx
 | c,[]=>[c]
 | c,a :: r=>c.cutL (j:Int) a :: NW j (c.cutH (j:Int) a) r
def JV (m:Md) (q:Qy) (b:Bx):Nat→List Bx
 | 0=>[b]
 | j+1=>(JV m q b j).flatMap fun c=>NW j c (E2 m q b j)
def KX (m:Md) (q:Qy):Bool:=(JV m q (EV q) 5).all fun c=>!(GJ m q c.low c.s4.hi)
def F5 (m:Md) (q:Qy) (b:Bx):Nat→Nat
 | 0=>1
 | j+1=>F5 m q b j*(1+(E2 m q b j).length)
def KW (m:Md) (q:Qy) (b:Bx):Bool:=EP m&&B6 (F5 m q b 5) 1000000000000000
def HB (m:Md) (q:Qy) (b:Bx) (most:Int):Bool:=decide (ic (F5 m q b 5) > most)
def V4:DR
 | [m,q,b,.int .i64 most]=>IC m fun m=>IP q fun q=>IB b fun b=>.br (KW m q b) (.ok (.tup [.int .i64 (cond (HB m q b most) 0 (ic (F5 m q b 5))),.bool (!(HB m q b most))]) []) .no
 | _=>.no
def cB:DR
 | [m,q,b,.int .i64 most]=>IC m fun m=>IP q fun q=>IB b fun b=>
  .br (KW m q b&&decide (most≤65536)) (.ok (.tup [.list true EA (cond (HB m q b most) [] ((JV m q b 5).map Bx.I)),.bool (!(HB m q b most))]) []) .no
 | _=>.no
def qD (f:Nat→IV):Md:=⟨(f 0).toInt,(f 1).toInt,(f 2).toInt,(f 3).toInt,(f 4).toInt,(f 5).toList⟩
def rY (f:Nat→IV):Qy:=⟨(f 0).toInt,(f 1).toInt,(f 2).toInt,(f 3).toInt,(f 4).toInt,(f 5).toInt,(f 6).toInt,(f 7).toInt,(f 8).toInt,(f 9).toInt,(f 10).toInt,(f 11).toInt,(f 12).toInt,(f 13).toInt,(f 14).toInt,(f 15).toBool,(f 16).toInt⟩
def QT (f g:Nat→IV) (x:IV):Bool:=GJ (qD f) (rY g) (DY x).low (DY x).s4.hi
def cD:DR
 | [b,.iptr [.z,.z,.z,.z,.z,.list true [.z,.list false [.int .u64]]] f 0,
   .iptr [.z,.z,.z,.z,.z,.z,.z,.z,.z,.z,.z,.z,.z,.z,.z,.bool,.z] g 0]=>
  IB b fun b=>.ok (.bool (GJ (qD f) (rY g) b.low b.s4.hi)) []
 | _=>.no
def WZ (p:IV→Bool):LI→Int→Int
 | [],_ => -1
 | x :: r,i=>cond (p x) i (WZ p r (i+1))
def c7:DR
 | [.list true [.z,.z,.z,.z,.z,.z,.z,.z,.z,.z] l,.clo 61 [.iptr [.z,.z,.z,.z,.z,.list true [.z,.list false [.int .u64]]] f 0,
   .iptr [.z,.z,.z,.z,.z,.z,.z,.z,.z,.z,.z,.z,.z,.z,.z,.bool,.z] g 0]]=>
  .ok (.int .i64 (WZ (QT f g) l 0)) []
 | _=>.no
def cZ:DR
 | [.list true [.z,.z,.z,.z,.z,.z,.z,.z,.z,.z] l,.clo 61 [.iptr [.z,.z,.z,.z,.z,.list true [.z,.list false [.int .u64]]] f 0,
   .iptr [.z,.z,.z,.z,.z,.z,.z,.z,.z,.z,.z,.z,.z,.z,.z,.bool,.z] g 0]]=>
  .ok (.bool (l.any (QT f g))) []
 | _=>.no
def cC:DR
 | [m,q,.int .i64 most]=>IC m fun m=>IP q fun q=>
  .br (KW m q (EV q)&&decide (most≤65536)) (.ok (.tup [.bool (!(HB m q (EV q) most)&&KX m q),.bool (!(HB m q (EV q) most))]) []) .no
 | _=>.no
def N0 (m:Md) (q:Qy):Qy:=q.bud (cond (HB m q (EV q) 1500) 0 (2*ic (F5 m q (EV q) 5)))
def bQ:DR
 | [m,q]=>IC m fun m=>IP q fun q=>.br (KW m q (EV q)) (.ok (.tup [(N0 m q).V,.bool (!(HB m q (EV q) 1500))]) []) .no
 | _=>.no
def mW:DR
 | [f,.list true [.z,.z,.z,.z,.z,.z,.bool,.list false [.z]] _,.list true [.z,.list true [.bool,.z,.z],.z,.z,.z,.z,.z,.z] _,.str _,.bool _]=>
  uL f fun _=>.ok (.bool true) []
 | _=>.no
open Go Go.Proofs
def G3 (N:Nat):Env:=D0 [(10,VT),(12,aR),(15,VW),(11,RZ),(14,bP),(8,bQ),(16,cC),(13,R8),(9,dH),(7,dI)] [(5,⟨[1,2,4,10,11,12,13,14,15],[11,57],[⟨.tmp 14,57,39,true,W5⟩]⟩),(13,⟨[2,10,11,12,13,14,67,68],[11,57],[⟨.tmp 14,57,39,true,W5⟩]⟩),(27,⟨[10,11,14,124,125,126],[11,57],[⟨.tmp 14,57,39,true,W5⟩]⟩)] 165 N
abbrev RR (f:Ft) (l1 l2:LI) (b4 b10:Bool) (s12 s13:BA) (n14:Nat) (x15:Int) (lo57:LI):St:=⟨[(1,(.list true [.z,.z,.z,.z,.z,.z,.bool,.list false [.z]] l1)),(2,(.list true [.z,.list true D8,.z,.z,.z,.z,.z,.z] l2)),(4,(.bool b4)),(10,(.bool b10)),(11,(.ptr 11 0 0)),(12,(.str s12)),(13,(.str s13)),(14,(.row 57 0 n14)),(15,(.i x15))],[(11,(some (.box (Md.cs (Ft.M f))))),(57,(some (.row true 39 true [.z,.z,.z,.z,.z,.z,.z,.z,.z,.z,.z,.z,.z,.z,.z,.bool,.z] lo57)))]⟩
abbrev RS (f:Ft) (l2:LI) (b10:Bool) (s12 s13:BA) (n14:Nat) (x67 x68:Int) (lo57:LI):St:=⟨[(2,(.list true [.z,.list true D8,.z,.z,.z,.z,.z,.z] l2)),(10,(.bool b10)),(11,(.ptr 11 0 0)),(12,(.str s12)),(13,(.str s13)),(14,(.row 57 0 n14)),(67,(.i x67)),(68,(.i x68))],[(11,(some (.box (Md.cs (Ft.M f))))),(57,(some (.row true 39 true [.z,.z,.z,.z,.z,.z,.z,.z,.z,.z,.z,.z,.z,.z,.z,.bool,.z] lo57)))]⟩
abbrev KT (f:Ft) (b10:Bool) (n14:Nat) (l124:LI) (x125 x126:Int) (lo57:LI):St:=⟨[(10,(.bool b10)),(11,(.ptr 11 0 0)),(14,(.row 57 0 n14)),(124,(.list true [.z,.list true D8,.z,.z,.z,.z,.z,.z] l124)),(125,(.i x125)),(126,(.i x126))],[(11,(some (.box (Md.cs (Ft.M f))))),(57,(some (.row true 39 true [.z,.z,.z,.z,.z,.z,.z,.z,.z,.z,.z,.z,.z,.z,.z,.bool,.z] lo57)))]⟩
theorem zdU (N:Nat) (f:Ft) (a1 a2:LI) (a3:BA) (a4:Bool):DV (G3 N) IR [.tmp 10] [[.bool]] [(Ft.V f),.list true [.z,.z,.z,.z,.z,.z,.bool,.list false [.z]] a1,.list true [.z,.list true [.bool,.z,.z],.z,.z,.z,.z,.z,.z] a2,.str a3,.bool a4]=(cond (decide (0≤min (ic (AG a3)) 120)&&decide (min (ic (AG a3)) 120≤ic (AG a3))) (DT (G3 N) (DF IR [1,1,1,1,0,1,0,0]) ⟨[1,2,4,10,11,12,13,14,15],[11,57],[⟨(.tmp 14),57,39,true,[.z,.z,.z,.z,.z,.z,.z,.z,.z,.z,.z,.z,.z,.z,.z,.bool,.z]⟩]⟩ N (RR f a1 a2 a4 false ({data:=#[]}) (vaP a3 0 (AD (min (ic (AG a3)) 120))) 0 0 []) (DM 0 (DN (G3 N) (DF IR [1,1,1,1,1]) (DP (G3 N) none [.tmp 10] [[.bool]])))) none):=by kernel_rfl
theorem ziR (N:Nat) (f:Ft) (l1 l2:LI) (b4 b10:Bool) (s12 s13:BA) (n14:Nat) (x15:Int) (lo57:LI) (again:St→DJ) (k:Out→St→DJ):EX (G3 N) (DF IR [1,1,1,1,0,1,0,0]) (RR f l1 l2 b4 b10 s12 s13 n14 x15 lo57) (ED again ⟨[1,2,4,10,11,12,13,14,15],[11,57],[⟨(.tmp 14),57,39,true,[.z,.z,.z,.z,.z,.z,.z,.z,.z,.z,.z,.z,.z,.z,.z,.bool,.z]⟩]⟩ k)=(cond (decide (x15 < ic (AF l1))) (cond (decide (x15 < 4)) (cond (decide (0≤x15)&&decide (x15 < ic (AF l1))) (cond (SX (Ft.M f)) (cond (KW (Ft.M f) (GY (NP (AH l1 (AD x15) default)) (Ft.M f)) (EV (GY (NP (AH l1 (AD x15) default)) (Ft.M f)))) (cond (decide ((n14+1)*136≤D6)) (cond (decide (AG s12+AG (E6 (N0 (Ft.M f) (GY (NP (AH l1 (AD x15) default)) (Ft.M f))) (Md.d (Ft.M f)))≤strMax)) (cond (decide (AG (s12++E6 (N0 (Ft.M f) (GY (NP (AH l1 (AD x15) default)) (Ft.M f))) (Md.d (Ft.M f)))+AG {data:=#[10]}≤strMax)) (again (RR f l1 l2 b4 b10 (s12++E6 (N0 (Ft.M f) (GY (NP (AH l1 (AD x15) default)) (Ft.M f))) (Md.d (Ft.M f))++{data:=#[10]}) s13 (n14+1) (AA AB (x15+1)) (AK n14 lo57++[(Qy.I (Qy.bud (N0 (Ft.M f) (GY (NP (AH l1 (AD x15) default)) (Ft.M f))) (Qy.bu (N0 (Ft.M f) (GY (NP (AH l1 (AD x15) default)) (Ft.M f))))))]))) none) none) none) none) none) none) (k (.exit 0) (RR f l1 l2 b4 b10 s12 s13 n14 x15 lo57))) (k (.exit 0) (RR f l1 l2 b4 b10 s12 s13 n14 x15 lo57))):=by kernel_rfl
theorem Yc (N:Nat) (f:Ft) (l1 l2:LI) (b4 b10:Bool) (s12 s13:BA) (n14:Nat) (x15:Int) (lo57:LI):(DM 0 (DN (G3 N) (DF IR [1,1,1,1,1]) (DP (G3 N) none [.tmp 10] [[.bool]]))) (.exit 0) (RR f l1 l2 b4 b10 s12 s13 n14 x15 lo57)=(cond b4 (DT (G3 N) (DF IR [1,1,1,1,1,0,1,0,1,1,0,0]) ⟨[2,10,11,12,13,14,67,68],[11,57],[⟨(.tmp 14),57,39,true,[.z,.z,.z,.z,.z,.z,.z,.z,.z,.z,.z,.z,.z,.z,.z,.bool,.z]⟩]⟩ N (RS f l2 b10 s12 ({data:=#[]}) n14 (ic (n14 - 0)) 0 lo57) (DM 2 (DN (G3 N) (DF IR [1,1,1,1,1,1]) (DP (G3 N) none [.tmp 10] [[.bool]])))) (cond (decide (AG (H3 (Ft.M f)) < 4294967281)&&(decide (AG s12 < 4294967281)&&decide (AG s13 < 4294967281))) (cond (!UQ (H3 (Ft.M f)) s12 s13) (some ((.bool true),[])) (cond (decide (AG s13 < 4294967281)) (cond (Option.isSome (IY s13)) (cond (ic (AF (vav (IY s13) [])) != ic (n14 - 0)) (some ((.bool false),[])) (DT (G3 N) (DF IR [1,1,1,1,1,1,1,1,1,0,1,0,0]) ⟨[10,11,14,124,125,126],[11,57],[⟨(.tmp 14),57,39,true,[.z,.z,.z,.z,.z,.z,.z,.z,.z,.z,.z,.z,.z,.z,.z,.bool,.z]⟩]⟩ N (KT f b10 n14 (vav (IY s13) []) (ic (AF (vav (IY s13) []))) 0 lo57) (DM 4 (DN (G3 N) (DF IR [1,1,1,1,1,1,1,1,1,1]) (DP (G3 N) none [.tmp 10] [[.bool]]))))) (some ((.bool false),[]))) none)) none)):=by kernel_rfl
theorem Mh (N:Nat) (f:Ft) (l2:LI) (b10:Bool) (s12 s13:BA) (n14:Nat) (x67 x68:Int) (lo57:LI) (again:St→DJ) (k:Out→St→DJ):EX (G3 N) (DF IR [1,1,1,1,1,0,1,0,1,1,0,0]) (RS f l2 b10 s12 s13 n14 x67 x68 lo57) (ED again ⟨[2,10,11,12,13,14,67,68],[11,57],[⟨(.tmp 14),57,39,true,[.z,.z,.z,.z,.z,.z,.z,.z,.z,.z,.z,.z,.z,.z,.z,.bool,.z]⟩]⟩ k)=(cond (decide (x68 < x67)) (cond (decide (x68 < ic (AF l2))) (cond (decide (0≤x68)&&decide (x68 < ic (AF l2))) (cond (decide (0≤min (ic (AF (IV.toList (IV.cell (AH l2 (AD x68) default) 1)))) 30)&&decide (min (ic (AF (IV.toList (IV.cell (AH l2 (AD x68) default) 1)))) 30≤ic (AF (IV.toList (IV.cell (AH l2 (AD x68) default) 1))))) (cond (decide ((0+AF (AO 0 (AK (AD (min (ic (AF (IV.toList (IV.cell (AH l2 (AD x68) default) 1)))) 30)) (IV.toList (IV.cell (AH l2 (AD x68) default) 1)))))*24≤D6)) (cond (decide (AG s13+AG {data:=#[113,117,101,114,121,32]}≤strMax)) (cond (decide (AG (s13++{data:=#[113,117,101,114,121,32]})+AG (I3 x68)≤strMax)) (cond (decide (AG (s13++{data:=#[113,117,101,114,121,32]}++I3 x68)+AG {data:=#[10]}≤strMax)) (cond (decide (AG (GT {kind:=IV.toInt (IV.cell (AH l2 (AD x68) default) 0),proof:=AO 0 (AK (0+AF (AO 0 (AK (AD (min (ic (AF (IV.toList (IV.cell (AH l2 (AD x68) default) 1)))) 30)) (IV.toList (IV.cell (AH l2 (AD x68) default) 1))))) (AK 0 []++AO 0 (AK (AD (min (ic (AF (IV.toList (IV.cell (AH l2 (AD x68) default) 1)))) 30)) (IV.toList (IV.cell (AH l2 (AD x68) default) 1))))),w0:=IV.toInt (IV.cell (AH l2 (AD x68) default) 2),w1:=IV.toInt (IV.cell (AH l2 (AD x68) default) 3),w2:=IV.toInt (IV.cell (AH l2 (AD x68) default) 4),w3:=IV.toInt (IV.cell (AH l2 (AD x68) default) 5),twin:=IV.toInt (IV.cell (AH l2 (AD x68) default) 6),spent:=IV.toInt (IV.cell (AH l2 (AD x68) default) 7)})≤strMax)) (cond (decide (AG (s13++{data:=#[113,117,101,114,121,32]}++I3 x68++{data:=#[10]})+AG (GT {kind:=IV.toInt (IV.cell (AH l2 (AD x68) default) 0),proof:=AO 0 (AK (0+AF (AO 0 (AK (AD (min (ic (AF (IV.toList (IV.cell (AH l2 (AD x68) default) 1)))) 30)) (IV.toList (IV.cell (AH l2 (AD x68) default) 1))))) (AK 0 []++AO 0 (AK (AD (min (ic (AF (IV.toList (IV.cell (AH l2 (AD x68) default) 1)))) 30)) (IV.toList (IV.cell (AH l2 (AD x68) default) 1))))),w0:=IV.toInt (IV.cell (AH l2 (AD x68) default) 2),w1:=IV.toInt (IV.cell (AH l2 (AD x68) default) 3),w2:=IV.toInt (IV.cell (AH l2 (AD x68) default) 4),w3:=IV.toInt (IV.cell (AH l2 (AD x68) default) 5),twin:=IV.toInt (IV.cell (AH l2 (AD x68) default) 6),spent:=IV.toInt (IV.cell (AH l2 (AD x68) default) 7)})≤strMax)) (again (RS f l2 b10 s12 (s13++{data:=#[113,117,101,114,121,32]}++I3 x68++{data:=#[10]}++GT {kind:=IV.toInt (IV.cell (AH l2 (AD x68) default) 0),proof:=AO 0 (AK (0+AF (AO 0 (AK (AD (min (ic (AF (IV.toList (IV.cell (AH l2 (AD x68) default) 1)))) 30)) (IV.toList (IV.cell (AH l2 (AD x68) default) 1))))) (AK 0 []++AO 0 (AK (AD (min (ic (AF (IV.toList (IV.cell (AH l2 (AD x68) default) 1)))) 30)) (IV.toList (IV.cell (AH l2 (AD x68) default) 1))))),w0:=IV.toInt (IV.cell (AH l2 (AD x68) default) 2),w1:=IV.toInt (IV.cell (AH l2 (AD x68) default) 3),w2:=IV.toInt (IV.cell (AH l2 (AD x68) default) 4),w3:=IV.toInt (IV.cell (AH l2 (AD x68) default) 5),twin:=IV.toInt (IV.cell (AH l2 (AD x68) default) 6),spent:=IV.toInt (IV.cell (AH l2 (AD x68) default) 7)}) n14 x67 (AA AB (x68+1)) lo57)) none) none) none) none) none) none) none) none) (cond (decide (AG s13+AG {data:=#[113,117,101,114,121,32]}≤strMax)) (cond (decide (AG (s13++{data:=#[113,117,101,114,121,32]})+AG (I3 x68)≤strMax)) (cond (decide (AG (s13++{data:=#[113,117,101,114,121,32]}++I3 x68)+AG {data:=#[10]}≤strMax)) (cond (decide (AG (s13++{data:=#[113,117,101,114,121,32]}++I3 x68++{data:=#[10]})+AG (GT {kind:=4,proof:=[],w0:=0,w1:=0,w2:=0,w3:=0,twin:=0,spent:=0})≤strMax)) (again (RS f l2 b10 s12 (s13++{data:=#[113,117,101,114,121,32]}++I3 x68++{data:=#[10]}++GT {kind:=4,proof:=[],w0:=0,w1:=0,w2:=0,w3:=0,twin:=0,spent:=0}) n14 x67 (AA AB (x68+1)) lo57)) none) none) none) none)) (k (.exit 2) (RS f l2 b10 s12 s13 n14 x67 x68 lo57))):=by kernel_rfl
theorem Mi (N:Nat) (f:Ft) (b10:Bool) (n14:Nat) (l124:LI) (x125 x126:Int) (lo57:LI) (again:St→DJ) (k:Out→St→DJ):EX (G3 N) (DF IR [1,1,1,1,1,1,1,1,1,0,1,0,0]) (KT f b10 n14 l124 x125 x126 lo57) (ED again ⟨[10,11,14,124,125,126],[11,57],[⟨(.tmp 14),57,39,true,[.z,.z,.z,.z,.z,.z,.z,.z,.z,.z,.z,.z,.z,.z,.z,.bool,.z]⟩]⟩ k)=(cond (decide (x126 < x125)) (cond (decide (0≤x126)&&decide (x126 < ic (AF l124))) (cond (decide (0≤x126)&&decide (x126 < ic (n14 - 0))) (cond (KW (Ft.M f) (NC (AH lo57 (0+AD x126) default)) (EV (NC (AH lo57 (0+AD x126) default)))&&decide (1500≤65536)) (cond (IV.toInt (IV.cell (AH l124 (AD x126) default) 0)==4) (k .ret (KT f false n14 l124 x125 x126 lo57)) (cond (!HB (Ft.M f) (NC (AH lo57 (0+AD x126) default)) (EV (NC (AH lo57 (0+AD x126) default))) 1500) (cond (IV.toInt (IV.cell (AH l124 (AD x126) default) 0)==1) (cond (! (!HB (Ft.M f) (NC (AH lo57 (0+AD x126) default)) (EV (NC (AH lo57 (0+AD x126) default))) 1500&&KX (Ft.M f) (NC (AH lo57 (0+AD x126) default)))) (k .ret (KT f false n14 l124 x125 x126 lo57)) (cond (IV.toInt (IV.cell (AH l124 (AD x126) default) 0)==2) (cond (!HB (Ft.M f) (NC (AH lo57 (0+AD x126) default)) (EV (NC (AH lo57 (0+AD x126) default))) 1500&&KX (Ft.M f) (NC (AH lo57 (0+AD x126) default))) (k .ret (KT f false n14 l124 x125 x126 lo57)) (again (KT f b10 n14 l124 x125 (AA AB (x126+1)) lo57))) (again (KT f b10 n14 l124 x125 (AA AB (x126+1)) lo57)))) (cond (IV.toInt (IV.cell (AH l124 (AD x126) default) 0)==2) (cond (!HB (Ft.M f) (NC (AH lo57 (0+AD x126) default)) (EV (NC (AH lo57 (0+AD x126) default))) 1500&&KX (Ft.M f) (NC (AH lo57 (0+AD x126) default))) (k .ret (KT f false n14 l124 x125 x126 lo57)) (again (KT f b10 n14 l124 x125 (AA AB (x126+1)) lo57))) (again (KT f b10 n14 l124 x125 (AA AB (x126+1)) lo57)))) (again (KT f b10 n14 l124 x125 (AA AB (x126+1)) lo57)))) none) none) none) (k (.exit 4) (KT f b10 n14 l124 x125 x126 lo57))):=by kernel_rfl
theorem Yd (N:Nat) (f:Ft) (l2:LI) (b10:Bool) (s12 s13:BA) (n14:Nat) (x67 x68:Int) (lo57:LI):(DM 2 (DN (G3 N) (DF IR [1,1,1,1,1,1]) (DP (G3 N) none [.tmp 10] [[.bool]]))) (.exit 2) (RS f l2 b10 s12 s13 n14 x67 x68 lo57)=(cond (decide (AG (H3 (Ft.M f)) < 4294967281)&&(decide (AG s12 < 4294967281)&&decide (AG s13 < 4294967281))) (cond (!UQ (H3 (Ft.M f)) s12 s13) (some ((.bool true),[])) (cond (decide (AG s13 < 4294967281)) (cond (Option.isSome (IY s13)) (cond (ic (AF (vav (IY s13) [])) != ic (n14 - 0)) (some ((.bool false),[])) (DT (G3 N) (DF IR [1,1,1,1,1,1,1,1,1,0,1,0,0]) ⟨[10,11,14,124,125,126],[11,57],[⟨(.tmp 14),57,39,true,[.z,.z,.z,.z,.z,.z,.z,.z,.z,.z,.z,.z,.z,.z,.z,.bool,.z]⟩]⟩ N (KT f b10 n14 (vav (IY s13) []) (ic (AF (vav (IY s13) []))) 0 lo57) (DM 4 (DN (G3 N) (DF IR [1,1,1,1,1,1,1,1,1,1]) (DP (G3 N) none [.tmp 10] [[.bool]]))))) (some ((.bool false),[]))) none)) none):=by kernel_rfl
theorem Ye (N:Nat) (f:Ft) (b10:Bool) (n14:Nat) (l124:LI) (x125 x126:Int) (lo57:LI):(DM 4 (DN (G3 N) (DF IR [1,1,1,1,1,1,1,1,1,1]) (DP (G3 N) none [.tmp 10] [[.bool]]))) (.exit 4) (KT f b10 n14 l124 x125 x126 lo57)=(some ((.bool true),[])):=by kernel_rfl
open Go Go.Proofs
def TN (N:Nat):Env:=D0 [(96,R5)] [(3,⟨[3,4,5,6,8,9,10,12],[4,5,6],[]⟩)] 29 N
abbrev VK (m:Md) (q:Qy) (b:Bx) (x3 x8:Int) (b9:Bool) (x10 x12:Int):St:=⟨[(3,(.i x3)),(4,(.ptr 4 0 0)),(5,(.ptr 5 0 0)),(6,(.ptr 6 0 0)),(8,(.i x8)),(9,(.bool b9)),(10,(.i x10)),(12,(.i x12))],[(4,(some (.box (Md.cs m)))),(5,(some (.box (Qy.cs q)))),(6,(some (.box (Bx.cs b))))]⟩
theorem zed (N:Nat) (m:Md) (q:Qy) (b:Bx) (most:Int):DV (TN N) WO [.tmp 8,.tmp 9] [[.z],[.bool]] [(Md.V m),(Qy.V q),(Bx.V b),.i most]=(DT (TN N) (DF WO [1,1,0,1,0,0]) ⟨[3,4,5,6,8,9,10,12],[4,5,6],[]⟩ N (VK m q b most 0 false 1 0) (DM 0 (DN (TN N) (DF WO [1,1,1]) (DP (TN N) none [.tmp 8,.tmp 9] [[.z],[.bool]])))):=by kernel_rfl
theorem Mp (N:Nat) (m:Md) (q:Qy) (b:Bx) (x3 x8:Int) (b9:Bool) (x10 x12:Int) (again:St→DJ) (k:Out→St→DJ):EX (TN N) (DF WO [1,1,0,1,0,0]) (VK m q b x3 x8 b9 x10 x12) (ED again ⟨[3,4,5,6,8,9,10,12],[4,5,6],[]⟩ k)=(cond (decide (x12 < 5)) (cond (EP m&&GZ x12) (again (VK m q b x3 x8 b9 (AA AB (x10*AA AB (1+ic (AF (iZ (E2 m q b (AD x12))))))) (AA AB (x12+1)))) none) (k (.exit 0) (VK m q b x3 x8 b9 x10 x12))):=by kernel_rfl
theorem Ym (N:Nat) (m:Md) (q:Qy) (b:Bx) (x3 x8:Int) (b9:Bool) (x10 x12:Int):(DM 0 (DN (TN N) (DF WO [1,1,1]) (DP (TN N) none [.tmp 8,.tmp 9] [[.z],[.bool]]))) (.exit 0) (VK m q b x3 x8 b9 x10 x12)=(cond (decide (x10 > x3)) (some ((.tup [.i 0,.bool false]),[])) (some ((.tup [.i x10,.bool true]),[]))):=by kernel_rfl
def I1 (N:Nat):Env:=D0 [(124,NO),(37,V4),(96,R5)] [(6,⟨[4,5,6,8,9,12,33],[4,5,6,500],[⟨.tmp 12,500,37,true,EA⟩]⟩),(11,⟨[4,5,6,8,9,13,14,15,33,41,42,43],[4,5,6,500,501],[⟨.tmp 15,501,37,true,EA⟩]⟩),(14,⟨[4,5,6,8,9,13,14,15,17,33,41,42,43,47,48,49],[4,5,6,17,500,501],[⟨.tmp 15,501,37,true,EA⟩]⟩)] 73 N
abbrev VI (m:Md) (a1:Qy) (a2:Bx) (b9:Bool) (n12:Nat) (x33:Int) (u00:LI):St:=⟨[(4,(.ptr 4 0 0)),(5,(.ptr 5 0 0)),(6,(.ptr 6 0 0)),(8,.zs),(9,(.bool b9)),(12,(.row 500 0 n12)),(33,(.i x33))],[(4,(some (.box (Md.cs m)))),(5,(some (.box (Qy.cs a1)))),(6,(some (.box (Bx.cs a2)))),(500,(some (.row true 37 true EA u00)))]⟩
abbrev VJ (m:Md) (a1:Qy) (a2:Bx) (b9:Bool) (x13:Int) (l14:LI) (n15:Nat) (x33:Int) (n41:Nat) (x42 x43:Int) (u00 u01:LI):St:=⟨[(4,(.ptr 4 0 0)),(5,(.ptr 5 0 0)),(6,(.ptr 6 0 0)),(8,.zs),(9,(.bool b9)),(13,(.i x13)),(14,(.list false [.z] l14)),(15,(.row 501 0 n15)),(33,(.i x33)),(41,(.row 500 0 n41)),(42,(.i x42)),(43,(.i x43))],[(4,(some (.box (Md.cs m)))),(5,(some (.box (Qy.cs a1)))),(6,(some (.box (Bx.cs a2)))),(500,(some (.row true 37 true EA u00))),(501,(some (.row true 37 true EA u01)))]⟩
abbrev TF (m:Md) (a1:Qy) (a2:Bx) (b9:Bool) (x13:Int) (l14:LI) (n15:Nat) (x33:Int) (n41:Nat) (x42 x43:Int) (l47:LI) (x48 x49:Int) (c:Bx) (u00 u01:LI):St:=⟨[(4,(.ptr 4 0 0)),(5,(.ptr 5 0 0)),(6,(.ptr 6 0 0)),(8,.zs),(9,(.bool b9)),(13,(.i x13)),(14,(.list false [.z] l14)),(15,(.row 501 0 n15)),(17,(.ptr 17 0 0)),(33,(.i x33)),(41,(.row 500 0 n41)),(42,(.i x42)),(43,(.i x43)),(47,(.list false [.z] l47)),(48,(.i x48)),(49,(.i x49))],[(4,(some (.box (Md.cs m)))),(5,(some (.box (Qy.cs a1)))),(6,(some (.box (Bx.cs a2)))),(17,(some (.box (Bx.cs c)))),(500,(some (.row true 37 true EA u00))),(501,(some (.row true 37 true EA u01)))]⟩
theorem zec (N:Nat) (m:Md) (a1:Qy) (a2:Bx) (a3:Int):DV (I1 N) JC [.tmp 8,.tmp 9] [[.list true [.z,.z,.z,.z,.z,.z,.z,.z,.z,.z]],[.bool]] [(Md.V m),(Qy.V a1),(Bx.V a2),.i a3]=(cond (KW m a1 a2) (cond (!!HB m a1 a2 a3) (some ((.tup [.list true EA [],.bool false]),[])) (DT (I1 N) (DF JC [1,1,1,0,1,0,0]) ⟨[4,5,6,8,9,12,33],[4,5,6,500],[⟨(.tmp 12),500,37,true,EA⟩]⟩ N (VI m a1 a2 false 1 0 [(Bx.I a2)]) (DM 0 (DN (I1 N) (DF JC [1,1,1,1]) (DP (I1 N) none [.tmp 8,.tmp 9] [[.list true EA],[.bool]]))))) none):=by kernel_rfl
theorem Mm (N:Nat) (m:Md) (a1:Qy) (a2:Bx) (b9:Bool) (n12:Nat) (x33:Int) (u00:LI) (again:St→DJ) (k:Out→St→DJ):EX (I1 N) (DF JC [1,1,1,0,1,0,0]) (VI m a1 a2 b9 n12 x33 u00) (ED again ⟨[4,5,6,8,9,12,33],[4,5,6,500],[⟨(.tmp 12),500,37,true,EA⟩]⟩ k)=(cond (decide (x33 < 5)) (cond (EP m&&GZ x33) (DT (I1 N) (DF JC [1,1,1,0,1,0,0,1,1,0,0,1,1,1,0,1,0,0]) ⟨[4,5,6,8,9,13,14,15,33,41,42,43],[4,5,6,500,501],[⟨(.tmp 15),501,37,true,EA⟩]⟩ N (VJ m a1 a2 b9 x33 (iZ (E2 m a1 a2 (AD x33))) 0 x33 n12 (ic (n12 - 0)) 0 u00 []) (DM 2 (DN (I1 N) (DF JC [1,1,1,0,1,0,0,1,1,0,0,1,1,1,1]) (DM 1 (DN (I1 N) (DF JC [1,1,1,0,1,0,0,1,1,1]) (ED again ⟨[4,5,6,8,9,12,33],[4,5,6,500],[⟨(.tmp 12),500,37,true,EA⟩]⟩ k)))))) none) (k (.exit 0) (VI m a1 a2 b9 n12 x33 u00))):=by kernel_rfl
theorem Mn (N:Nat) (m:Md) (a1:Qy) (a2:Bx) (b9:Bool) (x13:Int) (l14:LI) (n15:Nat) (x33:Int) (n41:Nat) (x42 x43:Int) (u00 u01:LI) (again:St→DJ) (k:Out→St→DJ):EX (I1 N) (DF JC [1,1,1,0,1,0,0,1,1,0,0,1,1,1,0,1,0,0]) (VJ m a1 a2 b9 x13 l14 n15 x33 n41 x42 x43 u00 u01) (ED again ⟨[4,5,6,8,9,13,14,15,33,41,42,43],[4,5,6,500,501],[⟨(.tmp 15),501,37,true,EA⟩]⟩ k)=(cond (decide (x43 < x42)) (cond (decide (0≤x43)&&decide (x43 < ic (n41 - 0))) (DT (I1 N) (DF JC [1,1,1,0,1,0,0,1,1,0,0,1,1,1,0,1,0,0,1,1,0,0,1,0,1,0,0]) ⟨[4,5,6,8,9,13,14,15,17,33,41,42,43,47,48,49],[4,5,6,17,500,501],[⟨(.tmp 15),501,37,true,EA⟩]⟩ N (TF m a1 a2 b9 x13 l14 n15 x33 n41 x42 x43 l14 (ic (AF l14)) 0 (DY (AH u00 (0+AD x43) default)) u00 u01) (DM 4 (DN (I1 N) (DF JC [1,1,1,0,1,0,0,1,1,0,0,1,1,1,0,1,0,0,1,1,0,0,1,1]) (DM 3 (DN (I1 N) (DF JC [1,1,1,0,1,0,0,1,1,0,0,1,1,1,0,1,0,0,1,1,1]) (ED again ⟨[4,5,6,8,9,13,14,15,33,41,42,43],[4,5,6,500,501],[⟨(.tmp 15),501,37,true,EA⟩]⟩ k)))))) none) (k (.exit 2) (VJ m a1 a2 b9 x13 l14 n15 x33 n41 x42 x43 u00 u01))):=by kernel_rfl
theorem Yj (N:Nat) (m:Md) (a1:Qy) (a2:Bx) (b9:Bool) (n12:Nat) (x33:Int) (u00:LI):(DM 0 (DN (I1 N) (DF JC [1,1,1,1]) (DP (I1 N) none [.tmp 8,.tmp 9] [[.list true EA],[.bool]]))) (.exit 0) (VI m a1 a2 b9 n12 x33 u00)=(some ((.tup [.list true EA (AO 0 (AK n12 u00)),.bool true]),[])):=by kernel_rfl
theorem Mo (N:Nat) (m:Md) (a1:Qy) (a2:Bx) (b9:Bool) (x13:Int) (l14:LI) (n15:Nat) (x33:Int) (n41:Nat) (x42 x43:Int) (l47:LI) (x48 x49:Int) (c:Bx) (u00 u01:LI) (again:St→DJ) (k:Out→St→DJ):EX (I1 N) (DF JC [1,1,1,0,1,0,0,1,1,0,0,1,1,1,0,1,0,0,1,1,0,0,1,0,1,0,0]) (TF m a1 a2 b9 x13 l14 n15 x33 n41 x42 x43 l47 x48 x49 c u00 u01) (ED again ⟨[4,5,6,8,9,13,14,15,17,33,41,42,43,47,48,49],[4,5,6,17,500,501],[⟨(.tmp 15),501,37,true,EA⟩]⟩ k)=(cond (decide (x49 < x48)) (cond (decide (0≤x49)&&decide (x49 < ic (AF l47))) (cond (GZ x13) (cond (decide ((n15+1)*80≤D6)) (again (TF m a1 a2 b9 x13 l14 (n15+1) x33 n41 x42 x43 l47 x48 (AA AB (x49+1)) (Bx.cutH c x13 (IV.toInt (AH l47 (AD x49) default))) u00 (AK n15 u01++[(Bx.I (Bx.cutL c x13 (IV.toInt (AH l47 (AD x49) default))))]))) none) none) none) (k (.exit 4) (TF m a1 a2 b9 x13 l14 n15 x33 n41 x42 x43 l47 x48 x49 c u00 u01))):=by kernel_rfl
theorem Yk (N:Nat) (again:St→DJ) (k:Out→St→DJ) (m:Md) (a1:Qy) (a2:Bx) (b9:Bool) (x13:Int) (l14:LI) (n15:Nat) (x33:Int) (n41:Nat) (x42 x43:Int) (u00 u01:LI):(DM 2 (DN (I1 N) (DF JC [1,1,1,0,1,0,0,1,1,0,0,1,1,1,1]) (DM 1 (DN (I1 N) (DF JC [1,1,1,0,1,0,0,1,1,1]) (ED again ⟨[4,5,6,8,9,12,33],[4,5,6,500],[⟨(.tmp 12),500,37,true,EA⟩]⟩ k))))) (.exit 2) (VJ m a1 a2 b9 x13 l14 n15 x33 n41 x42 x43 u00 u01)=(again (VI m a1 a2 b9 n15 (AA AB (x33+1)) u01)):=by kernel_rfl
theorem Yl (N:Nat) (again:St→DJ) (k:Out→St→DJ) (m:Md) (a1:Qy) (a2:Bx) (b9:Bool) (x13:Int) (l14:LI) (n15:Nat) (x33:Int) (n41:Nat) (x42 x43:Int) (l47:LI) (x48 x49:Int) (c:Bx) (u00 u01:LI):(DM 4 (DN (I1 N) (DF JC [1,1,1,0,1,0,0,1,1,0,0,1,1,1,0,1,0,0,1,1,0,0,1,1]) (DM 3 (DN (I1 N) (DF JC [1,1,1,0,1,0,0,1,1,0,0,1,1,1,0,1,0,0,1,1,1]) (ED again ⟨[4,5,6,8,9,13,14,15,33,41,42,43],[4,5,6,500,501],[⟨(.tmp 15),501,37,true,EA⟩]⟩ k))))) (.exit 4) (TF m a1 a2 b9 x13 l14 n15 x33 n41 x42 x43 l47 x48 x49 c u00 u01)=(cond (decide ((n15+1)*80≤D6)) (again (VJ m a1 a2 b9 x13 l14 (n15+1) x33 n41 x42 (AA AB (x43+1)) u00 (AK n15 u01++[Bx.I c]))) none):=by kernel_rfl
def Rf (N:Nat):Env:=D0 [(63,VZ),(62,R6)] [] 13 N
theorem zef (N:Nat) (b:Bx) (f g:Nat→IV):DV (Rf N) xS [.tmp 4] [[.bool]] [(Bx.V b),.iptr [.z,.z,.z,.z,.z,.list true [.z,.list false [.int .u64]]] f 0,.iptr [.z,.z,.z,.z,.z,.z,.z,.z,.z,.z,.z,.z,.z,.z,.z,.bool,.z] g 0]=(some ((.bool (GJ {d:=IV.toInt (f 0),c:=IV.toInt (f 1),b0:=IV.toInt (f 2),b1:=IV.toInt (f 3),b2:=IV.toInt (f 4),ts:=IV.toList (f 5)} {k:=IV.toInt (g 0),c:=IV.toInt (g 1),a0:=IV.toInt (g 2),b0:=IV.toInt (g 3),a1:=IV.toInt (g 4),b1:=IV.toInt (g 5),a2:=IV.toInt (g 6),b2:=IV.toInt (g 7),a3:=IV.toInt (g 8),b3:=IV.toInt (g 9),a4:=IV.toInt (g 10),b4:=IV.toInt (g 11),lo:=IV.toInt (g 12),hi:=IV.toInt (g 13),ft:=IV.toInt (g 14),fl:=IV.toBool (g 15),bu:=IV.toInt (g 16)} (Bx.low b) (Sp.hi (Bx.s4 b)))),[])):=by kernel_rfl
def QQ (N:Nat):Env:=D0 [(61,cD)] [(2,⟨[0,1,4,7,8],[],[]⟩)] 19 N
abbrev QH (f g:Nat→IV) (l0:LI) (x4 x7 x8:Int):St:=⟨[(0,(.list true EA l0)),(1,(.clo 61 [.iptr [.z,.z,.z,.z,.z,.list true LN] f 0,.iptr [.z,.z,.z,.z,.z,.z,.z,.z,.z,.z,.z,.z,.z,.z,.z,.bool,.z] g 0])),(4,(.i x4)),(7,(.i x7)),(8,(.i x8))],[]⟩
theorem zeP (N:Nat) (l:LI) (f g:Nat→IV):DV (QQ N) T8 [.tmp 4] [[.z]] [.list true [.z,.z,.z,.z,.z,.z,.z,.z,.z,.z] l,.clo 61 [.iptr [.z,.z,.z,.z,.z,.list true [.z,.list false [.int .u64]]] f 0,.iptr [.z,.z,.z,.z,.z,.z,.z,.z,.z,.z,.z,.z,.z,.z,.z,.bool,.z] g 0]]=(DT (QQ N) (DF T8 [1,0,1,0,0]) ⟨[0,1,4,7,8],[],[]⟩ N (QH f g l 0 (ic (AF l)) 0) (DM 0 (DN (QQ N) (DF T8 [1,1]) (DP (QQ N) none [.tmp 4] [[.z]])))):=by kernel_rfl
theorem My (N:Nat) (f g:Nat→IV) (l0:LI) (x4 x7 x8:Int) (again:St→DJ) (k:Out→St→DJ):EX (QQ N) (DF T8 [1,0,1,0,0]) (QH f g l0 x4 x7 x8) (ED again ⟨[0,1,4,7,8],[],[]⟩ k)=(cond (decide (x8 < x7)) (cond (decide (0≤x8)&&decide (x8 < ic (AF l0))) (cond (GJ (qD f) (rY g) (Bx.low (DY (AH l0 (AD x8) default))) (Sp.hi (Bx.s4 (DY (AH l0 (AD x8) default))))) (k .ret (QH f g l0 x8 x7 x8)) (again (QH f g l0 x4 x7 (AA AB (x8+1))))) none) (k (.exit 0) (QH f g l0 x4 x7 x8))):=by kernel_rfl
theorem Yz (N:Nat) (f g:Nat→IV) (l0:LI) (x4 x7 x8:Int):(DM 0 (DN (QQ N) (DF T8 [1,1]) (DP (QQ N) none [.tmp 4] [[.z]]))) (.exit 0) (QH f g l0 x4 x7 x8)=(some ((.i (-1)),[])):=by kernel_rfl
theorem Za (N:Nat) (f g:Nat→IV) (l0:LI) (x4 x7 x8:Int):(DM 0 (DN (QQ N) (DF T8 [1,1]) (DP (QQ N) none [.tmp 4] [[.z]]))) .ret (QH f g l0 x4 x7 x8)=(some ((.i x4),[])):=by kernel_rfl
def Rz (N:Nat):Env:=D0 [(125,c7)] [] 9 N
theorem zeN (N:Nat) (l:LI) (f g:Nat→IV):DV (Rz N) yM [.tmp 4] [[.bool]] [.list true [.z,.z,.z,.z,.z,.z,.z,.z,.z,.z] l,.clo 61 [.iptr [.z,.z,.z,.z,.z,.list true [.z,.list false [.int .u64]]] f 0,.iptr [.z,.z,.z,.z,.z,.z,.z,.z,.z,.z,.z,.z,.z,.z,.z,.bool,.z] g 0]]=(some ((.bool (decide (WZ (QT f g) l 0≥0))),[])):=by kernel_rfl
def Re (N:Nat):Env:=D0 [(59,cB),(38,PK),(60,cZ)] [] 25 N
def qE (m:Md):LI:=[.int m.d,.int m.c,.int m.b0,.int m.b1,.int m.b2,.list m.ts]
def rZ (q:Qy):LI:=[.int q.k,.int q.c,.int q.a0,.int q.b0,.int q.a1,.int q.b1,.int q.a2,.int q.b2,.int q.a3,.int q.b3,.int q.a4,.int q.b4,.int q.lo,.int q.hi,.int q.ft,.bool q.fl,.int q.bu]
theorem zee (N:Nat) (m:Md) (q:Qy) (most:Int):DV (Re N) xR [.tmp 6,.tmp 7] [[.bool],[.bool]] [(Md.V m),(Qy.V q),.i most]=(cond (KW m q (EV q)&&decide (most≤65536)) (cond (!!HB m q (EV q) most) (some ((.tup [.bool false,.bool false]),[])) (some ((.tup [.bool (! (List.any (cond (HB m q (EV q) most) [] (A2 Bx.I (JV m q (EV q) 5))) (QT (IL (qE m)) (IL (rZ q))))),.bool true]),[]))) none):=by kernel_rfl
def Qp (N:Nat):Env:=D0 [(37,V4),(38,PK)] [] 21 N
theorem zdW (N:Nat) (m:Md) (q:Qy):DV (Qp N) xD [.cell 4 39,.tmp 5] [[.z,.z,.z,.z,.z,.z,.z,.z,.z,.z,.z,.z,.z,.z,.z,.bool,.z],[.bool]] [(Md.V m),(Qy.V q)]=(cond (KW m q (EV q)) (some ((.tup [.agg [.i (Qy.k q),.i (Qy.c q),.i (Qy.a0 q),.i (Qy.b0 q),.i (Qy.a1 q),.i (Qy.b1 q),.i (Qy.a2 q),.i (Qy.b2 q),.i (Qy.a3 q),.i (Qy.b3 q),.i (Qy.a4 q),.i (Qy.b4 q),.i (Qy.lo q),.i (Qy.hi q),.i (Qy.ft q),.bool (Qy.fl q),.i (AA AB (2*bif HB m q (EV q) 1500 then 0 else ic (F5 m q (EV q) 5)))],.bool (!HB m q (EV q) 1500)]),[])) none):=by kernel_rfl
open Go Go.Proofs
theorem nW (m:Md) (q:Qy) (b:Bx):∀ j,1≤F5 m q b j
 | 0=>AW _
 | j+1=>by
  rw [F5];exact (Nat.mul_le_mul (nW m q b j) (show 1≤1+(E2 m q b j).length by omega):1*1≤_)
theorem iY (m:Md) (q:Qy) (b:Bx):∀ d j,F5 m q b j≤F5 m q b (j+d)
 | 0,j=>AW _
 | d+1,j=>by
  rw [← vaG,F5];exact CW (iY m q b d j) (vaK _ (by omega))
theorem oT {m:Md} {q:Qy} {b:Bx} (h:KW m q b=true):EP m=true∧F5 m q b 5≤1000000000000000:=by
 unfold KW at h;rw [AI] at h;exact ⟨h.1,AM h.2⟩
theorem o7 {j:Nat} (h:j < 5):GZ (j:Int)=true:=by
 unfold GZ;rw [AE (by omega),AE (by omega)];rfl
theorem zV (N:Nat) {m:Md} {q:Qy} {b:Bx} (hm:EP m=true) (hc:F5 m q b 5≤1000000000000000) (most:Int) (K:Out→St→DJ) :
  ∀ (d j n:Nat),j+d=5→d < n→DT (TN N) (DF WO [1,1,0,1,0,0]) ⟨[3,4,5,6,8,9,10,12],[4,5,6],[]⟩ n (VK m q b most 0 false (ic (F5 m q b j)) (j:Int)) K =
   K (.exit 0) (VK m q b most 0 false (ic (F5 m q b 5)) ((5:Nat):Int))
 | 0,j,n+1,hd,_=>by
  obtain rfl:j=5:=by omega
  rw [DX,Mp,AL (show ¬ ((5:Nat):Int) < 5 by omega),DG]
 | d+1,j,n+1,hd,hn=>by
  have h1:=iY m q b d (j+1);rw [show j+1+d=5 by omega] at h1;have e0:F5 m q b (j+1)=F5 m q b j*(1+(E2 m q b j).length):=rfl;have h2:1+(E2 m q b j).length≤F5 m q b (j+1):=by
   rw [e0];exact Nat.le_mul_of_pos_left _ (nW m q b j)
  have e1:AA AB (1+ic (iZ (E2 m q b (AD (j:Int)))).length)=((1+(E2 m q b j).length:Nat):Int):=by
   rw [BE,MF,EI (by simp only [ic]; omega) (by simp only [ic]; omega)];simp only [ic];omega
  have e2:AA AB (ic (F5 m q b j)*((1+(E2 m q b j).length:Nat):Int))=ic (F5 m q b (j+1)):=by
   have e3:ic (F5 m q b j)*((1+(E2 m q b j).length:Nat):Int)=ic (F5 m q b (j+1)):=by
    rw [e0];simp only [ic];rw [Int.natCast_mul]
   rw [e3];exact EI (by simp only [ic]; omega) (by simp only [ic]; omega)
  rw [DX,Mp,AE (show ((j:Nat):Int) < 5 by omega),DE,hm,o7 (by omega),BY,DE,e1,e2,GQ (by omega)];exact zV N hm hc most K d (j+1) n (by omega) (by omega)
 | 0,_,0,_,h=>by omega
 | _+1,_,0,_,h=>by omega
theorem Kh:DS PR B0 37 V4:=by
 refine D2 [(96,R5)] [(3,⟨[3,4,5,6,8,9,10,12],[4,5,6],[]⟩)] V4 [[.z],[.bool]] Tryz.func37 zbk ⟨s7,trivial⟩ ?_;intro vs r hwf h;unfold V4 at h;split at h
 ·rename_i m q b most;replace h:=IO h;obtain ⟨m,rfl,h⟩:=h;replace h:=I0 h;obtain ⟨q,rfl,h⟩:=h;replace h:=IN h;obtain ⟨b,rfl,h⟩:=h;cases hg:(KW m q b) with
  | false=>rw [hg] at h; simp [R.get] at h
  | true=>
  rw [hg,R.get_br,DE,R.get_ok] at h;obtain ⟨hm,hc⟩:=oT hg;refine ⟨6,(zed 6 m q b most).trans ?_⟩;rw [← h];refine (zV 6 hm hc most _ 5 0 6 rfl (by omega)).trans ?_;refine (Ym 6 m q b most 0 false (ic (F5 m q b 5)) ((5:Nat):Int)).trans ?_;unfold HB;cases decide (ic (F5 m q b 5) > most) <;> rfl
 ·simp [R.get] at h
def QX (j:Nat):Bx→List Int→LI
 | _,[]=>[]
 | c,a :: r=>(c.cutL (j:Int) a).I :: QX j (c.cutH (j:Int) a) r
def jA (j:Nat):Bx→List Int→Bx
 | c,[]=>c
 | c,a :: r=>jA j (c.cutH (j:Int) a) r
theorem zX (j:Nat):∀ (L:List Int) (c:Bx),(NW j c L).map Bx.I=QX j c L++[(jA j c L).I]
 | [],c=>rfl
 | a :: r,c=>by
  rw [NW,AZ,zX j r];rfl
theorem Ab (j:Nat):∀ (L:List Int) (c:Bx),(QX j c L).length=L.length
 | [],c=>rfl
 | a :: r,c=>by rw [QX,AN,Ab j r,AN]
theorem nY (j:Nat):∀ (L:List Int) (c:Bx),(NW j c L).length=L.length+1
 | [],c=>rfl
 | a :: r,c=>by rw [NW,AN,nY j r,AN]
abbrev zcB:KP:=⟨[4,5,6,8,9,12,33],[4,5,6,500],[⟨(.tmp 12),500,37,true,EA⟩]⟩
abbrev zcC:KP:=⟨[4,5,6,8,9,13,14,15,33,41,42,43],[4,5,6,500,501],[⟨(.tmp 15),501,37,true,EA⟩]⟩
abbrev zcD:KP:=⟨[4,5,6,8,9,13,14,15,17,33,41,42,43,47,48,49],[4,5,6,17,500,501],[⟨(.tmp 15),501,37,true,EA⟩]⟩
theorem zD (N:Nat) (m:Md) (q:Qy) (b:Bx) {j:Nat} (hj:j < 5) (x33:Int) (n41:Nat) (x42 x43:Int) (P:LI) (L:List Int) (hL:L.length≤65536) (K:Out→St→DJ) :
  ∀ (d i n:Nat) (c:Bx) (O:LI),i+d=L.length→d < n→O.length+d≤65536 →
   DT (I1 N) (DF JC [1,1,1,0,1,0,0,1,1,0,0,1,1,1,0,1,0,0,1,1,0,0,1,0,1,0,0]) zcD n (TF m q b false (j:Int) (iZ L) O.length x33 n41 x42 x43 (iZ L) (ic (iZ L).length) (i:Int) c P O) K =
    K (.exit 4) (TF m q b false (j:Int) (iZ L) (O++QX j c (L.drop i)).length x33 n41 x42 x43 (iZ L) (ic (iZ L).length) (ic (iZ L).length) (jA j c (L.drop i)) P (O++QX j c (L.drop i)))
 | 0,i,n+1,c,O,hd,_,_=>by
  have hi:i=L.length:=by omega
  subst hi;rw [DX,Mo,IT (by rw [MF]; exact AW _),DG,vad];show K (.exit 4) _=K (.exit 4) (TF m q b false (j:Int) (iZ L) (O++[]).length x33 n41 x42 x43 (iZ L) (ic (iZ L).length) (ic (iZ L).length) c P (O++[]));rw [DB];congr 2;simp only [ic,MF]
 | d+1,i,n+1,c,O,hd,hn,hO=>by
  have hi:i < L.length:=by omega
  have hi':i < (iZ L).length:=by rw [MF]; exact hi
  have eg:IV.toInt (AH (iZ L) (AD (i:Int)) default)=L[i]:=by
   unfold iZ;rw [BE,BS,B9,A5 hi];rfl
  rw [DX,Mo,H0 hi',DE,IH,BY,DE,o7 hj,DE,AE (show (O.length+1)*80≤D6 by unfold D6; omega),DE,eg,GQ (by omega),BI,BF hi];have ih:=zD N m q b hj x33 n41 x42 x43 P L hL K d (i+1) n (c.cutH (j:Int) L[i]) (O++[(c.cutL (j:Int) L[i]).I]) (by omega) (by omega) (by rw [AU,CZ]; omega);rw [var] at ih;have e1:(O++[(c.cutL (j:Int) L[i]).I]).length=O.length+1:=by rw [AU,CZ]
  rw [e1] at ih;exact ih
 | 0,_,0,_,_,_,h,_=>by omega
 | _+1,_,0,_,_,_,h,_=>by omega
theorem zF (N:Nat) (hN:65536 < N) (m:Md) (q:Qy) (b:Bx) {j:Nat} (hj:j < 5) (x33:Int) (P:LI) (hP:P.length≤65536) (L:List Int) (hL:L.length≤65536) (K:Out→St→DJ) :
  ∀ (d i n:Nat) (O:LI),i+d=P.length→d < n→O.length+d*(L.length+1)≤65536 →
   DT (I1 N) (DF JC [1,1,1,0,1,0,0,1,1,0,0,1,1,1,0,1,0,0]) zcC n (VJ m q b false (j:Int) (iZ L) O.length x33 P.length (ic (P.length - 0)) (i:Int) P O) K =
    K (.exit 2) (VJ m q b false (j:Int) (iZ L) (O++(P.drop i).flatMap fun x=>(NW j (DY x) L).map Bx.I).length x33 P.length (ic (P.length - 0)) (ic P.length) P (O++(P.drop i).flatMap fun x=>(NW j (DY x) L).map Bx.I))
 | 0,i,n+1,O,hd,_,_=>by
  have hi:i=P.length:=by omega
  subst hi;rw [DX,Mn,vaj,IT (AW _),DG,vad,List.flatMap_nil,DB]
 | d+1,i,n+1,O,hd,hn,hO=>by
  have hi:i < P.length:=by omega
  have hd2:(d+1)*(L.length+1)=d*(L.length+1)+(L.length+1):=vaR _ _;rw [DX,Mn,vaj,H0 hi,DE,IH,BY,DE,BJ,IS hi];refine (zD N m q b hj x33 P.length (ic P.length) (i:Int) P L hL _ L.length 0 N (DY P[i]) O (by omega) (by omega) (by omega)).trans ?_;have hlen:(O++QX j (DY P[i]) (L.drop 0)).length=O.length+L.length:=by rw [AU,Ab,BZ]
  refine (Yl ..).trans ?_;rw [AE (show ((O++QX j (DY P[i]) (L.drop 0)).length+1)*80≤D6 by rw [hlen]; unfold D6; omega),DE,BI];rw [GQ (by omega)];have ih:=zF N hN m q b hj x33 P hP L hL K d (i+1) n (O++(NW j (DY P[i]) L).map Bx.I) (by omega) (by omega) (by rw [AU,BQ,nY]; omega);rw [BF hi,vai,← var];rw [zX] at ih ⊢;rw [vaj] at ih;rw [BZ];rw [← var] at ih ⊢;have e1:(O++QX j (DY P[i]) L++[(jA j (DY P[i]) L).I]).length=(O++QX j (DY P[i]) L).length+1:=by rw [AU,CZ]
  rw [e1] at ih;exact ih
 | 0,_,0,_,_,h,_=>by omega
 | _+1,_,0,_,_,h,_=>by omega
theorem zE (m:Md) (q:Qy) (b:Bx):∀ j,(JV m q b j).length=F5 m q b j
 | 0=>rfl
 | j+1=>by
  have key:∀ (l:List Bx),(l.flatMap fun c=>NW j c (E2 m q b j)).length=l.length*(1+(E2 m q b j).length):=by
   intro l
   induction l with
   | nil=>simp
   | cons c r ih=>
    rw [vai,AU,ih,nY,AN,vaR];omega
  rw [JV,F5,key,zE m q b j]
theorem zG (N:Nat) (hN:65536 < N) {m:Md} {q:Qy} {b:Bx} (hm:EP m=true) (hc:F5 m q b 5≤65536) (K:Out→St→DJ) :
  ∀ (d j n:Nat),j+d=5→d < n →
   DT (I1 N) (DF JC [1,1,1,0,1,0,0]) zcB n (VI m q b false ((JV m q b j).map Bx.I).length (j:Int) ((JV m q b j).map Bx.I)) K =
    K (.exit 0) (VI m q b false ((JV m q b 5).map Bx.I).length ((5:Nat):Int) ((JV m q b 5).map Bx.I))
 | 0,j,n+1,hd,_=>by
  obtain rfl:j=5:=by omega
  rw [DX,Mm,AL (show ¬ ((5:Nat):Int) < 5 by omega),DG]
 | d+1,j,n+1,hd,hn=>by
  have hj:j < 5:=by omega
  have h1:=iY m q b d (j+1);rw [show j+1+d=5 by omega] at h1;have e0:F5 m q b (j+1)=F5 m q b j*(1+(E2 m q b j).length):=rfl;have h2:1+(E2 m q b j).length≤F5 m q b (j+1):=by
   rw [e0];exact Nat.le_mul_of_pos_left _ (nW m q b j)
  have hl:((JV m q b j).map Bx.I).length=F5 m q b j:=by rw [BQ,zE]
  have h3:F5 m q b j≤F5 m q b (j+1):=iY m q b 1 j;rw [DX,Mm,AE (show ((j:Nat):Int) < 5 by omega),DE,hm,o7 hj,BY,DE,BE];refine (zF N hN m q b hj (j:Int) ((JV m q b j).map Bx.I) (by omega) (E2 m q b j) (by omega) _ ((JV m q b j).map Bx.I).length 0 N [] (by omega) (by rw [hl]; omega) (by
   rw [hl,BB,BJ,Nat.add_comm (E2 m q b j).length 1,← e0];omega)).trans ?_
  refine (Yk ..).trans ?_;rw [GQ (by omega),BZ,vac];have e5:(((JV m q b j).map Bx.I).flatMap fun x=>(NW j (DY x) (E2 m q b j)).map Bx.I)=(JV m q b (j+1)).map Bx.I:=by
   rw [JV,List.flatMap_map,List.map_flatMap];rfl
  rw [e5];exact zG N hN hm hc K d (j+1) n (by omega) (by omega)
 | 0,_,0,_,h=>by omega
 | _+1,_,0,_,h=>by omega
theorem zh0:DS PR B0 59 cB:=by
 refine D2 [(124,NO),(37,V4),(96,R5)] [(6,⟨[4,5,6,8,9,12,33],[4,5,6,500],[⟨.tmp 12,500,37,true,EA⟩]⟩),(11,⟨[4,5,6,8,9,13,14,15,33,41,42,43],[4,5,6,500,501],[⟨.tmp 15,501,37,true,EA⟩]⟩),(14,⟨[4,5,6,8,9,13,14,15,17,33,41,42,43,47,48,49],[4,5,6,17,500,501],[⟨.tmp 15,501,37,true,EA⟩]⟩)] cB [[.list true [.z,.z,.z,.z,.z,.z,.z,.z,.z,.z]],[.bool]] Tryz.func59 zbj ⟨gG,Kh,s7,trivial⟩ ?_;intro vs r hwf h;unfold cB at h;split at h
 ·rename_i m q b most;replace h:=IO h;obtain ⟨m,rfl,h⟩:=h;replace h:=I0 h;obtain ⟨q,rfl,h⟩:=h;replace h:=IN h;obtain ⟨b,rfl,h⟩:=h;cases hg:(KW m q b&&decide (most≤65536)) with
  | false=>rw [hg] at h; simp [R.get] at h
  | true=>
  rw [hg,R.get_br,DE,R.get_ok] at h;rw [AI] at hg;obtain ⟨hg,hmost⟩:=hg;have hmost:=A0 hmost;obtain ⟨hm,hc⟩:=oT hg;refine ⟨65537,(zec 65537 m q b most).trans ?_⟩;rw [← h,hg,DE,Bool.not_not];cases ho:HB m q b most with
  | true=>
   rw [DE,DE];rfl
  | false=>
   rw [DG,DG];have hc2:F5 m q b 5≤65536:=by
    unfold HB at ho
    have:=BH ho
    simp only [ic] at this;omega
   refine (zG 65537 (by omega) hm hc2 _ 5 0 65537 rfl (by omega)).trans ?_;refine (Yj 65537 m q b false _ ((5:Nat):Int) _).trans ?_;rw [BI,BZ];rfl
 ·simp [R.get] at h
theorem zh2:DS PR B0 61 cD:=by
 refine D2 [(63,VZ),(62,R6)] [] cD [[.bool]] Tryz.func61 zbn ⟨Jz,s8,trivial⟩ ?_;intro vs r hwf h;unfold cD at h;split at h
 ·rename_i b f g;replace h:=IN h;obtain ⟨b,rfl,h⟩:=h;rw [R.get_ok] at h;refine ⟨0,(zef 0 b f g).trans ?_⟩;rw [← h];rfl
 ·simp [R.get] at h
theorem wA (N:Nat) (l:LI) (f g:Nat→IV) (hl:l.length≤strMax) (K:Out→St→DJ) (hx:∀ x,K (.exit 0) (QH f g l 0 (ic l.length) x)=some (.int .i64 (-1),[])) (hr:∀ x y,K .ret (QH f g l x (ic l.length) y)=some (.int .i64 x,[])) :
  ∀ (d i n:Nat),i+d=l.length→d < n→DT (QQ N) (DF T8 [1,0,1,0,0]) ⟨[0,1,4,7,8],[],[]⟩ n (QH f g l 0 (ic l.length) (i:Int)) K=some (.int .i64 (WZ (QT f g) (l.drop i) (i:Int)),[])
 | 0,i,n+1,hd,_=>by
  have hi:i=l.length:=by omega
  subst hi;rw [DX,My,IT (AW _),DG,vad];exact hx _
 | d+1,i,n+1,hd,hn=>by
  have hi:i < l.length:=by omega
  have m':strMax=140737488355327:=rfl;rw [DX,My,H0 hi,DE,IH,BY,DE,IS hi,GQ (by omega),BF hi,WZ];show cond (QT f g l[i]) _ _=_;cases QT f g l[i] with
  | true=>
   rw [DE,DE];exact hr _ _
  | false=>
   rw [DG,DG];exact wA N l f g hl K hx hr d (i+1) n (by omega) (by omega)
 | 0,_,0,_,h=>by omega
 | _+1,_,0,_,h=>by omega
theorem ziu:DS PR B0 125 c7:=by
 refine D2 [(61,cD)] [(2,⟨[0,1,4,7,8],[],[]⟩)] c7 [[.z]] Tryz.func125 zbT ⟨zh2,trivial⟩ ?_;intro vs r hwf h;unfold c7 at h;split at h
 ·rename_i l f g;rw [R.get_ok] at h;refine ⟨l.length+1,(zeP (l.length+1) l f g).trans ?_⟩;rw [← h];have hl:l.length≤strMax:=by
   have hb:=(hwf (by simp [K2])).1;simp only [QE,wfL] at hb;exact hb.1
  exact wA (l.length+1) l f g hl _ (fun x=>Yz (l.length+1) f g l 0 (ic l.length) x) (fun x y=>Za (l.length+1) f g l x (ic l.length) y) l.length 0 (l.length+1) (by omega) (by omega)
 ·simp [R.get] at h
theorem Ck (p:IV→Bool):∀ (l:LI) (i:Nat),decide (WZ p l (i:Int)≥0)=l.any p
 | [],i=>rfl
 | x :: l,i=>by
  rw [WZ,List.any_cons];cases p x with
  | true=>
   rw [DE,Bool.true_or];exact AE (by omega)
  | false=>
   rw [DG,vaw];exact Ck p l (i+1)
theorem zis:DS PR B0 60 cZ:=by
 refine D2 [(125,c7)] [] cZ [[.bool]] Tryz.func60 zbR ⟨ziu,trivial⟩ ?_;intro vs r hwf h;unfold cZ at h;split at h
 ·rename_i l f g;rw [R.get_ok] at h;refine ⟨0,(zeN 0 l f g).trans ?_⟩;rw [← h]
  have:=Ck (QT f g) l 0
  rw [show ((0:Nat):Int)=0 from rfl] at this;rw [this]
 ·simp [R.get] at h
theorem Uk (m:Md) (q:Qy) (c:Bx):QT (IL (qE m)) (IL (rZ q)) c.I=GJ m q c.low c.s4.hi:=rfl
theorem Fu (m:Md) (q:Qy):∀ l:List Bx,(!((l.map Bx.I).any (QT (IL (qE m)) (IL (rZ q)))))=l.all fun c=>!(GJ m q c.low c.s4.hi)
 | []=>rfl
 | c :: r=>by rw [AZ,List.any_cons,vaM,Uk,Bool.not_or,Fu m q r]
theorem zh1:DS PR B0 16 cC:=by
 refine D2 [(59,cB),(38,PK),(60,cZ)] [] cC [[.bool],[.bool]] Tryz.func16 zbm ⟨zh0,lQ,zis,trivial⟩ ?_;intro vs r hwf h;unfold cC at h;split at h
 ·rename_i m q most;replace h:=IO h;obtain ⟨m,rfl,h⟩:=h;replace h:=I0 h;obtain ⟨q,rfl,h⟩:=h;cases hg:(KW m q (EV q)&&decide (most≤65536)) with
  | false=>rw [hg] at h; simp [R.get] at h
  | true=>
  rw [hg,R.get_br,DE,R.get_ok] at h;refine ⟨0,(zee 0 m q most).trans ?_⟩;rw [← h,hg,DE,Bool.not_not];unfold KX;cases HB m q (EV q) most with
  | true=>rfl
  | false=>
   rw [DG,DG,Fu];rfl
 ·simp [R.get] at h
theorem zhP:DS PR B0 8 bQ:=by
 refine D2 [(37,V4),(38,PK)] [] bQ [[.z,.z,.z,.z,.z,.z,.z,.z,.z,.z,.z,.z,.z,.z,.z,.bool,.z],[.bool]] Tryz.func8 za3 ⟨Kh,lQ,trivial⟩ ?_;intro vs r hwf h;unfold bQ at h;split at h
 ·rename_i m q;replace h:=IO h;obtain ⟨m,rfl,h⟩:=h;replace h:=I0 h;obtain ⟨q,rfl,h⟩:=h;cases hg:(KW m q (EV q)) with
  | false=>rw [hg] at h; simp [R.get] at h
  | true=>
  rw [hg,R.get_br,DE,R.get_ok] at h;obtain ⟨hm,hc⟩:=oT hg;refine ⟨0,(zdW 0 m q).trans ?_⟩;rw [← h,hg,DE];have e:AA AB (2*cond (HB m q (EV q) 1500) 0 (ic (F5 m q (EV q) 5)))=cond (HB m q (EV q) 1500) 0 (2*ic (F5 m q (EV q) 5)):=by
   cases HB m q (EV q) 1500 with
   | true=>rfl
   | false=>
    rw [DG,DG];exact EI (by simp only [ic]; omega) (by simp only [ic]; omega)
  rw [e];rfl
 ·simp [R.get] at h
open Go
theorem zcM {l:LI} (h:0 < l.length):l=GE l++[E0 l]:=by
 unfold GE E0;rw [BS,A5 (show l.length - 1 < l.length by omega)]
 have:=List.take_succ_eq_append_getElem (l:=l) (i:=l.length - 1) (by omega)
 rw [show l.length - 1+1=l.length by omega,BI] at this;exact this
theorem Dt {l:LI} {y:IV} (h:y∈l):y=E0 l∨y∈GE l:=by
 have hl:0 < l.length:=List.length_pos_of_mem h;rw [zcM hl] at h;rcases AV.1 h with h | h
 ·exact .inr h
 ·exact .inl (BX.1 h)
def jT (lo:LI × LI) (p:Pt) (t:Int):Prop:=∃ y,(y∈lo.1∨y∈lo.2)∧(DY y).has p t=true
theorem zgk {x:IV} {left out:LI} {most:Int} {st:Int × Int} {lo:LI × LI} (hl:∀ y∈left,(DY y).good) (hd:SI (ic left.length,most) x=some st) (hp:RI (left,out) x=some lo) {p:Pt} {t:Int}
  (h:jT (left,out) p t):jT lo p t:=by
 obtain ⟨hne,hr,hd⟩:=oG hd;have hlen:0 < left.length:=by simp only [ic] at hne; omega
 have ht:(EB left).good:=hl _ (Z1 hlen).1;obtain ⟨y,hy,hb⟩:=h;unfold RI at hp;rcases hd with ⟨hs,_⟩ | ⟨hs,_⟩
 ·rw [hs] at hp;obtain rfl:=B3 hp;rcases hy with hy | hy
  ·rcases Dt hy with rfl | hy
   ·exact ⟨(EB left).I,.inr (AV.2 (.inr (BX.2 rfl))),by rw [KD]; exact hb⟩
   ·exact ⟨y,.inl hy,hb⟩
  ·exact ⟨y,.inr (AV.2 (.inl hy)),hb⟩
 ·rw [hs] at hp;have hpl:=sG hr hs;have ej:E9 x=(((E9 x).toNat:Nat):Int):=by omega
  have hj:(E9 x).toNat < 5:=by omega
  cases hc:(decide (F2 x < ((EB left).g (E9 x).toNat).lo)||decide (F2 x≥((EB left).g (E9 x).toNat).hi)) with
  | true=>simp only [hc,BG,B1] at hp; cases hp
  | false=>
   simp only [hc,BG] at hp;obtain rfl:=B3 hp;simp only [Bool.or_eq_false_iff,BV] at hc;have hgj:=ht (E9 x).toNat hj;rcases hy with hy | hy
   ·rcases Dt hy with rfl | hy
    ·have hb:(EB left).has p t=true:=hb;by_cases hle:co p t (E9 x).toNat≤F2 x
     ·refine ⟨((EB left).cutL (E9 x) (F2 x)).I,.inl (AV.2 (.inr (by simp))),?_⟩;rw [KD,ej];exact (i8 hj).2 ⟨hb,hle⟩
     ·refine ⟨((EB left).cutH (E9 x) (F2 x)).I,.inl (AV.2 (.inr (by simp))),?_⟩;rw [KD,ej];exact (i7 ht.ok hj (by omega)).2 ⟨hb,by omega⟩
    ·exact ⟨y,.inl (AV.2 (.inl hy)),hb⟩
   ·exact ⟨y,.inr hy,hb⟩
theorem Ho:∀ {l:LI} {left out:LI} {most:Int} {st:Int × Int} {lo:LI × LI},(∀ y∈left,(DY y).good)→(∀ y∈out,(DY y).good)→NZ l (ic left.length,most)=some st→K4 l (left,out)=some lo →
  st.1=ic lo.1.length∧∀ (p:Pt) (t:Int),jT (left,out) p t→jT lo p t
 | [],left,out,most,st,lo,_,_,hd,hp=>by
  obtain rfl:=B3 hp;obtain rfl:=B3 hd;exact ⟨rfl,fun p t h=>h⟩
 | x :: l,left,out,most,st,lo,hl,ho,hd,hp=>by
  rw [NZ] at hd;rw [K4] at hp;cases h1:SI (ic left.length,most) x with
  | none=>rw [h1] at hd; cases hd
  | some s1=>
   cases h2:RI (left,out) x with
   | none=>rw [h2] at hp; cases hp
   | some l1=>
    rw [h1] at hd;rw [h2] at hp;obtain ⟨g1,g2,g3⟩:=Hq hl ho h1 h2;have hcov:=fun p t h=>zgk (p:=p) (t:=t) hl h1 h2 h
    obtain ⟨a,b⟩:=l1;obtain ⟨c,d⟩:=s1;obtain rfl:c=ic a.length:=g3;obtain ⟨e1,e2⟩:=Ho g1 g2 hd hp;exact ⟨e1,fun p t h=>e2 p t (hcov p t h)⟩
theorem Wk {l:LI} (h:LK l > 0):∃ most,NZ l (1,1)=some (0,most):=by
 obtain ⟨st,hst⟩:=oF h;unfold LK at h;cases hc:decide (ic l.length > 65536) with
 | true=>rw [hc,DE] at h; omega
 | false=>
  rw [hc,DG,hst] at h;replace h:cond (!(st.1==0)||decide (st.2 > 200)) 0 st.2 > 0:=h;cases hz:st.1==0 with
  | false=>rw [hz] at h; exact absurd h (by show ¬ (0:Int) > 0; omega)
  | true=>
   have:st.1=0:=by simpa using hz
   obtain ⟨a,b⟩:=st;obtain rfl:a=0:=this;exact ⟨b,hst⟩
theorem zgh {b:Bx} (hb:b.good) {l outs:LI} (h:KK b l=some outs) {p:Pt} {t:Int} (hh:b.has p t=true):∃ y∈outs,(DY y).has p t=true:=by
 unfold KK at h;cases hd:decide (LK l > 0) with
 | false=>rw [hd,DG] at h; cases h
 | true=>
  rw [hd,DE] at h;obtain ⟨most,hst⟩:=Wk (A0 hd);cases hp:K4 l ([b.I],[]) with
  | none=>rw [hp] at h; cases h
  | some lo=>
   rw [hp] at h;obtain rfl:=B3 h;obtain ⟨e1,e2⟩:=Ho (left:=[b.I]) (out:=[]) (most:=1) (fun y hy=>by obtain rfl:=BX.1 hy; rw [KD]; exact hb) (fun y hy=>by cases hy) hst hp;have e1:(0:Int)=ic lo.1.length:=e1;have hnil:lo.1=[]:=vaX (by simp only [ic] at e1; omega);obtain ⟨y,hy,hyb⟩:=e2 p t ⟨b.I,.inl (BX.2 rfl),by rw [KD]; exact hh⟩;rcases hy with hy | hy
   ·rw [hnil] at hy; cases hy
   ·exact ⟨y,hy,hyb⟩
theorem zgg {m:Md} {q:Qy} {v:Vd} (h:NB m q v=true) (hk:v.kind=1) {p:Pt} {t:Int} (hh:(EV q).has p t=true):GJ m q p t=false:=by
 unfold NB at h;rw [AI] at h;obtain ⟨hr,h⟩:=h;have hg:=gN hr;rw [show (v.kind==1)=true by rw [hk]; rfl,DE] at h;cases hps:KK (EV q) v.proof with
 | none=>rw [hps] at h; cases h
 | some outs=>
  rw [hps] at h;obtain ⟨y,hy,hyb⟩:=zgh hg hps hh;exact zK (Hn hg hps y hy).ok (CS.1 h y hy) hyb
theorem zgf {m:Md} {q:Qy} {v:Vd} (h:NB m q v=true) (hk:v.kind=2):FH m q=true∧(EV q).has v.p v.twin=true∧GJ m q v.p v.twin=true:=by
 unfold NB at h;rw [AI] at h;obtain ⟨hr,h⟩:=h;rw [show (v.kind==1)=false by rw [hk]; rfl,DG,show (v.kind==2)=true by rw [hk]; rfl,DE,AI] at h;exact ⟨hr,h.1,h.2⟩
end Go.FM
