/-
  A small machine that reckons what a call comes to; the functions of the program, one by one. (A PROOF THAT IS GONE THROUGH, IN PLAIN LEAN: its boxes are r, WHAT A PROOF PROVES: its boxes cover the start's, each is cl, CELLS: a box parted at all of its cuts: each cell has no cut, and so on.)
-/
import Derived.Test.YtihliihljmfhlaaGreatDc
import Derived.Lib.LaidU8
import Derived.OpenShut
import Derived.Test.YtihliihljmfhlaaGreatRows
import Derived.ProofKit
import Derived.LaidMore
import Derived.Deep.DeepWitnessRowRef
set_option linter.all false
set_option maxRecDepth 100000
open Array renaming length_toList→CS,getElem?_eq_some_iff→vaY
open BitVec renaming ofInt→AU,toNat→B1
open Bool renaming and_eq_true→AG,not_true→BB,and_self→BK,true_and→BL,not_eq_true'→BO,not_false→BX,false_and→B5,or_eq_false_iff→CM,and_true→vay,and_false→vaM,eq_iff_iff→va5
open Go.DataW renaming weights→vbn,weightsEach→vbu
open Go.IntKind renaming wrap→AA,i64→AC,u64→AI,bits→AK
open Go.ResultVar renaming tmp→BH,cell→vbe
open Int renaming toNat→AD,toNat_natCast→A0,fdiv→CH,le_refl→CQ,fdiv_eq_ediv_of_nonneg→vau
open List renaming length→AF,getD→AH,length_cons→AP,mem_append→AQ,mem_cons_self→AR,length_append→AS,mem_cons→AT,getElem?_eq_getElem→AV,mem_cons_of_mem→AW,take→AY,map_cons→A2,getElem?_eq_some_iff→A5,length_take→A7,drop_eq_getElem_cons→BD,getElem?_cons_zero→BE,getElem?_eq_none→BF,take_length→BG,mem_singleton→BJ,getD_eq_getElem?_getD→BY,length_nil→BZ,getElem?_map→B6,drop→CB,drop_zero→CG,drop_length→CI,length_map→CL,length_singleton→CT,length_drop→vab,map_nil→vac,all_eq_true→vah,cons_append→vap,foldl_cons→var,flatMap_cons→vas,rel_of_pairwise_cons→vav,take_of_length_le→vax,getElem_mem→vaA,length_set→vaF,mem_of_getElem?→vaJ,mem_map_of_mem→vaP,eq_nil_of_length_eq_zero→vaR,filter_cons→vaU,nil_append→vaX,map→va3,append_nil→va8,range'→vbb,append_assoc→vbf
open List.Pairwise renaming of_cons→van
open Nat renaming le_of_ble_eq_true→AL,le_refl→AO,zero_add→A3,beq→A4,blt→A8,ble→BM,ble_eq_true_of_le→BW,zero_le→B7,le_trans→CR,add_zero→vaa,add_mul→vaf,eq_of_beq_eq_true→vaj,sub_zero→vam,add_assoc→vaD,le_mul_of_pos_right→vaH,succ_mul→vaL
open Option renaming map_eq_some_iff→vao
open Option.some renaming injEq→AB,inj→B3
open Prod.mk renaming injEq→AM
namespace Go.FM
open Go
theorem l9 {x:IV} {left most:Int} {st:Int × Int} (h:K9 (left,most) x=some st):left≠0∧Q9 x=true∧((KV x=true∧st=(left - 1,most))∨(KV x=false∧st=(left+1,max most (left+1)))):=by
 unfold K9 at h;cases hz:(left==0) with
 | true=>simp only [hz,Bool.true_or,CF] at h; cases h
 | false=>
  have hne:left≠0:=by simpa using hz
  simp only [hz,Bool.false_or] at h;cases hr:Q9 x with
  | false=>rw [hr] at h; cases h
  | true=>
   rw [hr] at h;simp only [BB,BQ] at h;cases hs:KV x with
   | true=>rw [hs] at h; exact ⟨hne,rfl,.inl ⟨rfl,(B3 h).symm⟩⟩
   | false=>rw [hs] at h; exact ⟨hne,rfl,.inr ⟨rfl,(B3 h).symm⟩⟩
theorem rD {x:IV} (h:Q9 x=true) (hs:KV x=false):0≤FI x∧FI x≤4:=by
 unfold Q9 at h;rw [hs,CV,AG,AN,AN] at h;exact h
theorem qE {x:IV} {left out:LI} {most:Int} {st:Int × Int} {lo:LI × LI} (hl:∀ y∈left,(C9 y).good) (ho:∀ y∈out,(C9 y).good) (hd:K9 (ic left.length,most) x=some st) (hp:L9 (left,out) x=some lo) :
  (∀ y∈lo.1,(C9 y).good)∧(∀ y∈lo.2,(C9 y).good)∧st.1=ic lo.1.length:=by
 obtain ⟨hne,hr,hd⟩:=l9 hd;have hlen:0 < left.length:=by simp only [ic] at hne; omega
 have ht:(C3 left).good:=hl _ (Z7 hlen).1;unfold L9 at hp;rcases hd with ⟨hs,rfl⟩ | ⟨hs,rfl⟩
 ·rw [hs] at hp;obtain rfl:=B3 hp;refine ⟨fun y hy=>hl y (V9 hy),fun y hy=>?_,?_⟩
  ·rcases AQ.1 hy with hy | hy
   ·exact ho y hy
   ·obtain rfl:=BJ.1 hy;rw [FG]; exact ht
  ·show ic left.length - 1=ic (E5 left).length;rw [Q5]; simp only [ic]; omega
 ·rw [hs] at hp;have hpl:=rD hr hs;have ej:FI x=(((FI x).toNat:Nat):Int):=by omega
  cases hc:(decide (HP x < ((C3 left).g (FI x).toNat).lo)||decide (HP x≥((C3 left).g (FI x).toNat).hi)) with
  | true=>simp only [hc,BQ,CF] at hp; cases hp
  | false=>
   simp only [hc,BQ] at hp;obtain rfl:=B3 hp;simp only [CM,BI] at hc;refine ⟨fun y hy=>?_,ho,?_⟩
   ·rcases AQ.1 hy with hy | hy
    ·exact hl y (V9 hy)
    ·rcases AT.1 hy with rfl | hy
     ·rw [FG,ej]; exact XO ht (by omega) (by omega) (by omega)
     ·obtain rfl:=BJ.1 hy;rw [FG,ej]; exact bQ ht (by omega) (by omega) (by omega)
   ·show ic left.length+1=ic (E5 left++[_,_]).length;rw [AS,Q5];simp only [ic,AP,BZ]; omega
theorem qD:∀ {l:LI} {left out:LI} {most:Int} {st:Int × Int} {lo:LI × LI},(∀ y∈left,(C9 y).good)→(∀ y∈out,(C9 y).good)→JG l (ic left.length,most)=some st→J4 l (left,out)=some lo→∀ y∈lo.2,(C9 y).good
 | [],left,out,most,st,lo,_,ho,_,hp=>by
  obtain rfl:=B3 hp;exact ho
 | x :: l,left,out,most,st,lo,hl,ho,hd,hp=>by
  rw [JG] at hd;rw [J4] at hp;cases h1:K9 (ic left.length,most) x with
  | none=>rw [h1] at hd; cases hd
  | some s1=>
   cases h2:L9 (left,out) x with
   | none=>rw [h2] at hp; cases hp
   | some l1=>
    rw [h1] at hd;rw [h2] at hp;obtain ⟨g1,g2,g3⟩:=qE hl ho h1 h2;obtain ⟨a,b⟩:=l1;obtain ⟨c,d⟩:=s1;obtain rfl:c=ic a.length:=g3;exact qD g1 g2 hd hp
theorem l7 {l:LI} (h:MP l > 0):∃ st,JG l (1,1)=some st:=by
 unfold MP at h;cases hc:decide (ic l.length > 65536) with
 | true=>rw [hc,CU] at h; omega
 | false=>
  rw [hc,CV] at h;cases hd:JG l (1,1) with
  | none=>rw [hd] at h; exact absurd h (by decide)
  | some st=>exact ⟨st,rfl⟩
theorem Mr {b:Bx} (hb:b.good) {l outs:LI} (h:PA b l=some outs):∀ y∈outs,(C9 y).good:=by
 unfold PA at h;cases hd:decide (MP l > 0) with
 | false=>rw [hd,CV] at h; cases h
 | true=>
  rw [hd,CU] at h;obtain ⟨st,hst⟩:=l7 (BC hd);cases hp:J4 l ([b.I],[]) with
  | none=>rw [hp] at h; cases h
  | some lo=>
   rw [hp] at h;obtain rfl:=B3 h;refine qD (left:=[b.I]) (out:=[]) (most:=1) (fun y hy=>?_) (fun y hy=>by cases hy) hst hp;obtain rfl:=BJ.1 hy;rw [FG]; exact hb
open Go
theorem oB {l:LI} (h:0 < l.length):l=E5 l++[L0 l]:=by
 unfold E5 L0;rw [BY,AV (show l.length - 1 < l.length by omega)]
 have:=List.take_succ_eq_append_getElem (l:=l) (i:=l.length - 1) (by omega)
 rw [show l.length - 1+1=l.length by omega,BG] at this;exact this
theorem oA {l:LI} {y:IV} (h:y∈l):y=L0 l∨y∈E5 l:=by
 have hl:0 < l.length:=List.length_pos_of_mem h;rw [oB hl] at h;rcases AQ.1 h with h | h
 ·exact .inr h
 ·exact .inl (BJ.1 h)
def X5 (lo:LI × LI) (p:Pt) (t:Int):Prop:=∃ y,(y∈lo.1∨y∈lo.2)∧(C9 y).has p t=true
theorem Mt {x:IV} {left out:LI} {most:Int} {st:Int × Int} {lo:LI × LI} (hl:∀ y∈left,(C9 y).good) (hd:K9 (ic left.length,most) x=some st) (hp:L9 (left,out) x=some lo) {p:Pt} {t:Int}
  (h:X5 (left,out) p t):X5 lo p t:=by
 obtain ⟨hne,hr,hd⟩:=l9 hd;have hlen:0 < left.length:=by simp only [ic] at hne; omega
 have ht:(C3 left).good:=hl _ (Z7 hlen).1;obtain ⟨y,hy,hb⟩:=h;unfold L9 at hp;rcases hd with ⟨hs,_⟩ | ⟨hs,_⟩
 ·rw [hs] at hp;obtain rfl:=B3 hp;rcases hy with hy | hy
  ·rcases oA hy with rfl | hy
   ·exact ⟨(C3 left).I,.inr (AQ.2 (.inr (BJ.2 rfl))),by rw [FG]; exact hb⟩
   ·exact ⟨y,.inl hy,hb⟩
  ·exact ⟨y,.inr (AQ.2 (.inl hy)),hb⟩
 ·rw [hs] at hp;have hpl:=rD hr hs;have ej:FI x=(((FI x).toNat:Nat):Int):=by omega
  have hj:(FI x).toNat < 5:=by omega
  cases hc:(decide (HP x < ((C3 left).g (FI x).toNat).lo)||decide (HP x≥((C3 left).g (FI x).toNat).hi)) with
  | true=>simp only [hc,BQ,CF] at hp; cases hp
  | false=>
   simp only [hc,BQ] at hp;obtain rfl:=B3 hp;simp only [CM,BI] at hc;have hgj:=ht (FI x).toNat hj;rcases hy with hy | hy
   ·rcases oA hy with rfl | hy
    ·have hb:(C3 left).has p t=true:=hb;by_cases hle:co p t (FI x).toNat≤HP x
     ·refine ⟨((C3 left).cutL (FI x) (HP x)).I,.inl (AQ.2 (.inr (by simp))),?_⟩;rw [FG,ej];exact (XP hj).2 ⟨hb,hle⟩
     ·refine ⟨((C3 left).cutH (FI x) (HP x)).I,.inl (AQ.2 (.inr (by simp))),?_⟩;rw [FG,ej];exact (XN ht.ok hj (by omega)).2 ⟨hb,by omega⟩
    ·exact ⟨y,.inl (AQ.2 (.inl hy)),hb⟩
   ·exact ⟨y,.inr hy,hb⟩
theorem qC:∀ {l:LI} {left out:LI} {most:Int} {st:Int × Int} {lo:LI × LI},(∀ y∈left,(C9 y).good)→(∀ y∈out,(C9 y).good)→JG l (ic left.length,most)=some st→J4 l (left,out)=some lo →
  st.1=ic lo.1.length∧∀ (p:Pt) (t:Int),X5 (left,out) p t→X5 lo p t
 | [],left,out,most,st,lo,_,_,hd,hp=>by
  obtain rfl:=B3 hp;obtain rfl:=B3 hd;exact ⟨rfl,fun p t h=>h⟩
 | x :: l,left,out,most,st,lo,hl,ho,hd,hp=>by
  rw [JG] at hd;rw [J4] at hp;cases h1:K9 (ic left.length,most) x with
  | none=>rw [h1] at hd; cases hd
  | some s1=>
   cases h2:L9 (left,out) x with
   | none=>rw [h2] at hp; cases hp
   | some l1=>
    rw [h1] at hd;rw [h2] at hp;obtain ⟨g1,g2,g3⟩:=qE hl ho h1 h2;have hcov:=fun p t h=>Mt (p:=p) (t:=t) hl h1 h2 h
    obtain ⟨a,b⟩:=l1;obtain ⟨c,d⟩:=s1;obtain rfl:c=ic a.length:=g3;obtain ⟨e1,e2⟩:=qC g1 g2 hd hp;exact ⟨e1,fun p t h=>e2 p t (hcov p t h)⟩
theorem y7 {l:LI} (h:MP l > 0):∃ most,JG l (1,1)=some (0,most):=by
 obtain ⟨st,hst⟩:=l7 h;unfold MP at h;cases hc:decide (ic l.length > 65536) with
 | true=>rw [hc,CU] at h; omega
 | false=>
  rw [hc,CV,hst] at h;replace h:cond (!(st.1==0)||decide (st.2 > 200)) 0 st.2 > 0:=h;cases hz:st.1==0 with
  | false=>rw [hz] at h; exact absurd h (by show ¬ (0:Int) > 0; omega)
  | true=>
   have:st.1=0:=by simpa using hz
   obtain ⟨a,b⟩:=st;obtain rfl:a=0:=this;exact ⟨b,hst⟩
theorem Mq {b:Bx} (hb:b.good) {l outs:LI} (h:PA b l=some outs) {p:Pt} {t:Int} (hh:b.has p t=true):∃ y∈outs,(C9 y).has p t=true:=by
 unfold PA at h;cases hd:decide (MP l > 0) with
 | false=>rw [hd,CV] at h; cases h
 | true=>
  rw [hd,CU] at h;obtain ⟨most,hst⟩:=y7 (BC hd);cases hp:J4 l ([b.I],[]) with
  | none=>rw [hp] at h; cases h
  | some lo=>
   rw [hp] at h;obtain rfl:=B3 h;obtain ⟨e1,e2⟩:=qC (left:=[b.I]) (out:=[]) (most:=1) (fun y hy=>by obtain rfl:=BJ.1 hy; rw [FG]; exact hb) (fun y hy=>by cases hy) hst hp;have e1:(0:Int)=ic lo.1.length:=e1;have hnil:lo.1=[]:=vaR (by simp only [ic] at e1; omega);obtain ⟨y,hy,hyb⟩:=e2 p t ⟨b.I,.inl (BJ.2 rfl),by rw [FG]; exact hh⟩;rcases hy with hy | hy
   ·rw [hnil] at hy; cases hy
   ·exact ⟨y,hy,hyb⟩
theorem Mp {m:Md} {q:Qy} {v:Vd} (h:M3 m q v=true) (hk:v.kind=1) {p:Pt} {t:Int} (hh:(DL q).has p t=true):EJ m q p t=false:=by
 unfold M3 at h;rw [AG] at h;obtain ⟨hr,h⟩:=h;have hg:=SY hr;rw [show (v.kind==1)=true by rw [hk]; rfl,CU] at h;cases hps:PA (DL q) v.proof with
 | none=>rw [hps] at h; cases h
 | some outs=>
  rw [hps] at h;obtain ⟨y,hy,hyb⟩:=Mq hg hps hh;exact lF (Mr hg hps y hy).ok (vah.1 h y hy) hyb
theorem Mo {m:Md} {q:Qy} {v:Vd} (h:M3 m q v=true) (hk:v.kind=2):DQ m q=true∧(DL q).has v.p v.twin=true∧EJ m q v.p v.twin=true:=by
 unfold M3 at h;rw [AG] at h;obtain ⟨hr,h⟩:=h;rw [show (v.kind==1)=false by rw [hk]; rfl,CV,show (v.kind==2)=true by rw [hk]; rfl,CU,AG] at h;exact ⟨hr,h.1,h.2⟩
open Go
theorem lI:∀ (l:List Int) (p:Int),(p :: l).Pairwise (·≤·)→(HT p l).Pairwise (· < ·)∧∀ y∈HT p l,p < y
 | [],p,_=>by simp [HT]
 | x :: r,p,h=>by
  have hpx:p≤x:=vav h (AR ..);have ih:=lI r x (van h);rw [HT];cases hx:x==p with
  | true=>
   have:x=p:=by simpa using hx
   subst this;exact ih
  | false=>
   have hne:x≠p:=by simpa using hx
   rw [CV];refine ⟨List.Pairwise.cons (fun y hy=>ih.2 y hy) ih.1,fun y hy=>?_⟩;rcases AT.1 hy with rfl | hy
   ·omega
   ·have:=ih.2 y hy
    omega
theorem yR {l:List Int} (h:l.Pairwise (·≤·)):(GY l).Pairwise (· < ·):=by
 cases l with
 | nil=>simp [GY]
 | cons x r=>
  rw [GY]
  have:=lI r x h
  exact List.Pairwise.cons (fun y hy=>this.2 y hy) this.1
theorem U8 (m:Md) (q:Qy) (b:Bx) (i:Nat):(C7 m q b i).Pairwise (· < ·):=by
 unfold C7;cases decide (FW q (i:Int) < 0) with
 | true=>simp
 | false=>
  rw [CV];unfold HJ G0;exact (yR (gF _)).filter _
theorem lU {b:Bx} {j:Nat} (hj:j < 5) {a:Int} (h1:(b.g j).lo≤a) (h2:a < (b.g j).hi) {k:Nat} (hk:k < 5):(b.cutL (j:Int) a).g k=if k=j then ⟨(b.g j).lo,a⟩ else b.g k:=by
 unfold Bx.cutL;rw [A0,H5 b _ hj hk];by_cases h:k=j
 ·rw [A6 h,A6 h];unfold Sp.cutL HB;rw [show min (b.g j).hi a=a by omega,AJ (show ¬ (b.g j).lo > a by omega),CV]
 ·rw [AX h,AX h]
theorem bO {b:Bx} (hb:b.good) {j:Nat} (hj:j < 5) {a:Int} (h1:(b.g j).lo≤a) (h2:a < (b.g j).hi) {k:Nat} (hk:k < 5):(b.cutH (j:Int) a).g k=if k=j then ⟨a+1,(b.g j).hi⟩ else b.g k:=by
 have hg:=hb j hj;have e:C6 (a+1)=a+1:=DX (by omega) (by omega);unfold Bx.cutH;rw [A0,H5 b _ hj hk];by_cases h:k=j
 ·rw [A6 h,A6 h];unfold Sp.cutH;rw [AJ (show ¬ a≥(b.g j).hi by omega),CV,e];unfold HB;rw [show max (b.g j).lo (a+1)=a+1 by omega,AJ (show ¬ a+1 > (b.g j).hi by omega),CV]
 ·rw [AX h,AX h]
theorem lT {j:Nat} (hj:j < 5):∀ (L:List Int) (c:Bx),c.good→L.Pairwise (· < ·)→(∀ a∈L,(c.g j).lo≤a∧a < (c.g j).hi)→∀ d∈JF j c L,
  d.good∧(∀ k,k < 5→k≠j→d.g k=c.g k)∧(c.g j).lo≤(d.g j).lo∧(d.g j).hi≤(c.g j).hi∧∀ a∈L,¬ ((d.g j).lo≤a∧a < (d.g j).hi)
 | [],c,hc,_,_,d,hd=>by
  obtain rfl:=BJ.1 hd;exact ⟨hc,fun _ _ _=>rfl,CQ _,CQ _,fun a ha=>by cases ha⟩
 | a :: r,c,hc,hp,hin,d,hd=>by
  have ha:=hin a (AR ..);have hlt:∀ x∈r,a < x:=fun x hx=>vav hp hx
  rcases AT.1 hd with rfl | hd
  ·have e:=fun {k} hk=>lU (b:=c) hj ha.1 ha.2 (k:=k) hk
   refine ⟨bQ hc hj ha.1 ha.2,fun k hk hne=>by rw [e hk,AX hne],?_,?_,fun x hx=>?_⟩
   ·rw [e hj,A6 rfl]; exact CQ _
   ·rw [e hj,A6 rfl]; show a≤_; omega
   ·rw [e hj,A6 rfl];show ¬ (_∧x < a);rcases AT.1 hx with rfl | hx
    ·omega
    ·have:=hlt x hx; omega
  ·have e:=fun {k} hk=>bO (b:=c) hc hj ha.1 ha.2 (k:=k) hk
   have ej:(c.cutH (j:Int) a).g j=⟨a+1,(c.g j).hi⟩:=by rw [e hj,A6 rfl]
   obtain ⟨d1,d2,d3,d4,d5⟩:=lT hj r _ (XO hc hj ha.1 ha.2) (van hp) (fun x hx=>by
    rw [ej];have h1:=hlt x hx;have h2:=hin x (AW _ hx);exact ⟨by show a+1≤x; omega,h2.2⟩) d hd
   rw [ej] at d3 d4;replace d3:a+1≤(d.g j).lo:=d3;replace d4:(d.g j).hi≤(c.g j).hi:=d4;refine ⟨d1,fun k hk hne=>by rw [d2 k hk hne,e hk,AX hne],by omega,d4,fun x hx=>?_⟩;rcases AT.1 hx with rfl | hx
   ·omega
   ·exact d5 x hx
theorem lS {j:Nat} (hj:j < 5):∀ (L:List Int) (c:Bx),c.good→L.Pairwise (· < ·)→(∀ a∈L,(c.g j).lo≤a∧a < (c.g j).hi)→∀ (p:Pt) (t:Int),c.has p t=true→∃ d∈JF j c L,d.has p t=true
 | [],c,_,_,_,p,t,h=>⟨c,BJ.2 rfl,h⟩
 | a :: r,c,hc,hp,hin,p,t,h=>by
  have ha:=hin a (AR ..);have hlt:∀ x∈r,a < x:=fun x hx=>vav hp hx
  have hg:=hc j hj;by_cases hle:co p t j≤a
  ·exact ⟨_,AR ..,(XP hj).2 ⟨h,hle⟩⟩
  ·have ej:(c.cutH (j:Int) a).g j=⟨a+1,(c.g j).hi⟩:=by rw [bO hc hj ha.1 ha.2 hj,A6 rfl]
   obtain ⟨d,hd,hb⟩:=lS hj r _ (XO hc hj ha.1 ha.2) (van hp) (fun x hx=>by
    rw [ej];have h1:=hlt x hx;have h2:=hin x (AW _ hx);exact ⟨by show a+1≤x; omega,h2.2⟩) p t ((XN hc.ok hj (by omega)).2 ⟨h,by omega⟩)
   exact ⟨d,AW _ hd,hb⟩
structure CellAt (m:Md) (q:Qy) (b:Bx) (j:Nat) (c:Bx):Prop where
 good:c.good
 sub:∀ k,k < 5→(b.g k).lo≤(c.g k).lo∧(c.g k).hi≤(b.g k).hi
 rest:∀ k,k < 5→j≤k→c.g k=b.g k
 done:∀ k,k < j→C7 m q c k=[]
theorem U5 {m:Md} {q:Qy} {b:Bx} (hb:b.good):∀ (j:Nat),j≤5→∀ c∈GW m q b j,CellAt m q b j c
 | 0,_,c,hc=>by
  obtain rfl:=BJ.1 hc;exact ⟨hb,fun _ _=>⟨CQ _,CQ _⟩,fun _ _ _=>rfl,fun k hk=>by omega⟩
 | j+1,hj5,d,hd=>by
  have hj:j < 5:=by omega
  rw [GW] at hd;obtain ⟨c,hc,hd⟩:=List.mem_flatMap.1 hd;have h:=U5 hb j (by omega) c hc;have hcj:c.g j=b.g j:=h.rest j hj (AO _);obtain ⟨d1,d2,d3,d4,d5⟩:=lT hj (C7 m q b j) c h.good (U8 m q b j) (fun a ha=>by
   rw [hcj]; exact (IW.1 ha).2.2) d hd
  rw [hcj] at d3 d4;refine ⟨d1,fun k hk=>?_,fun k hk hjk=>?_,fun k hk=>?_⟩
  ·by_cases e:k=j
   ·subst e; exact ⟨d3,d4⟩
   ·rw [d2 k hk e]; exact h.sub k hk
  ·rw [d2 k hk (by omega)]; exact h.rest k hk (by omega)
  ·by_cases e:k=j
   ·subst e;cases hq:C7 m q d k with
    | nil=>rfl
    | cons a r=>
     exfalso;have ha:a∈C7 m q d k:=by rw [hq]; exact AR ..
     obtain ⟨f1,f2,f3,f4⟩:=IW.1 ha;exact d5 a (IW.2 ⟨f1,f2,by omega,by omega⟩) ⟨f3,f4⟩
   ·rw [R3 (m:=m) (q:=q) (d2 k (by omega) e)];exact h.done k (by omega)
theorem lB {m:Md} {q:Qy} {b:Bx} (hb:b.good) {p:Pt} {t:Int} (h:b.has p t=true):∀ (j:Nat),j≤5→∃ c∈GW m q b j,c.has p t=true
 | 0,_=>⟨b,BJ.2 rfl,h⟩
 | j+1,hj5=>by
  have hj:j < 5:=by omega
  obtain ⟨c,hc,hcb⟩:=lB hb h j (by omega);have hk:=U5 (m:=m) (q:=q) hb j (by omega) c hc;have hcj:c.g j=b.g j:=hk.rest j hj (AO _);obtain ⟨d,hd,hdb⟩:=lS hj (C7 m q b j) c hk.good (U8 m q b j) (fun a ha=>by
   rw [hcj]; exact (IW.1 ha).2.2) p t hcb
  exact ⟨d,List.mem_flatMap.2 ⟨c,hc,hd⟩,hdb⟩
theorem yI {m:Md} {q:Qy} {b c:Bx} (h:CellAt m q b 5 c) {p:Pt} {t:Int} (hc:c.has p t=true):b.has p t=true:=by
 rw [KH] at hc ⊢;intro i hi;have h1:=hc i hi;have h2:=h.sub i hi;rw [J9] at h1 ⊢;omega
theorem Fk {m:Md} {q:Qy} (hr:DQ m q=true) (h:∀ p t,(DL q).has p t=true→EJ m q p t=false):LE m q=true:=by
 unfold LE;rw [vah];intro c hc;have hcell:=U5 (m:=m) (q:=q) (SY hr) 5 (AO _) c hc;rw [h c.low c.s4.hi (yI hcell (RU c hcell.good.emp))];rfl
theorem Fl {m:Md} {q:Qy} (hr:DQ m q=true) (h:LE m q=true) {p:Pt} {t:Int} (hb:(DL q).has p t=true):EJ m q p t=false:=by
 obtain ⟨c,hc,hcb⟩:=lB (m:=m) (q:=q) (SY hr) hb 5 (AO _);have hcell:=U5 (m:=m) (q:=q) (SY hr) 5 (AO _) c hc;have h1:=vah.1 h c hc;rcases k9 hr hcell.good.emp hcell.good.ok (fun i hi=>hcell.done i hi) with hcl | hbr
 ·exact lF hcell.good.ok hcl hcb
 ·rw [hbr] at h1; cases h1
theorem qB {m:Md} {q:Qy} {v:Vd} (h:M3 m q v=true):(v.kind=1→LE m q=true)∧(v.kind=2→LE m q=false):=by
 refine ⟨fun hk=>?_,fun hk=>?_⟩
 ·have hr:DQ m q=true:=by
   unfold M3 at h;exact (AG _ _ ▸ h:_∧_).1
  exact Fk hr fun p t hh=>Mp h hk hh
 ·obtain ⟨hr,hh,hb⟩:=Mo h hk;cases hc:LE m q with
  | false=>rfl
  | true=>
   have:=Fl hr hc hh
   rw [hb] at this;cases this
open Go
theorem VU (j:Int) (x:IV) (r:List (Int × IV)) (k:Int):NY ((j,x) :: r) k=cond (j==k) (some x) (NY r k):=by
 unfold NY;rw [EN];cases j==k <;> rfl
theorem YU (j:Int) (y:IV) (r:List (Int × IV)) (k:Int) (x:IV):FJ ((j,y) :: r) k x=cond (j==k) ((j,x) :: r) ((j,y) :: FJ r k x):=by
 unfold FJ;rw [EN];cases j==k with
 | true=>rfl
 | false=>
  have e:A8 (EN r k+1) (((j,y) :: r).length)=A8 (EN r k) r.length:=by
   rw [AP,va5,Nat.blt_eq,Nat.blt_eq];omega
  simp only [BQ];rw [e];cases A8 (EN r k) r.length <;> rfl
theorem oI (k:Int) (x:IV) (j:Int):∀ es:List (Int × IV),NY (FJ es k x) j=cond (k==j) (some x) (NY es j)
 | []=>by
  show NY [(k,x)] j=_;rw [VU]
 | (i,y) :: r=>by
  rw [YU];by_cases hi:i=k
  ·subst hi;rw [CN,CF,VU,VU];cases i==j <;> rfl
  ·have e:(i==k)=false:=by simpa using hi
   rw [e,BQ,VU,oI k x j r,VU];by_cases hj:i=j
   ·subst hj;have e2:(k==i)=false:=by simpa using fun h:k=i=>hi h.symm
    rw [CN,CF,e2,BQ,CF]
   ·have e2:(i==j)=false:=by simpa using hj
    rw [e2,BQ,BQ]
theorem dM (vk:Kd) (es:List (Int × IV)) (k:Int) (x:IV) (j:Int):HA vk (FJ es k x) j=cond (k==j) x (HA vk es j):=by
 unfold HA;rw [oI];cases k==j <;> rfl
theorem Gm (vk:Kd) (j:Int):HA vk [] j=I6 vk:=rfl
def EG (es:List (Int × IV)):List Int:=es.map Prod.fst
theorem c8 {k:Int} {x:IV} {j:Int}:∀ {es:List (Int × IV)},j∈EG (FJ es k x)↔j=k∨j∈EG es
 | []=>by simp [EG,FJ,EN,A8,BM]
 | (i,y) :: r=>by
  rw [YU];by_cases hi:i=k
  ·subst hi;rw [CN,CF];simp only [EG,A2,AT];constructor
   ·intro h; exact .inr h
   ·rintro (h | h)
    ·exact .inl h
    ·exact h
  ·have e:(i==k)=false:=by simpa using hi
   have ih:=c8 (k:=k) (x:=x) (j:=j) (es:=r);rw [e,BQ];simp only [EG,A2,AT] at ih ⊢;rw [ih];constructor
   ·rintro (h | h | h)
    ·exact .inr (.inl h)
    ·exact .inl h
    ·exact .inr (.inr h)
   ·rintro (h | h | h)
    ·exact .inr (.inl h)
    ·exact .inl h
    ·exact .inr (.inr h)
theorem nT {k:Int} {x:IV}:∀ {es:List (Int × IV)},(EG es).Nodup→(EG (FJ es k x)).Nodup
 | [],_=>by
  have e:FJ [] k x=[(k,x)]:=rfl;rw [e];simp [EG]
 | (i,y) :: r,h=>by
  have h':i ∉ EG r∧(EG r).Nodup:=by simpa [EG] using h
  rw [YU];by_cases hi:i=k
  ·subst hi;rw [CN,CF];exact h
  ·have e:(i==k)=false:=by simpa using hi
   rw [e,BQ];have hn:=nT (k:=k) (x:=x) h'.2;have hm:i ∉ EG (FJ r k x):=fun hh=>by
    rcases c8.1 hh with hh | hh
    ·exact hi hh
    ·exact h'.1 hh
   show (i :: EG (FJ r k x)).Nodup;exact List.nodup_cons.2 ⟨hm,hn⟩
theorem mB:∀ (es:List (Int × IV)) (i:Nat),i < es.length→(∀ j,j∈EG es↔j=(FK es i).1∨j∈EG (G7 es i))∧((EG es).Nodup→(FK es i).1 ∉ EG (G7 es i)∧(EG (G7 es i)).Nodup)∧(G7 es i).length+1=es.length
 | [],i,h=>absurd h (Nat.not_lt_zero i)
 | (j,x) :: r,0,_=>⟨fun k=>by simp [EG,FK,G7],fun h=>by
   have h':j ∉ EG r∧(EG r).Nodup:=by simpa [EG] using h
   exact h',rfl⟩
 | (j,x) :: r,i+1,h=>by
  obtain ⟨h1,h2,h3⟩:=mB r i (by simpa using h);refine ⟨fun k=>?_,fun hn=>?_,?_⟩
  ·have:=h1 k
   simp only [EG,A2,AT,FK,G7] at this ⊢;rw [this];constructor
   ·rintro (h | h | h)
    ·exact .inr (.inl h)
    ·exact .inl h
    ·exact .inr (.inr h)
   ·rintro (h | h | h)
    ·exact .inr (.inl h)
    ·exact .inl h
    ·exact .inr (.inr h)
  ·have hn:j ∉ EG r∧(EG r).Nodup:=by simpa [EG] using hn
   obtain ⟨g1,g2⟩:=h2 hn.2;have hj:j ∉ EG (G7 r i):=fun hh=>hn.1 ((h1 j).2 (.inr hh))
   have hne:(FK r i).1≠j:=fun hh=>hn.1 ((h1 j).2 (.inl hh.symm))
   refine ⟨?_,?_⟩
   ·show (FK r i).1 ∉ j :: EG (G7 r i);rw [AT,not_or];exact ⟨hne,g1⟩
   ·show (j :: EG (G7 r i)).Nodup;exact List.nodup_cons.2 ⟨hj,g2⟩
  ·show ((j,x) :: G7 r i).length+1=_;rw [AP,AP,h3]
theorem rE:∀ {a b:List Int},a.Pairwise (· < ·)→b.Pairwise (· < ·)→(∀ x,x∈a↔x∈b)→a=b
 | [],[],_,_,_=>rfl
 | [],y :: s,_,_,h=>absurd ((h y).2 (AR ..)) (by simp)
 | x :: r,[],_,_,h=>absurd ((h x).1 (AR ..)) (by simp)
 | x :: r,y :: s,ha,hb,h=>by
  have h1:∀ z∈r,x < z:=fun z hz=>vav ha hz
  have h2:∀ z∈s,y < z:=fun z hz=>vav hb hz
  have hx:=(h x).1 (AR ..);have hy:=(h y).2 (AR ..);have e:x=y:=by
   rcases AT.1 hx with hx | hx
   ·exact hx
   ·rcases AT.1 hy with hy | hy
    ·exact hy.symm
    ·have:=h1 y hy
     have:=h2 x hx
     omega
  subst e;rw [rE (van ha) (van hb) fun z=>?_];have hz:=h z;rw [AT,AT] at hz;constructor
  ·intro hh
   have:=h1 z hh
   rcases hz.1 (.inr hh) with g | g
   ·omega
   ·exact g
  ·intro hh
   have:=h2 z hh
   rcases hz.2 (.inr hh) with g | g
   ·omega
   ·exact g
theorem Ni {L:List Int} {t:Int} {k:Nat} (h:L.Pairwise (· < ·)) (h1:∀ x∈L.take k,x < t) (h2:∀ x∈L.drop k,t < x):(L.take k++t :: L.drop k).Pairwise (· < ·):=by
 rw [List.pairwise_append];refine ⟨h.sublist (List.take_sublist ..),List.Pairwise.cons h2 (h.sublist (List.drop_sublist ..)),fun a ha b hb=>?_⟩
 have:=h1 a ha
 rcases AT.1 hb with rfl | hb
 ·exact this
 ·have:=h2 b hb
  omega
theorem nJ {L:List Int} {t:Int} {k:Nat} (x:Int):x∈L.take k++t :: L.drop k↔x=t∨x∈L:=by
 have e:x∈L↔x∈L.take k∨x∈L.drop k:=by
  rw [← AQ,List.take_append_drop]
 rw [AQ,AT,e];constructor
 ·rintro (h | h | h)
  ·exact .inr (.inl h)
  ·exact .inl h
  ·exact .inr (.inr h)
 ·rintro (h | h | h)
  ·exact .inr (.inl h)
  ·exact .inl h
  ·exact .inr (.inr h)
theorem Bi (n k:Nat):((n:Int)).fdiv (k:Int)=((n / k:Nat):Int):=by
 rw [vau _ (by omega)];rfl
theorem Si {w:Int} (h0:0≤w) (h1:w < 18446744073709551616):(E1 w 63 1==0)=!(w.fdiv 9223372036854775808==1):=by
 obtain ⟨n,rfl⟩:=Int.eq_ofNat_of_zero_le h0;have e:((n:Int)).fdiv 9223372036854775808=((n / 9223372036854775808:Nat):Int):=Bi n 9223372036854775808;have e1:E1 (n:Int) 63 1=EP ((n:Int).fdiv 9223372036854775808) 1:=rfl;rw [e1,e];have hlt:n / 9223372036854775808 < 2:=by omega
 generalize n / 9223372036854775808=d at hlt;have hd:d=0∨d=1:=by omega
 rcases hd with rfl | rfl <;> decide
theorem Tf {n:Int} (h0:0≤n) (h1:n < 2147483648):HE n=n:=by
 unfold HE;rw [show C6 (n*2 ^ 32)=n*2 ^ 32 from DX (by omega) (by omega),vau _ (by omega)];omega
theorem Te {n:Int} (h0:2147483648≤n) (h1:n≤4294967295):HE n=n - 4294967296:=by
 unfold HE;have e:C6 (n*2 ^ 32)=n*2 ^ 32 - 18446744073709551616:=by
  have key:∀ z:Int,9223372036854775808≤z→z < 18446744073709551616→AA AC z=z - 18446744073709551616:=fun z h2 h3=>by
   have h4:z % 2 ^ AC.bits=z:=by show z % 2 ^ 64=z; omega
   unfold AA;simp only [h4];rw [show (AC.signed&&decide (z≥2 ^ (AC.bits - 1)))=true by
    rw [AE (show z≥2 ^ (AC.bits - 1) by show z≥2 ^ 63; omega)]; rfl,A6 rfl]
   rfl
  exact key _ (by omega) (by omega)
 rw [e,vau _ (by omega)];omega
theorem eY (b:Bx) (s u:Sp):∀ i:Nat,(b.p s i).p u i=b.p u i
 | 0=>rfl
 | 1=>rfl
 | 2=>rfl
 | 3=>rfl
 | _+4=>rfl
theorem Mh (b:Bx):∀ i:Nat,b.p (b.g i) i=b
 | 0=>rfl
 | 1=>rfl
 | 2=>rfl
 | 3=>rfl
 | _+4=>rfl
theorem nB (b:Bx) (s:Sp):∀ i:Nat,(b.p s i).g i=s
 | 0=>rfl
 | 1=>rfl
 | 2=>rfl
 | 3=>rfl
 | _+4=>rfl
def Q6 (j:Nat) (hi:Int):Bx→Int→List Int→List Bx
 | x,lo,[]=>[x.p ⟨lo,hi⟩ j]
 | x,lo,a :: r=>x.p ⟨lo,a⟩ j :: Q6 j hi (x.p ⟨lo,a⟩ j) (a+1) r
theorem qW (j:Nat) {hi:Int} (hh:hi≤2147483647):∀ (L:List Int) (x:Bx) (lo:Int),-2147483648≤lo→L.Pairwise (· < ·)→(∀ a∈L,lo≤a∧a < hi)→Q6 j hi x lo L=JF j (x.p ⟨lo,hi⟩ j) L
 | [],x,lo,_,_,_=>rfl
 | a :: r,x,lo,hl,hp,hin=>by
  have ha:=hin a (AR ..);have hlt:∀ y∈r,a < y:=fun y hy=>vav hp hy
  have e1:(x.p ⟨lo,hi⟩ j).cutL (j:Int) a=x.p ⟨lo,a⟩ j:=by
   unfold Bx.cutL;rw [A0,nB,eY];congr 1;show HB lo (min hi a)=_;unfold HB;rw [show min hi a=a by omega,AJ (by omega),CV]
  have e2:(x.p ⟨lo,hi⟩ j).cutH (j:Int) a=x.p ⟨a+1,hi⟩ j:=by
   unfold Bx.cutH;rw [A0,nB,eY];congr 1;show cond (decide (a≥hi)) ⟨1,0⟩ (HB (max lo (C6 (a+1))) hi)=_;have e:C6 (a+1)=a+1:=DX (by omega) (by omega);rw [AJ (by omega),CV,e];unfold HB;rw [show max lo (a+1)=a+1 by omega,AJ (by omega),CV]
  rw [Q6,JF,e1,e2,qW j hh r _ (a+1) (by omega) (van hp) (fun y hy=>⟨by have:=hlt y hy; omega,(hin y (AW _ hy)).2⟩),eY]
theorem Bt {b:Bx} (h:b.goodB=true):b.good:=by
 unfold Bx.goodB at h;simp only [AG] at h;obtain ⟨h0,h1,h2,h3,h4⟩:=h;have key:∀ {s:Sp},s.goodB=true → -2147483648≤s.lo∧s.lo≤s.hi∧s.hi≤2147483647:=fun {s} h=>by
  unfold Sp.goodB at h;simpa only [AG,AN] using h
 intro i hi
 match i,hi with
 | 0,_=>exact key h0
 | 1,_=>exact key h1
 | 2,_=>exact key h2
 | 3,_=>exact key h3
 | 4,_=>exact key h4
 | i+5,h=>exact absurd h (by omega)
theorem Bu {b:Bx} (h:b.good):b.goodB=true:=by
 have key:∀ i,i < 5→(b.g i).goodB=true:=fun i hi=>by
  have:=h i hi
  unfold Sp.goodB;rw [AE this.1,AE this.2.1,AE this.2.2];rfl
 unfold Bx.goodB;rw [show b.s0=b.g 0 from rfl,show b.s1=b.g 1 from rfl,show b.s2=b.g 2 from rfl,show b.s3=b.g 3 from rfl,show b.s4=b.g 4 from rfl,key 0 (by omega),key 1 (by omega),key 2 (by omega),key 3 (by omega),key 4 (by omega)];rfl
open Go Go.Proofs
def vU (N:Nat):Env:=DJ [] [] 31 N
theorem Hz (N:Nat) (n w:Int):DE (vU N) jU [.tmp 4] [[.z]] [.i n,.i w] =
 (cond (decide (w < 1))
 (some ((.i n),[]))
 (cond (decide (w > 63))
 (some ((.i n),[]))
 (cond (decide (w < 0))
 none
 (cond (decide (AA AC (w - 1) < 0))
 none
 (cond (CH (AA AI (ic (B1 (AU (AK AI) (AA AI n) &&& AU (AK AI) (AA AI (AA AI (1*2 ^ min (AD w) (AK AI)) - 1)))))) (2 ^ min (AD (AA AC (w - 1))) (AK AI))==1)
 (cond (decide (w < 0))
 none
 (some ((.i (AA AC (AA AC (AA AI (ic (B1 (AU (AK AI) (AA AI n) &&& AU (AK AI) (AA AI (AA AI (1*2 ^ min (AD w) (AK AI)) - 1)))))) - AA AC (1*2 ^ min (AD w) (AK AC))))),[])))
 (some ((.i (AA AC (AA AI (ic (B1 (AU (AK AI) (AA AI n) &&& AU (AK AI) (AA AI (AA AI (1*2 ^ min (AD w) (AK AI)) - 1)))))))),[]))))))):=by kernel_rfl
def vX (N:Nat):Env:=DJ [(89,TT),(40,NI),(66,P4)] [] 42 N
theorem Ig (N:Nat) (w:Int):DE (vX N) jX [.cell 2 89,.tmp 3] [[.bool,.z,.z,.z,.z,.z],[.bool]] [.int .u64 w] =
 (cond (CH w (2 ^ min (AD 63) (AK AI))==1)
 (cond (decide (32=32)&&(decide (0≤AA AC (AA AI (ic (B1 (AU (AK AI) w &&& AU (AK AI) 4294967295)))))&&decide (AA AC (AA AI (ic (B1 (AU (AK AI) w &&& AU (AK AI) 4294967295))))≤4294967295)))
 (cond (!MC true (HE (AA AC (AA AI (ic (B1 (AU (AK AI) w &&& AU (AK AI) 4294967295)))))) 0 0 0 0)
 (some ((.tup [.agg [.bool false,.i 0,.i 0,.i 0,.i 0,.i 0],.bool false]),[]))
 (cond (FB true (HE (AA AC (AA AI (ic (B1 (AU (AK AI) w &&& AU (AK AI) 4294967295)))))) 0 0 0 0 != w)
 (some ((.tup [.agg [.bool false,.i 0,.i 0,.i 0,.i 0,.i 0],.bool false]),[]))
 (some ((.tup [.agg [.bool true,.i (HE (AA AC (AA AI (ic (B1 (AU (AK AI) w &&& AU (AK AI) 4294967295)))))),.i 0,.i 0,.i 0,.i 0],.bool true]),[]))))
 none)
 (cond (decide (32=32)&&(decide (0≤AA AC (AA AI (ic (B1 (AU (AK AI) w &&& AU (AK AI) 4294967295)))))&&decide (AA AC (AA AI (ic (B1 (AU (AK AI) w &&& AU (AK AI) 4294967295))))≤4294967295)))
 (cond (!MC false 0 (AA AC (AA AI (ic (B1 (AU (AK AI) (CH w (2 ^ min (AD 32) (AK AI))) &&& AU (AK AI) 15))))) (HE (AA AC (AA AI (ic (B1 (AU (AK AI) w &&& AU (AK AI) 4294967295)))))) (AA AC (AA AI (ic (B1 (AU (AK AI) (CH w (2 ^ min (AD 40) (AK AI))) &&& AU (AK AI) 255))))) (AA AC (AA AI (ic (B1 (AU (AK AI) (CH w (2 ^ min (AD 48) (AK AI))) &&& AU (AK AI) 255))))))
 (some ((.tup [.agg [.bool false,.i 0,.i 0,.i 0,.i 0,.i 0],.bool false]),[]))
 (cond (FB false 0 (AA AC (AA AI (ic (B1 (AU (AK AI) (CH w (2 ^ min (AD 32) (AK AI))) &&& AU (AK AI) 15))))) (HE (AA AC (AA AI (ic (B1 (AU (AK AI) w &&& AU (AK AI) 4294967295)))))) (AA AC (AA AI (ic (B1 (AU (AK AI) (CH w (2 ^ min (AD 40) (AK AI))) &&& AU (AK AI) 255))))) (AA AC (AA AI (ic (B1 (AU (AK AI) (CH w (2 ^ min (AD 48) (AK AI))) &&& AU (AK AI) 255))))) != w)
 (some ((.tup [.agg [.bool false,.i 0,.i 0,.i 0,.i 0,.i 0],.bool false]),[]))
 (some ((.tup [.agg [.bool false,.i 0,.i (AA AC (AA AI (ic (B1 (AU (AK AI) (CH w (2 ^ min (AD 32) (AK AI))) &&& AU (AK AI) 15))))),.i (HE (AA AC (AA AI (ic (B1 (AU (AK AI) w &&& AU (AK AI) 4294967295)))))),.i (AA AC (AA AI (ic (B1 (AU (AK AI) (CH w (2 ^ min (AD 40) (AK AI))) &&& AU (AK AI) 255))))),.i (AA AC (AA AI (ic (B1 (AU (AK AI) (CH w (2 ^ min (AD 48) (AK AI))) &&& AU (AK AI) 255)))))],.bool true]),[]))))
 none)):=by kernel_rfl
def H2 (N:Nat):Env:=DJ [(70,LS)] [(3,⟨[0,3,4,5,8],[3],[]⟩)] 41 N
theorem Ii (N:Nat) (l:LI) (p:Pt):DE (H2 N) KJ [.tmp 4] [[.z]] [.list false [.int .u64] l,(Pt.V p)] =
 (DC (H2 N) (CX KJ [1,1,0,1,0,0]) ⟨[0,3,4,5,8],[3],[]⟩ N ⟨[(0,(.list false [.int .u64] l)),(3,(.ptr 3 0 0)),(4,(.i 0)),(5,(.i 0)),(8,(.i 0))],[(3,(some (.box (Pt.cs p))))]⟩ (C4 0 (C5 (H2 N) (CX KJ [1,1,1]) (C8 (H2 N) none [.tmp 4] [[.z]])))):=by kernel_rfl
theorem tN (N:Nat) (p:Pt) (l0:LI) (x4 x5 x8:Int) (again:St→C0) (k:Out→St→C0):EK (H2 N) (CX KJ [1,1,0,1,0,0])
 ⟨[(0,(.list false [.int .u64] l0)),(3,(.ptr 3 0 0)),(4,(.i x4)),(5,(.i x5)),(8,(.i x8))],[(3,(some (.box (Pt.cs p))))]⟩
 (EF again ⟨[0,3,4,5,8],[3],[]⟩ k) =
 (cond (decide (x8 < 31))
 (cond (decide (x5≥ic (AF l0)))
 (k .ret ⟨[(0,(.list false [.int .u64] l0)),(3,(.ptr 3 0 0)),(4,(.i (-1))),(5,(.i x5)),(8,(.i x8))],[(3,(some (.box (Pt.cs p))))]⟩)
 (cond (decide (0≤x5)&&decide (x5 < ic (AF l0)))
 (cond (!EQ (IV.toInt (AH l0 (AD x5) default)))
 (k .ret ⟨[(0,(.list false [.int .u64] l0)),(3,(.ptr 3 0 0)),(4,(.i (-1))),(5,(.i x5)),(8,(.i x8))],[(3,(some (.box (Pt.cs p))))]⟩)
 (cond (Nd.lf (CW (IV.toInt (AH l0 (AD x5) default))))
 (k .ret ⟨[(0,(.list false [.int .u64] l0)),(3,(.ptr 3 0 0)),(4,(.i x5)),(5,(.i x5)),(8,(.i x8))],[(3,(some (.box (Pt.cs p))))]⟩)
 (cond (decide (Nd.f (CW (IV.toInt (AH l0 (AD x5) default)))=ic 0))
 (cond (decide (Pt.p0 p≤Nd.a (CW (IV.toInt (AH l0 (AD x5) default)))))
 (again ⟨[(0,(.list false [.int .u64] l0)),(3,(.ptr 3 0 0)),(4,(.i x4)),(5,(.i (Nd.l (CW (IV.toInt (AH l0 (AD x5) default)))))),(8,(.i (AA AC (x8+1))))],[(3,(some (.box (Pt.cs p))))]⟩)
 (again ⟨[(0,(.list false [.int .u64] l0)),(3,(.ptr 3 0 0)),(4,(.i x4)),(5,(.i (Nd.r (CW (IV.toInt (AH l0 (AD x5) default)))))),(8,(.i (AA AC (x8+1))))],[(3,(some (.box (Pt.cs p))))]⟩))
 (cond (decide (Nd.f (CW (IV.toInt (AH l0 (AD x5) default)))=ic 1))
 (cond (decide (Pt.p1 p≤Nd.a (CW (IV.toInt (AH l0 (AD x5) default)))))
 (again ⟨[(0,(.list false [.int .u64] l0)),(3,(.ptr 3 0 0)),(4,(.i x4)),(5,(.i (Nd.l (CW (IV.toInt (AH l0 (AD x5) default)))))),(8,(.i (AA AC (x8+1))))],[(3,(some (.box (Pt.cs p))))]⟩)
 (again ⟨[(0,(.list false [.int .u64] l0)),(3,(.ptr 3 0 0)),(4,(.i x4)),(5,(.i (Nd.r (CW (IV.toInt (AH l0 (AD x5) default)))))),(8,(.i (AA AC (x8+1))))],[(3,(some (.box (Pt.cs p))))]⟩))
 (cond (decide (Nd.f (CW (IV.toInt (AH l0 (AD x5) default)))=ic 2))
 (cond (decide (Pt.p2 p≤Nd.a (CW (IV.toInt (AH l0 (AD x5) default)))))
 (again ⟨[(0,(.list false [.int .u64] l0)),(3,(.ptr 3 0 0)),(4,(.i x4)),(5,(.i (Nd.l (CW (IV.toInt (AH l0 (AD x5) default)))))),(8,(.i (AA AC (x8+1))))],[(3,(some (.box (Pt.cs p))))]⟩)
 (again ⟨[(0,(.list false [.int .u64] l0)),(3,(.ptr 3 0 0)),(4,(.i x4)),(5,(.i (Nd.r (CW (IV.toInt (AH l0 (AD x5) default)))))),(8,(.i (AA AC (x8+1))))],[(3,(some (.box (Pt.cs p))))]⟩))
 (cond (decide (Nd.f (CW (IV.toInt (AH l0 (AD x5) default)))=ic 3))
 (cond (decide (Pt.p3 p≤Nd.a (CW (IV.toInt (AH l0 (AD x5) default)))))
 (again ⟨[(0,(.list false [.int .u64] l0)),(3,(.ptr 3 0 0)),(4,(.i x4)),(5,(.i (Nd.l (CW (IV.toInt (AH l0 (AD x5) default)))))),(8,(.i (AA AC (x8+1))))],[(3,(some (.box (Pt.cs p))))]⟩)
 (again ⟨[(0,(.list false [.int .u64] l0)),(3,(.ptr 3 0 0)),(4,(.i x4)),(5,(.i (Nd.r (CW (IV.toInt (AH l0 (AD x5) default)))))),(8,(.i (AA AC (x8+1))))],[(3,(some (.box (Pt.cs p))))]⟩))
 none))))))
 none))
 (k (.exit 0) ⟨[(0,(.list false [.int .u64] l0)),(3,(.ptr 3 0 0)),(4,(.i x4)),(5,(.i x5)),(8,(.i x8))],[(3,(some (.box (Pt.cs p))))]⟩)):=by kernel_rfl
theorem z8 (N:Nat) (p:Pt) (l0:LI) (x4 x5 x8:Int):(C4 0 (C5 (H2 N) (CX KJ [1,1,1]) (C8 (H2 N) none [.tmp 4] [[.z]]))) (.exit 0)
 ⟨[(0,(.list false [.int .u64] l0)),(3,(.ptr 3 0 0)),(4,(.i x4)),(5,(.i x5)),(8,(.i x8))],[(3,(some (.box (Pt.cs p))))]⟩ =
 (some ((.i (-1)),[])):=by kernel_rfl
theorem cG (N:Nat) (p:Pt) (l0:LI) (x4 x5 x8:Int):(C4 0 (C5 (H2 N) (CX KJ [1,1,1]) (C8 (H2 N) none [.tmp 4] [[.z]]))) .ret
 ⟨[(0,(.list false [.int .u64] l0)),(3,(.ptr 3 0 0)),(4,(.i x4)),(5,(.i x5)),(8,(.i x8))],[(3,(some (.box (Pt.cs p))))]⟩ =
 (some ((.i x4),[])):=by kernel_rfl
def vY (N:Nat):Env:=DJ [(70,LS),(88,TX)] [] 23 N
theorem Ih (N:Nat) (l:LI) (p:Pt):DE (vY N) jY [.tmp 4] [[.z]] [.list false [.int .u64] l,(Pt.V p)] =
 (cond (decide (QK l p < 0))
 (some ((.i 0),[]))
 (cond (decide (0≤QK l p)&&decide (QK l p < ic (AF l)))
 (some ((.i (Nd.v (CW (IV.toInt (AH l (AD (QK l p)) default))))),[]))
 none)):=by kernel_rfl
def G3 (N:Nat):Env:=DJ [(42,NH),(67,TV)] [(4,⟨[1,2,32,33],[1],[]⟩),(10,⟨[1,2,52,53,54],[1],[]⟩)] 77 N
theorem Ic (N:Nat) (m:Md):DE (G3 N) JB [.tmp 2] [[.bool]] [(Md.V m)] =
 (cond (decide (Md.d m < 1))
 (some ((.bool false),[]))
 (cond (decide (Md.d m > 4))
 (some ((.bool false),[]))
 (cond (decide (Md.c m < 1))
 (some ((.bool false),[]))
 (cond (decide (Md.c m > 3))
 (some ((.bool false),[]))
 (cond (decide (ic (AF (Md.ts m)) > 8))
 (some ((.bool false),[]))
 (DC (G3 N) (CX JB [1,1,0,1,0,0]) ⟨[1,2,32,33],[1],[]⟩ N ⟨[(1,(.ptr 1 0 0)),(2,(.bool false)),(32,(.agg [.i (Md.b0 m),.i (Md.b1 m),.i (Md.b2 m)])),(33,(.i 0))],[(1,(some (.box (Md.cs m))))]⟩ (C4 0 (C5 (G3 N) (CX JB [1,1,1]) (C8 (G3 N) none [.tmp 2] [[.bool]]))))))))):=by kernel_rfl
theorem ZY (N:Nat) (m:Md) (b2:Bool) (u00 u01 u02 x33:Int) (again:St→C0) (k:Out→St→C0):EK (G3 N) (CX JB [1,1,0,1,0,0])
 ⟨[(1,(.ptr 1 0 0)),(2,(.bool b2)),(32,(.agg [.i u00,.i u01,.i u02])),(33,(.i x33))],[(1,(some (.box (Md.cs m))))]⟩
 (EF again ⟨[1,2,32,33],[1],[]⟩ k) =
 (cond (decide (x33 < 3))
 (cond (decide (x33=ic 0))
 (cond (!DZ u00)
 (k .ret ⟨[(1,(.ptr 1 0 0)),(2,(.bool false)),(32,(.agg [.i u00,.i u01,.i u02])),(33,(.i x33))],[(1,(some (.box (Md.cs m))))]⟩)
 (cond (decide (x33≥Md.c m))
 (cond (u00 != 0)
 (k .ret ⟨[(1,(.ptr 1 0 0)),(2,(.bool false)),(32,(.agg [.i u00,.i u01,.i u02])),(33,(.i x33))],[(1,(some (.box (Md.cs m))))]⟩)
 (again ⟨[(1,(.ptr 1 0 0)),(2,(.bool b2)),(32,(.agg [.i u00,.i u01,.i u02])),(33,(.i (AA AC (x33+1))))],[(1,(some (.box (Md.cs m))))]⟩))
 (again ⟨[(1,(.ptr 1 0 0)),(2,(.bool b2)),(32,(.agg [.i u00,.i u01,.i u02])),(33,(.i (AA AC (x33+1))))],[(1,(some (.box (Md.cs m))))]⟩)))
 (cond (decide (x33=ic 1))
 (cond (!DZ u01)
 (k .ret ⟨[(1,(.ptr 1 0 0)),(2,(.bool false)),(32,(.agg [.i u00,.i u01,.i u02])),(33,(.i x33))],[(1,(some (.box (Md.cs m))))]⟩)
 (cond (decide (x33≥Md.c m))
 (cond (u01 != 0)
 (k .ret ⟨[(1,(.ptr 1 0 0)),(2,(.bool false)),(32,(.agg [.i u00,.i u01,.i u02])),(33,(.i x33))],[(1,(some (.box (Md.cs m))))]⟩)
 (again ⟨[(1,(.ptr 1 0 0)),(2,(.bool b2)),(32,(.agg [.i u00,.i u01,.i u02])),(33,(.i (AA AC (x33+1))))],[(1,(some (.box (Md.cs m))))]⟩))
 (again ⟨[(1,(.ptr 1 0 0)),(2,(.bool b2)),(32,(.agg [.i u00,.i u01,.i u02])),(33,(.i (AA AC (x33+1))))],[(1,(some (.box (Md.cs m))))]⟩)))
 (cond (decide (x33=ic 2))
 (cond (!DZ u02)
 (k .ret ⟨[(1,(.ptr 1 0 0)),(2,(.bool false)),(32,(.agg [.i u00,.i u01,.i u02])),(33,(.i x33))],[(1,(some (.box (Md.cs m))))]⟩)
 (cond (decide (x33≥Md.c m))
 (cond (u02 != 0)
 (k .ret ⟨[(1,(.ptr 1 0 0)),(2,(.bool false)),(32,(.agg [.i u00,.i u01,.i u02])),(33,(.i x33))],[(1,(some (.box (Md.cs m))))]⟩)
 (again ⟨[(1,(.ptr 1 0 0)),(2,(.bool b2)),(32,(.agg [.i u00,.i u01,.i u02])),(33,(.i (AA AC (x33+1))))],[(1,(some (.box (Md.cs m))))]⟩))
 (again ⟨[(1,(.ptr 1 0 0)),(2,(.bool b2)),(32,(.agg [.i u00,.i u01,.i u02])),(33,(.i (AA AC (x33+1))))],[(1,(some (.box (Md.cs m))))]⟩)))
 none)))
 (k (.exit 0) ⟨[(1,(.ptr 1 0 0)),(2,(.bool b2)),(32,(.agg [.i u00,.i u01,.i u02])),(33,(.i x33))],[(1,(some (.box (Md.cs m))))]⟩)):=by kernel_rfl
theorem zY (N:Nat) (m:Md) (b2:Bool) (u00 u01 u02 x33:Int):(C4 0 (C5 (G3 N) (CX JB [1,1,1]) (C8 (G3 N) none [.tmp 2] [[.bool]]))) (.exit 0)
 ⟨[(1,(.ptr 1 0 0)),(2,(.bool b2)),(32,(.agg [.i u00,.i u01,.i u02])),(33,(.i x33))],[(1,(some (.box (Md.cs m))))]⟩ =
 (DC (G3 N) (CX JB [1,1,1,0,1,0,0]) ⟨[1,2,52,53,54],[1],[]⟩ N ⟨[(1,(.ptr 1 0 0)),(2,(.bool b2)),(52,(.list true FA (Md.ts m))),(53,(.i (ic (AF (Md.ts m))))),(54,(.i 0))],[(1,(some (.box (Md.cs m))))]⟩ (C4 2 (C5 (G3 N) (CX JB [1,1,1,1]) (C8 (G3 N) none [.tmp 2] [[.bool]])))):=by kernel_rfl
theorem zZ (N:Nat) (m:Md) (b2:Bool) (u00 u01 u02 x33:Int):(C4 0 (C5 (G3 N) (CX JB [1,1,1]) (C8 (G3 N) none [.tmp 2] [[.bool]]))) .ret
 ⟨[(1,(.ptr 1 0 0)),(2,(.bool b2)),(32,(.agg [.i u00,.i u01,.i u02])),(33,(.i x33))],[(1,(some (.box (Md.cs m))))]⟩ =
 (some ((.bool b2),[])):=by kernel_rfl
theorem tK (N:Nat) (m:Md) (b2:Bool) (l52:LI) (x53 x54:Int) (again:St→C0) (k:Out→St→C0):EK (G3 N) (CX JB [1,1,1,0,1,0,0])
 ⟨[(1,(.ptr 1 0 0)),(2,(.bool b2)),(52,(.list true FA l52)),(53,(.i x53)),(54,(.i x54))],[(1,(some (.box (Md.cs m))))]⟩
 (EF again ⟨[1,2,52,53,54],[1],[]⟩ k) =
 (cond (decide (x54 < x53))
 (cond (decide (0≤x54)&&decide (x54 < ic (AF l52)))
 (cond (decide (IV.toInt (IV.cell (AH l52 (AD x54) default) 0) < 0))
 (k .ret ⟨[(1,(.ptr 1 0 0)),(2,(.bool false)),(52,(.list true FA l52)),(53,(.i x53)),(54,(.i x54))],[(1,(some (.box (Md.cs m))))]⟩)
 (cond (decide (IV.toInt (IV.cell (AH l52 (AD x54) default) 0)≥Md.c m))
 (k .ret ⟨[(1,(.ptr 1 0 0)),(2,(.bool false)),(52,(.list true FA l52)),(53,(.i x53)),(54,(.i x54))],[(1,(some (.box (Md.cs m))))]⟩)
 (cond (!FQ (IV.toList (IV.cell (AH l52 (AD x54) default) 1)) (Md.d m))
 (k .ret ⟨[(1,(.ptr 1 0 0)),(2,(.bool false)),(52,(.list true FA l52)),(53,(.i x53)),(54,(.i x54))],[(1,(some (.box (Md.cs m))))]⟩)
 (again ⟨[(1,(.ptr 1 0 0)),(2,(.bool b2)),(52,(.list true FA l52)),(53,(.i x53)),(54,(.i (AA AC (x54+1))))],[(1,(some (.box (Md.cs m))))]⟩))))
 none)
 (k (.exit 2) ⟨[(1,(.ptr 1 0 0)),(2,(.bool b2)),(52,(.list true FA l52)),(53,(.i x53)),(54,(.i x54))],[(1,(some (.box (Md.cs m))))]⟩)):=by kernel_rfl
theorem z1 (N:Nat) (m:Md) (b2:Bool) (l52:LI) (x53 x54:Int):(C4 2 (C5 (G3 N) (CX JB [1,1,1,1]) (C8 (G3 N) none [.tmp 2] [[.bool]]))) (.exit 2)
 ⟨[(1,(.ptr 1 0 0)),(2,(.bool b2)),(52,(.list true FA l52)),(53,(.i x53)),(54,(.i x54))],[(1,(some (.box (Md.cs m))))]⟩ =
 (some ((.bool true),[])):=by kernel_rfl
theorem cF (N:Nat) (m:Md) (b2:Bool) (l52:LI) (x53 x54:Int):(C4 2 (C5 (G3 N) (CX JB [1,1,1,1]) (C8 (G3 N) none [.tmp 2] [[.bool]]))) .ret
 ⟨[(1,(.ptr 1 0 0)),(2,(.bool b2)),(52,(.list true FA l52)),(53,(.i x53)),(54,(.i x54))],[(1,(some (.box (Md.cs m))))]⟩ =
 (some ((.bool b2),[])):=by kernel_rfl
def IQ (N:Nat):Env:=DJ [(41,P3),(69,TW)] [(5,⟨[1,5,6,7,28,29,30],[5],[]⟩)] 46 N
theorem Ia (N:Nat) (m:Md) (u00:Int) (p:Pt):DE (IQ N) K6 [.tmp 6] [[.z]] [(Md.V m),.i u00,(Pt.V p)] =
 (cond (!DR m)
 (some ((.i 0),[]))
 (cond (decide (u00 < 0))
 (some ((.i 0),[]))
 (cond (decide (u00≥Md.c m))
 (some ((.i 0),[]))
 (cond (decide (u00=ic 0))
 (DC (IQ N) (CX K6 [1,1,1,0,1,0,0]) ⟨[1,5,6,7,28,29,30],[5],[]⟩ N ⟨[(1,(.i u00)),(5,(.ptr 5 0 0)),(6,(.i 0)),(7,(.i (Md.b0 m))),(28,(.list true FA (Md.ts m))),(29,(.i (ic (AF (Md.ts m))))),(30,(.i 0))],[(5,(some (.box (Pt.cs p))))]⟩ (C4 0 (C5 (IQ N) (CX K6 [1,1,1,1]) (C8 (IQ N) none [.tmp 6] [[.z]]))))
 (cond (decide (u00=ic 1))
 (DC (IQ N) (CX K6 [1,1,1,0,1,0,0]) ⟨[1,5,6,7,28,29,30],[5],[]⟩ N ⟨[(1,(.i u00)),(5,(.ptr 5 0 0)),(6,(.i 0)),(7,(.i (Md.b1 m))),(28,(.list true FA (Md.ts m))),(29,(.i (ic (AF (Md.ts m))))),(30,(.i 0))],[(5,(some (.box (Pt.cs p))))]⟩ (C4 0 (C5 (IQ N) (CX K6 [1,1,1,1]) (C8 (IQ N) none [.tmp 6] [[.z]]))))
 (cond (decide (u00=ic 2))
 (DC (IQ N) (CX K6 [1,1,1,0,1,0,0]) ⟨[1,5,6,7,28,29,30],[5],[]⟩ N ⟨[(1,(.i u00)),(5,(.ptr 5 0 0)),(6,(.i 0)),(7,(.i (Md.b2 m))),(28,(.list true FA (Md.ts m))),(29,(.i (ic (AF (Md.ts m))))),(30,(.i 0))],[(5,(some (.box (Pt.cs p))))]⟩ (C4 0 (C5 (IQ N) (CX K6 [1,1,1,1]) (C8 (IQ N) none [.tmp 6] [[.z]]))))
 none)))))):=by kernel_rfl
theorem tJ (N:Nat) (p:Pt) (x1 x6 x7:Int) (l28:LI) (x29 x30:Int) (again:St→C0) (k:Out→St→C0):EK (IQ N) (CX K6 [1,1,1,0,1,0,0])
 ⟨[(1,(.i x1)),(5,(.ptr 5 0 0)),(6,(.i x6)),(7,(.i x7)),(28,(.list true FA l28)),(29,(.i x29)),(30,(.i x30))],[(5,(some (.box (Pt.cs p))))]⟩
 (EF again ⟨[1,5,6,7,28,29,30],[5],[]⟩ k) =
 (cond (decide (x30 < x29))
 (cond (decide (0≤x30)&&decide (x30 < ic (AF l28)))
 (cond (IV.toInt (IV.cell (AH l28 (AD x30) default) 0)==x1)
 (again ⟨[(1,(.i x1)),(5,(.ptr 5 0 0)),(6,(.i x6)),(7,(.i (AA AC (x7+FF (IV.toList (IV.cell (AH l28 (AD x30) default) 1)) p)))),(28,(.list true FA l28)),(29,(.i x29)),(30,(.i (AA AC (x30+1))))],[(5,(some (.box (Pt.cs p))))]⟩)
 (again ⟨[(1,(.i x1)),(5,(.ptr 5 0 0)),(6,(.i x6)),(7,(.i x7)),(28,(.list true FA l28)),(29,(.i x29)),(30,(.i (AA AC (x30+1))))],[(5,(some (.box (Pt.cs p))))]⟩))
 none)
 (k (.exit 0) ⟨[(1,(.i x1)),(5,(.ptr 5 0 0)),(6,(.i x6)),(7,(.i x7)),(28,(.list true FA l28)),(29,(.i x29)),(30,(.i x30))],[(5,(some (.box (Pt.cs p))))]⟩)):=by kernel_rfl
theorem zX (N:Nat) (p:Pt) (x1 x6 x7:Int) (l28:LI) (x29 x30:Int):(C4 0 (C5 (IQ N) (CX K6 [1,1,1,1]) (C8 (IQ N) none [.tmp 6] [[.z]]))) (.exit 0)
 ⟨[(1,(.i x1)),(5,(.ptr 5 0 0)),(6,(.i x6)),(7,(.i x7)),(28,(.list true FA l28)),(29,(.i x29)),(30,(.i x30))],[(5,(some (.box (Pt.cs p))))]⟩ =
 (some ((.i x7),[])):=by kernel_rfl
open Go Go.Proofs
def G4 (N:Nat):Env:=DJ [(70,LS)] [(5,⟨[0,1,4,5,20,21,22],[19],[]⟩),(17,⟨[0,4,5,10],[19],[]⟩)] 94 N
theorem Ie (N:Nat) (l:LI) (a1:Int):DE (G4 N) JC [.tmp 4] [[.bool]] [(.list false [.int .u64] l),(.int .i64 a1)] =
 (cond (decide (ic (AF l) < 1))
 (some ((.bool false),[]))
 (cond (decide (ic (AF l) > 31))
 (some ((.bool false),[]))
 (DC (G4 N) (CX JC [1,1,1,0,1,0,0]) ⟨[0,1,4,5,20,21,22],[19],[]⟩ N ⟨[(0,(.list false [(.int .u64)] l)),(1,(.int .i64 a1)),(4,(.bool false)),(5,(.ptr 19 0 0)),(20,(.list false [(.int .u64)] l)),(21,(.int .i64 (ic (AF l)))),(22,(.int .i64 0))],[(19,(some (.map .z [])))]⟩ (C4 0 (C5 (G4 N) (CX JC [1,1,1,1]) (C8 (G4 N) none [(BH 4)] [[.bool]])))))):=by kernel_rfl
theorem tL (N:Nat) (l0:LI) (x1:Int) (b4:Bool) (l20:LI) (x21 x22:Int) (mo19:List (Int × IV)) (again:St→C0) (k:Out→St→C0):EK (G4 N) (CX JC [1,1,1,0,1,0,0])
 ⟨[(0,(.list false [(.int .u64)] l0)),(1,(.int .i64 x1)),(4,(.bool b4)),(5,(.ptr 19 0 0)),(20,(.list false [(.int .u64)] l20)),(21,(.int .i64 x21)),(22,(.int .i64 x22))],[(19,(some (.map .z mo19)))]⟩
 (EF again ⟨[0,1,4,5,20,21,22],[19],[]⟩ k) =
 (cond (decide (x22 < x21))
 (cond (decide (0≤x22)&&decide (x22 < ic (AF l20)))
 (cond (!EQ (IV.toInt (AH l20 (AD x22) default)))
 (k .ret ⟨[(0,(.list false [(.int .u64)] l0)),(1,(.int .i64 x1)),(4,(.bool false)),(5,(.ptr 19 0 0)),(20,(.list false [(.int .u64)] l20)),(21,(.int .i64 x21)),(22,(.int .i64 x22))],[(19,(some (.map .z mo19)))]⟩)
 (cond (Nd.lf (CW (IV.toInt (AH l20 (AD x22) default))))
 (again ⟨[(0,(.list false [(.int .u64)] l0)),(1,(.int .i64 x1)),(4,(.bool b4)),(5,(.ptr 19 0 0)),(20,(.list false [(.int .u64)] l20)),(21,(.int .i64 x21)),(22,(.int .i64 (AA AC (x22+1))))],[(19,(some (.map .z mo19)))]⟩)
 (cond (decide (Nd.f (CW (IV.toInt (AH l20 (AD x22) default)))≥x1))
 (k .ret ⟨[(0,(.list false [(.int .u64)] l0)),(1,(.int .i64 x1)),(4,(.bool false)),(5,(.ptr 19 0 0)),(20,(.list false [(.int .u64)] l20)),(21,(.int .i64 x21)),(22,(.int .i64 x22))],[(19,(some (.map .z mo19)))]⟩)
 (cond (decide (Nd.l (CW (IV.toInt (AH l20 (AD x22) default)))≤x22))
 (k .ret ⟨[(0,(.list false [(.int .u64)] l0)),(1,(.int .i64 x1)),(4,(.bool false)),(5,(.ptr 19 0 0)),(20,(.list false [(.int .u64)] l20)),(21,(.int .i64 x21)),(22,(.int .i64 x22))],[(19,(some (.map .z mo19)))]⟩)
 (cond (decide (Nd.r (CW (IV.toInt (AH l20 (AD x22) default)))≤x22))
 (k .ret ⟨[(0,(.list false [(.int .u64)] l0)),(1,(.int .i64 x1)),(4,(.bool false)),(5,(.ptr 19 0 0)),(20,(.list false [(.int .u64)] l20)),(21,(.int .i64 x21)),(22,(.int .i64 x22))],[(19,(some (.map .z mo19)))]⟩)
 (cond (decide (Nd.l (CW (IV.toInt (AH l20 (AD x22) default)))≥ic (AF l0)))
 (k .ret ⟨[(0,(.list false [(.int .u64)] l0)),(1,(.int .i64 x1)),(4,(.bool false)),(5,(.ptr 19 0 0)),(20,(.list false [(.int .u64)] l20)),(21,(.int .i64 x21)),(22,(.int .i64 x22))],[(19,(some (.map .z mo19)))]⟩)
 (cond (decide (Nd.r (CW (IV.toInt (AH l20 (AD x22) default)))≥ic (AF l0)))
 (k .ret ⟨[(0,(.list false [(.int .u64)] l0)),(1,(.int .i64 x1)),(4,(.bool false)),(5,(.ptr 19 0 0)),(20,(.list false [(.int .u64)] l20)),(21,(.int .i64 x21)),(22,(.int .i64 x22))],[(19,(some (.map .z mo19)))]⟩)
 (cond (Nd.l (CW (IV.toInt (AH l20 (AD x22) default)))==Nd.r (CW (IV.toInt (AH l20 (AD x22) default))))
 (k .ret ⟨[(0,(.list false [(.int .u64)] l0)),(1,(.int .i64 x1)),(4,(.bool false)),(5,(.ptr 19 0 0)),(20,(.list false [(.int .u64)] l20)),(21,(.int .i64 x21)),(22,(.int .i64 x22))],[(19,(some (.map .z mo19)))]⟩)
 (again ⟨[(0,(.list false [(.int .u64)] l0)),(1,(.int .i64 x1)),(4,(.bool b4)),(5,(.ptr 19 0 0)),(20,(.list false [(.int .u64)] l20)),(21,(.int .i64 x21)),(22,(.int .i64 (AA AC (x22+1))))],[(19,(some (.map .z (FJ (FJ mo19 (Nd.l (CW (IV.toInt (AH l20 (AD x22) default)))) (IV.int (AA AC (IV.toInt (HA (Kd.int AC) mo19 (Nd.l (CW (IV.toInt (AH l20 (AD x22) default)))))+1)))) (Nd.r (CW (IV.toInt (AH l20 (AD x22) default)))) (IV.int (AA AC (IV.toInt (HA (Kd.int AC) (FJ mo19 (Nd.l (CW (IV.toInt (AH l20 (AD x22) default)))) (IV.int (AA AC (IV.toInt (HA (Kd.int AC) mo19 (Nd.l (CW (IV.toInt (AH l20 (AD x22) default)))))+1)))) (Nd.r (CW (IV.toInt (AH l20 (AD x22) default)))))+1)))))))]⟩)))))))))
 none)
 (k (.exit 0) ⟨[(0,(.list false [(.int .u64)] l0)),(1,(.int .i64 x1)),(4,(.bool b4)),(5,(.ptr 19 0 0)),(20,(.list false [(.int .u64)] l20)),(21,(.int .i64 x21)),(22,(.int .i64 x22))],[(19,(some (.map .z mo19)))]⟩)):=by kernel_rfl
theorem z2 (N:Nat) (l0:LI) (x1:Int) (b4:Bool) (l20:LI) (x21 x22:Int) (mo19:List (Int × IV)):(C4 0 (C5 (G4 N) (CX JC [1,1,1,1]) (C8 (G4 N) none [(BH 4)] [[.bool]]))) (.exit 0)
 ⟨[(0,(.list false [(.int .u64)] l0)),(1,(.int .i64 x1)),(4,(.bool b4)),(5,(.ptr 19 0 0)),(20,(.list false [(.int .u64)] l20)),(21,(.int .i64 x21)),(22,(.int .i64 x22))],[(19,(some (.map .z mo19)))]⟩ =
 (DC (G4 N) (CX JC [1,1,1,1,0,1,0,0]) ⟨[0,4,5,10],[19],[]⟩ N ⟨[(0,(.list false [(.int .u64)] l0)),(4,(.bool b4)),(5,(.ptr 19 0 0)),(10,(.int .i64 1))],[(19,(some (.map .z mo19)))]⟩ (C4 2 (C5 (G4 N) (CX JC [1,1,1,1,1]) (C8 (G4 N) none [(BH 4)] [[.bool]])))):=by kernel_rfl
theorem z5 (N:Nat) (l0:LI) (x1:Int) (b4:Bool) (l20:LI) (x21 x22:Int) (mo19:List (Int × IV)):(C4 0 (C5 (G4 N) (CX JC [1,1,1,1]) (C8 (G4 N) none [(BH 4)] [[.bool]]))) .ret
 ⟨[(0,(.list false [(.int .u64)] l0)),(1,(.int .i64 x1)),(4,(.bool b4)),(5,(.ptr 19 0 0)),(20,(.list false [(.int .u64)] l20)),(21,(.int .i64 x21)),(22,(.int .i64 x22))],[(19,(some (.map .z mo19)))]⟩ =
 (some ((.bool b4),[])):=by kernel_rfl
theorem tM (N:Nat) (l0:LI) (b4:Bool) (x10:Int) (mo19:List (Int × IV)) (again:St→C0) (k:Out→St→C0):EK (G4 N) (CX JC [1,1,1,1,0,1,0,0])
 ⟨[(0,(.list false [(.int .u64)] l0)),(4,(.bool b4)),(5,(.ptr 19 0 0)),(10,(.int .i64 x10))],[(19,(some (.map .z mo19)))]⟩
 (EF again ⟨[0,4,5,10],[19],[]⟩ k) =
 (cond (decide (x10 < ic (AF l0)))
 (cond (IV.toInt (HA (Kd.int AC) mo19 x10) != 1)
 (k .ret ⟨[(0,(.list false [(.int .u64)] l0)),(4,(.bool false)),(5,(.ptr 19 0 0)),(10,(.int .i64 x10))],[(19,(some (.map .z mo19)))]⟩)
 (again ⟨[(0,(.list false [(.int .u64)] l0)),(4,(.bool b4)),(5,(.ptr 19 0 0)),(10,(.int .i64 (AA AC (x10+1))))],[(19,(some (.map .z mo19)))]⟩))
 (k (.exit 2) ⟨[(0,(.list false [(.int .u64)] l0)),(4,(.bool b4)),(5,(.ptr 19 0 0)),(10,(.int .i64 x10))],[(19,(some (.map .z mo19)))]⟩)):=by kernel_rfl
theorem z6 (N:Nat) (l0:LI) (b4:Bool) (x10:Int) (mo19:List (Int × IV)):(C4 2 (C5 (G4 N) (CX JC [1,1,1,1,1]) (C8 (G4 N) none [(BH 4)] [[.bool]]))) (.exit 2)
 ⟨[(0,(.list false [(.int .u64)] l0)),(4,(.bool b4)),(5,(.ptr 19 0 0)),(10,(.int .i64 x10))],[(19,(some (.map .z mo19)))]⟩ =
 (some ((.bool true),[])):=by kernel_rfl
theorem z7 (N:Nat) (l0:LI) (b4:Bool) (x10:Int) (mo19:List (Int × IV)):(C4 2 (C5 (G4 N) (CX JC [1,1,1,1,1]) (C8 (G4 N) none [(BH 4)] [[.bool]]))) .ret
 ⟨[(0,(.list false [(.int .u64)] l0)),(4,(.bool b4)),(5,(.ptr 19 0 0)),(10,(.int .i64 x10))],[(19,(some (.map .z mo19)))]⟩ =
 (some ((.bool b4),[])):=by kernel_rfl
open Go Go.Proofs
set_option maxRecDepth 100000
theorem oF {w:Int} (h0:0≤w) (h1:w < 18446744073709551616):∃ n:Nat,n < 4294967296∧EP w 4294967295=(n:Int)∧(w < 4294967296→(n:Int)=w):=by
 obtain ⟨k,rfl⟩:=Int.eq_ofNat_of_zero_le h0;refine ⟨k &&& 4294967295,?_,?_,fun hk=>?_⟩
 ·exact Nat.lt_of_le_of_lt Nat.and_le_right (by decide)
 ·exact aM (x:=k) (y:=4294967295) (by omega) (by decide)
 ·have:k &&& (2 ^ 32 - 1)=k:=by rw [Nat.and_two_pow_sub_one_eq_mod]; exact Nat.mod_eq_of_lt (by omega)
  exact congrArg Int.ofNat this
theorem Pp:DD PR B0 89 TT:=by
 refine DK [] [] TT [[.z]] Tryz.func89 De trivial ?_;intro vs r hwf h;unfold TT at h;split at h
 ·rename_i n w;cases hg:(decide (w=32)&&(decide (0≤n)&&decide (n≤4294967295))) with
  | false=>rw [hg] at h; simp [R.get] at h
  | true=>
  rw [hg,R.get_br,CU,R.get_ok] at h;simp only [AG,AN] at hg;obtain ⟨rfl,h0,h1⟩:=hg;refine ⟨0,(Hz 0 n 32).trans ?_⟩;rw [← h];have e0:FE n=n:=by
   unfold FE;rw [PJ];omega
  obtain ⟨k,hk,e1,e2⟩:=oF (w:=FE n) (by omega) (by omega);have e3:(k:Int)=n:=by rw [e2 (by omega),e0]
  show cond (CH (EP (FE n) 4294967295) 2147483648==1) (some (V.int .i64 (C6 (C6 (EP (FE n) 4294967295) - 4294967296)),[])) (some (V.int .i64 (C6 (EP (FE n) 4294967295)),[]))=_;rw [e1,e3];have e4:C6 n=n:=DX (by omega) (by omega);rw [e4];by_cases hn:n < 2147483648
  ·have e5:(CH n 2147483648==1)=false:=by
    rw [vau _ (by omega)];exact BN.2 (by omega)
   rw [e5,CV,Tf h0 hn]
  ·have e5:(CH n 2147483648==1)=true:=by
    rw [vau _ (by omega)];exact BP.2 (by omega)
   rw [e5,CU,Te (by omega) h1];rw [show C6 (n - 4294967296)=n - 4294967296 from DX (by omega) (by omega)]
 ·simp [R.get] at h
theorem Br (w:Int):E1 w 0 32=EP w 4294967295:=by
 unfold E1;rw [show KS 32=4294967295 by decide,show (2:Int) ^ AD 0=1 from rfl,vau _ (by omega),Int.ediv_one]
def S3:V:=.agg [.bool false,.int .i64 0,.int .i64 0,.int .i64 0,.int .i64 0,.int .i64 0]
def aB (x:Nd) (w:Int):C0:=cond (!GZ x) (some (.tup [S3,.bool false],[])) (cond (GM x != w) (some (.tup [S3,.bool false],[])) (some (.tup [x.V,.bool true],[])))
theorem uU {x:Nd} {w:Int} (hx:JM w=x):aB x w=some (.tup [.agg [.bool (CW w).lf,.int .i64 (CW w).v,.int .i64 (CW w).f,.int .i64 (CW w).a,.int .i64 (CW w).l,.int .i64 (CW w).r],.bool (EQ w)],[]):=by
 have e:EQ w=(GZ x&&(GM x==w)):=by
  rw [← Na];unfold fE;rw [hx]
 unfold aB CW;rw [e,hx];show cond (!GZ x) _ (cond (!(GM x==w)) _ _)=_;cases GZ x <;> cases GM x==w <;> rfl
theorem ZQ:DD PR B0 70 LS:=by
 refine DK [(89,TT),(40,NI),(66,P4)] [] LS [[.bool,.z,.z,.z,.z,.z],[.bool]] Tryz.func70 Dk ⟨Pp,gD,sI,trivial⟩ ?_;intro vs r hwf h;unfold LS at h;split at h
 ·rename_i w;rw [R.get_ok] at h;refine ⟨0,(Ig 0 w).trans ?_⟩;rw [← h];have hb:=(hwf (by simp [L7])).1;simp only [RI,wfL] at hb;obtain ⟨h0,h1⟩:=hb;have e0:AI.min=0:=rfl;have e1:AI.max=18446744073709551615:=rfl;rw [e0] at h0;rw [e1] at h1;obtain ⟨k,hk,ek,_⟩:=oF h0 (by omega);have es:HE (C6 (EP w 4294967295))=IL w:=by unfold IL; rw [Br]
  have ew:C6 (EP w 4294967295)=(k:Int):=by rw [ek]; exact DX (by omega) (by omega)
  have g:(decide ((32:Int)=32)&&(decide (0≤C6 (EP w 4294967295))&&decide (C6 (EP w 4294967295)≤4294967295)))=true:=by
   rw [ew,AE (show (0:Int)≤(k:Int) by omega),AE (show (k:Int)≤4294967295 by omega)];rfl
  have ht:=Si h0 (by omega);show cond (CH w 9223372036854775808==1)
   (cond (decide ((32:Int)=32)&&(decide (0≤C6 (EP w 4294967295))&&decide (C6 (EP w 4294967295)≤4294967295)))
    (cond (!MC true (HE (C6 (EP w 4294967295))) 0 0 0 0) (some (V.tup [S3,V.bool false],[])) (cond (FB true (HE (C6 (EP w 4294967295))) 0 0 0 0 != w) (some (V.tup [S3,V.bool false],[])) (some (V.tup [(Nd.mk true (HE (C6 (EP w 4294967295))) 0 0 0 0).V,.bool true],[])))) none)
   (cond (decide ((32:Int)=32)&&(decide (0≤C6 (EP w 4294967295))&&decide (C6 (EP w 4294967295)≤4294967295)))
    (cond (!MC false 0 (C6 (EP (CH w 4294967296) 15)) (HE (C6 (EP w 4294967295))) (C6 (EP (CH w 1099511627776) 255)) (C6 (EP (CH w 281474976710656) 255))) (some (V.tup [S3,V.bool false],[]))
     (cond (FB false 0 (C6 (EP (CH w 4294967296) 15)) (HE (C6 (EP w 4294967295))) (C6 (EP (CH w 1099511627776) 255)) (C6 (EP (CH w 281474976710656) 255)) != w) (some (V.tup [S3,V.bool false],[]))
      (some (V.tup [(Nd.mk false 0 (C6 (EP (CH w 4294967296) 15)) (HE (C6 (EP w 4294967295))) (C6 (EP (CH w 1099511627776) 255)) (C6 (EP (CH w 281474976710656) 255))).V,.bool true],[])))) none)=_
  rw [g,CU,CU,es];cases hw:CH w 9223372036854775808==1 with
  | true=>
   rw [hw] at ht;have rd:JM w=⟨true,IL w,0,0,0,0⟩:=by unfold JM; rw [ht]; rfl
   rw [CU,← uU rd];unfold aB;rw [← ZH,← eZ]
  | false=>
   rw [hw] at ht;have m4:KS 4=15:=by decide
   have m8:KS 8=255:=by decide
   have r4:E1 w 32 4=EP (CH w 4294967296) 15:=by unfold E1; rw [m4]; rfl
   have r5:E1 w 40 8=EP (CH w 1099511627776) 255:=by unfold E1; rw [m8]; rfl
   have r6:E1 w 48 8=EP (CH w 281474976710656) 255:=by unfold E1; rw [m8]; rfl
   have rd:JM w=⟨false,0,C6 (EP (CH w 4294967296) 15),IL w,C6 (EP (CH w 1099511627776) 255),C6 (EP (CH w 281474976710656) 255)⟩:=by unfold JM; rw [ht,r4,r5,r6]; rfl
   rw [CV,← uU rd];unfold aB;rw [← ZH,← eZ]
 ·simp [R.get] at h
def QH (l:LI) (i:Nat) (es:List (Int × IV)):Prop:=∀ j:Nat,(HA .z es (j:Int)).toInt=((EY (l.take i) j:Nat):Int)
theorem yU {l:LI} {i:Nat} {w:IV} {es:List (Int × IV)} (h:l[i]?=some w) (hl:(CW w.toInt).lf=true) (hc:QH l i es):QH l (i+1) es:=fun j=>by
 rw [hc j,Y1 h];unfold HM;rw [hl];rfl
theorem yT {l:LI} {i:Nat} {w:IV} {es:List (Int × IV)} (h:l[i]?=some w) (hl:(CW w.toInt).lf=false) (hn:l.length≤31) {a b:Nat} (ha:(CW w.toInt).l=(a:Int)) (hb:(CW w.toInt).r=(b:Int)) (hab:a≠b) (hc:QH l i es) :
  QH l (i+1) (FJ (FJ es (a:Int) (IV.int (AA AC (IV.toInt (HA (Kd.int AC) es (a:Int))+1)))) (b:Int) (IV.int (AA AC (IV.toInt (HA (Kd.int AC) (FJ es (a:Int) (IV.int (AA AC (IV.toInt (HA (Kd.int AC) es (a:Int))+1)))) (b:Int))+1)))):=fun j=>by
 have hsm:∀ j,EY (l.take i) j≤62:=fun j=>by
  have:=dX (l.take i) j
  rw [A7] at this;omega
 have eab:((a:Int)==(b:Int))=false:=BN.2 (by omega);have wa:AA AC (((EY (l.take i) a:Nat):Int)+1)=((EY (l.take i) a:Nat):Int)+1:=DX (by omega) (by have:=hsm a; omega);have wb:AA AC (((EY (l.take i) b:Nat):Int)+1)=((EY (l.take i) b:Nat):Int)+1:=DX (by omega) (by have:=hsm b; omega);rw [dM,dM,dM,eab,BQ,hc a,hc b,wa,wb,Y1 h];have e:HM (CW w.toInt) j=(if a=j then 1 else 0)+(if b=j then 1 else 0):=by
  unfold HM;rw [hl,ha,hb,BQ];have e1:((a:Int)=(j:Int))↔a=j:=by omega
  have e2:((b:Int)=(j:Int))↔b=j:=by omega
  simp only [e1,e2]
 rw [e];by_cases h1:b=j
 ·subst h1;rw [CN,CF,AX hab,A6 rfl];show ((EY (l.take i) b:Nat):Int)+1=_;omega
 ·have e1:((b:Int)==(j:Int))=false:=BN.2 (by omega);rw [e1,BQ,AX h1];by_cases h2:a=j
  ·subst h2;rw [CN,CF,A6 rfl];show ((EY (l.take i) a:Nat):Int)+1=_;omega
  ·have e2:((a:Int)==(j:Int))=false:=BN.2 (by omega);rw [e2,BQ,AX h2,hc j];omega
abbrev iA (l:LI) (dim:Int) (b:Bool) (i:Int) (es:List (Int × IV)):St:=
 ⟨[(0,(.list false [(.int .u64)] l)),(1,(.int .i64 dim)),(4,(.bool b)),(5,(.ptr 19 0 0)),(20,(.list false [(.int .u64)] l)),(21,(.int .i64 (ic (AF l)))),(22,(.int .i64 i))],[(19,(some (.map .z es)))]⟩
theorem fP (N:Nat) (l:LI) (dim:Int) (hl:l.length≤31) (K:Out→St→C0) (R:C0) (hK:∀ i es,K .ret (iA l dim false i es)=some (.bool false,[])) (hx:∀ es,QH l l.length es→K (.exit 0) (iA l dim false (ic l.length) es)=R):∀ (d i n:Nat) (es:List (Int × IV)),QH l i es→i+d=l.length→d < n →
  DC (G4 N) (CX JC [1,1,1,0,1,0,0]) ⟨[0,1,4,5,20,21,22],[19],[]⟩ n (iA l dim false (i:Int) es) K =
   cond (HN dim (ic l.length) i (l.drop i)) R (some (.bool false,[]))
 | d,i,0,_,_,_,h=>absurd h (by omega)
 | 0,i,n+1,es,hc,hd,_=>by
  have hi:i=l.length:=by omega
  subst hi;rw [DI,tL];rw [AJ (show ¬ ((l.length:Nat):Int) < ic l.length by simp only [ic]; omega),CV,CI];exact hx es hc
 | d+1,i,n+1,es,hc,hd,hn=>by
  have hil:i < l.length:=by omega
  have hw:l[i]?=some l[i]:=AV hil;rw [DI,tL,BD hil];have hg:l.getD (AD (i:Int)) default=l[i]:=by
   rw [A0,BY,hw];rfl
  rw [hg];generalize l[i]=w at hw ⊢;have ei:AA AC ((i:Int)+1)=((i+1:Nat):Int):=by
   rw [DX (by omega) (by omega)];omega
  rw [ei,AE (show (i:Int) < ic l.length by simp only [ic]; omega),CU,AE (show (0:Int)≤(i:Int) by omega),BK,CU];unfold HN;cases hb:EQ w.toInt with
  | false=>
   simp only [BX,CU,B5,CV];exact hK (i:Int) es
  | true=>
   simp only [BB,CV,BL];unfold JV;cases hlf:(CW w.toInt).lf with
   | true=>
    simp only [CU,BL];exact fP N l dim hl K R hK hx d (i+1) n es (yU hw hlf hc) (by omega) (by omega)
   | false=>
    simp only [CV];cases h1:decide ((CW w.toInt).f≥dim) with
    | true=>
     simp only [CU,BB,B5,CV];exact hK (i:Int) es
    | false=>
    cases h3:decide (min (CW w.toInt).l (CW w.toInt).r≤(i:Int)) with
    | true=>
     have g3:=BC h3;simp only [BB,B5,vaM,CV];by_cases h5:(CW w.toInt).l≤(i:Int)
     ·rw [AE h5,CU];exact hK (i:Int) es
     ·rw [AJ h5,CV,AE (show (CW w.toInt).r≤(i:Int) by omega),CU];exact hK (i:Int) es
    | false=>
     have g3:=A1 h3;rw [CV,AJ (show ¬ (CW w.toInt).l≤(i:Int) by omega),CV,AJ (show ¬ (CW w.toInt).r≤(i:Int) by omega),CV];cases h4:decide (max (CW w.toInt).l (CW w.toInt).r≥ic l.length) with
     | true=>
      have g4:=BC h4;simp only [BB,B5,vaM,CV];by_cases h5:(CW w.toInt).l≥ic l.length
      ·rw [AE h5,CU];exact hK (i:Int) es
      ·rw [AJ h5,CV,AE (show (CW w.toInt).r≥ic l.length by omega),CU];exact hK (i:Int) es
     | false=>
      have g4:=A1 h4;rw [AJ (show ¬ (CW w.toInt).l≥ic l.length by omega),CV,AJ (show ¬ (CW w.toInt).r≥ic l.length by omega),CV];cases h2:((CW w.toInt).l==(CW w.toInt).r) with
      | true=>
       simp only [CU,CV,BB,BX,B5,vaM];exact hK (i:Int) es
      | false=>
       have g2:(CW w.toInt).l≠(CW w.toInt).r:=BN.1 h2;simp only [ic] at g4;obtain ⟨a,ha⟩:∃ a:Nat,(CW w.toInt).l=(a:Int):=⟨(CW w.toInt).l.toNat,by omega⟩;obtain ⟨b,hb'⟩:∃ b:Nat,(CW w.toInt).r=(b:Int):=⟨(CW w.toInt).r.toNat,by omega⟩;have hab:a≠b:=fun e=>g2 (by rw [ha,hb',e])
       have hN:=yT hw hlf hl ha hb' hab hc;rw [CV,ha,hb'];simp only [BX,BK,BL];exact fP N l dim hl K R hK hx d (i+1) n _ hN (by omega) (by omega)
abbrev Tm (l:LI) (b:Bool) (j:Int) (es:List (Int × IV)):St:=
 ⟨[(0,(.list false [(.int .u64)] l)),(4,(.bool b)),(5,(.ptr 19 0 0)),(10,(.int .i64 j))],[(19,(some (.map .z es)))]⟩
theorem rF (N:Nat) (l:LI) (es:List (Int × IV)) (hl:l.length≤31) (hc:QH l l.length es):∀ (d j n:Nat),j+1+d=l.length→d < n →
  DC (G4 N) (CX JC [1,1,1,1,0,1,0,0]) ⟨[0,4,5,10],[19],[]⟩ n (Tm l false ((j+1:Nat):Int) es) (C4 2 (C5 (G4 N) (CX JC [1,1,1,1,1]) (C8 (G4 N) none [(BH 4)] [[.bool]]))) =
   some (.bool ((vbb j d).all fun j=>EY l (j+1)==1),[])
 | d,j,0,_,h=>absurd h (by omega)
 | 0,j,n+1,hd,_=>by
  rw [DI,tM,AJ (show ¬ ((j+1:Nat):Int) < ic l.length by simp only [ic]; omega),CV];exact z6 N l false _ es
 | d+1,j,n+1,hd,hn=>by
  have ej:AA AC (((j+1:Nat):Int)+1)=((j+1+1:Nat):Int):=by
   rw [DX (by omega) (by omega)];omega
  have hg:=hc (j+1);rw [BG] at hg;rw [DI,tM,ej,AE (show ((j+1:Nat):Int) < ic l.length by simp only [ic]; omega),CU,hg,List.range'_succ,List.all_cons];have e:(((EY l (j+1):Nat):Int) != 1)=!(EY l (j+1)==1):=by
   show (!(((EY l (j+1):Nat):Int)==1))=_;congr 1;rw [va5,BP,BP];omega
  rw [e];cases (EY l (j+1)==1) with
  | false=>
   rw [BX,CU];exact z7 N l false _ es
  | true=>
   rw [BB,CV,BL];exact rF N l es hl hc d (j+1) n (by omega) (by omega)
theorem Pr:DD PR B0 67 TV:=by
 refine DK [(70,LS)] [(5,⟨[0,1,4,5,20,21,22],[19],[]⟩),(17,⟨[0,4,5,10],[19],[]⟩)] TV [[.bool]] Tryz.func67 Dj ⟨ZQ,trivial⟩ ?_;intro vs r hwf h;unfold TV at h;split at h
 ·rename_i l dim;rw [R.get_ok] at h;refine ⟨40,(Ie 40 l dim).trans ?_⟩;rw [← h];unfold FQ;by_cases h1:1≤l.length
  ·by_cases h2:l.length≤31
   ·rw [AJ (show ¬ ic l.length < 1 by simp only [ic]; omega),AJ (show ¬ ic l.length > 31 by simp only [ic]; omega),CV,CV,BW h1,BW h2];refine (fP 40 l dim h2 _ (some (.bool (O8 l),[])) (fun i es=>?_) (fun es hc=>?_) l.length 0 40 [] (fun j=>?_) (by omega) (by omega)).trans ?_
    ·exact z5 40 l dim false l (ic l.length) i es
    ·refine (z2 40 l dim false l (ic l.length) (ic l.length) es).trans ?_;refine (rF 40 l es h2 hc (l.length - 1) 0 40 (by omega) (by omega)).trans ?_;unfold O8;rw [List.range_eq_range']
    ·rw [Gm,List.take_zero];rfl
    ·rw [CG];cases HN dim (ic l.length) 0 l <;> rfl
   ·have e:BM l.length 31=false:=by
     cases hb:BM l.length 31 with
     | false=>rfl
     | true=>exact absurd (AL hb) h2
    rw [AJ (show ¬ ic l.length < 1 by simp only [ic]; omega),AE (show ic l.length > 31 by simp only [ic]; omega),CV,CU,e,vaM,B5]
  ·have e:BM 1 l.length=false:=by
    cases hb:BM 1 l.length with
    | false=>rfl
    | true=>exact absurd (AL hb) h1
   rw [AE (show ic l.length < 1 by simp only [ic]; omega),CU,e,B5,B5]
 ·simp [R.get] at h
abbrev iC (l:LI) (p:Pt) (x4 a j:Int):St:=
 ⟨[(0,(.list false [(.int .u64)] l)),(3,(.ptr 3 0 0)),(4,(.int .i64 x4)),(5,(.int .i64 a)),(8,(.int .i64 j))],[(3,(some (.box (Pt.cs p))))]⟩
theorem g7 (N:Nat) (l:LI) (p:Pt):∀ (m j n:Nat) (a:Int),0≤a→j+m=31→m < n →
  DC (H2 N) (CX KJ [1,1,0,1,0,0]) ⟨[0,3,4,5,8],[3],[]⟩ n (iC l p 0 a (j:Int)) (C4 0 (C5 (H2 N) (CX KJ [1,1,1]) (C8 (H2 N) none [(BH 4)] [[.z]]))) =
   some (.int .i64 (E0 l p m a).1,[])
 | m,j,0,a,_,_,h=>absurd h (by omega)
 | 0,j,n+1,a,ha,hd,_=>by
  have hj:j=31:=by omega
  subst hj;rw [DI,tN,AJ (show ¬ ((31:Nat):Int) < 31 by omega),CV];exact z8 N p l _ _ _
 | m+1,j,n+1,a,ha,hd,hn=>by
  have ej:AA AC ((j:Int)+1)=((j+1:Nat):Int):=F2 (by omega);rw [DI,tN,AE (show (j:Int) < 31 by omega),CU,E0,ej];cases hge:decide (a≥ic l.length) with
  | true=>
   rw [CU,CU];exact cG N p l _ _ _
  | false=>
   have hge:=A1 hge;rw [CV,CV,AE ha,AE (show a < ic l.length by omega),BK,CU];generalize (l.getD a.toNat default).toInt=w;cases hb:EQ w with
   | false=>
    rw [BX,CU,CU];exact cG N p l _ _ _
   | true=>
    rw [BB,CV,CV];cases hl:(CW w).lf with
    | true=>
     rw [CU,CU];exact cG N p l _ _ _
    | false=>
     obtain ⟨⟨f0,f4⟩,⟨l1,l31⟩,⟨r1,r31⟩,_⟩:=SH hb hl;rw [CV,CV];have step:∀ c:Bool,(cond c (DC (H2 N) (CX KJ [1,1,0,1,0,0]) ⟨[0,3,4,5,8],[3],[]⟩ n (iC l p 0 (CW w).l ((j+1:Nat):Int)) (C4 0 (C5 (H2 N) (CX KJ [1,1,1]) (C8 (H2 N) none [(BH 4)] [[.z]]))))
       (DC (H2 N) (CX KJ [1,1,0,1,0,0]) ⟨[0,3,4,5,8],[3],[]⟩ n (iC l p 0 (CW w).r ((j+1:Nat):Int)) (C4 0 (C5 (H2 N) (CX KJ [1,1,1]) (C8 (H2 N) none [(BH 4)] [[.z]]))))) =
       some (.int .i64 (cond c (E0 l p m (CW w).l) (E0 l p m (CW w).r)).1,[]):=fun c=>by
      cases c with
      | true=>exact g7 N l p m (j+1) n (CW w).l (by omega) (by omega) (by omega)
      | false=>exact g7 N l p m (j+1) n (CW w).r (by omega) (by omega) (by omega)
     obtain e | e | e | e:(CW w).f=0∨(CW w).f=1∨(CW w).f=2∨(CW w).f=3:=by omega
     all_goals
      rw [e];exact step _
theorem Pu:DD PR B0 88 TX:=by
 refine DK [(70,LS)] [(3,⟨[0,3,4,5,8],[3],[]⟩)] TX [[.z]] Tryz.func88 Dm ⟨ZQ,trivial⟩ ?_;intro vs r hwf h;unfold TX at h;split at h
 ·rename_i l p;replace h:=M8 h;obtain ⟨p,rfl,h⟩:=h;rw [R.get_ok] at h;refine ⟨32,?_⟩;rw [← h];exact (Ii 32 l p).trans (g7 32 l p 31 0 32 0 (by omega) rfl (by omega))
 ·simp [R.get] at h
theorem bX (l:LI) (p:Pt):∀ (n:Nat) (a:Int),0≤a→((E0 l p n a).1 = -1∧(E0 l p n a).2=Nd.zero)∨(0≤(E0 l p n a).1∧(E0 l p n a).1 < ic l.length∧(E0 l p n a).2=CW (l.getD (E0 l p n a).1.toNat default).toInt)
 | 0,_,_=>.inl ⟨rfl,rfl⟩
 | n+1,a,ha=>by
  rw [E0];cases hge:decide (a≥ic l.length) with
  | true=>exact .inl ⟨rfl,rfl⟩
  | false=>
   have hge:=A1 hge;rw [CV];generalize hw:(l.getD a.toNat default).toInt=w;cases hb:EQ w with
   | false=>exact .inl ⟨rfl,rfl⟩
   | true=>
    rw [BB,CV];cases hl:(CW w).lf with
    | true=>
     right;rw [CU];exact ⟨ha,by show a < _; omega,by rw [hw]⟩
    | false=>
     obtain ⟨_,⟨l1,_⟩,⟨r1,_⟩,_⟩:=SH hb hl;rw [CV];cases decide (p.g (CW w).f.toNat≤(CW w).a) with
     | true=>exact bX l p n _ (by omega)
     | false=>exact bX l p n _ (by omega)
theorem Ps:DD PR B0 69 TW:=by
 refine DK [(70,LS),(88,TX)] [] TW [[.z]] Tryz.func69 Dl ⟨ZQ,Pu,trivial⟩ ?_;intro vs r hwf h;unfold TW at h;split at h
 ·rename_i l p;replace h:=M8 h;obtain ⟨p,rfl,h⟩:=h;rw [R.get_ok] at h;refine ⟨0,(Ih 0 l p).trans ?_⟩;rw [← h];unfold FF VC QK;rcases bX l p 31 0 (by omega) with ⟨e1,e2⟩ | ⟨e1,e2,e3⟩
  ·rw [e1,e2];rfl
  ·rw [AJ (show ¬ (E0 l p 31 0).1 < 0 by omega),CV,AE e1,AE e2,BK,CU,e3]
 ·simp [R.get] at h
theorem Od (N:Nat) (m:Md) (K:Out→St→C0) (R:C0) (hr:∀ i,K .ret ⟨[(1,(.ptr 1 0 0)),(2,(.bool false)),(32,(.agg [(.int .i64 m.b0),(.int .i64 m.b1),(.int .i64 m.b2)])),(33,(.int .i64 i))],[(1,(some (.box (Md.cs m))))]⟩=some (.bool false,[]))
  (hx:K (.exit 0) ⟨[(1,(.ptr 1 0 0)),(2,(.bool false)),(32,(.agg [(.int .i64 m.b0),(.int .i64 m.b1),(.int .i64 m.b2)])),(33,(.int .i64 3))],[(1,(some (.box (Md.cs m))))]⟩=R) :
  DC (G3 N) (CX JB [1,1,0,1,0,0]) ⟨[1,2,32,33],[1],[]⟩ 10 ⟨[(1,(.ptr 1 0 0)),(2,(.bool false)),(32,(.agg [(.int .i64 m.b0),(.int .i64 m.b1),(.int .i64 m.b2)])),(33,(.int .i64 0))],[(1,(some (.box (Md.cs m))))]⟩ K =
   cond (FR m.c 0 m.b0&&(FR m.c 1 m.b1&&FR m.c 2 m.b2)) R (some (.bool false,[])):=by
 have key:∀ (n:Nat) (i:Int) (b:Int) (X:C0),(cond (!DZ b) (some (V.bool false,[])) (cond (decide (i≥m.c)) (cond (b != 0) (some (V.bool false,[])) X) X):C0)=cond (FR m.c i b) X (some (V.bool false,[])):=fun n i b X=>by
  unfold FR;show (cond (!DZ b) _ (cond (decide (i≥m.c)) (cond (!(b==0)) _ X) X))=_;cases DZ b <;> cases decide (i≥m.c) <;> cases b==0 <;> rfl
 have w1:AA AC (0+1)=1:=rfl;have w2:AA AC (1+1)=2:=rfl;have w3:AA AC (2+1)=3:=rfl;rw [show (10:Nat)=9+1 from rfl,DI,ZY];rw [show decide ((0:Int) < 3)=true from rfl,CU,show decide ((0:Int)=ic 0)=true from rfl,CU,hr,w1,key 0];rw [show (9:Nat)=8+1 from rfl,DI,ZY];rw [show decide ((1:Int) < 3)=true from rfl,CU,show decide ((1:Int)=ic 0)=false from rfl,CV,show decide ((1:Int)=ic 1)=true from rfl,CU,hr,w2,key 0];rw [show (8:Nat)=7+1 from rfl,DI,ZY];rw [show decide ((2:Int) < 3)=true from rfl,CU,show decide ((2:Int)=ic 0)=false from rfl,CV,show decide ((2:Int)=ic 1)=false from rfl,CV,show decide ((2:Int)=ic 2)=true from rfl,CU,hr,w3,key 0];rw [show (7:Nat)=6+1 from rfl,DI,ZY];rw [show decide ((3:Int) < 3)=false from rfl,CV,hx];cases FR m.c 0 m.b0 <;> cases FR m.c 1 m.b1 <;> cases FR m.c 2 m.b2 <;> rfl
abbrev Tl (m:Md) (i:Int):St:=⟨[(1,(.ptr 1 0 0)),(2,(.bool false)),(52,(.list true FA m.ts)),(53,(.int .i64 (ic m.ts.length))),(54,(.int .i64 i))],[(1,(some (.box (Md.cs m))))]⟩
theorem rM (N:Nat) (m:Md) (hm:m.ts.length≤8):∀ (d i n:Nat),i+d=m.ts.length→d < n →
  DC (G3 N) (CX JB [1,1,1,0,1,0,0]) ⟨[1,2,52,53,54],[1],[]⟩ n (Tl m (i:Int)) (C4 2 (C5 (G3 N) (CX JB [1,1,1,1]) (C8 (G3 N) none [(BH 2)] [[.bool]]))) =
   some (.bool ((m.ts.drop i).all (GN m.d m.c)),[])
 | d,i,0,_,h=>absurd h (by omega)
 | 0,i,n+1,hd,_=>by
  have hi:i=m.ts.length:=by omega
  subst hi;rw [DI,tK,JY (AO _),CV,CI];exact z1 N m false _ _ _
 | d+1,i,n+1,hd,hn=>by
  have hi:i < m.ts.length:=by omega
  have ei:AA AC ((i:Int)+1)=((i+1:Nat):Int):=F2 (by omega);rw [DI,tK,ei,IY hi,CU,JI,BK,CU,JX hi,BD hi,List.all_cons];have ih:=rM N m hm d (i+1) n (by omega) (by omega);unfold GN;cases decide ((m.ts[i].cell 0).toInt < 0) with
  | true=>
   rw [CU];exact cF N m false _ _ _
  | false=>
   cases decide ((m.ts[i].cell 0).toInt≥m.c) with
   | true=>
    rw [CV,CU];exact cF N m false _ _ _
   | false=>
    cases FQ (m.ts[i].cell 1).toList m.d with
    | false=>
     rw [CV,CV,BX,CU];exact cF N m false _ _ _
    | true=>
     rw [CV,CV,BB,CV];exact ih
theorem sH:DD PR B0 41 P3:=by
 refine DK [(42,NH),(67,TV)] [(4,⟨[1,2,32,33],[1],[]⟩),(10,⟨[1,2,52,53,54],[1],[]⟩)] P3 [[.bool]] Tryz.func41 Dh ⟨gC,Pr,trivial⟩ ?_;intro vs r hwf h;unfold P3 at h;split at h
 ·rename_i m;replace h:=GU h;obtain ⟨m,rfl,h⟩:=h;rw [R.get_ok] at h;refine ⟨10,(Ic 10 m).trans ?_⟩;rw [← h];unfold DR;cases decide (m.d < 1) with
  | true=>rfl
  | false=>
   cases decide (m.d > 4) with
   | true=>rfl
   | false=>
    cases decide (m.c < 1) with
    | true=>rfl
    | false=>
     cases decide (m.c > 3) with
     | true=>rfl
     | false=>
      rw [CV,CV,CV,CV];by_cases h8:m.ts.length≤8
      ·rw [AJ (show ¬ ic m.ts.length > 8 by simp only [ic]; omega),CV,BW h8];refine (Od 10 m _ (some (.bool (m.ts.all (GN m.d m.c)),[])) (fun i=>zZ 10 m false _ _ _ i) ?_).trans ?_
       ·refine (zY 10 m false _ _ _ 3).trans ?_;exact rM 10 m h8 m.ts.length 0 10 (by omega) (by omega)
       ·cases (FR m.c 0 m.b0&&(FR m.c 1 m.b1&&FR m.c 2 m.b2)) <;> rfl
      ·have e:BM m.ts.length 8=false:=by
        cases hb:BM m.ts.length 8 with
        | false=>rfl
        | true=>exact absurd (AL hb) h8
       rw [AE (show ic m.ts.length > 8 by simp only [ic]; omega),CU,e];rfl
 ·simp [R.get] at h
abbrev Tn (ts:LI) (p:Pt) (k s i:Int):St:=
 ⟨[(1,(.int .i64 k)),(5,(.ptr 5 0 0)),(6,(.int .i64 0)),(7,(.int .i64 s)),(28,(.list true FA ts)),(29,(.int .i64 (ic (AF ts)))),(30,(.int .i64 i))],[(5,(some (.box (Pt.cs p))))]⟩
theorem fL (N:Nat) (ts:LI) (p:Pt) (k:Int) (hts:ts.length≤8):∀ (m i n:Nat) (s:Int),i+m=ts.length→m < n → -2147483648*(i+1)≤s∧s≤2147483648*(i+1) →
  DC (IQ N) (CX K6 [1,1,1,0,1,0,0]) ⟨[1,5,6,7,28,29,30],[5],[]⟩ n (Tn ts p k s (i:Int)) (C4 0 (C5 (IQ N) (CX K6 [1,1,1,1]) (C8 (IQ N) none [(BH 6)] [[.z]]))) =
   some (.int .i64 (KN k p (ts.drop i) s),[])
 | m,i,0,s,_,h,_=>absurd h (by omega)
 | 0,i,n+1,s,hd,_,_=>by
  have hi:i=ts.length:=by omega
  subst hi;rw [DI,tJ,JY (AO _),CV,CI];exact zX N p _ _ _ _ _ _
 | m+1,i,n+1,s,hd,hn,hs=>by
  have hi:i < ts.length:=by omega
  have ei:AA AC ((i:Int)+1)=((i+1:Nat):Int):=F2 (by omega);rw [DI,tJ,ei,IY hi,CU,JI,BK,CU,JX hi,BD hi,KN];have hv:=uX (EA ts[i]) p;cases hc:((ts[i].cell 0).toInt==k) with
  | true=>
   rw [CU,CU];have ew:AA AC (s+FF (EA ts[i]) p)=s+FF (EA ts[i]) p:=DX (by omega) (by omega);have ih:=fL N ts p k hts m (i+1) n (s+FF (EA ts[i]) p) (by omega) (by omega) (by omega);rw [← ew] at ih;refine Eq.trans ih ?_;rw [ew]
  | false=>
   rw [CV,CV];exact fL N ts p k hts m (i+1) n s (by omega) (by omega) (by omega)
theorem Pq:DD PR B0 46 TU:=by
 refine DK [(41,P3),(69,TW)] [(5,⟨[1,5,6,7,28,29,30],[5],[]⟩)] TU [[.z]] Tryz.func46 Df ⟨sH,Ps,trivial⟩ ?_;intro vs r hwf h;unfold TU at h;split at h
 ·rename_i m k p;replace h:=GU h;obtain ⟨m,rfl,h⟩:=h;replace h:=M8 h;obtain ⟨p,rfl,h⟩:=h;rw [R.get_ok] at h;refine ⟨10,(Ia 10 m k p).trans ?_⟩;rw [← h];unfold C1;cases hm:DR m with
  | false=>rfl
  | true=>
   rw [BB,CV,BL];cases h0:decide (k < 0) with
   | true=>
    have:GA m k=false:=by unfold GA; rw [AJ (show ¬ 0≤k by have:=BC h0; omega)]; rfl
    rw [this]; rfl
   | false=>
    have h0:=A1 h0;cases h1:decide (k≥m.c) with
    | true=>
     have:GA m k=false:=by unfold GA; rw [AJ (show ¬ k < m.c by have:=BC h1; omega),vaM]
     rw [this]; rfl
    | false=>
     have h1:=A1 h1;have hk:GA m k=true:=by unfold GA; rw [AE (show 0≤k by omega),AE (show k < m.c by omega)]; rfl
     have hb:=XB hm k;have run:=fL 10 m.ts p k (H9 hm).2.2.1 m.ts.length 0 10 (I9 m k) (by omega) (by have:=(H9 hm).2.2.1; omega) (by omega);rw [hk,CV,CV];rcases bJ hm hk with rfl | rfl | rfl <;> exact run
 ·simp [R.get] at h
open Go
theorem lM {m:Md} {q:Qy} {b:Bx} {k:Nat} (h:∀ j,(C7 m q b j).length≤k):∀ j,DM m q b j≤(k+1) ^ j
 | 0=>AO _
 | j+1=>by
  rw [DM,Nat.pow_succ];exact Nat.mul_le_mul (lM h j) (by have:=h j; omega)
theorem Bk (f:Ft) (q:Qy) (b:Bx):QM f.M q b=true:=by
 have h1:∀ j,(C7 f.M q b j).length≤60:=fun j=>CR (R4 ..) (CR (fD ..) (m6 f))
 have h2:=lM h1 5;unfold QM;rw [iI f,BW (CR h2 (by decide))];rfl
open Go Go.Proofs
def OK (N:Nat):Env:=DJ [(37,P5)] [(3,⟨[3,4,5,6,8,9,10,12],[4,5,6],[]⟩)] 29 N
abbrev PS (m:Md) (q:Qy) (b:Bx) (x3 x8:Int) (b9:Bool) (x10 x12:Int):St:=⟨[(3,(.i x3)),(4,(.ptr 4 0 0)),(5,(.ptr 5 0 0)),(6,(.ptr 6 0 0)),(8,(.i x8)),(9,(.bool b9)),(10,(.i x10)),(12,(.i x12))],[(4,(some (.box (Md.cs m)))),(5,(some (.box (Qy.cs q)))),(6,(some (.box (Bx.cs b))))]⟩
theorem Iu (N:Nat) (m:Md) (q:Qy) (b:Bx) (most:Int):DE (OK N) QF [.tmp 8,.tmp 9] [[.z],[.bool]] [(Md.V m),(Qy.V q),(Bx.V b),.i most]=(DC (OK N) (CX QF [1,1,0,1,0,0]) ⟨[3,4,5,6,8,9,10,12],[4,5,6],[]⟩ N (PS m q b most 0 false 1 0) (C4 0 (C5 (OK N) (CX QF [1,1,1]) (C8 (OK N) none [.tmp 8,.tmp 9] [[.z],[.bool]])))):=by kernel_rfl
theorem tP (N:Nat) (m:Md) (q:Qy) (b:Bx) (x3 x8:Int) (b9:Bool) (x10 x12:Int) (again:St→C0) (k:Out→St→C0):EK (OK N) (CX QF [1,1,0,1,0,0]) (PS m q b x3 x8 b9 x10 x12) (EF again ⟨[3,4,5,6,8,9,10,12],[4,5,6],[]⟩ k)=(cond (decide (x12 < 5)) (cond (DR m&&FS x12) (again (PS m q b x3 x8 b9 (AA AC (x10*AA AC (1+ic (AF (iZ (C7 m q b (AD x12))))))) (AA AC (x12+1)))) none) (k (.exit 0) (PS m q b x3 x8 b9 x10 x12))):=by kernel_rfl
theorem Ab (N:Nat) (m:Md) (q:Qy) (b:Bx) (x3 x8:Int) (b9:Bool) (x10 x12:Int):(C4 0 (C5 (OK N) (CX QF [1,1,1]) (C8 (OK N) none [.tmp 8,.tmp 9] [[.z],[.bool]]))) (.exit 0) (PS m q b x3 x8 b9 x10 x12)=(cond (decide (x10 > x3)) (some ((.tup [.i 0,.bool false]),[])) (some ((.tup [.i x10,.bool true]),[]))):=by kernel_rfl
open Go Go.Proofs
open Go Go.Proofs
open Go Go.Proofs
open Go Go.Proofs
theorem RZ (m:Md) (q:Qy) (b:Bx):∀ j,1≤DM m q b j
 | 0=>AO _
 | j+1=>by
  rw [DM];exact (Nat.mul_le_mul (RZ m q b j) (show 1≤1+(C7 m q b j).length by omega):1*1≤_)
theorem U7 (m:Md) (q:Qy) (b:Bx):∀ d j,DM m q b j≤DM m q b (j+d)
 | 0,j=>AO _
 | d+1,j=>by
  rw [← vaD,DM];exact CR (U7 m q b d j) (vaH _ (by omega))
theorem Bl {m:Md} {q:Qy} {b:Bx} (h:QM m q b=true):DR m=true∧DM m q b 5≤1000000000000000:=by
 unfold QM at h;rw [AG] at h;exact ⟨h.1,AL h.2⟩
theorem cQ {j:Nat} (h:j < 5):FS (j:Int)=true:=by
 unfold FS;rw [AE (by omega),AE (by omega)];rfl
theorem lR (N:Nat) {m:Md} {q:Qy} {b:Bx} (hm:DR m=true) (hc:DM m q b 5≤1000000000000000) (most:Int) (K:Out→St→C0) :
  ∀ (d j n:Nat),j+d=5→d < n→DC (OK N) (CX QF [1,1,0,1,0,0]) ⟨[3,4,5,6,8,9,10,12],[4,5,6],[]⟩ n (PS m q b most 0 false (ic (DM m q b j)) (j:Int)) K =
   K (.exit 0) (PS m q b most 0 false (ic (DM m q b 5)) ((5:Nat):Int))
 | 0,j,n+1,hd,_=>by
  obtain rfl:j=5:=by omega
  rw [DI,tP,AJ (show ¬ ((5:Nat):Int) < 5 by omega),CV]
 | d+1,j,n+1,hd,hn=>by
  have h1:=U7 m q b d (j+1);rw [show j+1+d=5 by omega] at h1;have e0:DM m q b (j+1)=DM m q b j*(1+(C7 m q b j).length):=rfl;have h2:1+(C7 m q b j).length≤DM m q b (j+1):=by
   rw [e0];exact Nat.le_mul_of_pos_left _ (RZ m q b j)
  have e1:AA AC (1+ic (iZ (C7 m q b (AD (j:Int)))).length)=((1+(C7 m q b j).length:Nat):Int):=by
   rw [A0,HU,DX (by simp only [ic]; omega) (by simp only [ic]; omega)];simp only [ic];omega
  have e2:AA AC (ic (DM m q b j)*((1+(C7 m q b j).length:Nat):Int))=ic (DM m q b (j+1)):=by
   have e3:ic (DM m q b j)*((1+(C7 m q b j).length:Nat):Int)=ic (DM m q b (j+1)):=by
    rw [e0];simp only [ic];rw [Int.natCast_mul]
   rw [e3];exact DX (by simp only [ic]; omega) (by simp only [ic]; omega)
  rw [DI,tP,AE (show ((j:Nat):Int) < 5 by omega),CU,hm,cQ (by omega),BK,CU,e1,e2,F2 (by omega)];exact lR N hm hc most K d (j+1) n (by omega) (by omega)
 | 0,_,0,_,h=>by omega
 | _+1,_,0,_,h=>by omega
theorem Qd:DD PR B0 15 T6:=by
 refine DK [(37,P5)] [(3,⟨[3,4,5,6,8,9,10,12],[4,5,6],[]⟩)] T6 [[.z],[.bool]] Tryz.func15 Dy ⟨sK,trivial⟩ ?_;intro vs r hwf h;unfold T6 at h;split at h
 ·rename_i m q b most;replace h:=GU h;obtain ⟨m,rfl,h⟩:=h;replace h:=GP h;obtain ⟨q,rfl,h⟩:=h;replace h:=HQ h;obtain ⟨b,rfl,h⟩:=h;cases hg:(QM m q b) with
  | false=>rw [hg] at h; simp [R.get] at h
  | true=>
  rw [hg,R.get_br,CU,R.get_ok] at h;obtain ⟨hm,hc⟩:=Bl hg;refine ⟨6,(Iu 6 m q b most).trans ?_⟩;rw [← h];refine (lR 6 hm hc most _ 5 0 6 rfl (by omega)).trans ?_;refine (Ab 6 m q b most 0 false (ic (DM m q b 5)) ((5:Nat):Int)).trans ?_;unfold FL;cases decide (ic (DM m q b 5) > most) <;> rfl
 ·simp [R.get] at h
theorem bN (j:Nat):∀ (L:List Int) (c:Bx),(JF j c L).length=L.length+1
 | [],c=>rfl
 | a :: r,c=>by rw [JF,AP,bN j r,AP]
theorem bG (m:Md) (q:Qy) (b:Bx):∀ j,(GW m q b j).length=DM m q b j
 | 0=>rfl
 | j+1=>by
  have key:∀ (l:List Bx),(l.flatMap fun c=>JF j c (C7 m q b j)).length=l.length*(1+(C7 m q b j).length):=by
   intro l
   induction l with
   | nil=>simp
   | cons c r ih=>
    rw [vas,AS,ih,bN,AP,vaL];omega
  rw [GW,DM,key,bG m q b j]
open Go
theorem lL {a:Int}:∀ {l:List Int},l.Pairwise (· < ·)→a∈l→(l.filter fun t=>decide (t < a)).length+(l.filter fun t=>decide (a < t)).length+1=l.length
 | x :: r,hp,ha=>by
  have hlt:∀ y∈r,x < y:=fun y hy=>vav hp hy
  rw [vaU,vaU];by_cases hx:x=a
  ·subst hx;have h1:(r.filter fun t=>decide (t < x))=[]:=List.filter_eq_nil_iff.2 fun y hy=>by have:=hlt y hy; simp; omega
   have h2:(r.filter fun t=>decide (x < t))=r:=List.filter_eq_self.2 fun y hy=>by have:=hlt y hy; simp; omega
   rw [AX (by simp),AX (by simp),h1,h2];simp
  ·have har:a∈r:=by
    rcases AT.1 ha with h | h
    ·exact absurd h.symm hx
    ·exact h
   have hxa:=hlt a har;have ih:=lL (van hp) har;rw [A6 (by simp; omega),AX (by simp; omega),AP,AP];omega
theorem y3 {m:Md} {q:Qy} {b c:Bx} {j:Nat} {a:Int} (ha:a∈C7 m q b j) (hc:c.g j=⟨(b.g j).lo,a⟩):C7 m q c j=(C7 m q b j).filter fun t=>decide (t < a):=by
 obtain ⟨hf,hm,hl,hh⟩:=IW.1 ha;unfold C7;rw [AJ (by omega),CV,CV,hc];unfold HJ;rw [List.filter_filter];refine List.filter_congr fun t _=>?_
 rw [va5];simp only [BO,CM,BI,AG,AN];omega
theorem y2 {m:Md} {q:Qy} {b c:Bx} {j:Nat} {a:Int} (ha:a∈C7 m q b j) (hc:c.g j=⟨a+1,(b.g j).hi⟩):C7 m q c j=(C7 m q b j).filter fun t=>decide (a < t):=by
 obtain ⟨hf,hm,hl,hh⟩:=IW.1 ha;unfold C7;rw [AJ (by omega),CV,CV,hc];unfold HJ;rw [List.filter_filter];refine List.filter_congr fun t _=>?_
 rw [va5];simp only [BO,CM,BI,AG,AN];omega
theorem lN {m:Md} {q:Qy} {b c d:Bx} {j:Nat} (hj:(C7 m q c j).length+(C7 m q d j).length+1=(C7 m q b j).length) (hc:∀ k,k < 5→k≠j→c.g k=b.g k) (hd:∀ k,k < 5→k≠j→d.g k=b.g k) :
  ∀ n,n≤5→(n≤j→DM m q c n=DM m q b n∧DM m q d n=DM m q b n)∧(j < n→DM m q c n+DM m q d n=DM m q b n)
 | 0,_=>⟨fun _=>⟨rfl,rfl⟩,fun h=>by omega⟩
 | n+1,hn=>by
  obtain ⟨h1,h2⟩:=lN hj hc hd n (by omega);refine ⟨fun h=>?_,fun h=>?_⟩
  ·obtain ⟨e1,e2⟩:=h1 (by omega);rw [DM,DM,DM,e1,e2,R3 (hc n (by omega) (by omega)),R3 (hd n (by omega) (by omega))];exact ⟨rfl,rfl⟩
  ·rw [DM,DM,DM];by_cases e:j=n
   ·subst e;obtain ⟨e1,e2⟩:=h1 (AO _);rw [e1,e2,← Nat.mul_add];congr 1;omega
   ·rw [R3 (hc n (by omega) (by omega)),R3 (hd n (by omega) (by omega)),← vaf,h2 (by omega)]
def KA (m:Md) (q:Qy) (l:LI):Int:=(l.map fun x=>2*ic (DM m q (C9 x) 5) - 1).sum
theorem Z0 (m:Md) (q:Qy) (a b:LI):KA m q (a++b)=KA m q a+KA m q b:=by
 unfold KA;rw [List.map_append,List.sum_append]
theorem WO (m:Md) (q:Qy) (x:IV):KA m q [x]=2*ic (DM m q (C9 x) 5) - 1:=by simp [KA]
theorem Z1 (m:Md) (q:Qy):∀ l:LI,ic l.length≤KA m q l
 | []=>CQ _
 | x :: r=>by
  have h:=Z1 m q r;have h1:=RZ m q (C9 x) 5;have e:=Z0 m q [x] r;rw [WO] at e;show ic (r.length+1)≤KA m q ([x]++r);rw [e];simp only [ic] at h ⊢;omega
structure Dc (m:Md) (q:Qy) (s:Sr):Prop where
 opn:s.v.kind=0→s.spent+KA m q s.left≤2*ic (DM m q (DL q) 5) - 1
 sp:s.spent≤2*ic (DM m q (DL q) 5) - 1
theorem y5 {m:Md} {q:Qy} {s:Sr} (hr:DQ m q=true) (h:Ri m q s) (hd:Dc m q s) (ho:E4 q s=false):Dc m q (EB m q s):=by
 unfold E4 at ho;rw [CM] at ho;have hk:s.v.kind=0:=by simpa using ho.1
 obtain ⟨hrp,hl,hsp,hvp,hsub⟩:=h.opn hk;have h0:=hd.opn hk;have h1:=Z1 m q s.left;have ht:=WS hrp.left hl;have ept:C3 s.left=C9 (L0 s.left):=rfl;have hsplit:KA m q s.left=KA m q (E5 s.left)+(2*ic (DM m q (C3 s.left) 5) - 1):=by
  have:=congrArg (KA m q) (oB hl)
  rw [Z0,WO,← ept] at this;exact this
 have hc1:=RZ m q (C3 s.left) 5;have hp:=Z1 m q (E5 s.left);have hss:(EB m q s).spent=s.spent+1:=by
  unfold EB;cases EX m _ _ <;> cases EJ m _ _ _ <;> cases (DV m _ _).isSome <;> rfl
 have hspn:(EB m q s).spent≤2*ic (DM m q (DL q) 5) - 1:=by
  rw [hss];simp only [ic] at h1 h0 ⊢;omega
 refine ⟨fun hk'=>?_,hspn⟩;cases hc:EX m q (C3 s.left) with
 | true=>
  have e:(EB m q s).left=E5 s.left:=by unfold EB; rw [hc,CU]
  rw [hss,e];simp only [ic] at hc1 h0 hsplit ⊢;omega
 | false=>
  cases hb:EJ m q (C3 s.left).low (C3 s.left).s4.hi with
  | true=>
   have e:(EB m q s).v.kind=2:=by unfold EB; rw [hc,CV,hb,CU]
   rw [e] at hk';omega
  | false=>
   have hs2:=gJ hr hrp.left hl hc hb;obtain ⟨j,hj,ei,_,_,hm⟩:=ZU hs2;have hcut:=IW.1 hm;have hg:=ht j hj;have e:(EB m q s).left=E5 s.left++[((C3 s.left).cutH (j:Int) (GC (DV m q (C3 s.left)))).I,((C3 s.left).cutL (j:Int) (GC (DV m q (C3 s.left)))).I]:=by
    unfold EB;rw [hc,CV,hb,CV,hs2,CU,ei]
   generalize GC (DV m q (C3 s.left))=a at hm hcut e;have eL:=fun {k} hk=>lU (b:=C3 s.left) hj hcut.2.2.1 hcut.2.2.2 (k:=k) hk
   have eH:=fun {k} hk=>bO (b:=C3 s.left) ht hj hcut.2.2.1 hcut.2.2.2 (k:=k) hk
   have l1:=y3 (c:=(C3 s.left).cutL (j:Int) a) hm (by rw [eL hj,A6 rfl]);have l2:=y2 (c:=(C3 s.left).cutH (j:Int) a) hm (by rw [eH hj,A6 rfl]);have l3:=lL (U8 m q (C3 s.left) j) hm;rw [← l1,← l2] at l3;have hcnt:=(lN l3 (fun k hk hne=>by rw [eL hk,AX hne]) (fun k hk hne=>by rw [eH hk,AX hne]) 5 (AO _)).2 hj;have e2:KA m q [((C3 s.left).cutH (j:Int) a).I,((C3 s.left).cutL (j:Int) a).I]=(2*ic (DM m q ((C3 s.left).cutH (j:Int) a) 5) - 1)+(2*ic (DM m q ((C3 s.left).cutL (j:Int) a) 5) - 1):=by
    have:=Z0 m q [((C3 s.left).cutH (j:Int) a).I] [((C3 s.left).cutL (j:Int) a).I]
    rw [WO,WO,FG,FG] at this;exact this
   rw [hss,e,Z0,e2];simp only [ic] at h0 hsplit ⊢;omega
theorem l5 {m:Md} {q:Qy} (hr:DQ m q=true):∀ (d:Nat) (s:Sr),Ri m q s→Dc m q s→Dc m q (FH m q d s)
 | 0,s,_,hd=>hd
 | d+1,s,h,hd=>by
  rw [FH];cases ho:E4 q s with
  | true=>rw [CU]; exact hd
  | false=>rw [CV]; exact l5 hr d _ (rC hr h ho) (y5 hr h hd ho)
theorem rP {m:Md} {q:Qy} (hr:DQ m q=true):(D2 m q).spent≤2*ic (DM m q (DL q) 5) - 1∧(2*ic (DM m q (DL q) 5) - 1≤q.bu→(D2 m q).kind=1∨(D2 m q).kind=2):=by
 have h3:=(SS hr).2.2.1;have hnew:QX m q=⟨[(DL q).I],[],Vd.none,0⟩:=by unfold QX; rw [hr,CU]
 have hd0:Dc m q ⟨[(DL q).I],[],Vd.none,0⟩:=by
  have:=RZ m q (DL q) 5
  refine ⟨fun _=>?_,?_⟩
  ·show 0+KA m q [(DL q).I]≤_;rw [WO,FG];omega
  ·show (0:Int)≤_;simp only [ic];omega
 obtain ⟨hi,ho⟩:=fN hr (q.bu.toNat+1) _ (fM hr) (by show q.bu < 0+_; omega);have hd:=l5 hr (q.bu.toNat+1) _ (fM hr) hd0;unfold D2;rw [hnew];generalize FH m q (q.bu.toNat+1) _=s at hi ho hd;refine ⟨hd.sp,fun hbu=>?_⟩;rcases hi.kinds with hk | hk | hk
 ·exfalso;obtain ⟨_,hl,_⟩:=hi.opn hk;have h1:=hd.opn hk;have h2:=Z1 m q s.left;unfold E4 at ho;rw [hk] at ho;have h4:s.spent≥q.bu:=by simpa using ho
  simp only [ic] at h1 h2 hbu;omega
 ·exact .inl (by simp [GT,hk])
 ·exact .inr (by simp [GT,hk])
theorem Ny {m:Md} {q:Qy} (hr:DQ m q=true) (hp:I2 m q (DL q)≤199) (hb:2*ic (DM m q (DL q) 5) - 1≤q.bu):(D2 m q).kind=cond (LE m q) 1 2:=by
 obtain ⟨h1,h2,_⟩:=fQ hr hp;rcases (rP hr).2 hb with hk | hk
 ·rw [(qB (h1 hk).1).1 hk,hk]; rfl
 ·rw [(qB (h2 hk).1).2 hk,hk]; rfl
open Go Go.Proofs
abbrev dD:KP:=⟨[3,4,5,6,8,9,10,20],[4,5,6],[]⟩
abbrev YJ:KP:=⟨[4,5,6,8,9,12,38],[4,5,6,500],[⟨.tmp 12,500,31,true,D0⟩]⟩
abbrev YK:KP:=⟨[4,5,6,8,9,13,14,38,41,42,43],[4,5,6,500,501],[⟨.tmp 14,501,31,true,D0⟩]⟩
abbrev dE:KP:=⟨[4,5,6,8,9,13,14,16,17,38,41,42,43,55,56,57],[4,5,6,16,500,501],[⟨.tmp 14,501,31,true,D0⟩]⟩
def G2 (N:Nat):Env:=DJ [(47,TO)] [(3,⟨[3,4,5,6,8,9,10,20],[4,5,6],[]⟩),(11,⟨[4,5,6,8,9,12,38],[4,5,6,500],[⟨.tmp 12,500,31,true,D0⟩]⟩),(15,⟨[4,5,6,8,9,13,14,38,41,42,43],[4,5,6,500,501],[⟨.tmp 14,501,31,true,D0⟩]⟩),(19,⟨[4,5,6,8,9,13,14,16,17,38,41,42,43,55,56,57],[4,5,6,16,500,501],[⟨.tmp 14,501,31,true,D0⟩]⟩)] 89 N
abbrev Y0 (m:Md) (q:Qy) (b:Bx) (r:Store):Store:=(4,some (.box m.cs)) :: (5,some (.box q.cs)) :: (6,some (.box b.cs)) :: r
abbrev WG (n:Nat) (P:LI):Nat × Option Ob:=(n,some (.row true 31 true D0 P))
abbrev MJ (m:Md) (q:Qy) (b:Bx) (most n i:Int):St:=⟨[(3,.i most),(4,.ptr 4 0 0),(5,.ptr 5 0 0),(6,.ptr 6 0 0),(8,.zs),(9,.bool false),(10,.i n),(20,.i i)],Y0 m q b []⟩
abbrev PV (m:Md) (q:Qy) (b:Bx) (n:Nat) (i:Int) (P:LI):St:=⟨[(4,.ptr 4 0 0),(5,.ptr 5 0 0),(6,.ptr 6 0 0),(8,.zs),(9,.bool false),(12,.row 500 0 n),(38,.i i)],Y0 m q b [WG 500 P]⟩
abbrev PW (m:Md) (q:Qy) (b:Bx) (i:Int) (n nP:Nat) (e k:Int) (P O:LI):St:=⟨[(4,.ptr 4 0 0),(5,.ptr 5 0 0),(6,.ptr 6 0 0),(8,.zs),(9,.bool false),(13,.i i),(14,.row 501 0 n),(38,.i i),(41,.row 500 0 nP),(42,.i e),(43,.i k)],Y0 m q b [WG 500 P,WG 501 O]⟩
abbrev RM (m:Md) (q:Qy) (b:Bx) (i:Int) (n:Nat) (lo:Int) (nP:Nat) (e k:Int) (L:LI) (f j:Int) (c:Bx) (P O:LI):St:=⟨[(4,.ptr 4 0 0),(5,.ptr 5 0 0),(6,.ptr 6 0 0),(8,.zs),(9,.bool false),(13,.i i),(14,.row 501 0 n),(16,.ptr 16 0 0),(17,.i lo),(38,.i i),(41,.row 500 0 nP),(42,.i e),(43,.i k),(55,.list false [.z] L),(56,.i f),(57,.i j)],Y0 m q b [(16,some (.box c.cs)),WG 500 P,WG 501 O]⟩
abbrev eT:List Nat:=[1,1,0,1,0,0]
abbrev eU:List Nat:=[1,1,1,1,0,1,0,0]
abbrev eV:List Nat:=[1,1,1,1,0,1,0,0,1,1,0,0,1,1,0,1,0,0]
abbrev eW:List Nat:=[1,1,1,1,0,1,0,0,1,1,0,0,1,1,0,1,0,0,1,1,0,0,1,1,0,1,0,0]
noncomputable abbrev YG (N:Nat):Out→St→C0:=C4 0 (C5 (G2 N) (CX HG [1,1,1]) (C8 (G2 N) none [.tmp 8,.tmp 9] [[.list true D0],[.bool]]))
noncomputable abbrev cZ (N:Nat):Out→St→C0:=C4 2 (C5 (G2 N) (CX HG [1,1,1,1,1]) (C8 (G2 N) none [.tmp 8,.tmp 9] [[.list true D0],[.bool]]))
noncomputable abbrev c4 (N:Nat) (again:St→C0) (k:Out→St→C0):Out→St→C0:=C4 4 (C5 (G2 N) (CX HG [1,1,1,1,0,1,0,0,1,1,0,0,1,1,1]) (C4 3 (C5 (G2 N) (CX HG [1,1,1,1,0,1,0,0,1,1,1]) (EF again YJ k))))
noncomputable abbrev c5 (N:Nat) (again:St→C0) (k:Out→St→C0):Out→St→C0:=C4 6 (C5 (G2 N) (CX HG [1,1,1,1,0,1,0,0,1,1,0,0,1,1,0,1,0,0,1,1,0,0,1,1,1]) (C4 5 (C5 (G2 N) (CX HG [1,1,1,1,0,1,0,0,1,1,0,0,1,1,0,1,0,0,1,1,1]) (EF again YK k))))
set_option maxRecDepth 100000
theorem Ht (N:Nat) (m:Md) (q:Qy) (b:Bx) (most:Int):DE (G2 N) HG [.tmp 8,.tmp 9] [[.list true D0],[.bool]] [m.V,q.V,b.V,.i most] =
 DC (G2 N) (CX HG eT) dD N (MJ m q b most 1 0) (YG N):=by kernel_rfl
theorem tW (N:Nat) (m:Md) (q:Qy) (b:Bx) (most n i:Int) (again:St→C0) (k:Out→St→C0):EK (G2 N) (CX HG eT) (MJ m q b most n i) (EF again dD k) =
 cond (decide (i < 5)) (cond (DR m&&FS i) (cond (decide (C6 (n*C6 (1+ic (AF (iZ (C7 m q b (AD i)))))) > most))
 (k .ret (MJ m q b most (C6 (n*C6 (1+ic (AF (iZ (C7 m q b (AD i))))))) i))
 (again (MJ m q b most (C6 (n*C6 (1+ic (AF (iZ (C7 m q b (AD i))))))) (C6 (i+1))))) none)
 (k (.exit 0) (MJ m q b most n i)):=by kernel_rfl
theorem Al (N:Nat) (m:Md) (q:Qy) (b:Bx) (most n i:Int):YG N (.exit 0) (MJ m q b most n i)=DC (G2 N) (CX HG eU) YJ N (PV m q b 1 0 [b.I]) (cZ N):=by kernel_rfl
theorem Am (N:Nat) (m:Md) (q:Qy) (b:Bx) (most n i:Int):YG N .ret (MJ m q b most n i)=some (.tup [.list true D0 [],.bool false],[]):=by kernel_rfl
theorem tX (N:Nat) (m:Md) (q:Qy) (b:Bx) (n:Nat) (i:Int) (P:LI) (again:St→C0) (k:Out→St→C0):EK (G2 N) (CX HG eU) (PV m q b n i P) (EF again YJ k) =
 cond (decide (i < 5)) (DC (G2 N) (CX HG eV) YK N (PW m q b i 0 n (ic (n - 0)) 0 P []) (c4 N again k)) (k (.exit 2) (PV m q b n i P)):=by kernel_rfl
theorem An (N:Nat) (m:Md) (q:Qy) (b:Bx) (n:Nat) (i:Int) (P:LI):cZ N (.exit 2) (PV m q b n i P)=some (.tup [.list true D0 (CB 0 (AY n P)),.bool true],[]):=by kernel_rfl
theorem tY (N:Nat) (m:Md) (q:Qy) (b:Bx) {j:Nat} (hj:j < 5) (n nP:Nat) (e x:Int) (P O:LI) (again:St→C0) (k:Out→St→C0):EK (G2 N) (CX HG eV) (PW m q b (j:Int) n nP e x P O) (EF again YK k) =
 cond (decide (x < e)) (cond (decide (0≤x)&&decide (x < ic (nP - 0))) (cond (DR m&&FS (j:Int))
 (DC (G2 N) (CX HG eW) dE N (RM m q b (j:Int) n (b.g j).lo nP e x (iZ (C7 m q b (AD (j:Int)))) (ic (AF (iZ (C7 m q b (AD (j:Int)))))) 0 (C9 (AH P (0+AD x) default)) P O) (c5 N again k)) none) none)
 (k (.exit 4) (PW m q b (j:Int) n nP e x P O)):=by
 obtain rfl | rfl | rfl | rfl | rfl:j=0∨j=1∨j=2∨j=3∨j=4:=by omega
 all_goals kernel_rfl
theorem Ao (N:Nat) (m:Md) (q:Qy) (b:Bx) (i:Int) (n nP:Nat) (e x:Int) (P O:LI) (again:St→C0) (k:Out→St→C0):c4 N again k (.exit 4) (PW m q b i n nP e x P O)=again (PV m q b n (C6 (i+1)) O):=by kernel_rfl
theorem tZ (N:Nat) (m:Md) (q:Qy) (b:Bx) {j:Nat} (hj:j < 5) (n:Nat) (lo:Int) (nP:Nat) (e x:Int) (L:LI) (f y:Int) (c:Bx) (P O:LI) (again:St→C0) (k:Out→St→C0):EK (G2 N) (CX HG eW) (RM m q b (j:Int) n lo nP e x L f y c P O) (EF again dE k) =
 cond (decide (y < f)) (cond (decide (0≤y)&&decide (y < ic (AF L))) (cond (decide ((n+1)*80≤D5))
 (again (RM m q b (j:Int) (n+1) (C6 (IV.toInt (AH L (AD y) default)+1)) nP e x L f (C6 (y+1)) (c.p ⟨lo,IV.toInt (AH L (AD y) default)⟩ j) P (AY n O++[(c.p ⟨lo,IV.toInt (AH L (AD y) default)⟩ j).I]))) none) none)
 (k (.exit 6) (RM m q b (j:Int) n lo nP e x L f y c P O)):=by
 obtain rfl | rfl | rfl | rfl | rfl:j=0∨j=1∨j=2∨j=3∨j=4:=by omega
 all_goals kernel_rfl
theorem Ap (N:Nat) (m:Md) (q:Qy) (b:Bx) {j:Nat} (hj:j < 5) (n:Nat) (lo:Int) (nP:Nat) (e x:Int) (L:LI) (f y:Int) (c:Bx) (P O:LI) (again:St→C0) (k:Out→St→C0):c5 N again k (.exit 6) (RM m q b (j:Int) n lo nP e x L f y c P O) =
 cond (decide ((n+1)*80≤D5)) (again (PW m q b (j:Int) (n+1) nP e (C6 (x+1)) P (AY n O++[(c.p ⟨lo,(b.g j).hi⟩ j).I]))) none:=by
 obtain rfl | rfl | rfl | rfl | rfl:j=0∨j=1∨j=2∨j=3∨j=4:=by omega
 all_goals kernel_rfl
open Go Go.Proofs
def GV (N:Nat):Env:=DJ [(70,LS)] [(8,⟨[3,6,8,9,10,42,43,44],[6,40],[]⟩),(11,⟨[3,6,8,9,10,42,43,44,49,50,51],[6,40],[]⟩),(20,⟨[8,17,96],[96,500],[⟨.tmp 17,500,3,false,[.z]⟩]⟩),(24,⟨[8,17,18,19,96],[96,500],[⟨.tmp 17,500,3,false,[.z]⟩]⟩)] 133 N
abbrev SD:KP:=⟨[3,6,8,9,10,42,43,44],[6,40],[]⟩
abbrev c9:KP:=⟨[3,6,8,9,10,42,43,44,49,50,51],[6,40],[]⟩
abbrev VN:KP:=⟨[8,17,96],[96,500],[⟨.tmp 17,500,3,false,[.z]⟩]⟩
abbrev dA:KP:=⟨[8,17,18,19,96],[96,500],[⟨.tmp 17,500,3,false,[.z]⟩]⟩
abbrev NA (b:Bx) (j f:Int) (ts:LI) (e i:Int) (es:List (Int × IV)):St:=⟨[(3,.int .i64 j),(6,.ptr 6 0 0),(8,.zs),(9,.int .i64 f),(10,.ptr 40 0 0),(42,.list true FA ts),(43,.int .i64 e),(44,.int .i64 i)],[(6,some (.box b.cs)),(40,some (.map .bool es))]⟩
abbrev KY (b:Bx) (j f:Int) (ts:LI) (e i:Int) (l:LI) (g x:Int) (es:List (Int × IV)):St:=⟨[(3,.int .i64 j),(6,.ptr 6 0 0),(8,.zs),(9,.int .i64 f),(10,.ptr 40 0 0),(42,.list true FA ts),(43,.int .i64 e),(44,.int .i64 i),(49,.list false [.int .u64] l),(50,.int .i64 g),(51,.int .i64 x)],[(6,some (.box b.cs)),(40,some (.map .bool es))]⟩
abbrev PX (n:Nat) (u:Option (Int × IV)) (es:List (Int × IV)) (L:LI):St:=⟨[(8,.zs),(17,.row 500 0 n),(96,.ptr 96 0 0)],[(96,some (.iter .bool u es)),(500,some (.row true 3 false [.z] L))]⟩
abbrev OH (n:Nat) (t k:Int) (u:Option (Int × IV)) (es:List (Int × IV)) (L:LI):St:=⟨[(8,.zs),(17,.row 500 0 n),(18,.int .i64 t),(19,.int .i64 k),(96,.ptr 96 0 0)],[(96,some (.iter .bool u es)),(500,some (.row true 3 false [.z] L))]⟩
abbrev V4:List Nat:=[1,1,1,1,1,0,1,0,0]
abbrev eR:List Nat:=[1,1,1,1,1,0,1,0,0,1,1,0,0,1,1,0,0]
abbrev Y9:List Nat:=[1,1,1,1,1,1,1,0,1,0,0]
abbrev eS:List Nat:=[1,1,1,1,1,1,1,0,1,0,0,1,1,0,1,1,1,0,0,0]
noncomputable abbrev YD (N:Nat):Out→St→C0:=C4 0 (C5 (GV N) (CX G6 [1,1,1,1,1,1]) (C8 (GV N) none [.tmp 8] [[.list false [.z]]]))
noncomputable abbrev nQ (N:Nat) (again:St→C0) (k:Out→St→C0):Out→St→C0:=C4 2 (C4 1 (C5 (GV N) (CX G6 [1,1,1,1,1,0,1,0,0,1,1,1]) (EF again SD k)))
noncomputable abbrev SB (N:Nat):Out→St→C0:=C4 4 (C5 (GV N) (CX G6 [1,1,1,1,1,1,1,1]) (C8 (GV N) none [.tmp 8] [[.list false [.z]]]))
noncomputable abbrev cY (N:Nat) (again:St→C0) (k:Out→St→C0):Out→St→C0:=C4 6 (C5 (GV N) (CX G6 [1,1,1,1,1,1,1,0,1,0,0,1,1,0,1,1,1,1]) (C4 5 (EF again VN k)))
def fR (q:Qy) (j:Nat):Int:=cond (A4 j 4) q.ft (j:Int)
set_option maxRecDepth 100000
theorem Hu (N:Nat) (m:Md) (q:Qy) (b:Bx) {j:Nat} (hj:j < 5):DE (GV N) G6 [.tmp 8] [[.list false [.z]]] [m.V,q.V,b.V,.int .i64 (j:Int)] =
 cond (A4 j 4) (cond (q.k != 3) (some (.list false [.z] [],[])) (DC (GV N) (CX G6 V4) SD N (NA b (j:Int) (fR q j) m.ts (ic m.ts.length) 0 []) (YD N)))
 (DC (GV N) (CX G6 V4) SD N (NA b (j:Int) (fR q j) m.ts (ic m.ts.length) 0 []) (YD N)):=by
 obtain rfl | rfl | rfl | rfl | rfl:j=0∨j=1∨j=2∨j=3∨j=4:=by omega
 all_goals kernel_rfl
theorem t2 (N:Nat) (b:Bx) (j f:Int) (ts:LI) (e i:Int) (es:List (Int × IV)) (again:St→C0) (k:Out→St→C0):EK (GV N) (CX G6 V4) (NA b j f ts e i es) (EF again SD k) =
 cond (decide (i < e)) (cond (decide (0≤i)&&decide (i < ic (AF ts)))
 (DC (GV N) (CX G6 eR) c9 N (KY b j f ts e i (IV.toList (IV.cell (AH ts (AD i) default) 1)) (ic (AF (IV.toList (IV.cell (AH ts (AD i) default) 1)))) 0 es) (nQ N again k)) none)
 (k (.exit 0) (NA b j f ts e i es)):=by kernel_rfl
theorem t5 (N:Nat) (b:Bx) {j:Nat} (hj:j < 5) (f:Int) (ts:LI) (e i:Int) (l:LI) (g x:Int) (es:List (Int × IV)) (again:St→C0) (k:Out→St→C0):EK (GV N) (CX G6 eR) (KY b (j:Int) f ts e i l g x es) (EF again c9 k) =
 cond (decide (x < g)) (cond (decide (0≤x)&&decide (x < ic (AF l)))
 (cond (EQ (IV.toInt (AH l (AD x) default))) (cond (!(CW (IV.toInt (AH l (AD x) default))).lf) (cond ((CW (IV.toInt (AH l (AD x) default))).f==f)
 (cond (decide ((CW (IV.toInt (AH l (AD x) default))).a≥(b.g j).lo)) (cond (decide ((CW (IV.toInt (AH l (AD x) default))).a < (b.g j).hi))
 (again (KY b (j:Int) f ts e i l g (C6 (x+1)) (FJ es (CW (IV.toInt (AH l (AD x) default))).a (.bool true))))
 (again (KY b (j:Int) f ts e i l g (C6 (x+1)) es))) (again (KY b (j:Int) f ts e i l g (C6 (x+1)) es))) (again (KY b (j:Int) f ts e i l g (C6 (x+1)) es)))
 (again (KY b (j:Int) f ts e i l g (C6 (x+1)) es))) (again (KY b (j:Int) f ts e i l g (C6 (x+1)) es))) none)
 (k (.exit 2) (KY b (j:Int) f ts e i l g x es)):=by
 obtain rfl | rfl | rfl | rfl | rfl:j=0∨j=1∨j=2∨j=3∨j=4:=by omega
 all_goals kernel_rfl
theorem Ar (N:Nat) (b:Bx) (j f:Int) (ts:LI) (e i:Int) (l:LI) (g x:Int) (es:List (Int × IV)) (again:St→C0) (k:Out→St→C0):nQ N again k (.exit 2) (KY b j f ts e i l g x es)=again (NA b j f ts e (C6 (i+1)) es):=by kernel_rfl
theorem Aq (N:Nat) (b:Bx) (j f:Int) (ts:LI) (e i:Int) (es:List (Int × IV)):YD N (.exit 0) (NA b j f ts e i es)=DC (GV N) (CX G6 Y9) VN N (PX 0 none es []) (SB N):=by kernel_rfl
theorem t6 (N n:Nat) (u:Option (Int × IV)) (es:List (Int × IV)) (L:LI) (again:St→C0) (k:Out→St→C0):EK (GV N) (CX G6 Y9) (PX n u es L) (EF again VN k) =
 cond (A4 (AF es) 0) (k (.exit 4) (PX n u es L))
 (RO (AF es) fun i=>cond (decide ((n+1)*8≤D5)) (DC (GV N) (CX G6 eS) dA N (OH (n+1) (FK es i).1 (ic (n - 0)) (some (FK es i)) (G7 es i) (AY n L++[IV.int (FK es i).1])) (cY N again k)) none):=by kernel_rfl
theorem As (N n:Nat) (u:Option (Int × IV)) (es:List (Int × IV)) (L:LI):SB N (.exit 4) (PX n u es L)=some (.list false [.z] (CB 0 (AY n L)),[]):=by kernel_rfl
theorem t7 (N n:Nat) (t x:Int) (u:Option (Int × IV)) (es:List (Int × IV)) (L:LI) (again:St→C0) (k:Out→St→C0):EK (GV N) (CX G6 eS) (OH n t x u es L) (EF again dA k) =
 cond (decide (x > 0)) (cond (decide (0≤C6 (x - 1))&&decide (C6 (x - 1) < ic (n - 0)))
 (cond (decide (IV.toInt (AH L (0+AD (C6 (x - 1))) default) > t))
 (cond (decide (0≤C6 (x - 1))&&decide (C6 (x - 1) < ic (n - 0))) (cond (decide (0≤x)&&decide (x < ic (n - 0)))
 (again (OH n t (C6 (x - 1)) u es (List.set L (0+AD x) (IV.int (IV.toInt (AH L (0+AD (C6 (x - 1))) default)))))) none) none)
 (k (.exit 6) (OH n t x u es L))) none)
 (k (.exit 6) (OH n t x u es L)):=by kernel_rfl
theorem Au (N n:Nat) (t x:Int) (u:Option (Int × IV)) (es:List (Int × IV)) (L:LI) (again:St→C0) (k:Out→St→C0):cY N again k (.exit 6) (OH n t x u es L) =
 cond (decide (0≤x)&&decide (x < ic (n - 0))) (again (PX n u es (List.set L (0+AD x) (IV.int t)))) none:=by kernel_rfl
open Go Go.Proofs
set_option maxRecDepth 100000
def NX (f lo hi:Int) (w:IV):Bool:=EQ w.toInt&&(!(CW w.toInt).lf&&(((CW w.toInt).f==f)&&(decide ((CW w.toInt).a≥lo)&&decide ((CW w.toInt).a < hi))))
def JL (f lo hi:Int) (es:List (Int × IV)) (w:IV):List (Int × IV):=cond (NX f lo hi w) (FJ es (CW w.toInt).a (.bool true)) es
def M4 (f lo hi:Int) (es:List (Int × IV)) (t:IV):List (Int × IV):=(EA t).foldl (JL f lo hi) es
theorem Mw {f lo hi:Int} {w:IV} {es:List (Int × IV)} (a:Int):a∈EG (JL f lo hi es w)↔a∈EG es∨(NX f lo hi w=true∧a=(CW w.toInt).a):=by
 unfold JL;cases NX f lo hi w with
 | true=>
  rw [CU,c8];constructor
  ·rintro (h | h)
   ·exact .inr ⟨rfl,h⟩
   ·exact .inl h
  ·rintro (h | ⟨_,h⟩)
   ·exact .inr h
   ·exact .inl h
 | false=>
  rw [CV];constructor
  ·exact .inl
  ·rintro (h | ⟨h,_⟩)
   ·exact h
   ·cases h
theorem Mx {f lo hi:Int} {w:IV} {es:List (Int × IV)} (h:(EG es).Nodup):(EG (JL f lo hi es w)).Nodup:=by
 unfold JL;cases NX f lo hi w with
 | true=>exact nT h
 | false=>exact h
theorem qH {f lo hi:Int} (a:Int):∀ (l:LI) (es:List (Int × IV)),a∈EG (l.foldl (JL f lo hi) es)↔a∈EG es∨∃ w∈l,NX f lo hi w=true∧a=(CW w.toInt).a
 | [],es=>by simp
 | w :: r,es=>by
  rw [var,qH a r,Mw];constructor
  ·rintro ((h | h) | ⟨w',hw,h⟩)
   ·exact .inl h
   ·exact .inr ⟨w,AR ..,h⟩
   ·exact .inr ⟨w',AW _ hw,h⟩
  ·rintro (h | ⟨w',hw,h⟩)
   ·exact .inl (.inl h)
   ·rcases AT.1 hw with rfl | hw
    ·exact .inl (.inr h)
    ·exact .inr ⟨w',hw,h⟩
theorem qJ {f lo hi:Int}:∀ (l:LI) (es:List (Int × IV)),(EG es).Nodup→(EG (l.foldl (JL f lo hi) es)).Nodup
 | [],_,h=>h
 | w :: r,es,h=>by
  rw [var];exact qJ r _ (Mx h)
theorem qK {f lo hi:Int} (a:Int):∀ (ts:LI) (es:List (Int × IV)),a∈EG (ts.foldl (M4 f lo hi) es)↔a∈EG es∨∃ t∈ts,∃ w∈EA t,NX f lo hi w=true∧a=(CW w.toInt).a
 | [],es=>by simp
 | t :: r,es=>by
  rw [var,qK a r];unfold M4;rw [qH];constructor
  ·rintro ((h | h) | ⟨w',hw,h⟩)
   ·exact .inl h
   ·exact .inr ⟨t,AR ..,h⟩
   ·exact .inr ⟨w',AW _ hw,h⟩
  ·rintro (h | ⟨w',hw,h⟩)
   ·exact .inl (.inl h)
   ·rcases AT.1 hw with rfl | hw
    ·exact .inl (.inr h)
    ·exact .inr ⟨w',hw,h⟩
theorem qM {f lo hi:Int}:∀ (ts:LI) (es:List (Int × IV)),(EG es).Nodup→(EG (ts.foldl (M4 f lo hi) es)).Nodup
 | [],_,h=>h
 | t :: r,es,h=>by
  rw [var];exact qM r _ (qJ _ _ h)
theorem Gl (es:List (Int × IV)) (k:Int) (x:IV):(FJ es k x).length≤es.length+1:=by
 induction es with
 | nil=>exact AO _
 | cons e r ih=>
  obtain ⟨j,y⟩:=e;rw [YU];cases j==k with
  | true=>exact Nat.le_succ _
  | false=>
   rw [BQ,AP,AP];omega
theorem qI {f lo hi:Int}:∀ (l:LI) (es:List (Int × IV)),(l.foldl (JL f lo hi) es).length≤es.length+l.length
 | [],_=>AO _
 | w :: r,es=>by
  rw [var,AP];have h1:=qI (f:=f) (lo:=lo) (hi:=hi) r (JL f lo hi es w);have h2:(JL f lo hi es w).length≤es.length+1:=by
   unfold JL;cases NX f lo hi w with
   | true=>exact Gl ..
   | false=>exact Nat.le_succ _
  omega
theorem qL {f lo hi:Int}:∀ (ts:LI) (es:List (Int × IV)),(∀ t∈ts,(EA t).length≤31)→(ts.foldl (M4 f lo hi) es).length≤es.length+31*ts.length
 | [],_,_=>AO _
 | t :: r,es,h=>by
  rw [var,AP];have h1:=qL (f:=f) (lo:=lo) (hi:=hi) r (M4 f lo hi es t) fun x hx=>h x (AW _ hx)
  have h2:=qI (f:=f) (lo:=lo) (hi:=hi) (EA t) es;have h3:=h t (AR ..);have h4:(M4 f lo hi es t).length=((EA t).foldl (JL f lo hi) es).length:=rfl;omega
theorem lY (N:Nat) (b:Bx) {j:Nat} (hj:j < 5) (f:Int) (ts:LI) (e i:Int) (l:LI) (hl:l.length≤31) (K:Out→St→C0):∀ (d x n:Nat) (es:List (Int × IV)),x+d=l.length→d < n →
  DC (GV N) (CX G6 eR) c9 n (KY b (j:Int) f ts e i l (ic l.length) (x:Int) es) K=K (.exit 2) (KY b (j:Int) f ts e i l (ic l.length) (ic l.length) ((l.drop x).foldl (JL f (b.g j).lo (b.g j).hi) es))
 | 0,x,n+1,es,hd,_=>by
  have hx:x=l.length:=by omega
  subst hx;rw [DI,t5 N b hj,JY (AO _),CV,CI];rfl
 | d+1,x,n+1,es,hd,hn=>by
  have hx:x < l.length:=by omega
  have ih:=lY N b hj f ts e i l hl K d (x+1) n (JL f (b.g j).lo (b.g j).hi es l[x]) (by omega) (by omega);rw [DI,t5 N b hj,IY hx,CU,JI,BK,CU,JX hx,show C6 ((x:Int)+1)=((x+1:Nat):Int) from F2 (by omega),BD hx,var,← ih];unfold JL NX;cases EQ l[x].toInt <;> cases (CW l[x].toInt).lf <;> cases (CW l[x].toInt).f==f <;> cases decide ((CW l[x].toInt).a≥(b.g j).lo) <;> cases decide ((CW l[x].toInt).a < (b.g j).hi) <;> rfl
 | 0,_,0,_,_,h=>by omega
 | _+1,_,0,_,_,h=>by omega
theorem l4 (N:Nat) (hN:40≤N) (b:Bx) {j:Nat} (hj:j < 5) (f:Int) (ts:LI) (hts:∀ t∈ts,(EA t).length≤31) (h8:ts.length≤8) (K:Out→St→C0):∀ (d i n:Nat) (es:List (Int × IV)),i+d=ts.length→d < n →
  DC (GV N) (CX G6 V4) SD n (NA b (j:Int) f ts (ic ts.length) (i:Int) es) K=K (.exit 0) (NA b (j:Int) f ts (ic ts.length) (ic ts.length) ((ts.drop i).foldl (M4 f (b.g j).lo (b.g j).hi) es))
 | 0,i,n+1,es,hd,_=>by
  have hx:i=ts.length:=by omega
  subst hx;rw [DI,t2,JY (AO _),CV,CI];rfl
 | d+1,i,n+1,es,hd,hn=>by
  have hi:i < ts.length:=by omega
  have hl:=hts _ (vaA hi);have ih:=l4 N hN b hj f ts hts h8 K d (i+1) n (M4 f (b.g j).lo (b.g j).hi es ts[i]) (by omega) (by omega);rw [DI,t2,IY hi,CU,JI,BK,CU,JX hi,BD hi,var,← ih];refine (lY N b hj f ts (ic ts.length) (i:Int) (EA ts[i]) hl _ (EA ts[i]).length 0 N es (by omega) (by omega)).trans ?_;rw [Ar,show C6 ((i:Int)+1)=((i+1:Nat):Int) from F2 (by omega),CG];rfl
 | 0,_,0,_,_,h=>by omega
 | _+1,_,0,_,_,h=>by omega
theorem nE (a b:List Int):iZ (a++b)=iZ a++iZ b:=List.map_append ..
def J7 (L:List Int) (k:Nat) (x:Int):LI:=iZ (L.take k)++.int x :: iZ (L.drop k)
theorem Nj {L:List Int} {k:Nat} (hk:k < L.length) (x:Int):((J7 L (k+1) x).getD k default).toInt=L[k]:=by
 unfold J7;have h1:k < (iZ (L.take (k+1))).length:=by rw [HU,A7]; omega
 rw [BY,List.getElem?_append_left h1];unfold iZ;rw [B6,List.getElem?_take_of_lt (by omega),AV hk];rfl
theorem rG {L:List Int} {k:Nat} (hk:k≤L.length) (x y:Int):(J7 L k x).set k (.int y)=J7 L k y:=by
 unfold J7;have h1:(iZ (L.take k)).length=k:=by rw [HU,A7]; omega
 rw [List.set_append_right _ _ (by omega),h1,Nat.sub_self];rfl
theorem Nk {L:List Int} {k:Nat} (hk:k < L.length):J7 L (k+1) L[k]=J7 L k L[k]:=by
 have e1:L.take (k+1)=L.take k++[L[k]]:=by rw [List.take_add_one,AV hk]; rfl
 have e2:L.drop k=L[k] :: L.drop (k+1):=BD hk;unfold J7;rw [e1,e2,nE,vbf];rfl
theorem nK (N:Nat) (t:Int) (u:Option (Int × IV)) (es:List (Int × IV)) (L:List Int) (hL:L.Pairwise (· < ·)) (ht:t ∉ L) (hlen:L.length≤65536) (K:Out→St→C0):∀ (k n:Nat) (x:Int),k≤L.length→k < n→(∀ y∈L.drop k,t < y) →
  ∃ (k':Nat) (x':Int),k'≤L.length∧(∀ y∈L.drop k',t < y)∧(∀ y∈L.take k',y < t) ∧
   DC (GV N) (CX G6 eS) dA n (OH (L.length+1) t (k:Int) u es (J7 L k x)) K=K (.exit 6) (OH (L.length+1) t (k':Int) u es (J7 L k' x'))
 | 0,n+1,x,_,_,hd=>by
  refine ⟨0,x,B7 _,hd,fun y hy=>by simp at hy,?_⟩;rw [DI,t7,AJ (show ¬ ((0:Nat):Int) > 0 by omega),CV]
 | k+1,n+1,x,hk,hn,hd=>by
  have hk':k < L.length:=by omega
  have ek:C6 (((k+1:Nat):Int) - 1)=(k:Int):=by
   rw [show ((k+1:Nat):Int) - 1=(k:Int) by omega];exact DX (by omega) (by omega)
  rw [DI,t7,AE (show ((k+1:Nat):Int) > 0 by omega),CU,ek,AE (show (0:Int)≤(k:Int) by omega),AE (show (k:Int) < ic (L.length+1 - 0) by simp only [ic]; omega),BK,CU,A3,A0,Nj hk'];by_cases hgt:L[k] > t
  ·rw [AE hgt,CU,CU,AE (show (0:Int)≤((k+1:Nat):Int) by omega),AE (show ((k+1:Nat):Int) < ic (L.length+1 - 0) by simp only [ic]; omega),BK,CU,A3,A0,rG hk,Nk hk'];exact nK N t u es L hL ht hlen K k n L[k] (by omega) (by omega) fun y hy=>by
    rw [BD hk'] at hy;rcases AT.1 hy with rfl | hy
    ·exact hgt
    ·exact hd y hy
  ·rw [AJ hgt,CV];refine ⟨k+1,x,hk,hd,fun y hy=>?_,rfl⟩;have hne:L[k]≠t:=fun e=>ht (e ▸ vaA hk')
   obtain ⟨i,hi,rfl⟩:=List.mem_iff_getElem.1 hy;rw [A7] at hi;rw [List.getElem_take];by_cases e:i=k
   ·subst e; omega
   ·have:=List.pairwise_iff_getElem.1 hL i k (by omega) hk' (by omega)
    omega
 | 0,0,_,_,h,_=>by omega
 | _+1,0,_,_,h,_=>by omega
theorem lZ (N:Nat) (hN:65537 < N) (T:List Int) (hT:T.Pairwise (· < ·)):∀ (d n:Nat) (L:List Int) (u:Option (Int × IV)) (es:List (Int × IV)),es.length=d→d < n→L.Pairwise (· < ·)→(EG es).Nodup→(∀ x∈L,x ∉ EG es)→(∀ x,x∈T↔x∈L∨x∈EG es)→L.length+d≤65536 →
  DC (GV N) (CX G6 Y9) VN n (PX L.length u es (iZ L)) (SB N)=some (.list false [.z] (iZ T),[])
 | 0,n+1,L,u,es,hes,_,hL,_,_,hm,_=>by
  have e0:es=[]:=vaR hes;subst e0;rw [DI,t6];show SB N (.exit 4) (PX L.length u [] (iZ L))=_;rw [As,CG];have e1:T=L:=rE hT hL fun x=>by rw [hm x]; simp [EG]
  have e2:AY L.length (iZ L)=iZ L:=vax (by rw [HU]; exact AO _);rw [e2,e1]
 | d+1,n+1,L,u,es,hes,hn,hL,hnd,hdj,hm,hsz=>by
  have e0:A4 es.length 0=false:=by rw [hes]; rfl
  rw [DI,t6,e0,CV];refine xD (by omega) fun i hi=>?_
  obtain ⟨k1,k2,k3⟩:=mB es i hi;obtain ⟨k4,k5⟩:=k2 hnd;have ht:(FK es i).1 ∉ L:=fun h=>hdj _ h ((k1 _).2 (.inl rfl))
  rw [AE (show (L.length+1)*8≤D5 by unfold D5; omega),CU];have erow:AY L.length (iZ L)++[IV.int (FK es i).1]=J7 L L.length (FK es i).1:=by
   unfold J7;rw [BG,CI,vax (by rw [HU]; exact AO _)];rfl
  rw [erow,vam];obtain ⟨k',x',h1,h2,h3,h4⟩:=nK N (FK es i).1 (some (FK es i)) (G7 es i) L hL ht (by omega) (cY N (fun s'=>DC (GV N) (CX G6 Y9) VN n s' (SB N)) (SB N)) L.length N (FK es i).1 (AO _) (by omega) (fun y hy=>by rw [CI] at hy; cases hy);refine h4.trans ?_;rw [Au,AE (show (0:Int)≤(k':Int) by omega),AE (show (k':Int) < ic (L.length+1 - 0) by simp only [ic]; omega),BK,CU,A3,A0,rG h1];have er:J7 L k' (FK es i).1=iZ (L.take k'++(FK es i).1 :: L.drop k'):=by
   unfold J7;rw [nE];rfl
  have el:(L.take k'++(FK es i).1 :: L.drop k').length=L.length+1:=by
   rw [AS,AP,A7,vab];omega
  rw [er,← el];refine lZ N hN T hT d n _ _ _ (by omega) (by omega) (Ni hL h3 h2) k5 (fun x hx=>?_) (fun x=>?_) (by rw [el]; omega)
  ·rcases (nJ x).1 hx with rfl | hx
   ·exact k4
   ·exact fun h=>hdj x hx ((k1 x).2 (.inr h))
  ·rw [hm x,k1 x,nJ];constructor
   ·rintro (h | h | h)
    ·exact .inl (.inr h)
    ·exact .inl (.inl h)
    ·exact .inr h
   ·rintro ((h | h) | h)
    ·exact .inr (.inl h)
    ·exact .inl h
    ·exact .inr (.inr h)
 | 0,0,_,_,_,_,h,_,_,_,_,_=>by omega
 | _+1,0,_,_,_,_,h,_,_,_,_,_=>by omega
theorem ZI {m:Md} (hm:DR m=true):∀ t∈m.ts,(EA t).length≤31∧∀ w∈EA t,EQ w.toInt=true:=by
 intro t ht;have h:=vah.1 (H9 hm).2.2.2.2 t ht;unfold GN at h;simp only [AG] at h;have h2:=h.2.2;unfold FQ at h2;simp only [AG] at h2;obtain ⟨⟨_,h31⟩,hn,_⟩:=h2;refine ⟨AL h31,?_⟩;have key:∀ {dim n:Int} (l:LI) (i:Nat),HN dim n i l=true→∀ w∈l,EQ w.toInt=true:=by
  intro dim n l
  induction l with
  | nil=>intro i _ w hw; cases hw
  | cons x r ih=>
   intro i h w hw;rw [HN] at h;simp only [AG] at h;rcases AT.1 hw with rfl | hw
   ·exact h.1.1
   ·exact ih (i+1) h.2 w hw
 exact key _ 0 hn
theorem Bj {m:Md} (hm:DR m=true) {t w:IV} (ht:t∈m.ts) (hw:w∈EA t) (hl:(CW w.toInt).lf=false):0≤(CW w.toInt).f:=
 (SH ((ZI hm t ht).2 w hw) hl).1.1
theorem y4 {m:Md} (hm:DR m=true) {q:Qy} {b:Bx} {j:Nat} (hj:j < 5) (hk:j=4→q.k=3) (a:Int):a∈C7 m q b j↔a∈EG (m.ts.foldl (M4 (fR q j) (b.g j).lo (b.g j).hi) []):=by
 have ef:FW q (j:Int)=fR q j:=by
  unfold FW fR;by_cases h4:j=4
  ·subst h4;rw [hk rfl];rfl
  ·have e:A4 j 4=false:=by
    cases h:A4 j 4 with
    | false=>rfl
    | true=>exact absurd (vaj h) h4
   rw [e,AE (show (j:Int)≥0 by omega),AE (show (j:Int) < 4 by omega)];rfl
 rw [IW,ef,uJ,qK];unfold NX;constructor
 ·rintro ⟨h0,⟨t,ht,w,hw,h1,h2,h3⟩,h4,h5⟩;refine .inr ⟨t,ht,w,hw,?_,h3.symm⟩;rw [(ZI hm t ht).2 w hw,h1,h2,h3,CN,AE (show a≥(b.g j).lo from h4),AE h5];rfl
 ·rintro (h | ⟨t,ht,w,hw,h,rfl⟩)
  ·cases h
  ·simp only [AG,BO,BP,AN] at h;obtain ⟨_,h1,h2,h3,h4⟩:=h;exact ⟨by rw [← h2]; exact Bj hm ht hw h1,⟨t,ht,w,hw,h1,h2,rfl⟩,h3,h4⟩
theorem Pk:DD PR B0 47 TO:=by
 refine DK [(70,LS)] [(8,⟨[3,6,8,9,10,42,43,44],[6,40],[]⟩),(11,⟨[3,6,8,9,10,42,43,44,49,50,51],[6,40],[]⟩),(20,⟨[8,17,96],[96,500],[⟨.tmp 17,500,3,false,[.z]⟩]⟩),(24,⟨[8,17,18,19,96],[96,500],[⟨.tmp 17,500,3,false,[.z]⟩]⟩)] TO [[.list false [.z]]] Tryz.func47 Cx ⟨ZQ,trivial⟩ ?_;intro vs r hwf h;unfold TO at h;split at h
 ·rename_i m q b i;replace h:=GU h;obtain ⟨m,rfl,h⟩:=h;replace h:=GP h;obtain ⟨q,rfl,h⟩:=h;replace h:=HQ h;obtain ⟨b,rfl,h⟩:=h;cases hg:(DR m&&FS i) with
  | false=>rw [hg] at h; simp [R.get] at h
  | true=>
  rw [hg,R.get_br,CU,R.get_ok] at h;rw [AG] at hg;obtain ⟨hm,hpl⟩:=hg;obtain ⟨j,hj,rfl⟩:∃ j:Nat,j < 5∧i=(j:Int):=by
   unfold FS at hpl;simp only [AG,AN] at hpl;exact ⟨i.toNat,by omega,by omega⟩
  refine ⟨65538,(Hu 65538 m q b hj).trans ?_⟩;rw [← h,A0];have run:(j=4→q.k=3)→DC (GV 65538) (CX G6 V4) SD 65538 (NA b (j:Int) (fR q j) m.ts (ic m.ts.length) 0 []) (YD 65538)=some (.list false [.z] (iZ (C7 m q b j)),[]):=fun hk=>by
   have h8:=(H9 hm).2.2.1;refine (l4 65538 (by omega) b hj (fR q j) m.ts (fun t ht=>(ZI hm t ht).1) h8 _ m.ts.length 0 65538 [] (by omega) (by omega)).trans ?_;rw [Aq,CG];have hlen:=qL (f:=fR q j) (lo:=(b.g j).lo) (hi:=(b.g j).hi) m.ts [] fun t ht=>(ZI hm t ht).1
   have hkeys:=fun a=>y4 (b:=b) hm hj hk a
   have hnd:=qM (f:=fR q j) (lo:=(b.g j).lo) (hi:=(b.g j).hi) m.ts [] (by simp [EG]);generalize m.ts.foldl (M4 (fR q j) (b.g j).lo (b.g j).hi) []=es at hlen hkeys hnd ⊢;rw [BZ] at hlen;exact lZ 65538 (by omega) (C7 m q b j) (U8 m q b j) es.length 65538 [] none es rfl (by omega) List.Pairwise.nil hnd (fun x hx=>by cases hx) (fun x=>by rw [hkeys x]; simp) (by rw [BZ]; omega)
  cases h4:A4 j 4 with
  | true=>
   have e:j=4:=vaj h4;rw [CU];by_cases hk:q.k=3
   ·rw [show (q.k != 3)=false by rw [hk]; rfl,CV];exact run fun _=>hk
   ·rw [show (q.k != 3)=true by simpa using hk,CU,e]
    have:C7 m q b 4=[]:=by
     unfold C7 FW;rw [show (q.k==3)=false by simpa using hk];rfl
    rw [this];rfl
  | false=>
   rw [CV];exact run fun h=>by rw [h] at h4; cases h4
 ·simp [R.get] at h
theorem qR (N:Nat) {m:Md} {q:Qy} {b:Bx} (hm:DR m=true) {most:Nat} (h1:most≤65536) (K:Out→St→C0) (R:C0) (hr:∀ x y,K .ret (MJ m q b (most:Int) x y)=R) :
  ∀ (d j n:Nat),j+d=5→d < n→DM m q b j≤most→DC (G2 N) (CX HG eT) dD n (MJ m q b (most:Int) (ic (DM m q b j)) (j:Int)) K =
   cond (FL m q b (most:Int)) R (K (.exit 0) (MJ m q b (most:Int) (ic (DM m q b 5)) 5))
 | 0,j,n+1,hd,_,hc=>by
  obtain rfl:j=5:=by omega
  have e:FL m q b (most:Int)=false:=by
   unfold FL;exact AJ (by simp only [ic]; omega)
  rw [DI,tW,AJ (show ¬ ((5:Nat):Int) < 5 by omega),CV,e,CV];rfl
 | d+1,j,n+1,hd,hn,hc=>by
  have h2:=lW hm q b j;have e0:DM m q b (j+1)=DM m q b j*(1+(C7 m q b j).length):=rfl;have h3:DM m q b (j+1)≤65536*249:=by rw [e0]; exact Nat.mul_le_mul (by omega) (by omega)
  have e1:C6 (1+ic (iZ (C7 m q b (AD (j:Int)))).length)=((1+(C7 m q b j).length:Nat):Int):=by
   rw [A0,HU,show C6 (1+ic (C7 m q b j).length)=1+ic (C7 m q b j).length from DX (by simp only [ic]; omega) (by simp only [ic]; omega)];simp only [ic];omega
  have e2:C6 (ic (DM m q b j)*((1+(C7 m q b j).length:Nat):Int))=ic (DM m q b (j+1)):=by
   have e3:ic (DM m q b j)*((1+(C7 m q b j).length:Nat):Int)=ic (DM m q b (j+1)):=by
    rw [e0];simp only [ic];rw [Int.natCast_mul]
   rw [e3];exact DX (by simp only [ic]; omega) (by simp only [ic]; omega)
  rw [DI,tW,AE (show ((j:Nat):Int) < 5 by omega),CU,hm,cQ (by omega),BK,CU,e1,e2,show C6 ((j:Int)+1)=((j+1:Nat):Int) from F2 (by omega)];by_cases ho:DM m q b (j+1) > most
  ·have h4:=U7 m q b d (j+1);rw [show j+1+d=5 by omega] at h4;have e:FL m q b (most:Int)=true:=by
    unfold FL;exact AE (by simp only [ic]; omega)
   rw [AE (show ic (DM m q b (j+1)) > (most:Int) by simp only [ic]; omega),CU,e,CU];exact hr _ _
  ·rw [AJ (show ¬ ic (DM m q b (j+1)) > (most:Int) by simp only [ic]; omega),CV];exact qR N hm h1 K R hr d (j+1) n (by omega) (by omega) (by omega)
 | 0,_,0,_,h,_=>by omega
 | _+1,_,0,_,h,_=>by omega
theorem qT (N:Nat) (m:Md) (q:Qy) (b:Bx) {j:Nat} (hj:j < 5) (nP:Nat) (e x:Int) (P:LI) (again:St→C0) (k:Out→St→C0) (L:List Int) (hL:L.length≤65536) (hin:∀ a∈L,-2147483648≤a∧a≤2147483647) :
  ∀ (d i n:Nat) (c:Bx) (lo:Int) (O:LI),i+d=L.length→d < n→O.length+d+1≤65536 →
   DC (G2 N) (CX HG eW) dE n (RM m q b (j:Int) O.length lo nP e x (iZ L) (ic (iZ L).length) (i:Int) c P O) (c5 N again k) =
    again (PW m q b (j:Int) (O++(Q6 j (b.g j).hi c lo (L.drop i)).map Bx.I).length nP e (C6 (x+1)) P (O++(Q6 j (b.g j).hi c lo (L.drop i)).map Bx.I))
 | 0,i,n+1,c,lo,O,hd,_,hO=>by
  have hi:i=L.length:=by omega
  subst hi;rw [DI,tZ N m q b hj,JY (by rw [HU]; exact AO _),CV,CI,Ap N m q b hj,AE (show (O.length+1)*80≤D5 by unfold D5; omega),CU,BG];have e1:(O++(Q6 j (b.g j).hi c lo []).map Bx.I).length=O.length+1:=by rw [AS]; rfl
  rw [e1];rfl
 | d+1,i,n+1,c,lo,O,hd,hn,hO=>by
  have hi:i < L.length:=by omega
  have hi':i < (iZ L).length:=by rw [HU]; exact hi
  have hb:=hin _ (vaA hi);have eg:IV.toInt (AH (iZ L) (AD (i:Int)) default)=L[i]:=by
   unfold iZ;rw [A0,BY,B6,AV hi];rfl
  rw [DI,tZ N m q b hj,IY hi',CU,JI,BK,CU,AE (show (O.length+1)*80≤D5 by unfold D5; omega),CU,eg,show C6 ((i:Int)+1)=((i+1:Nat):Int) from F2 (by omega),BG,BD hi,show C6 (L[i]+1)=L[i]+1 from DX (by omega) (by omega)];have ih:=qT N m q b hj nP e x P again k L hL hin d (i+1) n (c.p ⟨lo,L[i]⟩ j) (L[i]+1) (O++[(c.p ⟨lo,L[i]⟩ j).I]) (by omega) (by omega) (by rw [AS,CT]; omega);rw [vbf] at ih;have e1:(O++[(c.p ⟨lo,L[i]⟩ j).I]).length=O.length+1:=by rw [AS,CT]
  rw [e1] at ih;exact ih
 | 0,_,0,_,_,_,_,h,_=>by omega
 | _+1,_,0,_,_,_,_,h,_=>by omega
theorem qU (N:Nat) (hN:65536 < N) {m:Md} (hm:DR m=true) (q:Qy) {b:Bx} (hb:b.good) {j:Nat} (hj:j < 5) (P:LI) (hP:P.length≤65536) (hPg:∀ x∈P,(C9 x).g j=b.g j) (again:St→C0) (k:Out→St→C0) :
  ∀ (d i n:Nat) (O:LI),i+d=P.length→d < n→O.length+d*(1+(C7 m q b j).length)≤65536 →
   DC (G2 N) (CX HG eV) YK n (PW m q b (j:Int) O.length P.length (ic (P.length - 0)) (i:Int) P O) (c4 N again k) =
    again (PV m q b (O++(P.drop i).flatMap fun x=>(JF j (C9 x) (C7 m q b j)).map Bx.I).length (C6 ((j:Int)+1)) (O++(P.drop i).flatMap fun x=>(JF j (C9 x) (C7 m q b j)).map Bx.I))
 | 0,i,n+1,O,hd,_,_=>by
  have hi:i=P.length:=by omega
  subst hi;rw [DI,tY N m q b hj,vam,JY (AO _),CV,CI,List.flatMap_nil,va8,Ao]
 | d+1,i,n+1,O,hd,hn,hO=>by
  have hi:i < P.length:=by omega
  have hd2:(d+1)*(1+(C7 m q b j).length)=d*(1+(C7 m q b j).length)+(1+(C7 m q b j).length):=vaL _ _;have hbj:=hb j hj;have hcin:∀ a∈C7 m q b j,(b.g j).lo≤a∧a < (b.g j).hi:=fun a ha=>(IW.1 ha).2.2
  have ecut:Q6 j (b.g j).hi (C9 P[i]) (b.g j).lo (C7 m q b j)=JF j (C9 P[i]) (C7 m q b j):=by
   rw [qW j hbj.2.2 _ _ _ hbj.1 (U8 m q b j) hcin]
   have:=Mh (C9 P[i]) j
   rw [hPg _ (vaA hi)] at this;exact congrArg (fun z=>JF j z (C7 m q b j)) this
  rw [DI,tY N m q b hj,vam,IY hi,CU,JI,BK,CU,hm,cQ hj,BK,CU,A3,JX hi,A0];refine (qT N m q b hj P.length (ic P.length) (i:Int) P _ _ (C7 m q b j) (by omega) (fun a ha=>by have:=hcin a ha; omega) (C7 m q b j).length 0 N (C9 P[i]) (b.g j).lo O (by omega) (by omega) (by omega)).trans ?_;rw [CG,ecut,show C6 ((i:Int)+1)=((i+1:Nat):Int) from F2 (by omega)];have ih:=qU N hN hm q hb hj P hP hPg again k d (i+1) n (O++(JF j (C9 P[i]) (C7 m q b j)).map Bx.I) (by omega) (by omega) (by rw [AS,CL,bN]; omega);rw [BD hi,vas,← vbf];rw [vam] at ih;exact ih
 | 0,_,0,_,_,h,_=>by omega
 | _+1,_,0,_,_,h,_=>by omega
theorem qV (N:Nat) (hN:65536 < N) {m:Md} {q:Qy} {b:Bx} (hm:DR m=true) (hb:b.good) (hc:DM m q b 5≤65536) :
  ∀ (d j n:Nat),j+d=5→d < n →
   DC (G2 N) (CX HG eU) YJ n (PV m q b ((GW m q b j).map Bx.I).length (j:Int) ((GW m q b j).map Bx.I)) (cZ N)=some (.tup [.list true D0 ((GW m q b 5).map Bx.I),.bool true],[])
 | 0,j,n+1,hd,_=>by
  obtain rfl:j=5:=by omega
  rw [DI,tX,AJ (show ¬ ((5:Nat):Int) < 5 by omega),CV,An,BG,CG]
 | d+1,j,n+1,hd,hn=>by
  have hj:j < 5:=by omega
  have h1:=U7 m q b d (j+1);rw [show j+1+d=5 by omega] at h1;have e0:DM m q b (j+1)=DM m q b j*(1+(C7 m q b j).length):=rfl;have hl:((GW m q b j).map Bx.I).length=DM m q b j:=by rw [CL,bG]
  have h3:DM m q b j≤DM m q b (j+1):=U7 m q b 1 j;rw [DI,tX,AE (show ((j:Nat):Int) < 5 by omega),CU];refine (qU N hN hm q hb hj ((GW m q b j).map Bx.I) (by omega) (fun x hx=>?_) _ _ ((GW m q b j).map Bx.I).length 0 N [] (by omega) (by rw [hl]; omega) (by
   rw [hl,BZ,A3,← e0];omega)).trans ?_
  ·obtain ⟨c,hc',rfl⟩:=List.mem_map.1 hx;rw [FG];exact (U5 (m:=m) (q:=q) hb j (by omega) c hc').rest j hj (AO _)
  ·rw [show C6 ((j:Int)+1)=((j+1:Nat):Int) from F2 (by omega),CG,vaX];have e5:(((GW m q b j).map Bx.I).flatMap fun x=>(JF j (C9 x) (C7 m q b j)).map Bx.I)=(GW m q b (j+1)).map Bx.I:=by
    rw [GW,List.flatMap_map,List.map_flatMap];rfl
   rw [e5];exact qV N hN hm hb hc d (j+1) n (by omega) (by omega)
 | 0,_,0,_,h=>by omega
 | _+1,_,0,_,h=>by omega
theorem Pj:DD PR B0 39 TN:=by
 refine DK [(47,TO)] [(3,⟨[3,4,5,6,8,9,10,20],[4,5,6],[]⟩),(11,⟨[4,5,6,8,9,12,38],[4,5,6,500],[⟨.tmp 12,500,31,true,D0⟩]⟩),(15,⟨[4,5,6,8,9,13,14,38,41,42,43],[4,5,6,500,501],[⟨.tmp 14,501,31,true,D0⟩]⟩),(19,⟨[4,5,6,8,9,13,14,16,17,38,41,42,43,55,56,57],[4,5,6,16,500,501],[⟨.tmp 14,501,31,true,D0⟩]⟩)] TN [[.list true [.z,.z,.z,.z,.z,.z,.z,.z,.z,.z]],[.bool]] Tryz.func39 Cw ⟨Pk,trivial⟩ ?_;intro vs r hwf h;unfold TN at h;split at h
 ·rename_i m q b most;replace h:=GU h;obtain ⟨m,rfl,h⟩:=h;replace h:=GP h;obtain ⟨q,rfl,h⟩:=h;replace h:=HQ h;obtain ⟨b,rfl,h⟩:=h;cases hg:(DR m&&(b.goodB&&(decide (1≤most)&&decide (most≤65536)))) with
  | false=>rw [hg] at h; simp [R.get] at h
  | true=>
  rw [hg,R.get_br,CU,R.get_ok] at h;simp only [AG,AN] at hg;obtain ⟨hm,hb,h1,h2⟩:=hg;have hb:=Bt hb;obtain ⟨k,rfl⟩:=Int.eq_ofNat_of_zero_le (show 0≤most by omega);refine ⟨65537,(Ht 65537 m q b _).trans ?_⟩;rw [← h];refine (qR 65537 (b:=b) (q:=q) hm (show k≤65536 by omega) (YG 65537) (some (.tup [.list true D0 [],.bool false],[])) (fun x y=>Am 65537 m q b _ x y) 5 0 65537 rfl (by omega) (by show 1≤k; omega)).trans ?_;cases ho:FL m q b (k:Int) with
  | true=>rfl
  | false=>
   rw [CV,CV,Al];have hc2:DM m q b 5≤65536:=by
    unfold FL at ho
    have:=A1 ho
    simp only [ic] at this;omega
   exact qV 65537 (by omega) hm hb hc2 5 0 65537 rfl (by omega)
 ·simp [R.get] at h
open Go Go.Proofs
def vS (N:Nat):Env:=DJ [] [] 28 N
theorem Hw (N:Nat) (q:Qy):DE (vS N) jS [.cell 2 31] [[.z,.z,.z,.z,.z,.z,.z,.z,.z,.z]] [(Qy.V q)] =
 (cond (Qy.k q==3)
 (cond (decide (Qy.ft q≥0))
 (cond (decide (Qy.ft q < 4))
 (cond (decide (Qy.ft q=ic 0))
 (some ((.agg [.i (Qy.a0 q),.i (Qy.b0 q),.i (Qy.a1 q),.i (Qy.b1 q),.i (Qy.a2 q),.i (Qy.b2 q),.i (Qy.a3 q),.i (Qy.b3 q),.i (Qy.a0 q),.i (Qy.b0 q)]),[]))
 (cond (decide (Qy.ft q=ic 1))
 (some ((.agg [.i (Qy.a0 q),.i (Qy.b0 q),.i (Qy.a1 q),.i (Qy.b1 q),.i (Qy.a2 q),.i (Qy.b2 q),.i (Qy.a3 q),.i (Qy.b3 q),.i (Qy.a1 q),.i (Qy.b1 q)]),[]))
 (cond (decide (Qy.ft q=ic 2))
 (some ((.agg [.i (Qy.a0 q),.i (Qy.b0 q),.i (Qy.a1 q),.i (Qy.b1 q),.i (Qy.a2 q),.i (Qy.b2 q),.i (Qy.a3 q),.i (Qy.b3 q),.i (Qy.a2 q),.i (Qy.b2 q)]),[]))
 (cond (decide (Qy.ft q=ic 3))
 (some ((.agg [.i (Qy.a0 q),.i (Qy.b0 q),.i (Qy.a1 q),.i (Qy.b1 q),.i (Qy.a2 q),.i (Qy.b2 q),.i (Qy.a3 q),.i (Qy.b3 q),.i (Qy.a3 q),.i (Qy.b3 q)]),[]))
 (cond (decide (Qy.ft q=ic 4))
 (some ((.agg [.i (Qy.a0 q),.i (Qy.b0 q),.i (Qy.a1 q),.i (Qy.b1 q),.i (Qy.a2 q),.i (Qy.b2 q),.i (Qy.a3 q),.i (Qy.b3 q),.i (Qy.a4 q),.i (Qy.b4 q)]),[]))
 none)))))
 (some ((.agg [.i (Qy.a0 q),.i (Qy.b0 q),.i (Qy.a1 q),.i (Qy.b1 q),.i (Qy.a2 q),.i (Qy.b2 q),.i (Qy.a3 q),.i (Qy.b3 q),.i 0,.i 0]),[])))
 (some ((.agg [.i (Qy.a0 q),.i (Qy.b0 q),.i (Qy.a1 q),.i (Qy.b1 q),.i (Qy.a2 q),.i (Qy.b2 q),.i (Qy.a3 q),.i (Qy.b3 q),.i 0,.i 0]),[])))
 (some ((.agg [.i (Qy.a0 q),.i (Qy.b0 q),.i (Qy.a1 q),.i (Qy.b1 q),.i (Qy.a2 q),.i (Qy.b2 q),.i (Qy.a3 q),.i (Qy.b3 q),.i 0,.i 0]),[]))):=by kernel_rfl
def IP (N:Nat):Env:=DJ [(21,TQ),(46,TU)] [(9,⟨[4,5,6,8,9,38,39],[4,5,6],[]⟩)] 87 N
theorem Hs (N:Nat) (m:Md) (a1:Qy) (a2:Pt) (a3:Int):DE (IP N) KI [.tmp 8] [[.bool]] [(Md.V m),(Qy.V a1),(Pt.V a2),.i a3] =
 (cond (!DQ m a1)
 (some ((.bool false),[]))
 (cond (Qy.k a1==1)
 (cond (decide (C1 m (Qy.c a1) a2 < Qy.lo a1)) (some ((.bool true),[])) (some ((.bool (decide (C1 m (Qy.c a1) a2 > Qy.hi a1))),[])))
 (cond (Qy.k a1==2)
 (DC (IP N) (CX KI [1,1,1,0,1,0,1,1,1,0,0,1,0,0]) ⟨[4,5,6,8,9,38,39],[4,5,6],[]⟩ N ⟨[(4,(.ptr 4 0 0)),(5,(.ptr 5 0 0)),(6,(.ptr 6 0 0)),(8,(.bool false)),(9,(.i (C1 m (Qy.c a1) a2))),(38,(.i (Md.c m))),(39,(.i 0))],[(4,(some (.box (Md.cs m)))),(5,(some (.box (Qy.cs a1)))),(6,(some (.box (Pt.cs a2))))]⟩ (C4 1 (C5 (IP N) (CX KI [1,1,1,0,1,0,1,1,1,0,1]) (C4 0 (C5 (IP N) (CX KI [1,1,1,1]) (C8 (IP N) none [.tmp 8] [[.bool]]))))))
 (cond (decide (Qy.ft a1=ic 0))
 (cond (decide (Pt.p0 a2≥a3))
 (some ((.bool false),[]))
 (cond (decide (Qy.ft a1=ic 0))
 (cond (Qy.fl a1)
 (cond (decide (C1 m (Qy.c a1) a2 < C1 m (Qy.c a1) {p0:=a3,p1:=Pt.p1 a2,p2:=Pt.p2 a2,p3:=Pt.p3 a2}))
 (some ((.bool true),[]))
 (cond (!Qy.fl a1)
 (some ((.bool (decide (C1 m (Qy.c a1) a2 > C1 m (Qy.c a1) {p0:=a3,p1:=Pt.p1 a2,p2:=Pt.p2 a2,p3:=Pt.p3 a2}))),[]))
 (some ((.bool false),[]))))
 (cond (!Qy.fl a1)
 (some ((.bool (decide (C1 m (Qy.c a1) a2 > C1 m (Qy.c a1) {p0:=a3,p1:=Pt.p1 a2,p2:=Pt.p2 a2,p3:=Pt.p3 a2}))),[]))
 (some ((.bool false),[]))))
 (cond (decide (Qy.ft a1=ic 1))
 (cond (Qy.fl a1)
 (cond (decide (C1 m (Qy.c a1) a2 < C1 m (Qy.c a1) {p0:=Pt.p0 a2,p1:=a3,p2:=Pt.p2 a2,p3:=Pt.p3 a2}))
 (some ((.bool true),[]))
 (cond (!Qy.fl a1)
 (some ((.bool (decide (C1 m (Qy.c a1) a2 > C1 m (Qy.c a1) {p0:=Pt.p0 a2,p1:=a3,p2:=Pt.p2 a2,p3:=Pt.p3 a2}))),[]))
 (some ((.bool false),[]))))
 (cond (!Qy.fl a1)
 (some ((.bool (decide (C1 m (Qy.c a1) a2 > C1 m (Qy.c a1) {p0:=Pt.p0 a2,p1:=a3,p2:=Pt.p2 a2,p3:=Pt.p3 a2}))),[]))
 (some ((.bool false),[]))))
 (cond (decide (Qy.ft a1=ic 2))
 (cond (Qy.fl a1)
 (cond (decide (C1 m (Qy.c a1) a2 < C1 m (Qy.c a1) {p0:=Pt.p0 a2,p1:=Pt.p1 a2,p2:=a3,p3:=Pt.p3 a2}))
 (some ((.bool true),[]))
 (cond (!Qy.fl a1)
 (some ((.bool (decide (C1 m (Qy.c a1) a2 > C1 m (Qy.c a1) {p0:=Pt.p0 a2,p1:=Pt.p1 a2,p2:=a3,p3:=Pt.p3 a2}))),[]))
 (some ((.bool false),[]))))
 (cond (!Qy.fl a1)
 (some ((.bool (decide (C1 m (Qy.c a1) a2 > C1 m (Qy.c a1) {p0:=Pt.p0 a2,p1:=Pt.p1 a2,p2:=a3,p3:=Pt.p3 a2}))),[]))
 (some ((.bool false),[]))))
 (cond (decide (Qy.ft a1=ic 3))
 (cond (Qy.fl a1)
 (cond (decide (C1 m (Qy.c a1) a2 < C1 m (Qy.c a1) {p0:=Pt.p0 a2,p1:=Pt.p1 a2,p2:=Pt.p2 a2,p3:=a3}))
 (some ((.bool true),[]))
 (cond (!Qy.fl a1)
 (some ((.bool (decide (C1 m (Qy.c a1) a2 > C1 m (Qy.c a1) {p0:=Pt.p0 a2,p1:=Pt.p1 a2,p2:=Pt.p2 a2,p3:=a3}))),[]))
 (some ((.bool false),[]))))
 (cond (!Qy.fl a1)
 (some ((.bool (decide (C1 m (Qy.c a1) a2 > C1 m (Qy.c a1) {p0:=Pt.p0 a2,p1:=Pt.p1 a2,p2:=Pt.p2 a2,p3:=a3}))),[]))
 (some ((.bool false),[]))))
 none)))))
 (cond (decide (Qy.ft a1=ic 1))
 (cond (decide (Pt.p1 a2≥a3))
 (some ((.bool false),[]))
 (cond (decide (Qy.ft a1=ic 0))
 (cond (Qy.fl a1)
 (cond (decide (C1 m (Qy.c a1) a2 < C1 m (Qy.c a1) {p0:=a3,p1:=Pt.p1 a2,p2:=Pt.p2 a2,p3:=Pt.p3 a2}))
 (some ((.bool true),[]))
 (cond (!Qy.fl a1)
 (some ((.bool (decide (C1 m (Qy.c a1) a2 > C1 m (Qy.c a1) {p0:=a3,p1:=Pt.p1 a2,p2:=Pt.p2 a2,p3:=Pt.p3 a2}))),[]))
 (some ((.bool false),[]))))
 (cond (!Qy.fl a1)
 (some ((.bool (decide (C1 m (Qy.c a1) a2 > C1 m (Qy.c a1) {p0:=a3,p1:=Pt.p1 a2,p2:=Pt.p2 a2,p3:=Pt.p3 a2}))),[]))
 (some ((.bool false),[]))))
 (cond (decide (Qy.ft a1=ic 1))
 (cond (Qy.fl a1)
 (cond (decide (C1 m (Qy.c a1) a2 < C1 m (Qy.c a1) {p0:=Pt.p0 a2,p1:=a3,p2:=Pt.p2 a2,p3:=Pt.p3 a2}))
 (some ((.bool true),[]))
 (cond (!Qy.fl a1)
 (some ((.bool (decide (C1 m (Qy.c a1) a2 > C1 m (Qy.c a1) {p0:=Pt.p0 a2,p1:=a3,p2:=Pt.p2 a2,p3:=Pt.p3 a2}))),[]))
 (some ((.bool false),[]))))
 (cond (!Qy.fl a1)
 (some ((.bool (decide (C1 m (Qy.c a1) a2 > C1 m (Qy.c a1) {p0:=Pt.p0 a2,p1:=a3,p2:=Pt.p2 a2,p3:=Pt.p3 a2}))),[]))
 (some ((.bool false),[]))))
 (cond (decide (Qy.ft a1=ic 2))
 (cond (Qy.fl a1)
 (cond (decide (C1 m (Qy.c a1) a2 < C1 m (Qy.c a1) {p0:=Pt.p0 a2,p1:=Pt.p1 a2,p2:=a3,p3:=Pt.p3 a2}))
 (some ((.bool true),[]))
 (cond (!Qy.fl a1)
 (some ((.bool (decide (C1 m (Qy.c a1) a2 > C1 m (Qy.c a1) {p0:=Pt.p0 a2,p1:=Pt.p1 a2,p2:=a3,p3:=Pt.p3 a2}))),[]))
 (some ((.bool false),[]))))
 (cond (!Qy.fl a1)
 (some ((.bool (decide (C1 m (Qy.c a1) a2 > C1 m (Qy.c a1) {p0:=Pt.p0 a2,p1:=Pt.p1 a2,p2:=a3,p3:=Pt.p3 a2}))),[]))
 (some ((.bool false),[]))))
 (cond (decide (Qy.ft a1=ic 3))
 (cond (Qy.fl a1)
 (cond (decide (C1 m (Qy.c a1) a2 < C1 m (Qy.c a1) {p0:=Pt.p0 a2,p1:=Pt.p1 a2,p2:=Pt.p2 a2,p3:=a3}))
 (some ((.bool true),[]))
 (cond (!Qy.fl a1)
 (some ((.bool (decide (C1 m (Qy.c a1) a2 > C1 m (Qy.c a1) {p0:=Pt.p0 a2,p1:=Pt.p1 a2,p2:=Pt.p2 a2,p3:=a3}))),[]))
 (some ((.bool false),[]))))
 (cond (!Qy.fl a1)
 (some ((.bool (decide (C1 m (Qy.c a1) a2 > C1 m (Qy.c a1) {p0:=Pt.p0 a2,p1:=Pt.p1 a2,p2:=Pt.p2 a2,p3:=a3}))),[]))
 (some ((.bool false),[]))))
 none)))))
 (cond (decide (Qy.ft a1=ic 2))
 (cond (decide (Pt.p2 a2≥a3))
 (some ((.bool false),[]))
 (cond (decide (Qy.ft a1=ic 0))
 (cond (Qy.fl a1)
 (cond (decide (C1 m (Qy.c a1) a2 < C1 m (Qy.c a1) {p0:=a3,p1:=Pt.p1 a2,p2:=Pt.p2 a2,p3:=Pt.p3 a2}))
 (some ((.bool true),[]))
 (cond (!Qy.fl a1)
 (some ((.bool (decide (C1 m (Qy.c a1) a2 > C1 m (Qy.c a1) {p0:=a3,p1:=Pt.p1 a2,p2:=Pt.p2 a2,p3:=Pt.p3 a2}))),[]))
 (some ((.bool false),[]))))
 (cond (!Qy.fl a1)
 (some ((.bool (decide (C1 m (Qy.c a1) a2 > C1 m (Qy.c a1) {p0:=a3,p1:=Pt.p1 a2,p2:=Pt.p2 a2,p3:=Pt.p3 a2}))),[]))
 (some ((.bool false),[]))))
 (cond (decide (Qy.ft a1=ic 1))
 (cond (Qy.fl a1)
 (cond (decide (C1 m (Qy.c a1) a2 < C1 m (Qy.c a1) {p0:=Pt.p0 a2,p1:=a3,p2:=Pt.p2 a2,p3:=Pt.p3 a2}))
 (some ((.bool true),[]))
 (cond (!Qy.fl a1)
 (some ((.bool (decide (C1 m (Qy.c a1) a2 > C1 m (Qy.c a1) {p0:=Pt.p0 a2,p1:=a3,p2:=Pt.p2 a2,p3:=Pt.p3 a2}))),[]))
 (some ((.bool false),[]))))
 (cond (!Qy.fl a1)
 (some ((.bool (decide (C1 m (Qy.c a1) a2 > C1 m (Qy.c a1) {p0:=Pt.p0 a2,p1:=a3,p2:=Pt.p2 a2,p3:=Pt.p3 a2}))),[]))
 (some ((.bool false),[]))))
 (cond (decide (Qy.ft a1=ic 2))
 (cond (Qy.fl a1)
 (cond (decide (C1 m (Qy.c a1) a2 < C1 m (Qy.c a1) {p0:=Pt.p0 a2,p1:=Pt.p1 a2,p2:=a3,p3:=Pt.p3 a2}))
 (some ((.bool true),[]))
 (cond (!Qy.fl a1)
 (some ((.bool (decide (C1 m (Qy.c a1) a2 > C1 m (Qy.c a1) {p0:=Pt.p0 a2,p1:=Pt.p1 a2,p2:=a3,p3:=Pt.p3 a2}))),[]))
 (some ((.bool false),[]))))
 (cond (!Qy.fl a1)
 (some ((.bool (decide (C1 m (Qy.c a1) a2 > C1 m (Qy.c a1) {p0:=Pt.p0 a2,p1:=Pt.p1 a2,p2:=a3,p3:=Pt.p3 a2}))),[]))
 (some ((.bool false),[]))))
 (cond (decide (Qy.ft a1=ic 3))
 (cond (Qy.fl a1)
 (cond (decide (C1 m (Qy.c a1) a2 < C1 m (Qy.c a1) {p0:=Pt.p0 a2,p1:=Pt.p1 a2,p2:=Pt.p2 a2,p3:=a3}))
 (some ((.bool true),[]))
 (cond (!Qy.fl a1)
 (some ((.bool (decide (C1 m (Qy.c a1) a2 > C1 m (Qy.c a1) {p0:=Pt.p0 a2,p1:=Pt.p1 a2,p2:=Pt.p2 a2,p3:=a3}))),[]))
 (some ((.bool false),[]))))
 (cond (!Qy.fl a1)
 (some ((.bool (decide (C1 m (Qy.c a1) a2 > C1 m (Qy.c a1) {p0:=Pt.p0 a2,p1:=Pt.p1 a2,p2:=Pt.p2 a2,p3:=a3}))),[]))
 (some ((.bool false),[]))))
 none)))))
 (cond (decide (Qy.ft a1=ic 3))
 (cond (decide (Pt.p3 a2≥a3))
 (some ((.bool false),[]))
 (cond (decide (Qy.ft a1=ic 0))
 (cond (Qy.fl a1)
 (cond (decide (C1 m (Qy.c a1) a2 < C1 m (Qy.c a1) {p0:=a3,p1:=Pt.p1 a2,p2:=Pt.p2 a2,p3:=Pt.p3 a2}))
 (some ((.bool true),[]))
 (cond (!Qy.fl a1)
 (some ((.bool (decide (C1 m (Qy.c a1) a2 > C1 m (Qy.c a1) {p0:=a3,p1:=Pt.p1 a2,p2:=Pt.p2 a2,p3:=Pt.p3 a2}))),[]))
 (some ((.bool false),[]))))
 (cond (!Qy.fl a1)
 (some ((.bool (decide (C1 m (Qy.c a1) a2 > C1 m (Qy.c a1) {p0:=a3,p1:=Pt.p1 a2,p2:=Pt.p2 a2,p3:=Pt.p3 a2}))),[]))
 (some ((.bool false),[]))))
 (cond (decide (Qy.ft a1=ic 1))
 (cond (Qy.fl a1)
 (cond (decide (C1 m (Qy.c a1) a2 < C1 m (Qy.c a1) {p0:=Pt.p0 a2,p1:=a3,p2:=Pt.p2 a2,p3:=Pt.p3 a2}))
 (some ((.bool true),[]))
 (cond (!Qy.fl a1)
 (some ((.bool (decide (C1 m (Qy.c a1) a2 > C1 m (Qy.c a1) {p0:=Pt.p0 a2,p1:=a3,p2:=Pt.p2 a2,p3:=Pt.p3 a2}))),[]))
 (some ((.bool false),[]))))
 (cond (!Qy.fl a1)
 (some ((.bool (decide (C1 m (Qy.c a1) a2 > C1 m (Qy.c a1) {p0:=Pt.p0 a2,p1:=a3,p2:=Pt.p2 a2,p3:=Pt.p3 a2}))),[]))
 (some ((.bool false),[]))))
 (cond (decide (Qy.ft a1=ic 2))
 (cond (Qy.fl a1)
 (cond (decide (C1 m (Qy.c a1) a2 < C1 m (Qy.c a1) {p0:=Pt.p0 a2,p1:=Pt.p1 a2,p2:=a3,p3:=Pt.p3 a2}))
 (some ((.bool true),[]))
 (cond (!Qy.fl a1)
 (some ((.bool (decide (C1 m (Qy.c a1) a2 > C1 m (Qy.c a1) {p0:=Pt.p0 a2,p1:=Pt.p1 a2,p2:=a3,p3:=Pt.p3 a2}))),[]))
 (some ((.bool false),[]))))
 (cond (!Qy.fl a1)
 (some ((.bool (decide (C1 m (Qy.c a1) a2 > C1 m (Qy.c a1) {p0:=Pt.p0 a2,p1:=Pt.p1 a2,p2:=a3,p3:=Pt.p3 a2}))),[]))
 (some ((.bool false),[]))))
 (cond (decide (Qy.ft a1=ic 3))
 (cond (Qy.fl a1)
 (cond (decide (C1 m (Qy.c a1) a2 < C1 m (Qy.c a1) {p0:=Pt.p0 a2,p1:=Pt.p1 a2,p2:=Pt.p2 a2,p3:=a3}))
 (some ((.bool true),[]))
 (cond (!Qy.fl a1)
 (some ((.bool (decide (C1 m (Qy.c a1) a2 > C1 m (Qy.c a1) {p0:=Pt.p0 a2,p1:=Pt.p1 a2,p2:=Pt.p2 a2,p3:=a3}))),[]))
 (some ((.bool false),[]))))
 (cond (!Qy.fl a1)
 (some ((.bool (decide (C1 m (Qy.c a1) a2 > C1 m (Qy.c a1) {p0:=Pt.p0 a2,p1:=Pt.p1 a2,p2:=Pt.p2 a2,p3:=a3}))),[]))
 (some ((.bool false),[]))))
 none)))))
 none))))))):=by kernel_rfl
theorem tH (N:Nat) (m:Md) (a1:Qy) (a2:Pt) (b8:Bool) (x9 x38 x39:Int) (again:St→C0) (k:Out→St→C0):EK (IP N) (CX KI [1,1,1,0,1,0,1,1,1,0,0,1,0,0])
 ⟨[(4,(.ptr 4 0 0)),(5,(.ptr 5 0 0)),(6,(.ptr 6 0 0)),(8,(.bool b8)),(9,(.i x9)),(38,(.i x38)),(39,(.i x39))],[(4,(some (.box (Md.cs m)))),(5,(some (.box (Qy.cs a1)))),(6,(some (.box (Pt.cs a2))))]⟩
 (EF again ⟨[4,5,6,8,9,38,39],[4,5,6],[]⟩ k) =
 (cond (decide (x39 < x38))
 (cond (x39 != Qy.c a1)
 (cond (decide (C1 m x39 a2≥x9))
 (k .ret ⟨[(4,(.ptr 4 0 0)),(5,(.ptr 5 0 0)),(6,(.ptr 6 0 0)),(8,(.bool true)),(9,(.i x9)),(38,(.i x38)),(39,(.i x39))],[(4,(some (.box (Md.cs m)))),(5,(some (.box (Qy.cs a1)))),(6,(some (.box (Pt.cs a2))))]⟩)
 (again ⟨[(4,(.ptr 4 0 0)),(5,(.ptr 5 0 0)),(6,(.ptr 6 0 0)),(8,(.bool b8)),(9,(.i x9)),(38,(.i x38)),(39,(.i (AA AC (x39+1))))],[(4,(some (.box (Md.cs m)))),(5,(some (.box (Qy.cs a1)))),(6,(some (.box (Pt.cs a2))))]⟩))
 (again ⟨[(4,(.ptr 4 0 0)),(5,(.ptr 5 0 0)),(6,(.ptr 6 0 0)),(8,(.bool b8)),(9,(.i x9)),(38,(.i x38)),(39,(.i (AA AC (x39+1))))],[(4,(some (.box (Md.cs m)))),(5,(some (.box (Qy.cs a1)))),(6,(some (.box (Pt.cs a2))))]⟩))
 (k (.exit 1) ⟨[(4,(.ptr 4 0 0)),(5,(.ptr 5 0 0)),(6,(.ptr 6 0 0)),(8,(.bool b8)),(9,(.i x9)),(38,(.i x38)),(39,(.i x39))],[(4,(some (.box (Md.cs m)))),(5,(some (.box (Qy.cs a1)))),(6,(some (.box (Pt.cs a2))))]⟩)):=by kernel_rfl
theorem zT (N:Nat) (m:Md) (a1:Qy) (a2:Pt) (b8:Bool) (x9 x38 x39:Int):(C4 1 (C5 (IP N) (CX KI [1,1,1,0,1,0,1,1,1,0,1]) (C4 0 (C5 (IP N) (CX KI [1,1,1,1]) (C8 (IP N) none [.tmp 8] [[.bool]]))))) (.exit 1)
 ⟨[(4,(.ptr 4 0 0)),(5,(.ptr 5 0 0)),(6,(.ptr 6 0 0)),(8,(.bool b8)),(9,(.i x9)),(38,(.i x38)),(39,(.i x39))],[(4,(some (.box (Md.cs m)))),(5,(some (.box (Qy.cs a1)))),(6,(some (.box (Pt.cs a2))))]⟩ =
 (some ((.bool false),[])):=by kernel_rfl
theorem zU (N:Nat) (m:Md) (a1:Qy) (a2:Pt) (b8:Bool) (x9 x38 x39:Int):(C4 1 (C5 (IP N) (CX KI [1,1,1,0,1,0,1,1,1,0,1]) (C4 0 (C5 (IP N) (CX KI [1,1,1,1]) (C8 (IP N) none [.tmp 8] [[.bool]]))))) .ret
 ⟨[(4,(.ptr 4 0 0)),(5,(.ptr 5 0 0)),(6,(.ptr 6 0 0)),(8,(.bool b8)),(9,(.i x9)),(38,(.i x38)),(39,(.i x39))],[(4,(some (.box (Md.cs m)))),(5,(some (.box (Qy.cs a1)))),(6,(some (.box (Pt.cs a2))))]⟩ =
 (some ((.bool b8),[])):=by kernel_rfl
def K2 (N:Nat):Env:=DJ [(24,TM),(39,TN),(25,TP),(22,TR)] [(5,⟨[3,4,6,7,23,24,25],[3,4],[]⟩)] 38 N
theorem Hx (N:Nat) (m:Md) (q:Qy) (most:Int):DE (K2 N) NO [.tmp 6,.tmp 7] [[.bool],[.bool]] [(Md.V m),(Qy.V q),.i most] =
 (cond (DR m&&(Bx.goodB (DL q)&&(decide (1≤most)&&decide (most≤65536))))
 (cond (!!FL m q (DL q) most)
 (some ((.tup [.bool false,.bool false]),[]))
 (DC (K2 N) (CX NO [1,1,1,0,1,0,0]) ⟨[3,4,6,7,23,24,25],[3,4],[]⟩ N ⟨[(3,(.ptr 3 0 0)),(4,(.ptr 4 0 0)),(6,(.bool false)),(7,(.bool false)),(23,(.list true D0 (bif FL m q (DL q) most then [] else va3 Bx.I (GW m q (DL q) 5)))),(24,(.i (ic (AF (bif FL m q (DL q) most then [] else va3 Bx.I (GW m q (DL q) 5)))))),(25,(.i 0))],[(3,(some (.box (Md.cs m)))),(4,(some (.box (Qy.cs q))))]⟩ (C4 0 (C5 (K2 N) (CX NO [1,1,1,1]) (C8 (K2 N) none [.tmp 6,.tmp 7] [[.bool],[.bool]])))))
 none):=by kernel_rfl
theorem tI (N:Nat) (m:Md) (q:Qy) (b6 b7:Bool) (l23:LI) (x24 x25:Int) (again:St→C0) (k:Out→St→C0):EK (K2 N) (CX NO [1,1,1,0,1,0,0])
 ⟨[(3,(.ptr 3 0 0)),(4,(.ptr 4 0 0)),(6,(.bool b6)),(7,(.bool b7)),(23,(.list true D0 l23)),(24,(.i x24)),(25,(.i x25))],[(3,(some (.box (Md.cs m)))),(4,(some (.box (Qy.cs q))))]⟩
 (EF again ⟨[3,4,6,7,23,24,25],[3,4],[]⟩ k) =
 (cond (decide (x25 < x24))
 (cond (decide (0≤x25)&&decide (x25 < ic (AF l23)))
 (cond (EJ m q (Bx.low (C9 (AH l23 (AD x25) default))) (IV.toInt (IV.cell (AH l23 (AD x25) default) 9)))
 (k .ret ⟨[(3,(.ptr 3 0 0)),(4,(.ptr 4 0 0)),(6,(.bool false)),(7,(.bool true)),(23,(.list true D0 l23)),(24,(.i x24)),(25,(.i x25))],[(3,(some (.box (Md.cs m)))),(4,(some (.box (Qy.cs q))))]⟩)
 (again ⟨[(3,(.ptr 3 0 0)),(4,(.ptr 4 0 0)),(6,(.bool b6)),(7,(.bool b7)),(23,(.list true D0 l23)),(24,(.i x24)),(25,(.i (AA AC (x25+1))))],[(3,(some (.box (Md.cs m)))),(4,(some (.box (Qy.cs q))))]⟩))
 none)
 (k (.exit 0) ⟨[(3,(.ptr 3 0 0)),(4,(.ptr 4 0 0)),(6,(.bool b6)),(7,(.bool b7)),(23,(.list true D0 l23)),(24,(.i x24)),(25,(.i x25))],[(3,(some (.box (Md.cs m)))),(4,(some (.box (Qy.cs q))))]⟩)):=by kernel_rfl
theorem zV (N:Nat) (m:Md) (q:Qy) (b6 b7:Bool) (l23:LI) (x24 x25:Int):(C4 0 (C5 (K2 N) (CX NO [1,1,1,1]) (C8 (K2 N) none [.tmp 6,.tmp 7] [[.bool],[.bool]]))) (.exit 0)
 ⟨[(3,(.ptr 3 0 0)),(4,(.ptr 4 0 0)),(6,(.bool b6)),(7,(.bool b7)),(23,(.list true D0 l23)),(24,(.i x24)),(25,(.i x25))],[(3,(some (.box (Md.cs m)))),(4,(some (.box (Qy.cs q))))]⟩ =
 (some ((.tup [.bool true,.bool true]),[])):=by kernel_rfl
theorem zW (N:Nat) (m:Md) (q:Qy) (b6 b7:Bool) (l23:LI) (x24 x25:Int):(C4 0 (C5 (K2 N) (CX NO [1,1,1,1]) (C8 (K2 N) none [.tmp 6,.tmp 7] [[.bool],[.bool]]))) .ret
 ⟨[(3,(.ptr 3 0 0)),(4,(.ptr 4 0 0)),(6,(.bool b6)),(7,(.bool b7)),(23,(.list true D0 l23)),(24,(.i x24)),(25,(.i x25))],[(3,(some (.box (Md.cs m)))),(4,(some (.box (Qy.cs q))))]⟩ =
 (some ((.tup [.bool b6,.bool b7]),[])):=by kernel_rfl
def vR (N:Nat):Env:=DJ [] [(3,⟨[1,2,3,5],[1,2,3],[]⟩)] 16 N
open Go Go.Proofs
abbrev VP:KP:=⟨[2,3,4,33,34],[2,3],[]⟩
def OJ (N:Nat):Env:=DJ [(42,NH),(41,P3)] [(4,⟨[2,3,4,33,34],[2,3],[]⟩)] 139 N
abbrev H4:C0:=some (V.bool false,[])
abbrev KZ (m:Md) (q:Qy) (i:Int):St:=⟨[(2,.ptr 2 0 0),(3,.ptr 3 0 0),(4,.bool false),(33,.agg [.int .i64 q.a0,.int .i64 q.b0,.int .i64 q.a1,.int .i64 q.b1,.int .i64 q.a2,.int .i64 q.b2,.int .i64 q.a3,.int .i64 q.b3,.int .i64 q.a4,.int .i64 q.b4]),(34,.int .i64 i)],[(2,some (.box m.cs)),(3,some (.box q.cs))]⟩
def fG (d i:Int) (s:Sp) (F rest:C0):C0:=
 cond (decide (i < d)) (cond (decide (s.lo > s.hi)) F (cond (!(DZ s.lo)) F (cond (!(DZ s.hi)) F (cond (decide (i≥d)) (cond (!((s.lo==0)&&((s.hi==0)&&true))) F rest) rest))))
  (cond (decide (i≥d)) (cond (!((s.lo==0)&&((s.hi==0)&&true))) F rest) rest)
noncomputable abbrev QR (N:Nat):Out→St→C0:=C4 0 (C5 (OJ N) (CX OR [1,1,1]) (C8 (OJ N) none [.tmp 4] [[.bool]]))
set_option maxRecDepth 100000
theorem Hv (N:Nat) (m:Md) (q:Qy):DE (OJ N) OR [.tmp 4] [[.bool]] [m.V,q.V] =
 cond (!(DR m)) H4 (cond (decide (q.c < 0)) H4 (cond (decide (q.c≥m.c)) H4 (cond (decide (q.bu < 0)) H4 (cond (decide (q.bu > 65536)) H4
 (DC (OJ N) (CX OR [1,1,0,1,0,0]) VP N (KZ m q 0) (QR N)))))):=by kernel_rfl
theorem Rn (N:Nat) (m:Md) (q:Qy) {j:Nat} (hj:j < 5) (again:St→C0) (k:Out→St→C0):EK (OJ N) (CX OR [1,1,0,1,0,0]) (KZ m q (j:Int)) (EF again VP k) =
 fG m.d (j:Int) (q.bx.g j) (k .ret (KZ m q (j:Int))) (again (KZ m q (C6 ((j:Int)+1)))):=by
 obtain rfl | rfl | rfl | rfl | rfl:j=0∨j=1∨j=2∨j=3∨j=4:=by omega
 all_goals kernel_rfl
theorem Ro (N:Nat) (m:Md) (q:Qy) (again:St→C0) (k:Out→St→C0):EK (OJ N) (CX OR [1,1,0,1,0,0]) (KZ m q 5) (EF again VP k)=k (.exit 0) (KZ m q 5):=by kernel_rfl
theorem Aw (N:Nat) (m:Md) (q:Qy) (i:Int):QR N .ret (KZ m q i)=H4:=by kernel_rfl
theorem Av (N:Nat) (m:Md) (q:Qy) (i:Int):QR N (.exit 0) (KZ m q i) =
 cond (q.k==1) (cond (decide (q.lo≤q.hi)) (cond (q.ft==0) (some (.bool (!q.fl),[])) H4) H4)
 (cond (q.k==2) (cond (decide (m.c≥2)) (cond (q.lo==0) (cond (q.hi==0) (cond (q.ft==0) (some (.bool (!q.fl),[])) H4) H4) H4) H4)
 (cond (q.k==3) (cond (decide (q.ft≥0)) (cond (decide (q.ft < m.d)) (cond (q.lo==0) (some (.bool (q.hi==0),[])) H4) H4) H4) H4)):=by kernel_rfl
open Go Go.Proofs
set_option maxRecDepth 100000
theorem Oc (b:Bx):DE (vR 5) jR [.cell 2 43] [[.z,.z,.z,.z]] [b.V]=some (b.low.V,[]):=by kernel_rfl
theorem Pl:DD PR B0 25 TP:=by
 refine DK [] [(3,⟨[1,2,3,5],[1,2,3],[]⟩)] TP [[.z,.z,.z,.z]] Tryz.func25 Cy trivial ?_;intro vs r hwf h;unfold TP at h;split at h
 ·rename_i b;replace h:=HQ h;obtain ⟨b,rfl,h⟩:=h;rw [R.get_ok] at h;exact ⟨5,(Oc b).trans h⟩
 ·simp [R.get] at h
theorem Pn:DD PR B0 22 TR:=by
 refine DK [] [] TR [[.z,.z,.z,.z,.z,.z,.z,.z,.z,.z]] Tryz.func22 Da trivial ?_;intro vs r hwf h;unfold TR at h;split at h
 ·rename_i q;replace h:=GP h;obtain ⟨q,rfl,h⟩:=h;rw [R.get_ok] at h;refine ⟨0,(Hw 0 q).trans ?_⟩;rw [← h];unfold DL;cases hp:EZ q with
  | true=>
   have hp':=hp;unfold EZ at hp';simp only [AG] at hp';obtain ⟨h1,h2,h3⟩:=hp';rw [h1,h2,h3];rcases N6 hp with e | e | e | e <;> rw [e] <;> rfl
  | false=>
   cases h1:(q.k==3) <;> cases h2:decide (q.ft≥0) <;> cases h3:decide (q.ft < 4) <;> first | rfl | (unfold EZ at hp; rw [h1,h2,h3] at hp; cases hp)
 ·simp [R.get] at h
theorem Nb (d i:Int) (s:Sp) (F rest:C0):fG d i s F rest=cond (FP d i s) rest F:=by
 unfold fG FP Sp.emp;rw [vay];by_cases hd:i < d
 ·rw [AE hd,AJ (show ¬ i≥d by omega)];cases decide (s.lo > s.hi) <;> cases DZ s.lo <;> cases DZ s.hi <;> rfl
 ·rw [AJ hd,AE (show i≥d by omega)];cases hz:((s.lo==0)&&(s.hi==0)) with
  | false=>rfl
  | true=>
   simp only [AG,BP] at hz;rw [hz.1,hz.2];rfl
theorem rL (N:Nat) (m:Md) (q:Qy) (R:C0) (hx:QR N (.exit 0) (KZ m q 5)=R):∀ (d j n:Nat),j+d=5→d < n→(∃ r,DC (OJ N) (CX OR [1,1,0,1,0,0]) VP n (KZ m q (j:Int)) (QR N)=cond r R H4∧r=((vbb j d).all fun i=>FP m.d (i:Int) (q.bx.g i)))
 | 0,j,n+1,hd,_=>by
  obtain rfl:j=5:=by omega
  exact ⟨true,by rw [DI]; exact (Ro N m q _ _).trans hx,rfl⟩
 | d+1,j,n+1,hd,hn=>by
  obtain ⟨r,e1,e2⟩:=rL N m q R hx d (j+1) n (by omega) (by omega);refine ⟨FP m.d (j:Int) (q.bx.g j)&&r,?_,?_⟩
  ·rw [DI,Rn N m q (by omega),show C6 ((j:Int)+1)=((j+1:Nat):Int) from F2 (by omega),e1,Aw,Nb];cases FP m.d (j:Int) (q.bx.g j) <;> rfl
  ·rw [List.range'_succ,List.all_cons,e2]
 | 0,_,0,_,h=>by omega
 | _+1,_,0,_,h=>by omega
theorem Y3 (a b:Int):decide (a≥b)=!decide (a < b):=by
 by_cases h:a < b
 ·rw [AE h,AJ (by omega)]; rfl
 ·rw [AJ h,AE (by omega)]; rfl
theorem Km (a b:Int):decide (a < b)=!decide (a≥b):=by
 rw [Y3,Bool.not_not]
theorem Kn (a b:Int):decide (a≤b)=!decide (a > b):=Y3 b a
theorem Pm:DD PR B0 21 TQ:=by
 refine DK [(42,NH),(41,P3)] [(4,⟨[2,3,4,33,34],[2,3],[]⟩)] TQ [[.bool]] Tryz.func21 Cz ⟨gC,sH,trivial⟩ ?_;intro vs r hwf h;unfold TQ at h;split at h
 ·rename_i m q;replace h:=GU h;obtain ⟨m,rfl,h⟩:=h;replace h:=GP h;obtain ⟨q,rfl,h⟩:=h;rw [R.get_ok] at h;refine ⟨6,(Hv 6 m q).trans ?_⟩;rw [← h];have er:DQ m q=(DR m&&(decide (q.c≥0)&&(decide (q.c < m.c)&&(decide (q.bu≥0)&&(decide (q.bu≤65536)&&(((vbb 0 5).all fun i=>FP m.d (i:Int) (q.bx.g i))&&JZ m q)))))):=by
   have:((vbb 0 5).all fun i=>FP m.d (i:Int) (q.bx.g i))=(FP m.d 0 q.bx.s0&&(FP m.d 1 q.bx.s1&&(FP m.d 2 q.bx.s2&&(FP m.d 3 q.bx.s3&&(FP m.d 4 q.bx.s4&&true))))):=rfl
   rw [this,vay];rfl
  have ek:QR 6 (.exit 0) (KZ m q 5)=some (V.bool (JZ m q),[]):=by
   rw [Av];unfold JZ;cases (q.k==1) <;> cases (q.k==2) <;> cases (q.k==3) <;> cases decide (q.lo≤q.hi) <;> cases (q.ft==0) <;> cases decide (m.c≥2) <;> cases (q.lo==0) <;> cases (q.hi==0) <;> cases decide (q.ft≥0) <;> cases decide (q.ft < m.d) <;> rfl
  obtain ⟨r,e1,e2⟩:=rL 6 m q _ ek 5 0 6 rfl (by omega);replace e1:DC (OJ 6) (CX OR [1,1,0,1,0,0]) VP 6 (KZ m q 0) (QR 6)=cond r (some (V.bool (JZ m q),[])) H4:=e1;rw [e1,er,← e2,Y3 q.c 0,Km q.c m.c,Y3 q.bu 0,Kn q.bu 65536];cases DR m <;> cases decide (q.c < 0) <;> cases decide (q.c≥m.c) <;> cases decide (q.bu < 0) <;> cases decide (q.bu > 65536) <;> cases r <;> rfl
 ·simp [R.get] at h
abbrev Tk (m:Md) (q:Qy) (p:Pt) (own i:Int):St:=
 ⟨[(4,(.ptr 4 0 0)),(5,(.ptr 5 0 0)),(6,(.ptr 6 0 0)),(8,(.bool false)),(9,(.int .i64 own)),(38,(.int .i64 (Md.c m))),(39,(.int .i64 i))],[(4,(some (.box (Md.cs m)))),(5,(some (.box (Qy.cs q)))),(6,(some (.box (Pt.cs p))))]⟩
theorem qQ (N:Nat) (m:Md) (q:Qy) (p:Pt) (own:Int) (hc:0≤m.c∧m.c≤3):∀ (d i n:Nat),((i+d:Nat):Int)=m.c→d < n →
  DC (IP N) (CX KI [1,1,1,0,1,0,1,1,1,0,0,1,0,0]) ⟨[4,5,6,8,9,38,39],[4,5,6],[]⟩ n (Tk m q p own (i:Int)) (C4 1 (C5 (IP N) (CX KI [1,1,1,0,1,0,1,1,1,0,1]) (C4 0 (C5 (IP N) (CX KI [1,1,1,1]) (C8 (IP N) none [(BH 8)] [[.bool]]))))) =
   some (.bool (QD m q p own d i),[])
 | d,i,0,_,h=>absurd h (by omega)
 | 0,i,n+1,hd,_=>by
  rw [DI,tH,AJ (show ¬ (i:Int) < m.c by omega),CV];exact zT N m q p _ _ _ _
 | d+1,i,n+1,hd,hn=>by
  have ei:AA AC ((i:Int)+1)=((i+1:Nat):Int):=F2 (by omega);rw [DI,tH,ei,AE (show (i:Int) < m.c by omega),CU,QD];have ih:=qQ N m q p own hc d (i+1) n (by omega) (by omega);have en:((i:Int) != q.c)=!((i:Int)==q.c):=rfl;rw [en];cases ((i:Int)==q.c) with
  | true=>exact ih
  | false=>
   rw [BX,CU,BL];cases decide (C1 m (i:Int) p≥own) with
   | true=>exact zU N m q p _ _ _ _
   | false=>exact ih
theorem Pi:DD PR B0 24 TM:=by
 refine DK [(21,TQ),(46,TU)] [(9,⟨[4,5,6,8,9,38,39],[4,5,6],[]⟩)] TM [[.bool]] Tryz.func24 Cv ⟨Pm,Pq,trivial⟩ ?_;intro vs r hwf h;unfold TM at h;split at h
 ·rename_i m q p t;replace h:=GU h;obtain ⟨m,rfl,h⟩:=h;replace h:=GP h;obtain ⟨q,rfl,h⟩:=h;replace h:=M8 h;obtain ⟨p,rfl,h⟩:=h;rw [R.get_ok] at h;refine ⟨10,?_⟩;rw [← h];refine (Hs 10 m q p t).trans ?_;unfold EJ;cases hr:DQ m q with
  | false=>rfl
  | true=>
   obtain ⟨hm,_,_,_,hk⟩:=M5 hr;have hmp:=H9 hm;rw [BB,CV,BL];cases h1:(q.k==1) with
   | true=>
    rw [CU,CU];unfold Sp.has;by_cases hlo:C1 m q.c p < q.lo
    ·rw [AE hlo,CU,AJ (show ¬ q.lo≤C1 m q.c p by omega)];rfl
    ·rw [AJ hlo,CV,AE (show q.lo≤C1 m q.c p by omega),BL,← decide_not];refine congrArg (fun z=>some (V.bool z,([]:List (List V)))) ?_;rw [decide_eq_decide];show C1 m q.c p > q.hi↔¬ C1 m q.c p≤q.hi;omega
   | false=>
    rw [CV,CV];cases h2:(q.k==2) with
    | true=>
     rw [CU,CU];refine (qQ 10 m q p _ (by omega) m.c.toNat 0 10 (by omega) (by omega)).trans ?_;rw [aN,← List.range_eq_range'];rfl
    | false=>
     rw [CV,CV];rcases YI hk with ⟨e,_⟩ | ⟨e,_⟩ | ⟨ek,⟨f0,fd⟩,_⟩
     ·rw [e] at h1; cases h1
     ·rw [e] at h2; cases h2
     ·have hp:EZ q=true:=by
       unfold EZ;rw [ek,AE (show q.ft≥0 from f0),AE (show q.ft < 4 by omega)];rfl
      have step:∀ (x:Int) (p':Pt),p'=FO q p t→cond (decide (x≥t)) (some (V.bool false,[])) (cond q.fl (cond (decide (C1 m q.c p < C1 m q.c p')) (some (V.bool true,[])) (cond (!q.fl) (some (V.bool (decide (C1 m q.c p > C1 m q.c p')),[])) (some (V.bool false,[]))))
         (cond (!q.fl) (some (V.bool (decide (C1 m q.c p > C1 m q.c p')),[])) (some (V.bool false,[])))) =
        some (V.bool (cond (decide (x≥t)) false (cond q.fl (decide (C1 m q.c (FO q p t) > C1 m q.c p)) (decide (C1 m q.c (FO q p t) < C1 m q.c p)))),([]:List (List V))):=fun x p' e=>by
       subst e;cases decide (x≥t) with
       | true=>rfl
       | false=>
        cases q.fl with
        | true=>
         show cond (decide (C1 m q.c p < C1 m q.c (FO q p t))) _ _=some (V.bool (decide (C1 m q.c p < C1 m q.c (FO q p t))),[]);cases decide (C1 m q.c p < C1 m q.c (FO q p t)) <;> rfl
        | false=>rfl
      have es:∀ n:Nat,q.ft.toNat=n→FO q p t=p.p t n:=fun n e=>by unfold FO; rw [hp,CU,e]
      obtain e | e | e | e:q.ft=0∨q.ft=1∨q.ft=2∨q.ft=3:=by omega
      ·have e2:=es 0 (by rw [e]; rfl);rw [e];exact step _ _ e2.symm
      ·have e2:=es 1 (by rw [e]; rfl);rw [e];exact step _ _ e2.symm
      ·have e2:=es 2 (by rw [e]; rfl);rw [e];exact step _ _ e2.symm
      ·have e2:=es 3 (by rw [e]; rfl);rw [e];exact step _ _ e2.symm
 ·simp [R.get] at h
abbrev Tq (m:Md) (q:Qy) (l:LI) (i:Int):St:=⟨[(3,(.ptr 3 0 0)),(4,(.ptr 4 0 0)),(6,(.bool false)),(7,(.bool false)),(23,(.list true D0 l)),(24,(.int .i64 (ic l.length))),(25,(.int .i64 i))],[(3,(some (.box (Md.cs m)))),(4,(some (.box (Qy.cs q))))]⟩
theorem uS (N:Nat) (m:Md) (q:Qy) (cs:List Bx) (hl:cs.length≤65536):∀ (d i n:Nat),i+d=cs.length→d < n →
  DC (K2 N) (CX NO [1,1,1,0,1,0,0]) ⟨[3,4,6,7,23,24,25],[3,4],[]⟩ n (Tq m q (cs.map Bx.I) (i:Int)) (C4 0 (C5 (K2 N) (CX NO [1,1,1,1]) (C8 (K2 N) none [(BH 6),(BH 7)] [[.bool],[.bool]]))) =
   some (.tup [.bool ((cs.drop i).all fun c=>!(EJ m q c.low c.s4.hi)),.bool true],[])
 | 0,i,n+1,hd,_=>by
  have hi:i=cs.length:=by omega
  subst hi;rw [DI,tI,JY (by rw [CL]; exact AO _),CV,CI];exact zV N m q false false _ _ _
 | d+1,i,n+1,hd,hn=>by
  have hi:i < cs.length:=by omega
  have hi':i < (cs.map Bx.I).length:=by rw [CL]; exact hi
  have ih:=uS N m q cs hl d (i+1) n (by omega) (by omega);have ec:(cs.map Bx.I)[i]=(cs[i]).I:=by rw [List.getElem_map]
  rw [DI,tI,IY hi',CU,JI,BK,CU,JX hi',ec,BD hi,List.all_cons,show AA AC ((i:Int)+1)=((i+1:Nat):Int) from F2 (by omega)];show cond (EJ m q cs[i].low cs[i].s4.hi) _ _=_;cases EJ m q cs[i].low cs[i].s4.hi with
  | true=>
   rw [CU];exact zW N m q false true _ _ _
  | false=>
   rw [CV,BX,BL];exact ih
 | 0,_,0,_,h=>by omega
 | _+1,_,0,_,h=>by omega
theorem Po:DD PR B0 17 TS:=by
 refine DK [(24,TM),(39,TN),(25,TP),(22,TR)] [(5,⟨[3,4,6,7,23,24,25],[3,4],[]⟩)] TS [[.bool],[.bool]] Tryz.func17 Db ⟨Pi,Pj,Pl,Pn,trivial⟩ ?_;intro vs r hwf h;unfold TS at h;split at h
 ·rename_i m q most;replace h:=GU h;obtain ⟨m,rfl,h⟩:=h;replace h:=GP h;obtain ⟨q,rfl,h⟩:=h;cases hg:(DQ m q&&(decide (1≤most)&&decide (most≤65536))) with
  | false=>rw [hg] at h; simp [R.get] at h
  | true=>
  rw [hg,R.get_br,CU,R.get_ok] at h;simp only [AG,AN] at hg;obtain ⟨hr,h1,h2⟩:=hg;refine ⟨65537,(Hx 65537 m q most).trans ?_⟩;rw [← h,(M5 hr).1,Bu (SY hr),AE h1,AE h2];rw [show (true&&(true&&(true&&true)))=true from rfl,CU];cases ho:FL m q (DL q) most with
  | true=>rfl
  | false=>
   have hc2:(GW m q (DL q) 5).length≤65536:=by
    rw [bG];unfold FL at ho
    have:=A1 ho
    simp only [ic] at this;omega
   rw [BX,BB,CV,CV];exact uS 65537 m q (GW m q (DL q) 5) hc2 (GW m q (DL q) 5).length 0 65537 (by omega) (by omega)
 ·simp [R.get] at h
open Go
theorem yP {m:Md} {q:Qy} {b:Int} (h1:DQ m q=true) (h2:DQ m (q.bud b)=true) (x:Bx):EX m (q.bud b) x=EX m q x:=by
 unfold EX;rw [h1,h2];rfl
theorem xT {m:Md} {q:Qy} {b:Int} (h1:DQ m q=true) (h2:DQ m (q.bud b)=true) (p:Pt) (t:Int):EJ m (q.bud b) p t=EJ m q p t:=by
 unfold EJ;rw [h1,h2];rfl
theorem Rh (m:Md) (q:Qy) (b:Int) (x:Bx):DV m (q.bud b) x=DV m q x:=rfl
theorem uC {m:Md} {q:Qy} {b:Int} (h1:DQ m q=true) (h2:DQ m (q.bud b)=true) (s:Sr):EB m (q.bud b) s=EB m q s:=by
 unfold EB;rw [yP h1 h2,xT h1 h2,Rh]
theorem WN (m:Md) (q:Qy) (s:Sr):(EB m q s).spent=s.spent+1:=by
 unfold EB;cases EX m _ _ <;> cases EJ m _ _ _ <;> cases (DV m _ _).isSome <;> rfl
theorem rO {m:Md} {q:Qy} {s:Sr} (h:E4 q s=true):∀ d,FH m q d s=s
 | 0=>rfl
 | d+1=>by rw [FH,h,CU]
theorem rN (m:Md) (q:Qy):∀ (d:Nat) (s:Sr),s.spent≤(FH m q d s).spent
 | 0,s=>CQ _
 | d+1,s=>by
  rw [FH];cases E4 q s with
  | true=>exact CQ _
  | false=>
   rw [CV];have h1:=rN m q d (EB m q s);rw [WN] at h1;omega
theorem pL {q:Qy} {s:Sr} (h:s.v.kind≠0):E4 q s=true:=by
 unfold E4;rw [BN.2 h];rfl
theorem eJ {q:Qy} {s:Sr} (h:E4 q s=false):s.v.kind=0∧s.spent < q.bu:=by
 unfold E4 at h;rw [CM] at h;have h1:s.v.kind=0:=by simpa using h.1
 have h2:=A1 h.2;exact ⟨h1,by omega⟩
theorem Ma {q:Qy} {s:Sr} (h:s.v.kind=0) (hb:s.spent < q.bu):E4 q s=false:=by
 unfold E4;rw [h,AJ (by omega)];rfl
theorem rS {m:Md} {q:Qy} {b:Int} (h1:DQ m q=true) (h2:DQ m (q.bud b)=true):∀ (d e:Nat) (s:Sr),(FH m q d s).v.kind≠0→(FH m q d s).spent≤b→b < s.spent+e→FH m (q.bud b) e s=FH m q d s
 | 0,e,s,hk,_,_=>rO (pL hk) e
 | d+1,e,s,hk,hb,he=>by
  rw [FH] at hk hb ⊢;cases ho:E4 q s with
  | true=>
   rw [ho,CU] at hk;rw [CU];exact rO (pL hk) e
  | false=>
   rw [ho,CV] at hk hb;rw [CV];obtain ⟨h0,_⟩:=eJ ho;have hge:=rN m q d (EB m q s);rw [WN] at hge;obtain ⟨e',rfl⟩:∃ e',e=e'+1:=⟨e - 1,by omega⟩;rw [FH,Ma (q:=q.bud b) h0 (show s.spent < b by omega),CV,uC h1 h2];exact rS h1 h2 d e' (EB m q s) hk hb (by rw [WN]; omega)
theorem rQ {m:Md} {q:Qy} {b:Int} (h1:DQ m q=true) (h2:DQ m (q.bud b)=true):∀ (d e:Nat) (s:Sr),b < (FH m q d s).spent→s.spent≤b→b < s.spent+e→(FH m (q.bud b) e s).v.kind=0
 | 0,e,s,hb,hs,_=>absurd (show b < s.spent from hb) (by omega)
 | d+1,e,s,hb,hs,he=>by
  rw [FH] at hb;cases ho:E4 q s with
  | true=>
   rw [ho,CU] at hb;omega
  | false=>
   rw [ho,CV] at hb;obtain ⟨h0,_⟩:=eJ ho;obtain ⟨e',rfl⟩:∃ e',e=e'+1:=⟨e - 1,by omega⟩;rw [FH];cases ho2:E4 (q.bud b) s with
   | true=>exact h0
   | false=>
    obtain ⟨_,h3⟩:=eJ ho2;have h3:s.spent < b:=h3;rw [CV,uC h1 h2];exact rQ h1 h2 d e' (EB m q s) hb (by rw [WN]; omega) (by rw [WN]; omega)
theorem ZJ {m:Md} {q:Qy} (h:DQ m q=true):D2 m q=GT (FH m q (q.bu.toNat+1) ⟨[(DL q).I],[],Vd.none,0⟩):=by
 unfold D2 QX;rw [h,CU]
theorem Ta {s:Sr} (h:(GT s).kind=1∨(GT s).kind=2):s.v.kind≠0:=fun h0=>by
 have:(GT s).kind=3:=by unfold GT; rw [h0]; rfl
 omega
theorem Nt {m:Md} {q:Qy} {b:Int} (h1:DQ m q=true) (h2:DQ m (q.bud b)=true) (hk:(D2 m q).kind=1∨(D2 m q).kind=2) (hb:(D2 m q).spent≤b):D2 m (q.bud b)=D2 m q:=by
 have h3:=(SS h2).2.2.1;have h3:0≤b:=h3.1;rw [ZJ h1] at hk hb ⊢;rw [ZJ h2];refine congrArg GT ?_;exact rS h1 h2 _ _ _ (Ta hk) hb (by show b < 0+((b.toNat+1:Nat):Int); omega)
theorem Nr {m:Md} {q:Qy} {b:Int} (h1:DQ m q=true) (h2:DQ m (q.bud b)=true) (hb:b < (D2 m q).spent):(D2 m (q.bud b)).kind=3:=by
 have h3:=(SS h2).2.2.1;have h3:0≤b:=h3.1;rw [ZJ h1] at hb;rw [ZJ h2];have h4:=rQ h1 h2 (q.bu.toNat+1) (b.toNat+1) ⟨[(DL q).I],[],Vd.none,0⟩ hb h3 (by show b < 0+((b.toNat+1:Nat):Int); omega);show cond ((FH m (q.bud b) (b.toNat+1) _).v.kind==0) 3 _=_;have h5:(FH m (q.bud b) (b.toNat+1) ⟨[(DL (q.bud b)).I],[],Vd.none,0⟩).v.kind=0:=h4;rw [h5];rfl
open Go Go.Proofs
def wP (N:Nat):Env:=DJ [(29,NJ),(16,P7)] [] 26 N
theorem Jn (N:Nat) (m:Md) (q:Qy):DE (wP N) kO [.tmp 4] [[.list false []]] [(Md.V m),(Qy.V q)]=(cond (!DQ m q) (some ((.bor (EO m q [.zs,.zs,.i 4,.zs,.i 0,.i 0,.i 0,.i 0,.i 0,.i 0,.i 0])),[])) (some ((.bor (EO m q [.vec 31 true D0 [(Bx.I (DL q))],.zs,.i 0,.zs,.i 0,.i 0,.i 0,.i 0,.i 0,.i 0,.i 0])),[]))):=by kernel_rfl
def W0 (N:Nat):Env:=DJ [(30,W4)] [] 22 N
theorem Jr (N:Nat) (m:Md) (q:Qy) (left u00:LI) (k w0 w1 w2 w3 tw vs sp:Int):DE (W0 N) U3 [.cell 2 45] [[.z,.list true [.bool,.z,.z],.z,.z,.z,.z,.z,.z]] [.bor (EO m q [.vec 31 true D0 left,.vec 71 true D8 u00,.i k,.zs,.i w0,.i w1,.i w2,.i w3,.i tw,.i vs,.i sp])]=(cond (k==0) (some ((.agg [.i 3,.list true D8 [],.i w0,.i w1,.i w2,.i w3,.i tw,.i sp]),[(EO m q [.vec 31 true D0 (AY (AF left) left),.vec 71 true D8 (AY (AF u00) u00),.i k,.zs,.i w0,.i w1,.i w2,.i w3,.i tw,.i vs,.i sp])])) (some ((.agg [.i k,.list true D8 [],.i w0,.i w1,.i w2,.i w3,.i tw,.i sp]),[(EO m q [.vec 31 true D0 (AY (AF left) left),.vec 71 true D8 (AY (AF u00) u00),.i k,.zs,.i w0,.i w1,.i w2,.i w3,.i tw,.i vs,.i sp])]))):=by kernel_rfl
theorem Js (N:Nat) (m:Md) (q:Qy) (left:LI) (k w0 w1 w2 w3 tw vs sp:Int):DE (W0 N) U3 [.cell 2 45] [[.z,.list true [.bool,.z,.z],.z,.z,.z,.z,.z,.z]] [.bor (EO m q [.vec 31 true D0 left,.zs,.i k,.zs,.i w0,.i w1,.i w2,.i w3,.i tw,.i vs,.i sp])]=(cond (k==0) (some ((.agg [.i 3,.list true D8 [],.i w0,.i w1,.i w2,.i w3,.i tw,.i sp]),[(EO m q [.vec 31 true D0 (AY (AF left) left),.zs,.i k,.zs,.i w0,.i w1,.i w2,.i w3,.i tw,.i vs,.i sp])])) (some ((.agg [.i k,.list true D8 [],.i w0,.i w1,.i w2,.i w3,.i tw,.i sp]),[(EO m q [.vec 31 true D0 (AY (AF left) left),.zs,.i k,.zs,.i w0,.i w1,.i w2,.i w3,.i tw,.i vs,.i sp])]))):=by kernel_rfl
theorem Jt (N:Nat) (m:Md) (q:Qy) (left u00 vp:LI) (k w0 w1 w2 w3 tw vs sp:Int):DE (W0 N) U3 [.cell 2 45] [[.z,.list true [.bool,.z,.z],.z,.z,.z,.z,.z,.z]] [.bor (EO m q [.vec 31 true D0 left,.list true D8 u00,.i k,.list true D8 vp,.i w0,.i w1,.i w2,.i w3,.i tw,.i vs,.i sp])]=(cond (k==0) (cond (BM (AF vp) 100000) (some ((.agg [.i 3,.list true D8 (CB 0 (AY (AF vp) vp)),.i w0,.i w1,.i w2,.i w3,.i tw,.i sp]),[(EO m q [.vec 31 true D0 (AY (AF left) left),.list true D8 u00,.i k,.list true D8 vp,.i w0,.i w1,.i w2,.i w3,.i tw,.i vs,.i sp])])) none) (cond (BM (AF vp) 100000) (some ((.agg [.i k,.list true D8 (CB 0 (AY (AF vp) vp)),.i w0,.i w1,.i w2,.i w3,.i tw,.i sp]),[(EO m q [.vec 31 true D0 (AY (AF left) left),.list true D8 u00,.i k,.list true D8 vp,.i w0,.i w1,.i w2,.i w3,.i tw,.i vs,.i sp])])) none)):=by kernel_rfl
theorem Ju (N:Nat) (m:Md) (q:Qy) (k w0 w1 w2 w3 tw vs sp:Int):DE (W0 N) U3 [.cell 2 45] [[.z,.list true [.bool,.z,.z],.z,.z,.z,.z,.z,.z]] [.bor (EO m q [.zs,.zs,.i k,.zs,.i w0,.i w1,.i w2,.i w3,.i tw,.i vs,.i sp])]=(cond (k==0) (some ((.agg [.i 3,.list true D8 [],.i w0,.i w1,.i w2,.i w3,.i tw,.i sp]),[(EO m q [.zs,.zs,.i k,.zs,.i w0,.i w1,.i w2,.i w3,.i tw,.i vs,.i sp])])) (some ((.agg [.i k,.list true D8 [],.i w0,.i w1,.i w2,.i w3,.i tw,.i sp]),[(EO m q [.zs,.zs,.i k,.zs,.i w0,.i w1,.i w2,.i w3,.i tw,.i vs,.i sp])]))):=by kernel_rfl
def WZ (N:Nat):Env:=DJ [(35,P2),(31,T3),(32,T4),(34,T5),(33,UG)] [] 165 N
theorem oX (N:Nat) (m:Md) (q:Qy) (left u00:LI) (k w0 w1 w2 w3 tw vs sp:Int):DE (WZ N) U2 [.tmp 2] [[.bool]] [.bor (EO m q [.vec 31 true D0 left,.vec 71 true D8 u00,.i k,.zs,.i w0,.i w1,.i w2,.i w3,.i tw,.i vs,.i sp])]=(cond (k != 0) (some ((.bool false),[(EO m q [.vec 31 true D0 (AY (AF left) left),.vec 71 true D8 (AY (AF u00) u00),.i k,.zs,.i w0,.i w1,.i w2,.i w3,.i tw,.i vs,.i sp])])) (cond (decide (sp≥Qy.bu q)) (some ((.bool false),[(EO m q [.vec 31 true D0 (AY (AF left) left),.vec 71 true D8 (AY (AF u00) u00),.i k,.zs,.i w0,.i w1,.i w2,.i w3,.i tw,.i vs,.i sp])])) (cond (decide (0≤AA AC (ic (AF left - 0) - 1))&&decide (AA AC (ic (AF left - 0) - 1) < ic (AF left - 0))) (cond (decide (0≤AA AC (ic (AF left - 0) - 1))&&decide (AA AC (ic (AF left - 0) - 1)≤ic (AF left - 0))) (cond (EX m q (C9 (AH left (0+AD (AA AC (ic (AF left - 0) - 1))) default))) (cond (decide ((AF u00+1)*24≤D5)) (cond (ic (0+AD (AA AC (ic (AF left - 0) - 1)) - 0)==0) (some ((.bool true),[(EO m q [.vec 31 true D0 (AY (0+AD (AA AC (ic (AF left - 0) - 1))) left),.list true D8 (CB 0 (AY (AF u00+1) (AY (AF u00) u00++[IV.agg [IV.bool true,IV.int 0,IV.int 0]]))),.i 1,.list true D8 (CB 0 (AY (AF u00+1) (AY (AF u00) u00++[IV.agg [IV.bool true,IV.int 0,IV.int 0]]))),.i 0,.i 0,.i 0,.i 0,.i 0,.i 0,.i (AA AC (sp+1))])])) (some ((.bool true),[(EO m q [.vec 31 true D0 (AY (0+AD (AA AC (ic (AF left - 0) - 1))) left),.vec 71 true D8 (AY (AF u00+1) (AY (AF u00) u00++[IV.agg [IV.bool true,IV.int 0,IV.int 0]])),.i k,.zs,.i w0,.i w1,.i w2,.i w3,.i tw,.i vs,.i (AA AC (sp+1))])]))) none) (cond (EJ m q (Bx.low (C9 (AH left (0+AD (AA AC (ic (AF left - 0) - 1))) default))) (Sp.hi (Bx.s4 (C9 (AH left (0+AD (AA AC (ic (AF left - 0) - 1))) default))))) (some ((.bool true),[(EO m q [.vec 31 true D0 (AY (0+AD (AA AC (ic (AF left - 0) - 1))) left),.vec 71 true D8 (AY (AF u00) u00),.i 2,.zs,.i (Pt.p0 (Bx.low (C9 (AH left (0+AD (AA AC (ic (AF left - 0) - 1))) default)))),.i (Pt.p1 (Bx.low (C9 (AH left (0+AD (AA AC (ic (AF left - 0) - 1))) default)))),.i (Pt.p2 (Bx.low (C9 (AH left (0+AD (AA AC (ic (AF left - 0) - 1))) default)))),.i (Pt.p3 (Bx.low (C9 (AH left (0+AD (AA AC (ic (AF left - 0) - 1))) default)))),.i (Sp.hi (Bx.s4 (C9 (AH left (0+AD (AA AC (ic (AF left - 0) - 1))) default)))),.i 0,.i (AA AC (sp+1))])])) (cond (DR m) (cond (!Option.isSome (DV m q (C9 (AH left (0+AD (AA AC (ic (AF left - 0) - 1))) default)))) (some ((.bool true),[(EO m q [.vec 31 true D0 (AY (0+AD (AA AC (ic (AF left - 0) - 1))) left),.vec 71 true D8 (AY (AF u00) u00),.i 3,.zs,.i 0,.i 0,.i 0,.i 0,.i 0,.i 0,.i (AA AC (sp+1))])])) (cond (FS (HO (DV m q (C9 (AH left (0+AD (AA AC (ic (AF left - 0) - 1))) default))))) (cond (decide ((0+AD (AA AC (ic (AF left - 0) - 1))+2)*80≤D5)) (cond (decide ((AF u00+1)*24≤D5)) (some ((.bool true),[(EO m q [.vec 31 true D0 (AY (0+AD (AA AC (ic (AF left - 0) - 1))+2) (AY (0+AD (AA AC (ic (AF left - 0) - 1))) left++[(Bx.I (Bx.cutH (C9 (AH left (0+AD (AA AC (ic (AF left - 0) - 1))) default)) (HO (DV m q (C9 (AH left (0+AD (AA AC (ic (AF left - 0) - 1))) default)))) (GC (DV m q (C9 (AH left (0+AD (AA AC (ic (AF left - 0) - 1))) default)))))),(Bx.I (Bx.cutL (C9 (AH left (0+AD (AA AC (ic (AF left - 0) - 1))) default)) (HO (DV m q (C9 (AH left (0+AD (AA AC (ic (AF left - 0) - 1))) default)))) (GC (DV m q (C9 (AH left (0+AD (AA AC (ic (AF left - 0) - 1))) default))))))])),.vec 71 true D8 (AY (AF u00+1) (AY (AF u00) u00++[IV.agg [IV.bool false,IV.int (HO (DV m q (C9 (AH left (0+AD (AA AC (ic (AF left - 0) - 1))) default)))),IV.int (GC (DV m q (C9 (AH left (0+AD (AA AC (ic (AF left - 0) - 1))) default))))]])),.i k,.zs,.i w0,.i w1,.i w2,.i w3,.i tw,.i vs,.i (AA AC (sp+1))])])) none) none) none)) none))) none) none))):=by kernel_rfl
theorem oY (N:Nat) (m:Md) (q:Qy) (left:LI) (k w0 w1 w2 w3 tw vs sp:Int):DE (WZ N) U2 [.tmp 2] [[.bool]] [.bor (EO m q [.vec 31 true D0 left,.zs,.i k,.zs,.i w0,.i w1,.i w2,.i w3,.i tw,.i vs,.i sp])]=(cond (k != 0) (some ((.bool false),[(EO m q [.vec 31 true D0 (AY (AF left) left),.zs,.i k,.zs,.i w0,.i w1,.i w2,.i w3,.i tw,.i vs,.i sp])])) (cond (decide (sp≥Qy.bu q)) (some ((.bool false),[(EO m q [.vec 31 true D0 (AY (AF left) left),.zs,.i k,.zs,.i w0,.i w1,.i w2,.i w3,.i tw,.i vs,.i sp])])) (cond (decide (0≤AA AC (ic (AF left - 0) - 1))&&decide (AA AC (ic (AF left - 0) - 1) < ic (AF left - 0))) (cond (decide (0≤AA AC (ic (AF left - 0) - 1))&&decide (AA AC (ic (AF left - 0) - 1)≤ic (AF left - 0))) (cond (EX m q (C9 (AH left (0+AD (AA AC (ic (AF left - 0) - 1))) default))) (cond (ic (0+AD (AA AC (ic (AF left - 0) - 1)) - 0)==0) (some ((.bool true),[(EO m q [.vec 31 true D0 (AY (0+AD (AA AC (ic (AF left - 0) - 1))) left),.list true D8 [(IV.agg [IV.bool true,IV.int 0,IV.int 0])],.i 1,.list true D8 [(IV.agg [IV.bool true,IV.int 0,IV.int 0])],.i 0,.i 0,.i 0,.i 0,.i 0,.i 0,.i (AA AC (sp+1))])])) (some ((.bool true),[(EO m q [.vec 31 true D0 (AY (0+AD (AA AC (ic (AF left - 0) - 1))) left),.vec 71 true D8 [(IV.agg [IV.bool true,IV.int 0,IV.int 0])],.i k,.zs,.i w0,.i w1,.i w2,.i w3,.i tw,.i vs,.i (AA AC (sp+1))])]))) (cond (EJ m q (Bx.low (C9 (AH left (0+AD (AA AC (ic (AF left - 0) - 1))) default))) (Sp.hi (Bx.s4 (C9 (AH left (0+AD (AA AC (ic (AF left - 0) - 1))) default))))) (some ((.bool true),[(EO m q [.vec 31 true D0 (AY (0+AD (AA AC (ic (AF left - 0) - 1))) left),.zs,.i 2,.zs,.i (Pt.p0 (Bx.low (C9 (AH left (0+AD (AA AC (ic (AF left - 0) - 1))) default)))),.i (Pt.p1 (Bx.low (C9 (AH left (0+AD (AA AC (ic (AF left - 0) - 1))) default)))),.i (Pt.p2 (Bx.low (C9 (AH left (0+AD (AA AC (ic (AF left - 0) - 1))) default)))),.i (Pt.p3 (Bx.low (C9 (AH left (0+AD (AA AC (ic (AF left - 0) - 1))) default)))),.i (Sp.hi (Bx.s4 (C9 (AH left (0+AD (AA AC (ic (AF left - 0) - 1))) default)))),.i 0,.i (AA AC (sp+1))])])) (cond (DR m) (cond (!Option.isSome (DV m q (C9 (AH left (0+AD (AA AC (ic (AF left - 0) - 1))) default)))) (some ((.bool true),[(EO m q [.vec 31 true D0 (AY (0+AD (AA AC (ic (AF left - 0) - 1))) left),.zs,.i 3,.zs,.i 0,.i 0,.i 0,.i 0,.i 0,.i 0,.i (AA AC (sp+1))])])) (cond (FS (HO (DV m q (C9 (AH left (0+AD (AA AC (ic (AF left - 0) - 1))) default))))) (cond (decide ((0+AD (AA AC (ic (AF left - 0) - 1))+2)*80≤D5)) (some ((.bool true),[(EO m q [.vec 31 true D0 (AY (0+AD (AA AC (ic (AF left - 0) - 1))+2) (AY (0+AD (AA AC (ic (AF left - 0) - 1))) left++[(Bx.I (Bx.cutH (C9 (AH left (0+AD (AA AC (ic (AF left - 0) - 1))) default)) (HO (DV m q (C9 (AH left (0+AD (AA AC (ic (AF left - 0) - 1))) default)))) (GC (DV m q (C9 (AH left (0+AD (AA AC (ic (AF left - 0) - 1))) default)))))),(Bx.I (Bx.cutL (C9 (AH left (0+AD (AA AC (ic (AF left - 0) - 1))) default)) (HO (DV m q (C9 (AH left (0+AD (AA AC (ic (AF left - 0) - 1))) default)))) (GC (DV m q (C9 (AH left (0+AD (AA AC (ic (AF left - 0) - 1))) default))))))])),.vec 71 true D8 [(IV.agg [IV.bool false,IV.int (HO (DV m q (C9 (AH left (0+AD (AA AC (ic (AF left - 0) - 1))) default)))),IV.int (GC (DV m q (C9 (AH left (0+AD (AA AC (ic (AF left - 0) - 1))) default))))])],.i k,.zs,.i w0,.i w1,.i w2,.i w3,.i tw,.i vs,.i (AA AC (sp+1))])])) none) none)) none))) none) none))):=by kernel_rfl
theorem Jp (N:Nat) (m:Md) (q:Qy) (left u00 vp:LI) (k w0 w1 w2 w3 tw vs sp:Int):DE (WZ N) U2 [.tmp 2] [[.bool]] [.bor (EO m q [.vec 31 true D0 left,.list true D8 u00,.i k,.list true D8 vp,.i w0,.i w1,.i w2,.i w3,.i tw,.i vs,.i sp])]=(cond (k != 0) (some ((.bool false),[(EO m q [.vec 31 true D0 (AY (AF left) left),.list true D8 u00,.i k,.list true D8 vp,.i w0,.i w1,.i w2,.i w3,.i tw,.i vs,.i sp])])) (cond (decide (sp≥Qy.bu q)) (some ((.bool false),[(EO m q [.vec 31 true D0 (AY (AF left) left),.list true D8 u00,.i k,.list true D8 vp,.i w0,.i w1,.i w2,.i w3,.i tw,.i vs,.i sp])])) (cond (decide (0≤AA AC (ic (AF left - 0) - 1))&&decide (AA AC (ic (AF left - 0) - 1) < ic (AF left - 0))) (cond (decide (0≤AA AC (ic (AF left - 0) - 1))&&decide (AA AC (ic (AF left - 0) - 1)≤ic (AF left - 0))) (cond (EX m q (C9 (AH left (0+AD (AA AC (ic (AF left - 0) - 1))) default))) none (cond (EJ m q (Bx.low (C9 (AH left (0+AD (AA AC (ic (AF left - 0) - 1))) default))) (Sp.hi (Bx.s4 (C9 (AH left (0+AD (AA AC (ic (AF left - 0) - 1))) default))))) (some ((.bool true),[(EO m q [.vec 31 true D0 (AY (0+AD (AA AC (ic (AF left - 0) - 1))) left),.list true D8 u00,.i 2,.zs,.i (Pt.p0 (Bx.low (C9 (AH left (0+AD (AA AC (ic (AF left - 0) - 1))) default)))),.i (Pt.p1 (Bx.low (C9 (AH left (0+AD (AA AC (ic (AF left - 0) - 1))) default)))),.i (Pt.p2 (Bx.low (C9 (AH left (0+AD (AA AC (ic (AF left - 0) - 1))) default)))),.i (Pt.p3 (Bx.low (C9 (AH left (0+AD (AA AC (ic (AF left - 0) - 1))) default)))),.i (Sp.hi (Bx.s4 (C9 (AH left (0+AD (AA AC (ic (AF left - 0) - 1))) default)))),.i 0,.i (AA AC (sp+1))])])) (cond (DR m) (cond (!Option.isSome (DV m q (C9 (AH left (0+AD (AA AC (ic (AF left - 0) - 1))) default)))) (some ((.bool true),[(EO m q [.vec 31 true D0 (AY (0+AD (AA AC (ic (AF left - 0) - 1))) left),.list true D8 u00,.i 3,.zs,.i 0,.i 0,.i 0,.i 0,.i 0,.i 0,.i (AA AC (sp+1))])])) (cond (FS (HO (DV m q (C9 (AH left (0+AD (AA AC (ic (AF left - 0) - 1))) default))))) (cond (decide ((0+AD (AA AC (ic (AF left - 0) - 1))+2)*80≤D5)) none none) none)) none))) none) none))):=by kernel_rfl
theorem Jq (N:Nat) (m:Md) (q:Qy) (k w0 w1 w2 w3 tw vs sp:Int):DE (WZ N) U2 [.tmp 2] [[.bool]] [.bor (EO m q [.zs,.zs,.i k,.zs,.i w0,.i w1,.i w2,.i w3,.i tw,.i vs,.i sp])]=(cond (k != 0) (some ((.bool false),[(EO m q [.zs,.zs,.i k,.zs,.i w0,.i w1,.i w2,.i w3,.i tw,.i vs,.i sp])])) (cond (decide (sp≥Qy.bu q)) (some ((.bool false),[(EO m q [.zs,.zs,.i k,.zs,.i w0,.i w1,.i w2,.i w3,.i tw,.i vs,.i sp])])) none)):=by kernel_rfl
open Go Go.Proofs Go.RowKit Go.Sort Go.Lib
theorem Rs:(PR.info? 71).map (fun i=>(i.zero,i.size,i.bytes))=some (some (.agg #[.bool false,.int .i64 0,.int .i64 0]),3,24):=by kernel_rfl
set_option maxHeartbeats 4000000 in
theorem yN (b:Addr) (n c:Nat) (news:List Value) (w:World) (hl:news.length=n*3) (hn:n≤maxLen) (hbig:n*24≤140737488355328)
  (hc:∀ j u,news[j]?=some u→w.cell? (b.add j)=some u) (h1:∀ u∈news,u.oneCell'=true) :
  Calls Tryz.prog 30 #[.slice (some b) n c] w fun e w'=>∃ v',e = .returned v'∧w'.ownsRow w.heap.size 71 3 v' n news∧Below w.heap.size w w':=by
 obtain ⟨i0,hi,hz0,hz1,hz2⟩:∃ i,PR.info? 71=some i∧i.zero=some (.agg #[.bool false,.int .i64 0,.int .i64 0])∧i.size=3∧i.bytes=24:=by
  have h:=Rs;rw [Option.map_eq_some_iff] at h;obtain ⟨i,hi,he⟩:=h;simp only [Prod.mk.injEq] at he;exact ⟨i,hi,he⟩
 have qS:∀ (w:World) (a:Option Addr) (n c n' c':Nat),(binOp .eql 41 (.slice a n c) (.slice none n' c')).run Tryz.prog w = .ok (.bool a.isNone) w:=fun w a n c n' c'=>Lib.run_eql_slice_nil w _ _ a n c n' c' Tryz.underlying41
 have A:Aside (∀ j u,news[j]?=some u→w.cell? (b.add j)=some u):=hc;clear hc
 go_enter Tryz.func30,Tryz.ntmps30
 go_wp2_with (at_builtin; refine wpList_append_own _ rfl _ _ 41 rfl w.heap.size 71 i0 (.agg #[.bool false,.int .i64 0,.int .i64 0]) 3 24 Tryz.underlying41 hi hz0 hz1 hz2 rfl (by decide) _ _ _ rfl (World.ownsRow_made w #[] 0 (Nat.le_refl _) (Nat.zero_le _) (by simp)) b n c news rfl ?qc1 ?qc2 ?qc3 ?qc4 ?qc5 ?qc6 ?_)
 case qc1=>exact hl
 case qc2=>
  intro j u hj;exact Lib.cell?_alloc_some _ (A.out j u hj)
 case qc3=>exact h1
 case qc4=>rw [Nat.zero_add]; exact hn
 case qc5=>rw [Nat.zero_add]; exact hbig
 case qc6=>simp
 intro v' w1 hown hgrow hnil
 go_wp2
 go_ret
 refine ⟨v',rfl,by simpa using hown,?_⟩;exact ((Below.refl _ w).alloc (Nat.le_refl _) _).grown hgrow (by simp) (by intro k hk; simp [Value.ownBlock] at hk; omega)
set_option maxHeartbeats 1000000 in
theorem yO (n c:Nat) (w:World):Calls Tryz.prog 30 #[.slice none n c] w fun e w'=>e = .returned (.slice none 0 0)∧w'=w:=by
 have qS:∀ (w:World) (a:Option Addr) (n c n' c':Nat),(binOp .eql 41 (.slice a n c) (.slice none n' c')).run Tryz.prog w = .ok (.bool a.isNone) w:=fun w a n c n' c'=>Lib.run_eql_slice_nil w _ _ a n c n' c' Tryz.underlying41
 go_enter Tryz.func30,Tryz.ntmps30
 go_wp2
 go_ret
 exact ⟨rfl,rfl⟩
def LP (y:IV):Nat→Value
 | 0=>.bool (KV y)
 | 1=>.int .i64 (FI y)
 | _=>.int .i64 (HP y)
def ME (l:LI):List Value:=l.flatMap fun y=>[LP y 0,LP y 1,LP y 2]
theorem gG:∀ l:LI,(ME l).length=l.length*3
 | []=>rfl
 | y :: r=>by
  have:=gG r
  unfold ME at this ⊢;rw [vas,AS,this,AP];simp;omega
theorem ZV:∀ (l:LI) (j:Nat) (u:Value),(ME l)[j]?=some u→∃ i y k,j=i*3+k∧k < 3∧l[i]?=some y∧u=LP y k
 | [],j,u,h=>by simp [ME] at h
 | y :: r,j,u,h=>by
  have e:ME (y :: r)=[LP y 0,LP y 1,LP y 2]++ME r:=by unfold ME; rw [vas]
  rw [e] at h
  match j,h with
  | 0,h=>exact ⟨0,y,0,rfl,by omega,rfl,by simpa using h.symm⟩
  | 1,h=>exact ⟨0,y,1,rfl,by omega,rfl,by simpa using h.symm⟩
  | 2,h=>exact ⟨0,y,2,rfl,by omega,rfl,by simpa using h.symm⟩
  | j+3,h=>
   obtain ⟨i,z,k,rfl,hk,hi,hu⟩:=ZV r j u (by simpa using h);exact ⟨i+1,z,k,by omega,hk,by simpa using hi,hu⟩
theorem Rm (l:LI) (i:Nat) (y:IV) (hy:l[i]?=some y) (k:Nat) (hk:k < 3):(ME l)[i*3+k]?=some (LP y k):=by
 have hi:i < l.length:=(A5.1 hy).1;have hlt:i*3+k < (ME l).length:=by rw [gG]; omega
 obtain ⟨i',y',k',h1,h2,h3,h4⟩:=ZV l (i*3+k) _ (AV hlt);obtain rfl:i'=i:=by omega
 obtain rfl:k'=k:=by omega
 rw [hy] at h3;simp only [AB] at h3;subst h3;rw [AV hlt,h4]
theorem Qx:DD PR B0 30 W4:=by
 intro w X γ vs xs r out hsp hg hx hR hV;unfold W4 at hsp;simp only at hsp;split at hsp
 ·rename_i l;cases hc:BM l.length 100000 with
  | false=>rw [hc] at hsp; simp [R.get] at hsp
  | true=>
   rw [hc] at hsp;have hc:=AL hc;simp only [R.get,AB,AM] at hsp;obtain ⟨rfl,rfl⟩:=hsp;obtain ⟨x0,rfl⟩:∃ x0,xs=[x0]:=by
    have:=hV.length
    simp at this
    match xs,this with
    | [a],_=>exact ⟨a,rfl⟩
   simp only [A2,vac,D4,VRels,VRel,CE] at hV;simp only [Kd.Rel,IV.toList] at hV;obtain ⟨p,c,rfl,hc1,hc2,hc3,hcell⟩:=hV;have key:∀ i y,l[i]?=some y→∃ b o,p=some ⟨b,o,none⟩∧(∀ k,k < 3→w.cell? ⟨b,o+i*3+k,none⟩=some (LP y k))∧(AC.min≤FI y∧FI y≤AC.max)∧(AC.min≤HP y∧HP y≤AC.max):=fun i y hy=>by
    obtain ⟨b,o,rfl,_,_,hr⟩:=hcell i y hy;simp only [Kd.RelAll,CE,AP,BZ,A3,vaa] at hr;obtain ⟨⟨u0,a0,b0⟩,⟨u1,a1,b1⟩,⟨u2,a2,b2⟩⟩:=hr;simp only [Kd.Rel,EW] at b0 b1 b2;refine ⟨b,o,rfl,fun k hk=>?_,b1.2,b2.2⟩
    match k,hk with
    | 0,_=>rw [b0] at a0; exact a0
    | 1,_=>rw [b1.1] at a1; exact a1
    | 2,_=>rw [b2.1] at a2; exact a2
   have hel:∀ (w':World) (O:Nat→Prop) i y,l[i]?=some y→Kd.RelAll w' O D8 (EW true y) 0 (fun j u=>(ME l)[i*D8.length+j]?=some u):=fun w' O i y hy=>by
    obtain ⟨_,_,_,_,k1,k2⟩:=key i y hy;simp only [Kd.RelAll,AP,BZ,A3,vaa,CE];have g:=Rm l i y hy;refine ⟨⟨_,g 0 (by omega),?_⟩,⟨_,g 1 (by omega),?_⟩,⟨_,g 2 (by omega),?_⟩⟩
    ·simp only [Kd.Rel,EW,LP,KV]
    ·simp only [Kd.Rel,EW,LP,FI]; exact ⟨trivial,k1⟩
    ·simp only [Kd.Rel,EW,LP,HP]; exact ⟨trivial,k2⟩
   refine Pz hR rfl (by decide) (by decide) hc3 (Does.of_calls Tryz.func30 (by kernel_rfl) (by kernel_rfl) ?_);cases p with
   | none=>
    have h0:l=[]:=by
     cases l with
     | nil=>rfl
     | cons y r=>
      obtain ⟨b,o,hp,_⟩:=key 0 y rfl;cases hp
    subst h0;refine (yO _ c w).mono ?_;rintro e w' ⟨rfl,rfl⟩;exact ⟨_,[],rfl,Keep.refl _ _,⟨rfl,.inl ⟨rfl,rfl⟩⟩,hel _⟩
   | some a=>
    refine (yN a l.length c (ME l) w (gG l) (by unfold maxLen; omega) (by omega) (fun j u hj=>?_) (fun u hu=>?_)).mono ?_
    ·obtain ⟨i,y,k,rfl,hk,hi,rfl⟩:=ZV l j u hj;obtain ⟨b,o,hp,hu,_⟩:=key i y hi;simp only [AB] at hp;subst hp;rw [Addr.add_lit,← vaD];exact hu k hk
    ·obtain ⟨j,hj⟩:=List.getElem?_of_mem hu;obtain ⟨i,y,k,_,hk,_,rfl⟩:=ZV l j u hj
     match k,hk with
     | 0,_=>rfl
     | 1,_=>rfl
     | 2,_=>rfl
    ·rintro e w' ⟨v',rfl,hown,hw⟩;exact ⟨v',_,rfl,Keep.below hw,hown,hel _⟩
 ·simp [R.get] at hsp
open Go Go.Proofs
set_option maxRecDepth 100000
theorem Gp {l:List V} {m:Md} (h:mdOf? l=some m):l=m.cs:=by
 unfold mdOf? at h;split at h
 ·simp only [AB] at h;subst h;rfl
 ·cases h
theorem Mz {l:List V} {q:Qy} (h:qyOf? l=some q):l=q.cs:=by
 unfold qyOf? at h;split at h
 ·simp only [AB] at h;subst h;rfl
 ·cases h
theorem Oi {l r:List V} {m:Md} {q:Qy} (h:seOf? l=some (m,q,r)):l=EO m q r:=by
 unfold seOf? at h;split at h
 ·rename_i m' q' h1 h2;simp only [AB,AM] at h;obtain ⟨rfl,rfl,rfl⟩:=h;unfold EO;rw [← Gp h1,← Mz h2,List.take_append_drop,List.take_append_drop]
 ·cases h
def s6 (t:Nat) (s:Sr):Prop:=t≤3∧(t=3→s.left=[])∧(t=1∨t=3→s.proof=[])∧(t≠2→s.v.proof=[])
theorem Rl {r:List V} {t:Nat} {s:Sr} (h:srT? r=some (t,s)) (m:Md) (q:Qy):EO m q r=LO t m q s∧s6 t s:=by
 unfold srT? at h;split at h
 case h_5=>cases h
 all_goals
  simp only [AB,AM] at h;obtain ⟨rfl,rfl⟩:=h;refine ⟨rfl,by omega,?_,?_,?_⟩ <;> intro h <;> first | rfl | (exfalso; omega)
theorem u6 {v:V} {k:Nat→Md→Qy→Sr→R} {z:V × List (List V)} (h:(aF v k).get=some z):∃ t m q s,v = .bor (LO t m q s)∧s6 t s∧(k t m q s).get=some z:=by
 unfold aF at h;split at h
 ·rename_i l;split at h
  ·rename_i m q r hl;split at h
   ·rename_i t s hr;obtain ⟨e,hw⟩:=Rl hr m q;exact ⟨t,m,q,s,by rw [Oi hl,e],hw,h⟩
   ·simp [R.get] at h
  ·simp [R.get] at h
 ·simp [R.get] at h
theorem Qu:DD PR B0 11 UK:=by
 refine DK [(29,NJ),(16,P7)] [] UK [[.list false []]] Tryz.func11 Ev ⟨gE,sN,trivial⟩ ?_;intro vs r hwf h;unfold UK at h;split at h
 ·rename_i m q;replace h:=GU h;obtain ⟨m,rfl,h⟩:=h;replace h:=GP h;obtain ⟨q,rfl,h⟩:=h;refine ⟨0,(Jn 0 m q).trans ?_⟩;cases hr:DQ m q with
  | true=>rw [hr,R.get_br,CU,R.get_ok] at h; exact h
  | false=>rw [hr,R.get_br,CV,R.get_ok] at h; exact h
 ·simp [R.get] at h
theorem Qw:DD PR B0 12 UM:=by
 refine DK [(30,W4)] [] UM [[.z,.list true [.bool,.z,.z],.z,.z,.z,.z,.z,.z]] Tryz.func12 Ey ⟨Qx,trivial⟩ ?_;intro vs r hwf h;unfold UM at h;split at h
 ·replace h:=u6 h;obtain ⟨t,m,q,s,rfl,hw,h⟩:=h;cases hg:BM s.v.proof.length 100000 with
  | false=>rw [hg] at h; simp [R.get] at h
  | true=>
   rw [hg,R.get_br,CU,R.get_ok] at h;refine ⟨0,?_⟩;rw [← h];obtain ⟨left,proof,⟨k,vp,a,b,c,d,tw,vs⟩,sp⟩:=s;replace hg:BM vp.length 100000=true:=hg
   match t,hw with
   | 0,hw=>
    obtain rfl:vp=[]:=hw.2.2.2 (by omega);refine (Jr 0 m q left proof k a b c d tw vs sp).trans ?_;rw [BG,BG];unfold GT;cases (k==0) <;> rfl
   | 1,hw=>
    obtain rfl:vp=[]:=hw.2.2.2 (by omega);refine (Js 0 m q left k a b c d tw vs sp).trans ?_;rw [BG];unfold GT;cases (k==0) <;> rfl
   | 2,_=>
    refine (Jt 0 m q left proof vp k a b c d tw vs sp).trans ?_;rw [BG,hg,CU,CU,CG,BG];unfold GT;cases (k==0) <;> rfl
   | 3,hw=>
    obtain rfl:vp=[]:=hw.2.2.2 (by omega);refine (Ju 0 m q k a b c d tw vs sp).trans ?_;unfold GT;cases (k==0) <;> rfl
   | t+4,hw=>exact absurd hw.1 (by omega)
 ·simp [R.get] at h
theorem sX (m:Md) (q:Qy) (b:Bx):∀ (d i:Nat),i+d=5→(IM m q b d i).isSome=true→FS (HO (IM m q b d i))=true
 | 0,i,_,h=>by rw [IM] at h; cases h
 | d+1,i,hd,h=>by
  rw [IM] at h ⊢;cases hc:decide ((C7 m q b i).length > 0) with
  | true=>
   rw [CU];show FS (i:Int)=true;unfold FS;rw [AE (show (0:Int)≤(i:Int) by omega),AE (show (i:Int) < 5 by omega)];rfl
  | false=>
   rw [hc,CV] at h;rw [CV];exact sX m q b d (i+1) (by omega) h
theorem Qv:DD PR B0 13 UL:=by
 refine DK [(35,P2),(31,T3),(32,T4),(34,T5),(33,UG)] [] UL [[.bool]] Tryz.func13 Ex ⟨sG,Qa,Qb,Qc,Qq,trivial⟩ ?_;intro vs r hwf h;unfold UL at h;split at h
 ·replace h:=u6 h;obtain ⟨t,m,q,s,rfl,hw,h⟩:=h;refine ⟨0,?_⟩;obtain ⟨left,proof,⟨k,vp,a,b,c,d,tw,vs⟩,sp⟩:=s;cases ho:E4 q ⟨left,proof,⟨k,vp,a,b,c,d,tw,vs⟩,sp⟩ with
  | true=>
   rw [ho,R.get_br,CU,R.get_ok] at h;rw [← h];have hk:(k != 0)=true∨(k != 0)=false∧decide (sp≥q.bu)=true:=by
    unfold E4 at ho;have e:(k != 0)=!(k==0):=rfl;rw [e];cases hk:(k==0) with
    | false=>exact .inl rfl
    | true=>
     replace ho:(!(k==0)||decide (sp≥q.bu))=true:=ho;rw [hk,BB,Bool.false_or] at ho;exact .inr ⟨rfl,ho⟩
   match t,hw with
   | 0,hw=>
    refine (oX 0 m q left proof k a b c d tw vs sp).trans ?_;rcases hk with hk | ⟨hk,hs⟩
    ·rw [hk,CU,BG,BG]; rfl
    ·rw [hk,CV,hs,CU,BG,BG]; rfl
   | 1,hw=>
    refine (oY 0 m q left k a b c d tw vs sp).trans ?_;rcases hk with hk | ⟨hk,hs⟩
    ·rw [hk,CU,BG]; rfl
    ·rw [hk,CV,hs,CU,BG]; rfl
   | 2,hw=>
    refine (Jp 0 m q left proof vp k a b c d tw vs sp).trans ?_;rcases hk with hk | ⟨hk,hs⟩
    ·rw [hk,CU,BG]; rfl
    ·rw [hk,CV,hs,CU,BG]; rfl
   | 3,hw=>
    refine (Jq 0 m q k a b c d tw vs sp).trans ?_;rcases hk with hk | ⟨hk,hs⟩
    ·rw [hk,CU]; rfl
    ·rw [hk,CV,hs,CU]; rfl
   | t+4,hw=>exact absurd hw.1 (by omega)
  | false=>
   rw [ho,R.get_br,CV] at h;unfold E4 at ho;replace ho:(!(k==0)||decide (sp≥q.bu))=false:=ho;rw [CM] at ho;have hk:(k != 0)=false:=ho.1;have hsp:decide (sp≥q.bu)=false:=ho.2;cases hg:(BM t 1&&(DQ m q&&(decide (0≤sp)&&(A8 0 left.length&&(BM left.length 100000&&BM proof.length 100000))))) with
   | false=>
    replace h:(R.br (BM t 1&&(DQ m q&&(decide (0≤sp)&&(A8 0 left.length&&(BM left.length 100000&&BM proof.length 100000))))) _ R.no).get=some r:=h;rw [hg] at h;simp [R.get] at h
   | true=>
    replace h:(R.br (BM t 1&&(DQ m q&&(decide (0≤sp)&&(A8 0 left.length&&(BM left.length 100000&&BM proof.length 100000))))) _ R.no).get=some r:=h;rw [hg,R.get_br,CU] at h;have hst:some (.bool true,[LO (ZZ m q t ⟨left,proof,⟨k,vp,a,b,c,d,tw,vs⟩,sp⟩) m q (EB m q ⟨left,proof,⟨k,vp,a,b,c,d,tw,vs⟩,sp⟩)])=some r:=by
     rw [← h];unfold ZZ;simp only [R.get_br,R.get_ok];cases EX m q (C3 left) with
     | true=>cases (ic (left.length - 1)==0) <;> rfl
     | false=>
      cases EJ m q (C3 left).low (C3 left).s4.hi with
      | true=>rfl
      | false=>cases (DV m q (C3 left)).isSome <;> rfl
    rw [← hst];simp only [AG] at hg;obtain ⟨ht,hr,h0,hl,hl5,hp5⟩:=hg;obtain ⟨hm,_,⟨_,hbu⟩,_,_⟩:=M5 hr;have h0:=BC h0;have hs1:=A1 hsp;have hl:0 < left.length:=AL hl;have hl5:=AL hl5;have hp5:=AL hp5;have esp:AA AC (sp+1)=sp+1:=DX (by omega) (by omega);have etop:AA AC (ic (left.length - 0) - 1)=((left.length - 1:Nat):Int):=by
     rw [DX (by simp only [ic]; omega) (by simp only [ic]; omega)];simp only [ic];omega
    have ed:(decide (0≤((left.length - 1:Nat):Int))&&decide (((left.length - 1:Nat):Int) < ic (left.length - 0)))=true:=by
     rw [AE (by omega),AE (by simp only [ic]; omega)];rfl
    have ee:(decide (0≤((left.length - 1:Nat):Int))&&decide (((left.length - 1:Nat):Int)≤ic (left.length - 0)))=true:=by
     rw [AE (by omega),AE (by simp only [ic]; omega)];rfl
    have epop:left.take (left.length - 1+2)=left.take (left.length - 1+2):=rfl;have hlen:(E5 left).length=left.length - 1:=by unfold E5; rw [A7]; omega
    have htk:∀ (x y:IV),AY (left.length - 1+2) (AY (left.length - 1) left++[x,y])=E5 left++[x,y]:=fun x y=>vax (by rw [AS]; unfold E5 at hlen; rw [hlen]; simp)
    have hb80:decide ((left.length - 1+2)*80≤D5)=true:=AE (by unfold D5; omega);have hin:=sX m q (C3 left) 5 0 rfl;replace hin:(DV m q (C3 left)).isSome=true→FS (HO (DV m q (C3 left)))=true:=hin
    match t,ht,hw with
    | 0,_,_=>
     have hb24:decide ((proof.length+1)*24≤D5)=true:=AE (by unfold D5; omega);have htp:∀ x:IV,AY (proof.length+1) (proof++[x])=proof++[x]:=fun x=>vax (by rw [AS]; simp)
     refine (oX 0 m q left proof k a b c d tw vs sp).trans ?_;rw [hk,CV,hsp,CV,etop,ed,CU,ee,CU,esp,A0];simp only [A3,vam,BG];rw [hb24,hb80,hm];unfold EB ZZ;show cond (EX m q (C3 left)) _ (cond (EJ m q (C3 left).low (C3 left).s4.hi) _ _)=_;cases EX m q (C3 left) with
     | true=>
      simp only [htp,CG];rw [CU,CU];show cond (ic (left.length - 1)==0) _ _=_;cases (ic (left.length - 1)==0) <;> rfl
     | false=>
      rw [CV];cases EJ m q (C3 left).low (C3 left).s4.hi with
      | true=>rfl
      | false=>
       rw [CV,CU];show cond (!(DV m q (C3 left)).isSome) _ (cond (FS (HO (DV m q (C3 left)))) _ _)=_;cases hs:(DV m q (C3 left)).isSome with
       | false=>rfl
       | true=>
        rw [BB,CV,hin hs,CU,CU,CU];simp only [htp,htk];rfl
    | 1,_,hw=>
     obtain rfl:proof=[]:=hw.2.2.1 (.inl rfl);refine (oY 0 m q left k a b c d tw vs sp).trans ?_;rw [hk,CV,hsp,CV,etop,ed,CU,ee,CU,esp,A0];simp only [A3,vam];rw [hb80,hm];unfold EB ZZ;show cond (EX m q (C3 left)) _ (cond (EJ m q (C3 left).low (C3 left).s4.hi) _ _)=_;cases EX m q (C3 left) with
     | true=>
      rw [CU];show cond (ic (left.length - 1)==0) _ _=_;cases (ic (left.length - 1)==0) <;> rfl
     | false=>
      rw [CV];cases EJ m q (C3 left).low (C3 left).s4.hi with
      | true=>rfl
      | false=>
       rw [CV,CU];show cond (!(DV m q (C3 left)).isSome) _ (cond (FS (HO (DV m q (C3 left)))) _ _)=_;cases hs:(DV m q (C3 left)).isSome with
       | false=>rfl
       | true=>
        rw [BB,CV,hin hs,CU,CU];simp only [htk];rfl
    | t+2,ht,_=>exact absurd (AL ht) (by omega)
 ·simp [R.get] at h
open Go Go.Proofs
def OL (N:Nat):Env:=DJ [(11,UK),(13,UL),(12,UM)] [(2,⟨[4,5],[4,8,500,501],[⟨.cell 8 23,500,31,true,D0⟩,⟨.cell 8 24,501,71,true,D8⟩]⟩)] 13 N
open Go Go.Proofs
set_option maxRecDepth 100000
abbrev VO:KP:=⟨[4,5],[4,8,500,501],[⟨.cell 8 23,500,31,true,D0⟩,⟨.cell 8 24,501,71,true,D8⟩]⟩
def Nq (sh:Bool) (s:Sr):List V:=match sh with
 | false=>.row 500 0 s.left.length :: .row 501 0 s.proof.length :: S0 s.v .zs s.spent
 | true=>.row 500 0 s.left.length :: X1 s.proof :: S0 s.v (X1 s.v.proof) s.spent
def Nv (sh:Bool) (s:Sr):Option Ob:=match sh with
 | false=>some (.row true 71 true D8 s.proof)
 | true=>none
def JO (m:Md) (q:Qy) (sh:Bool) (s:Sr):St:=
 ⟨[(4,.ptr 4 0 0),(5,.ptr 8 0 0)],[(4,some (.box [.int .i64 0,.zs,.int .i64 0,.int .i64 0,.int .i64 0,.int .i64 0,.int .i64 0,.int .i64 0])),(8,some (.box (EO m q (Nq sh s)))),(500,some (.row true 31 true D0 s.left)),(501,Nv sh s)]⟩
def I4 (s:Sr):Sr:=⟨s.left.take s.left.length,s.proof.take s.proof.length,⟨s.v.kind,[],s.v.w0,s.v.w1,s.v.w2,s.v.w3,s.v.twin,s.v.spent⟩,s.spent⟩
def WQ (s:Sr):Sr:=⟨s.left.take s.left.length,s.proof,s.v,s.spent⟩
theorem WR {s:Sr} (h:s.v.proof=[]):I4 s=s:=by
 obtain ⟨left,proof,⟨k,vp,a,b,c,d,tw,vs⟩,sp⟩:=s;obtain rfl:vp=[]:=h;unfold I4;simp only [BG]
theorem uN (s:Sr):WQ s=s:=by
 obtain ⟨left,proof,v,sp⟩:=s;unfold WQ;simp only [BG]
def d8 (m:Md) (q:Qy) (s:Sr):Bool:=DQ m q&&(decide (0≤s.spent)&&(A8 0 s.left.length&&(BM s.left.length 100000&&BM s.proof.length 100000)))
noncomputable abbrev VL (N:Nat):Out→St→C0:=C4 0 (C5 (OL N) (CX OT [1,1,1]) (C8 (OL N) none [.cell 4 45] [[.z,.list true D8,.z,.z,.z,.z,.z,.z]]))
theorem Jo (N:Nat) (m:Md) (q:Qy):DE (OL N) OT [.cell 4 45] [[.z,.list true [.bool,.z,.z],.z,.z,.z,.z,.z,.z]] [m.V,q.V] =
 cond (DQ m q) (DC (OL N) (CX OT [1,1,0,0,0]) VO N (JO m q false ⟨[(DL q).I],[],Vd.none,0⟩) (VL N))
 (DC (OL N) (CX OT [1,1,0,0,0]) VO N (JO m q false ⟨[],[],⟨4,[],0,0,0,0,0,0⟩,0⟩) (VL N)):=by kernel_rfl
theorem gI (N:Nat) (m:Md) (q:Qy) (s:Sr) (again:St→C0) (k:Out→St→C0):EK (OL N) (CX OT [1,1,0,0,0]) (JO m q false s) (EF again VO k) =
 cond (E4 q (I4 s)) (k (.exit 0) (JO m q false (I4 s)))
 (cond (d8 m q (I4 s))
 (cond (EX m q (C3 (I4 s).left)) (cond (ic ((I4 s).left.length - 1)==0) (again (JO m q true (EB m q (I4 s)))) (again (JO m q false (EB m q (I4 s)))))
 (cond (EJ m q (C3 (I4 s).left).low (C3 (I4 s).left).s4.hi) (again (JO m q false (EB m q (I4 s))))
 (cond (DV m q (C3 (I4 s).left)).isSome (again (JO m q false (EB m q (I4 s)))) (again (JO m q false (EB m q (I4 s))))))) none):=by kernel_rfl
theorem Rq (N:Nat) (m:Md) (q:Qy) (s:Sr) (again:St→C0) (k:Out→St→C0):EK (OL N) (CX OT [1,1,0,0,0]) (JO m q true s) (EF again VO k) =
 cond (E4 q (WQ s)) (k (.exit 0) (JO m q true (WQ s))) none:=by kernel_rfl
theorem mO (N:Nat) (m:Md) (q:Qy) (s:Sr):VL N (.exit 0) (JO m q false s)=some ((GT (I4 s)).V,[]):=by kernel_rfl
theorem Ax (N:Nat) (m:Md) (q:Qy) (s:Sr):VL N (.exit 0) (JO m q true s)=cond (BM s.v.proof.length 100000) (some ((GT (WQ s)).V,[])) none:=by kernel_rfl
structure SrInv (q:Qy) (sh:Bool) (s:Sr):Prop where
 sp0:0≤s.spent
 sp1:s.spent≤max 0 q.bu
 left:(s.left.length:Int)≤s.spent+1
 proof:(s.proof.length:Int)≤s.spent
 vp:(s.v.proof.length:Int)≤s.spent
 own:sh=false→s.v.proof=[]
 open_:s.v.kind=0→0 < s.left.length
 shut:sh=true→s.v.kind≠0
theorem Mk (l:LI):(E5 l).length=l.length - 1:=by
 unfold E5;rw [A7];omega
theorem SrInv.step {m:Md} {q:Qy} {s:Sr} (h:SrInv q false s) (ho:E4 q s=false) :
  SrInv q (EX m q (C3 s.left)&&(ic (s.left.length - 1)==0)) (EB m q s)∧(EB m q s).spent=s.spent+1:=by
 unfold E4 at ho;rw [CM] at ho;have hk:s.v.kind=0:=by simpa using ho.1
 have hs:=A1 ho.2;have h1:=h.sp0;have h2:=h.left;have h3:=h.proof;have h4:=h.vp;have h5:=h.own rfl;have h6:=h.open_ hk;have hp:=Mk s.left;have h5':s.v.proof.length=0:=by rw [h5]; rfl
 unfold EB;cases EX m q (C3 s.left) with
 | true=>
  rw [CU];cases he:(ic (s.left.length - 1)==0) with
  | true=>
   refine ⟨⟨?_,?_,?_,?_,?_,fun h=>(by cases h),fun h=>(by cases h),fun _=>(show (1:Int)≠0 by decide)⟩,rfl⟩ <;> simp only [CF,AS,CT] <;> omega
  | false=>
   have hne:s.left.length - 1≠0:=by simpa [ic] using he
   refine ⟨⟨?_,?_,?_,?_,?_,fun _=>h5,fun _=>?_,fun h=>(by cases h)⟩,rfl⟩ <;> simp only [BQ,AS,CT] <;> omega
 | false=>
  rw [CV,B5];cases EJ m q (C3 s.left).low (C3 s.left).s4.hi with
  | true=>refine ⟨⟨?_,?_,?_,?_,?_,fun _=>rfl,fun h=>(by cases h),fun h=>(by cases h)⟩,rfl⟩ <;> simp only [CF,BZ] <;> omega
  | false=>
   rw [CV];cases (DV m q (C3 s.left)).isSome with
   | true=>refine ⟨⟨?_,?_,?_,?_,?_,fun _=>h5,fun _=>?_,fun h=>(by cases h)⟩,rfl⟩ <;> simp only [CF,AS,AP,BZ] <;> omega
   | false=>refine ⟨⟨?_,?_,?_,?_,?_,fun _=>rfl,fun h=>(by cases h),fun h=>(by cases h)⟩,rfl⟩ <;> simp only [BQ,BZ] <;> omega
theorem Kt {m:Md} {q:Qy} {s:Sr} (hr:DQ m q=true) (h:SrInv q false s) (hk:s.v.kind=0):d8 m q s=true:=by
 have hb:=(M5 hr).2.2.1;have h1:=h.sp0;have h2:=h.left;have h3:=h.proof;have h6:=h.open_ hk;have h7:=h.sp1;unfold d8;rw [hr,AE h1,BW (show s.left.length≤100000 by omega),BW (show s.proof.length≤100000 by omega)]
 have:A8 0 s.left.length=true:=BW h6
 rw [this];rfl
theorem rR (N:Nat) (m:Md) (q:Qy) (hr:DQ m q=true) (K:Out→St→C0):∀ (d n:Nat) (sh:Bool) (s:Sr),SrInv q sh s→q.bu < s.spent+d→d < n →
  ∃ sh',SrInv q sh' (FH m q d s)∧DC (OL N) (CX OT [1,1,0,0,0]) VO n (JO m q sh s) K=K (.exit 0) (JO m q sh' (FH m q d s))
 | d,0,sh,s,_,_,h=>absurd h (by omega)
 | 0,n+1,sh,s,hi,hd,_=>by
  have h1:=hi.sp1;have h2:=hi.sp0;have h3:=(M5 hr).2.2.1;omega
 | d+1,n+1,sh,s,hi,hd,hn=>by
  rw [FH];cases ho:E4 q s with
  | true=>
   rw [CU];refine ⟨sh,hi,?_⟩;cases sh with
   | false=>rw [DI,gI,WR (hi.own rfl),ho,CU]
   | true=>rw [DI,Rq,uN,ho,CU]
  | false=>
   rw [CV];cases sh with
   | true=>
    unfold E4 at ho;rw [CM] at ho
    have:=hi.shut rfl
    simp at ho;exact absurd ho.1 this
   | false=>
    obtain ⟨hi',hs'⟩:=hi.step (m:=m) ho;have hk:s.v.kind=0:=by
     unfold E4 at ho;rw [CM] at ho;simpa using ho.1
    obtain ⟨sh',hi2,hrun⟩:=rR N m q hr K d n _ (EB m q s) hi' (by rw [hs']; omega) (by omega);refine ⟨sh',hi2,?_⟩;rw [← hrun,DI,gI,WR (hi.own rfl),ho,CV,Kt hr hi hk,CU];cases EX m q (C3 s.left) with
    | true=>
     rw [CU,BL];cases (ic (s.left.length - 1)==0) <;> rfl
    | false=>
     rw [CV,B5];cases EJ m q (C3 s.left).low (C3 s.left).s4.hi with
     | true=>rfl
     | false=>cases (DV m q (C3 s.left)).isSome <;> rfl
theorem Gv {m:Md} {q:Qy} (hr:DQ m q=true):SrInv q false ⟨[(DL q).I],[],Vd.none,0⟩:=
 ⟨CQ _,by have:=(M5 hr).2.2.1; show (0:Int)≤_; omega,by simp,by simp,by simp [Vd.none],fun _=>rfl,fun _=>by simp,fun h=>by cases h⟩
theorem sP:DD PR B0 10 P9:=by
 refine DK [(11,UK),(13,UL),(12,UM)] [(2,⟨[4,5],[4,8,500,501],[⟨.cell 8 23,500,31,true,D0⟩,⟨.cell 8 24,501,71,true,D8⟩]⟩)] P9 [[.z,.list true [.bool,.z,.z],.z,.z,.z,.z,.z,.z]] Tryz.func10 Ew ⟨Qu,Qv,Qw,trivial⟩ ?_;intro vs r hwf h;unfold P9 at h;split at h
 ·rename_i m q;replace h:=GU h;obtain ⟨m,rfl,h⟩:=h;replace h:=GP h;obtain ⟨q,rfl,h⟩:=h;rw [R.get_ok] at h;refine ⟨70000,?_⟩;rw [← h];refine (Jo 70000 m q).trans ?_;unfold D2 QX;cases hr:DQ m q with
  | true=>
   have hb:=(M5 hr).2.2.1;rw [CU,CU];obtain ⟨sh',hi,hrun⟩:=rR 70000 m q hr (VL 70000) (q.bu.toNat+1) 70000 false _ (Gv hr) (by show q.bu < 0+_; omega) (by omega);rw [hrun];generalize FH m q (q.bu.toNat+1) _=s at hi ⊢;cases sh' with
   | false=>rw [mO,WR (hi.own rfl)]
   | true=>
    have h1:=hi.vp;have h2:=hi.sp1;rw [Ax,uN,BW (show s.v.proof.length≤100000 by omega),CU]
  | false=>
   rw [CV,CV];have e:E4 q ⟨[],[],⟨4,[],0,0,0,0,0,0⟩,0⟩=true:=rfl;rw [DI,gI,WR rfl,e,CU,mO,WR rfl,FH,e,CU]
 ·simp [R.get] at h
open Go Go.Proofs
def vM (N:Nat):Env:=DJ [(40,NI)] [] 14 N
theorem Hm (N:Nat):DE (vM N) jM [.cell 0 37] [[.z,.z,.z,.z,.z,.list true [.z,.list false [.int .u64]]]] []=(some ((.agg [.i 1,.i 1,.i 3,.i 0,.i 0,.list true FA [(IV.agg [IV.int 0,IV.list [IV.int (FB false 0 0 5 1 2),IV.int (FB true 10 0 0 0 0),IV.int (FB true 20 0 0 0 0)]])]]),[])):=by kernel_rfl
def MM (N:Nat):Env:=DJ [] [(4,⟨[0,1,4,5],[],[]⟩)] 26 N
abbrev PO (l0 l1:LI) (b4:Bool) (x5:Int):St:=⟨[(0,(.list true D8 l0)),(1,(.list true D8 l1)),(4,(.bool b4)),(5,(.i x5))],[]⟩
theorem Hh (N:Nat) (a b:LI):DE (MM N) OP [.tmp 4] [[.bool]] [.list true [.bool,.z,.z] a,.list true [.bool,.z,.z] b]=(cond (ic (AF a) != ic (AF b)) (some ((.bool false),[])) (DC (MM N) (CX OP [1,1,0,1,0,0]) ⟨[0,1,4,5],[],[]⟩ N (PO a b false 0) (C4 0 (C5 (MM N) (CX OP [1,1,1]) (C8 (MM N) none [.tmp 4] [[.bool]]))))):=by kernel_rfl
theorem tB (N:Nat) (l0 l1:LI) (b4:Bool) (x5:Int) (again:St→C0) (k:Out→St→C0):EK (MM N) (CX OP [1,1,0,1,0,0]) (PO l0 l1 b4 x5) (EF again ⟨[0,1,4,5],[],[]⟩ k)=(cond (decide (x5 < ic (AF l0))) (cond (decide (0≤x5)&&decide (x5 < ic (AF l0))) (cond (decide (0≤x5)&&decide (x5 < ic (AF l1))) (cond (! (IV.toBool (IV.cell (AH l0 (AD x5) default) 0)==IV.toBool (IV.cell (AH l1 (AD x5) default) 0)&&(IV.toInt (IV.cell (AH l0 (AD x5) default) 1)==IV.toInt (IV.cell (AH l1 (AD x5) default) 1)&&(IV.toInt (IV.cell (AH l0 (AD x5) default) 2)==IV.toInt (IV.cell (AH l1 (AD x5) default) 2)&&true)))) (k .ret (PO l0 l1 false x5)) (again (PO l0 l1 b4 (AA AC (x5+1))))) none) none) (k (.exit 0) (PO l0 l1 b4 x5))):=by kernel_rfl
theorem zM (N:Nat) (l0 l1:LI) (b4:Bool) (x5:Int):(C4 0 (C5 (MM N) (CX OP [1,1,1]) (C8 (MM N) none [.tmp 4] [[.bool]]))) (.exit 0) (PO l0 l1 b4 x5)=(some ((.bool true),[])):=by kernel_rfl
theorem zN (N:Nat) (l0 l1:LI) (b4:Bool) (x5:Int):(C4 0 (C5 (MM N) (CX OP [1,1,1]) (C8 (MM N) none [.tmp 4] [[.bool]]))) .ret (PO l0 l1 b4 x5)=(some ((.bool b4),[])):=by kernel_rfl
def vN (N:Nat):Env:=DJ [(28,TF)] [] 38 N
theorem Ho (N:Nat) (a b:Vd):DE (vN N) jN [.tmp 4] [[.bool]] [(Vd.V a),(Vd.V b)]=(cond (Vd.kind a==Vd.kind b) (cond (IK (Vd.proof a) (Vd.proof b)) (cond (Vd.w0 a==Vd.w0 b&&(Vd.w1 a==Vd.w1 b&&(Vd.w2 a==Vd.w2 b&&(Vd.w3 a==Vd.w3 b&&true)))) (cond (Vd.twin a==Vd.twin b) (some ((.bool (Vd.spent a==Vd.spent b)),[])) (some ((.bool false),[]))) (some ((.bool false),[]))) (some ((.bool false),[]))) (some ((.bool false),[]))):=by kernel_rfl
def vQ (N:Nat):Env:=DJ [(36,TH),(10,P9)] [] 60 N
theorem Hr (N:Nat):DE (vQ N) jQ [.tmp 0] [[.bool]] []=(some ((.bool true),[])):=by kernel_rfl
open Go Go.Proofs
theorem Pd:DD PR B0 36 TH:=by
 refine DK [(40,NI)] [] TH [[.z,.z,.z,.z,.z,.list true [.z,.list false [.int .u64]]]] Tryz.func36 Cp ⟨gD,trivial⟩ ?_;intro vs r hwf h;unfold TH at h;split at h
 ·skip
  rw [R.get_ok] at h;refine ⟨0,(Hm 0).trans ?_⟩;rw [← h];rfl
 ·simp [R.get] at h
theorem Ph:DD PR B0 14 TL:=by
 refine DK [(36,TH),(10,P9)] [] TL [[.bool]] Tryz.func14 Cu ⟨Pd,sP,trivial⟩ ?_;intro vs r hwf h;unfold TL at h;split at h
 ·skip
  rw [R.get_ok] at h;refine ⟨0,(Hr 0).trans ?_⟩;rw [← h]
 ·simp [R.get] at h
open Go Go.Proofs
theorem rU (N:Nat) (l m:LI) (K:Out→St→C0) (hlm:l.length=m.length) (hl:l.length≤strMax)
  (hx:∀ b4 x5,K (.exit 0) ⟨[(0,(.list true D8 l)),(1,(.list true D8 m)),(4,(.bool b4)),(5,(.int .i64 x5))],[]⟩=some (.bool true,[]))
  (hr:∀ b4 x5,K .ret ⟨[(0,(.list true D8 l)),(1,(.list true D8 m)),(4,(.bool b4)),(5,(.int .i64 x5))],[]⟩=some (.bool b4,[])) :
  ∀ (d i n:Nat),i+d=l.length→d < n→DC (MM N) (CX OP [1,1,0,1,0,0]) ⟨[0,1,4,5],[],[]⟩ n ⟨[(0,(.list true D8 l)),(1,(.list true D8 m)),(4,(.bool false)),(5,(.int .i64 (i:Int)))],[]⟩ K=some (.bool (IK (l.drop i) (m.drop i)),[])
 | 0,i,n+1,hd,_=>by
  rw [DI,tB,JY (by omega),List.drop_of_length_le (by omega),List.drop_of_length_le (by omega)];simp only [BQ,IK];exact hx ..
 | d+1,i,n+1,hd,hn=>by
  have hi:i < l.length:=by omega
  have hm:i < m.length:=by omega
  unfold strMax at hl;rw [DI,tB,IY hi,IY hm,JI,F2 (by omega),JX hi,JX hm,BD hi,BD hm];generalize l[i]=x;generalize m[i]=y;have ih:=rU N l m K hlm (by unfold strMax; omega) hx hr d (i+1) n (by omega) (by omega);rw [ih];simp only [IK];generalize IK (CB (i+1) l) (CB (i+1) m)=rest;unfold ZW KV FI HP;simp only [CF,vay];cases IV.toBool (IV.cell x 0)==IV.toBool (IV.cell y 0) <;> cases IV.toInt (IV.cell x 1)==IV.toInt (IV.cell y 1) <;> cases IV.toInt (IV.cell x 2)==IV.toInt (IV.cell y 2) <;>
   (simp only [CF,BQ,BB,BX,vay,vaM,BL,B5,hr]
    try rfl)
 | 0,_,0,_,h=>by omega
 | _+1,_,0,_,h=>by omega
theorem rT:∀ {l m:LI},IK l m=true→l.length=m.length
 | [],[],_=>rfl
 | [],_ :: _,h=>by simp [IK] at h
 | _ :: _,[],h=>by simp [IK] at h
 | x :: l,y :: m,h=>by
  simp only [IK,AG] at h;simp [rT h.2]
theorem Oz:DD PR B0 28 TF:=by
 refine DK [] [(4,⟨[0,1,4,5],[],[]⟩)] TF [[.bool]] Tryz.func28 Ck trivial ?_;intro vs r hwf h;unfold TF at h;split at h
 ·rename_i l m;rw [R.get_ok] at h;refine ⟨l.length+1,?_⟩;rw [← h];refine (Hh (l.length+1) l m).trans ?_;have hl:=(hwf (by simp [L7])).1;simp only [RI,wfL] at hl;by_cases hlm:l.length=m.length
  ·have e:(ic l.length != ic m.length)=false:=by simp [ic,hlm]
   rw [e];simp only [BQ]
   have:=rU (l.length+1) l m _ hlm hl.1 (fun b4 x5=>zM (l.length+1) l m b4 x5) (fun b4 x5=>zN (l.length+1) l m b4 x5) l.length 0 (l.length+1) (by omega) (by omega)
   rw [CG,CG] at this;exact this
  ·have e:(ic l.length != ic m.length)=true:=by simp [ic]; omega
   rw [e]
   have:IK l m=false:=by
    cases hs:IK l m with
    | false=>rfl
    | true=>exact absurd (rT hs) hlm
   rw [this];rfl
 ·simp [R.get] at h
theorem Pf:DD PR B0 9 TK:=by
 refine DK [(28,TF)] [] TK [[.bool]] Tryz.func9 Cr ⟨Oz,trivial⟩ ?_;intro vs r hwf h;unfold TK at h;split at h
 ·rename_i k p a b c d t s k' p' a' b' c' d' t' s';rw [R.get_ok] at h;refine ⟨0,?_⟩;rw [← h];refine (Ho 0 ⟨k,p,a,b,c,d,t,s⟩ ⟨k',p',a',b',c',d',t',s'⟩).trans ?_;simp only [WV,vay];cases k==k'
  ·rfl
  cases IK p p'
  ·rfl
  cases a==a' <;> cases b==b' <;> cases c==c' <;> cases d==d' <;> cases t==t' <;> rfl
 ·simp [R.get] at h
open Go Go.Proofs
def FV (N:Nat):Env:=DJ [(7,KF),(18,NG),(40,NI)] [(4,⟨[1,2,4,5,6,7],[2,500,501],[⟨.tmp 5,500,89,true,[.bool,.z,.z,.z,.z,.z]⟩,⟨.tmp 6,501,3,false,[.z]⟩]⟩),(14,⟨[4,11,100,101,102],[500,502],[⟨.tmp 11,502,91,false,[.int .u64]⟩]⟩)] 113 N
abbrev RL (x1:Int) (n5 n6:Nat) (x7 u06:Int) (u00 u01 u02 u03 u04 u05:LI):St:=⟨[(1,(.i x1)),(2,(.ptr 2 0 0)),(4,.zs),(5,(.row 500 0 n5)),(6,(.row 501 0 n6)),(7,(.i x7))],[(2,(some (.box [.i u06,.list false [.z] u00,.list false [.z] u01,.list false [.z] u02,.list false [.z] u03]))),(500,(some (.row true 89 true [.bool,.z,.z,.z,.z,.z] u04))),(501,(some (.row true 3 false [.z] u05)))]⟩
abbrev S5 (n11 n100:Nat) (x101 x102:Int) (u00 u01:LI):St:=⟨[(4,.zs),(11,(.row 502 0 n11)),(100,(.row 500 0 n100)),(101,(.i x101)),(102,(.i x102))],[(500,(some (.row true 89 true [.bool,.z,.z,.z,.z,.z] u00))),(502,(some (.row true 91 false [.int .u64] u01)))]⟩
theorem Hn (N:Nat) (u00:Int) (u01 t_By t_At u02:LI) (a1:Int):DE (FV N) JA [.tmp 4] [[.list false [.int .u64]]] [.agg [.i u00,.list false [.z] u01,.list false [.z] t_By,.list false [.z] t_At,.list false [.z] u02],.i a1]=(DC (FV N) (CX JA [1,1,1,0,1,0,0]) ⟨[1,2,4,5,6,7],[2,500,501],[⟨(.tmp 5),500,89,true,[.bool,.z,.z,.z,.z,.z]⟩,⟨(.tmp 6),501,3,false,[.z]⟩]⟩ N (RL a1 1 1 0 u00 u01 t_By t_At u02 [(IV.agg [IV.bool true,IV.int (C2 (DS u02 0) (-3000) 3000),IV.int 0,IV.int 0,IV.int 0,IV.int 0])] [(IV.int 0)]) (C4 0 (C5 (FV N) (CX JA [1,1,1,1]) (C8 (FV N) none [.tmp 4] [[.list false [.int .u64]]])))):=by kernel_rfl
theorem tF (N:Nat) (x1:Int) (n5 n6:Nat) (x7 u06:Int) (u00 u01 u02 u03 u04 u05:LI) (again:St→C0) (k:Out→St→C0):EK (FV N) (CX JA [1,1,1,0,1,0,0]) (RL x1 n5 n6 x7 u06 u00 u01 u02 u03 u04 u05) (EF again ⟨[1,2,4,5,6,7],[2,500,501],[⟨(.tmp 5),500,89,true,[.bool,.z,.z,.z,.z,.z]⟩,⟨(.tmp 6),501,3,false,[.z]⟩]⟩ k)=(cond (decide (x7 < ic (AF u00))) (cond (decide (x7 < 7)) (cond (decide (0≤x7)&&decide (x7 < ic (AF u00))) (cond (decide (IO 0 (AA AC (ic (n6 - 0) - 1))=0)) none (cond (decide (0≤C2 (IV.toInt (AH u00 (AD x7) default)) 0 (AA AC (ic (n6 - 0) - 1)))&&decide (C2 (IV.toInt (AH u00 (AD x7) default)) 0 (AA AC (ic (n6 - 0) - 1)) < ic (n6 - 0))) (cond (decide (0≤x7)) (cond (decide (IO 0 (AA AC (x1 - 1))=0)) none (cond (decide (0≤x7)) (cond (decide (0≤IV.toInt (AH u05 (0+AD (C2 (IV.toInt (AH u00 (AD x7) default)) 0 (AA AC (ic (n6 - 0) - 1)))) default))&&decide (IV.toInt (AH u05 (0+AD (C2 (IV.toInt (AH u00 (AD x7) default)) 0 (AA AC (ic (n6 - 0) - 1)))) default) < ic (n5 - 0))) (cond (decide (0≤AA AC (AA AC (2*x7)+1))) (cond (decide (0≤AA AC (AA AC (2*x7)+2))) (cond (decide ((n5+AF (CB 0 (AY 2 [IV.agg [IV.bool true,IV.int (C2 (DS u03 (AA AC (AA AC (2*x7)+1))) (-3000) 3000),IV.int 0,IV.int 0,IV.int 0,IV.int 0],IV.agg [IV.bool true,IV.int (C2 (DS u03 (AA AC (AA AC (2*x7)+2))) (-3000) 3000),IV.int 0,IV.int 0,IV.int 0,IV.int 0]])))*TI.bytes (Env.tyd (FV N) 89)≤D5)) (cond (decide (0≤C2 (IV.toInt (AH u00 (AD x7) default)) 0 (AA AC (ic (n6 - 0) - 1)))&&decide (C2 (IV.toInt (AH u00 (AD x7) default)) 0 (AA AC (ic (n6 - 0) - 1))≤ic (n6 - 0))) (cond (decide ((0+AF (CB 0 (AY (0+AD (C2 (IV.toInt (AH u00 (AD x7) default)) 0 (AA AC (ic (n6 - 0) - 1)))) u05)))*TI.bytes (Env.tyd (FV N) 3)≤D5)) (cond (decide (0≤AA AC (C2 (IV.toInt (AH u00 (AD x7) default)) 0 (AA AC (ic (n6 - 0) - 1))+1))&&decide (AA AC (C2 (IV.toInt (AH u00 (AD x7) default)) 0 (AA AC (ic (n6 - 0) - 1))+1)≤ic (n6 - 0))) (cond (decide ((0+AF (CB 0 (AY (0+AD (C2 (IV.toInt (AH u00 (AD x7) default)) 0 (AA AC (ic (n6 - 0) - 1)))) u05))+AF (CB (0+AD (AA AC (C2 (IV.toInt (AH u00 (AD x7) default)) 0 (AA AC (ic (n6 - 0) - 1))+1))) (AY (0+(n6 - 0)) u05)))*TI.bytes (Env.tyd (FV N) 3)≤D5)) (cond (decide ((0+AF (CB 0 (AY (0+AD (C2 (IV.toInt (AH u00 (AD x7) default)) 0 (AA AC (ic (n6 - 0) - 1)))) u05))+AF (CB (0+AD (AA AC (C2 (IV.toInt (AH u00 (AD x7) default)) 0 (AA AC (ic (n6 - 0) - 1))+1))) (AY (0+(n6 - 0)) u05))+AF (CB 0 (AY 2 [IV.int (ic (n5 - 0)),IV.int (AA AC (ic (n5 - 0)+1))])))*TI.bytes (Env.tyd (FV N) 3)≤D5)) (again (RL x1 (n5+AF (CB 0 (AY 2 [IV.agg [IV.bool true,IV.int (C2 (DS u03 (AA AC (AA AC (2*x7)+1))) (-3000) 3000),IV.int 0,IV.int 0,IV.int 0,IV.int 0],IV.agg [IV.bool true,IV.int (C2 (DS u03 (AA AC (AA AC (2*x7)+2))) (-3000) 3000),IV.int 0,IV.int 0,IV.int 0,IV.int 0]]))) (0+AF (CB 0 (AY (0+AD (C2 (IV.toInt (AH u00 (AD x7) default)) 0 (AA AC (ic (n6 - 0) - 1)))) u05))+AF (CB (0+AD (AA AC (C2 (IV.toInt (AH u00 (AD x7) default)) 0 (AA AC (ic (n6 - 0) - 1))+1))) (AY (0+(n6 - 0)) u05))+AF (CB 0 (AY 2 [IV.int (ic (n5 - 0)),IV.int (AA AC (ic (n5 - 0)+1))]))) (AA AC (x7+1)) u06 u00 u01 u02 u03 (AY n5 (List.set u04 (0+AD (IV.toInt (AH u05 (0+AD (C2 (IV.toInt (AH u00 (AD x7) default)) 0 (AA AC (ic (n6 - 0) - 1)))) default))) (KT true [Kd.bool,Kd.int AC,Kd.int AC,Kd.int AC,Kd.int AC,Kd.int AC] (AH u04 (0+AD (IV.toInt (AH u05 (0+AD (C2 (IV.toInt (AH u00 (AD x7) default)) 0 (AA AC (ic (n6 - 0) - 1)))) default))) default) 0 [IV.bool false,IV.int 0,IV.int (C2 (DS u01 x7) 0 (AA AC (x1 - 1))),IV.int (C2 (DS u02 x7) 0 9),IV.int (ic (n5 - 0)),IV.int (AA AC (ic (n5 - 0)+1))]))++CB 0 (AY 2 [IV.agg [IV.bool true,IV.int (C2 (DS u03 (AA AC (AA AC (2*x7)+1))) (-3000) 3000),IV.int 0,IV.int 0,IV.int 0,IV.int 0],IV.agg [IV.bool true,IV.int (C2 (DS u03 (AA AC (AA AC (2*x7)+2))) (-3000) 3000),IV.int 0,IV.int 0,IV.int 0,IV.int 0]])) (AY (0+AF (CB 0 (AY (0+AD (C2 (IV.toInt (AH u00 (AD x7) default)) 0 (AA AC (ic (n6 - 0) - 1)))) u05))+AF (CB (0+AD (AA AC (C2 (IV.toInt (AH u00 (AD x7) default)) 0 (AA AC (ic (n6 - 0) - 1))+1))) (AY (0+(n6 - 0)) u05))) (AY (0+AF (CB 0 (AY (0+AD (C2 (IV.toInt (AH u00 (AD x7) default)) 0 (AA AC (ic (n6 - 0) - 1)))) u05))) (AY 0 []++CB 0 (AY (0+AD (C2 (IV.toInt (AH u00 (AD x7) default)) 0 (AA AC (ic (n6 - 0) - 1)))) u05))++CB (0+AD (AA AC (C2 (IV.toInt (AH u00 (AD x7) default)) 0 (AA AC (ic (n6 - 0) - 1))+1))) (AY (0+(n6 - 0)) u05))++CB 0 (AY 2 [IV.int (ic (n5 - 0)),IV.int (AA AC (ic (n5 - 0)+1))])))) none) none) none) none) none) none) none) none) none) none)) none) none)) none) (k (.exit 0) (RL x1 n5 n6 x7 u06 u00 u01 u02 u03 u04 u05))) (k (.exit 0) (RL x1 n5 n6 x7 u06 u00 u01 u02 u03 u04 u05))):=by kernel_rfl
theorem zR (N:Nat) (x1:Int) (n5 n6:Nat) (x7 u06:Int) (u00 u01 u02 u03 u04 u05:LI):(C4 0 (C5 (FV N) (CX JA [1,1,1,1]) (C8 (FV N) none [.tmp 4] [[.list false [.int .u64]]]))) (.exit 0) (RL x1 n5 n6 x7 u06 u00 u01 u02 u03 u04 u05)=(DC (FV N) (CX JA [1,1,1,1,1,0,1,0,0]) ⟨[4,11,100,101,102],[500,502],[⟨(.tmp 11),502,91,false,[.int .u64]⟩]⟩ N (S5 0 n5 (ic (n5 - 0)) 0 u04 []) (C4 2 (C5 (FV N) (CX JA [1,1,1,1,1,1]) (C8 (FV N) none [.tmp 4] [[.list false [.int .u64]]])))):=by kernel_rfl
theorem tG (N n11 n100:Nat) (x101 x102:Int) (u00 u01:LI) (again:St→C0) (k:Out→St→C0):EK (FV N) (CX JA [1,1,1,1,1,0,1,0,0]) (S5 n11 n100 x101 x102 u00 u01) (EF again ⟨[4,11,100,101,102],[500,502],[⟨(.tmp 11),502,91,false,[.int .u64]⟩]⟩ k)=(cond (decide (x102 < x101)) (cond (decide (0≤x102)&&decide (x102 < ic (n100 - 0))) (cond (decide ((n11+AF (CB 0 (AY 1 [IV.int (FB (IV.toBool (IV.cell (AH u00 (0+AD x102) default) 0)) (IV.toInt (IV.cell (AH u00 (0+AD x102) default) 1)) (IV.toInt (IV.cell (AH u00 (0+AD x102) default) 2)) (IV.toInt (IV.cell (AH u00 (0+AD x102) default) 3)) (IV.toInt (IV.cell (AH u00 (0+AD x102) default) 4)) (IV.toInt (IV.cell (AH u00 (0+AD x102) default) 5)))])))*TI.bytes (Env.tyd (FV N) 91)≤D5)) (again (S5 (n11+AF (CB 0 (AY 1 [IV.int (FB (IV.toBool (IV.cell (AH u00 (0+AD x102) default) 0)) (IV.toInt (IV.cell (AH u00 (0+AD x102) default) 1)) (IV.toInt (IV.cell (AH u00 (0+AD x102) default) 2)) (IV.toInt (IV.cell (AH u00 (0+AD x102) default) 3)) (IV.toInt (IV.cell (AH u00 (0+AD x102) default) 4)) (IV.toInt (IV.cell (AH u00 (0+AD x102) default) 5)))]))) n100 x101 (AA AC (x102+1)) u00 (AY n11 u01++CB 0 (AY 1 [IV.int (FB (IV.toBool (IV.cell (AH u00 (0+AD x102) default) 0)) (IV.toInt (IV.cell (AH u00 (0+AD x102) default) 1)) (IV.toInt (IV.cell (AH u00 (0+AD x102) default) 2)) (IV.toInt (IV.cell (AH u00 (0+AD x102) default) 3)) (IV.toInt (IV.cell (AH u00 (0+AD x102) default) 4)) (IV.toInt (IV.cell (AH u00 (0+AD x102) default) 5)))])))) none) none) (k (.exit 2) (S5 n11 n100 x101 x102 u00 u01))):=by kernel_rfl
theorem zS (N n11 n100:Nat) (x101 x102:Int) (u00 u01:LI):(C4 2 (C5 (FV N) (CX JA [1,1,1,1,1,1]) (C8 (FV N) none [.tmp 4] [[.list false [.int .u64]]]))) (.exit 2) (S5 n11 n100 x101 x102 u00 u01)=(some ((.list false [.int .u64] (CB 0 (AY n11 u01))),[])):=by kernel_rfl
open Go Go.Proofs
structure Ns.At (i:Nat) (s:Ns):Prop where
 nl:s.nodes.length=2*i+1
 ll:s.leaves.length=i+1
 lt:∀ x∈s.leaves,0≤x.toInt∧x.toInt < (2*i+1:Nat)
theorem d6 {part:LI} {i:Nat} {s:Ns} (h:s.At i) (hi:i≤100):0≤F7 part i s∧F7 part i s < ((i+1:Nat):Int)∧IO 0 (ic s.leaves.length - 1)=((i+1:Nat):Int):=by
 have e:ic s.leaves.length=((i+1:Nat):Int):=by rw [h.ll]
 obtain ⟨m,a,b⟩:=H1 (n:=(part.getD i default).toInt) (lo:=0) (hi:=ic s.leaves.length - 1) (by rw [e]; omega) (by omega) (by rw [e]; omega);unfold F7;rw [e] at a b m ⊢;exact ⟨a,by omega,by rw [m]; omega⟩
theorem Kp {part:LI} {i:Nat} {s:Ns} (h:s.At i) (hi:i≤100):0≤MY part i s∧MY part i s < (2*i+1:Nat):=by
 obtain ⟨k0,k1,_⟩:=d6 (part:=part) h hi;have hk:(F7 part i s).toNat < s.leaves.length:=by rw [h.ll]; omega
 have e:s.leaves.getD (F7 part i s).toNat default=s.leaves[(F7 part i s).toNat]:=by simp [hk]
 unfold MY;rw [e];exact h.lt _ (vaA hk)
theorem Ns.At.step {part byl atl val:LI} {dim:Int} {i:Nat} {s:Ns} (h:s.At i) (hi:i≤100):(HX part byl atl val dim i s).At (i+1):=by
 obtain ⟨k0,k1,_⟩:=d6 (part:=part) h hi;refine ⟨?_,?_,?_⟩
 ·simp only [HX,AS,vaF,AP,BZ,h.nl];omega
 ·simp only [HX,AS,A7,vab,AP,BZ,h.ll];omega
 ·intro x hx;simp only [HX,AQ] at hx;rcases hx with (hx | hx) | hx
  ·have:=h.lt x (List.mem_of_mem_take hx)
   omega
  ·have:=h.lt x (List.mem_of_mem_drop hx)
   omega
  ·simp only [AT,List.not_mem_nil,or_false] at hx;rcases hx with rfl | rfl
   ·simp only [IV.toInt,ic,h.nl]; omega
   ·simp only [IV.toInt,ic,h.nl]; omega
abbrev kN:List Kd:=[.bool,.z,.z,.z,.z,.z]
abbrev dC:KP:=⟨[1,2,4,5,6,7],[2,500,501],[⟨(.tmp 5),500,89,true,[.bool,.z,.z,.z,.z,.z]⟩,⟨(.tmp 6),501,3,false,[.z]⟩]⟩
abbrev WM (cl:Int) (part byl atl val:LI) (dim:Int) (s:Ns) (i:Int):St:=
 ⟨[(1,(.int .i64 dim)),(2,(.ptr 2 0 0)),(4,.zs),(5,(.row 500 0 s.nodes.length)),(6,(.row 501 0 s.leaves.length)),(7,(.int .i64 i))],[(2,(some (.box [(.int .i64 cl),(.list false [.z] part),(.list false [.z] byl),(.list false [.z] atl),(.list false [.z] val)]))),(500,(some (.row true 89 true kN s.nodes))),(501,(some (.row true 3 false [.z] s.leaves)))]⟩
theorem Ki (N:Nat):TI.bytes (Env.tyd (FV N) 89)=48:=by rfl
theorem Fp (N:Nat):TI.bytes (Env.tyd (FV N) 3)=8:=by rfl
theorem Mv (x a b c d e f:IV):KT true kN x 0 [a,b,c,d,e,f] = .agg [a,b,c,d,e,f]:=rfl
set_option maxHeartbeats 4000000 in
theorem Kj (N:Nat) (cl:Int) (part byl atl val:LI) (dim:Int) (h1:1≤dim) (h4:dim≤4) (s:Ns) (i:Nat) (hs:s.At i) (hi:i < part.length) (h7:i < 7) (again:St→C0) (k:Out→St→C0) :
  EK (FV N) (CX JA [1,1,1,0,1,0,0]) (WM cl part byl atl val dim s (i:Int)) (EF again dC k)=again (WM cl part byl atl val dim (HX part byl atl val dim i s) ((i+1:Nat):Int)):=by
 refine (tF N dim s.nodes.length s.leaves.length i cl part byl atl val s.nodes s.leaves again k).trans ?_;obtain ⟨k0,k1,km⟩:=d6 (part:=part) hs (by omega);obtain ⟨a0,a1⟩:=Kp (part:=part) hs (by omega);obtain ⟨dm,_,_⟩:=H1 (n:=0) (lo:=0) (hi:=dim - 1) (by omega) (by omega) (by omega);have eL:ic (s.leaves.length - 0)=ic s.leaves.length:=rfl;have eN:ic (s.nodes.length - 0)=ic s.nodes.length:=rfl;have hL:ic s.leaves.length=((i+1:Nat):Int):=by rw [hs.ll]
 have hN:ic s.nodes.length=((2*i+1:Nat):Int):=by rw [hs.nl]
 have w1:IntKind.wrap IntKind.i64 (ic s.leaves.length - 1)=ic s.leaves.length - 1:=DX (by rw [hL]; omega) (by rw [hL]; omega);have w2:IntKind.wrap IntKind.i64 (dim - 1)=dim - 1:=DX (by omega) (by omega);have w3:IntKind.wrap IntKind.i64 (2*(i:Int))=2*(i:Int):=DX (by omega) (by omega);have w4:IntKind.wrap IntKind.i64 (2*(i:Int)+1)=2*(i:Int)+1:=DX (by omega) (by omega);have w5:IntKind.wrap IntKind.i64 (2*(i:Int)+2)=2*(i:Int)+2:=DX (by omega) (by omega);have w6:IntKind.wrap IntKind.i64 (ic s.nodes.length+1)=ic s.nodes.length+1:=DX (by rw [hN]; omega) (by rw [hN]; omega);rw [eL,eN,w1,w2,w3,w4,w5,w6,Int.toNat_natCast];have eK:C2 (IV.toInt (List.getD part i default)) 0 (ic s.leaves.length - 1)=F7 part i s:=rfl;rw [eK];have w7:IntKind.wrap IntKind.i64 (F7 part i s+1)=F7 part i s+1:=DX (by omega) (by omega);rw [w7];have e0:∀ n:Nat,0+n=n:=Nat.zero_add;simp only [e0];have eA:IV.toInt (List.getD s.leaves (F7 part i s).toNat default)=MY part i s:=rfl;rw [eA,Ki,Fp];obtain ⟨q,hq⟩:∃ q:Nat,F7 part i s=q:=⟨(F7 part i s).toNat,by omega⟩;have eq1:(F7 part i s+1).toNat=q+1:=by omega
 have eq0:(F7 part i s).toNat=q:=by omega
 have hq1:q < i+1:=by omega
 have lt2:∀ x y:IV,(List.drop 0 (List.take 2 [x,y]))=[x,y]:=fun _ _=>rfl
 have lk:List.drop 0 (List.take q s.leaves)=List.take q s.leaves:=List.drop_zero;have lk2:List.drop (q+1) (List.take (s.leaves.length - 0) s.leaves)=List.drop (q+1) s.leaves:=by rw [Nat.sub_zero,List.take_length]
 rw [eq1,eq0,lt2,lt2,lk,lk2];have zA:(List.take q s.leaves).length=q:=by rw [List.length_take,hs.ll]; omega
 have zB:(List.drop (q+1) s.leaves).length=i - q:=by rw [List.length_drop,hs.ll]; omega
 rw [zA,zB];simp only [List.length_cons,List.length_nil];rw [decide_eq_true (show (i:Int) < ic part.length by simp only [ic]; omega),decide_eq_true (show (i:Int) < 7 by omega),decide_eq_true (show 0≤(i:Int) by omega),km,decide_eq_false (show ¬ ((i+1:Nat):Int)=0 by omega),
  decide_eq_true k0,decide_eq_true (show F7 part i s < ic s.leaves.length by rw [hL]; exact k1),dm,decide_eq_false (show ¬ (dim - 1 - 0+1=0) by omega),decide_eq_true a0,decide_eq_true (show MY part i s < ic s.nodes.length by rw [hN]; exact a1),
  decide_eq_true (show 0≤2*(i:Int)+1 by omega),decide_eq_true (show 0≤2*(i:Int)+2 by omega),decide_eq_true (show (s.nodes.length+(0+1+1))*48≤D5 by rw [hs.nl]; unfold D5; omega),
  decide_eq_true (show F7 part i s≤ic s.leaves.length by rw [hL]; omega),decide_eq_true (show q*8≤D5 by unfold D5; omega),decide_eq_true (show 0≤F7 part i s+1 by omega),decide_eq_true (show F7 part i s+1≤ic s.leaves.length by rw [hL]; omega),
  decide_eq_true (show (q+(i - q))*8≤D5 by unfold D5; omega),decide_eq_true (show (q+(i - q)+(0+1+1))*8≤D5 by unfold D5; omega)]
 simp only [Bool.and_true,CU,CV];have g1:(HX part byl atl val dim i s).nodes.length=s.nodes.length+(0+1+1):=by rw [(hs.step (by omega)).nl,hs.nl]; omega
 have g2:(HX part byl atl val dim i s).leaves.length=q+(i - q)+(0+1+1):=by rw [(hs.step (by omega)).ll]; omega
 have g3:(HX part byl atl val dim i s).nodes=List.take s.nodes.length (List.set s.nodes (MY part i s).toNat (KT true kN (List.getD s.nodes (MY part i s).toNat default) 0 [IV.bool false,IV.int 0,IV.int (C2 (DS byl (i:Int)) 0 (dim - 1)),IV.int (C2 (DS atl (i:Int)) 0 9),IV.int (ic s.nodes.length),IV.int (ic s.nodes.length+1)])) ++
   [IV.agg [IV.bool true,IV.int (C2 (DS val (2*(i:Int)+1)) (-3000) 3000),IV.int 0,IV.int 0,IV.int 0,IV.int 0],IV.agg [IV.bool true,IV.int (C2 (DS val (2*(i:Int)+2)) (-3000) 3000),IV.int 0,IV.int 0,IV.int 0,IV.int 0]]:=by
  rw [Mv,List.take_of_length_le (by rw [List.length_set]; exact Nat.le_refl _)];rfl
 have g4:(HX part byl atl val dim i s).leaves=List.take (q+(i - q)) (List.take q (List.take 0 []++List.take q s.leaves)++List.drop (q+1) s.leaves)++[IV.int (ic s.nodes.length),IV.int (ic s.nodes.length+1)]:=by
  rw [List.take_zero,List.nil_append,List.take_take,Nat.min_self,List.take_of_length_le (by rw [List.length_append,zA,zB]; exact Nat.le_refl _)];show List.take (F7 part i s).toNat s.leaves++List.drop ((F7 part i s).toNat+1) s.leaves++_=_;rw [eq0]
 rw [show WM cl part byl atl val dim (HX part byl atl val dim i s) ((i+1:Nat):Int)=⟨[(1,(.int .i64 dim)),(2,(.ptr 2 0 0)),(4,.zs),(5,(.row 500 0 (HX part byl atl val dim i s).nodes.length)),(6,(.row 501 0 (HX part byl atl val dim i s).leaves.length)),(7,(.int .i64 ((i+1:Nat):Int)))],[(2,(some (.box [(.int .i64 cl),(.list false [.z] part),(.list false [.z] byl),(.list false [.z] atl),(.list false [.z] val)]))),(500,(some (.row true 89 true kN (HX part byl atl val dim i s).nodes))),(501,(some (.row true 3 false [.z] (HX part byl atl val dim i s).leaves)))]⟩ from rfl,g1,g2,g3,g4,F2 (by omega)]
theorem o8 (N:Nat) (cl:Int) (part byl atl val:LI) (dim:Int) (h1:1≤dim) (h4:dim≤4) (K:Out→St→C0):∀ (d i n:Nat) (s:Ns),i+d=min part.length 7→d < n→s.At i →
  (∃ j,DC (FV N) (CX JA [1,1,1,0,1,0,0]) dC n (WM cl part byl atl val dim s (i:Int)) K=K (.exit 0) (WM cl part byl atl val dim (SI part byl atl val dim d i s) j))∧(SI part byl atl val dim d i s).At (i+d)
 | 0,i,n+1,s,hd,hn,hs=>by
  refine ⟨⟨(i:Int),?_⟩,hs⟩;rw [DI];refine (tF N dim s.nodes.length s.leaves.length i cl part byl atl val s.nodes s.leaves _ _).trans ?_;by_cases hp:i < part.length
  ·rw [AE (show (i:Int) < ic part.length by simp only [ic]; omega),CU,AJ (show ¬ (i:Int) < 7 by omega),CV];rfl
  ·rw [AJ (show ¬ (i:Int) < ic part.length by simp only [ic]; omega),CV];rfl
 | d+1,i,n+1,s,hd,hn,hs=>by
  obtain ⟨⟨j,ih⟩,ih2⟩:=o8 N cl part byl atl val dim h1 h4 K d (i+1) n (HX part byl atl val dim i s) (by omega) (by omega) (hs.step (by omega));refine ⟨⟨j,?_⟩,by rw [show i+(d+1)=i+1+d by omega]; exact ih2⟩;rw [DI,Kj N cl part byl atl val dim h1 h4 s i hs (by omega) (by omega)];exact ih
 | _,_,0,_,_,h,_=>by omega
theorem Su (N:Nat):TI.bytes (Env.tyd (FV N) 91)=8:=by rfl
abbrev nW:KP:=⟨[4,11,100,101,102],[500,502],[⟨(.tmp 11),502,91,false,[(.int .u64)]⟩]⟩
theorem pK (N:Nat) (L:LI) (hL:L.length≤1000):∀ (d i n:Nat) (O:LI),i+d=L.length→d < n→O.length=i →
  DC (FV N) (CX JA [1,1,1,1,1,0,1,0,0]) nW n ⟨[(4,.zs),(11,(.row 502 0 O.length)),(100,(.row 500 0 L.length)),(101,(.int .i64 (ic (L.length - 0)))),(102,(.int .i64 (i:Int)))],[(500,(some (.row true 89 true kN L))),(502,(some (.row true 91 false [(.int .u64)] O)))]⟩
   (C4 2 (C5 (FV N) (CX JA [1,1,1,1,1,1]) (C8 (FV N) none [(BH 4)] [[(.list false [(.int .u64)])]])))=some (.list false [.int .u64] (O++(L.drop i).map N5),[])
 | 0,i,n+1,O,hd,hn,hO=>by
  rw [DI];refine (tG N O.length L.length (ic (L.length - 0)) i L O _ _).trans ?_;rw [AJ (show ¬ (i:Int) < ic (L.length - 0) by simp only [ic]; omega),CV];refine (zS N O.length L.length (ic (L.length - 0)) i L O).trans ?_;rw [CG,BG,List.drop_of_length_le (by omega),vac,va8]
 | d+1,i,n+1,O,hd,hn,hO=>by
  have hi:i < L.length:=by omega
  rw [DI];refine (tG N O.length L.length (ic (L.length - 0)) i L O _ _).trans ?_;have ih:=pK N L hL d (i+1) n (O++[N5 L[i]]) (by omega) (by omega) (by simp [hO]);have l1:∀ x:IV,CB 0 (AY 1 [x])=[x]:=fun _=>rfl
  have eg:AH L (0+AD (i:Int)) default=L[i]:=by rw [A3,A0]; simp [hi]
  rw [AE (show (i:Int) < ic (L.length - 0) by simp only [ic]; omega),AE (show 0≤(i:Int) by omega),vay,CU,CU,eg,l1,Su,CT,AE (show (O.length+1)*8≤D5 by rw [hO]; unfold D5; omega),CU,BG,F2 (by omega)];rw [BD hi,A2];rw [AS,CT,vbf] at ih;exact ih
 | _,_,0,_,_,h,_=>by omega
theorem Pe:DD PR B0 19 TJ:=by
 refine DK [(7,KF),(18,NG),(40,NI)] [(4,dC),(14,nW)] TJ [[.list false [.int .u64]]] Tryz.func19 Cq
  ⟨WK,gB,gD,trivial⟩ ?_
 intro vs r hwf h;unfold TJ at h;split at h
 ·rename_i cl part byl atl val dim;cases hc:(decide (1≤dim)&&decide (dim≤4)) with
  | false=>rw [hc] at h; simp [R.get] at h
  | true=>
   rw [hc,R.get_br,CU,R.get_ok] at h;simp only [AG,AN] at hc;refine ⟨30,?_⟩;rw [← h];refine (Hn 30 cl part byl atl val dim).trans ?_;have h0:(⟨[I0 (C2 (DS val 0) (-3000) 3000)],[.int 0]⟩:Ns).At 0:=⟨rfl,rfl,fun x hx=>by
    rw [BJ] at hx;subst hx;exact ⟨by decide,by decide⟩⟩
   obtain ⟨⟨j,run⟩,hat⟩:=o8 30 cl part byl atl val dim hc.1 hc.2 (C4 0 (C5 (FV 30) (CX JA [1,1,1,1]) (C8 (FV 30) none [(BH 4)] [[(.list false [(.int .u64)])]]))) (min part.length 7) 0 30 _ (by omega) (by omega) h0;refine run.trans ?_;have e:SI part byl atl val dim (min part.length 7) 0 ⟨[I0 (C2 (DS val 0) (-3000) 3000)],[.int 0]⟩=LM part byl atl val dim:=rfl;rw [e] at hat ⊢;have hn:=hat.nl;refine (zR 30 dim (LM part byl atl val dim).nodes.length (LM part byl atl val dim).leaves.length j cl part byl atl val (LM part byl atl val dim).nodes (LM part byl atl val dim).leaves).trans ?_
   have:=pK 30 (LM part byl atl val dim).nodes (by omega) (LM part byl atl val dim).nodes.length 0 30 [] (by omega) (by omega) rfl
   rw [CG,vaX] at this;exact this
 ·simp [R.get] at h
open Go Go.Proofs
def G1 (N:Nat):Env:=DJ [(7,KF),(19,TJ),(18,NG)] [(3,⟨[1,2,3,14,15],[1,2,3],[]⟩),(8,⟨[1,2,3,5],[1,2,3,500],[⟨.cell 3 5,500,65,true,[.z,.list false [.int .u64]]⟩]⟩)] 63 N
abbrev PP (x14 x15 u02 u03:Int) (u00 u01:LI) (u04 u05 u06 u07 u08 u09 u0a u0b u0c u0d:Int):St:=⟨[(1,(.ptr 1 0 0)),(2,(.ptr 2 0 0)),(3,(.ptr 3 0 0)),(14,(.i x14)),(15,(.i x15))],[(1,(some (.box [.i u02,.i u03,.list false [.z] u00,.list true [.z,.list false [.z],.list false [.z],.list false [.z],.list false [.z]] u01]))),(2,(some (.box [.i u04,.i u05,.i u06,.i u07,.i u08,.zs]))),(3,(some (.box [.i u09,.i u0a,.i u0b,.i u0c,.i u0d,.zs])))]⟩
abbrev RK (x5 u04 u05:Int) (u00 u01:LI) (u06 u07 u08 u09 u0a u0b u0c u0d u0e u0f:Int) (u03:Nat) (u02:LI):St:=⟨[(1,(.ptr 1 0 0)),(2,(.ptr 2 0 0)),(3,(.ptr 3 0 0)),(5,(.i x5))],[(1,(some (.box [.i u04,.i u05,.list false [.z] u00,.list true [.z,.list false [.z],.list false [.z],.list false [.z],.list false [.z]] u01]))),(2,(some (.box [.i u06,.i u07,.i u08,.i u09,.i u0a,.zs]))),(3,(some (.box [.i u0b,.i u0c,.i u0d,.i u0e,.i u0f,.row 500 0 u03]))),(500,(some (.row true 65 true [.z,.list false [.int .u64]] u02)))]⟩
theorem Hk (N:Nat) (u02 u01:Int) (u00 u03:LI):DE (G1 N) JS [.cell 2 37] [[.z,.z,.z,.z,.z,.list true [.z,.list false [.int .u64]]]] [.agg [.i u02,.i u01,.list false [.z] u00,.list true [.z,.list false [.z],.list false [.z],.list false [.z],.list false [.z]] u03]]=(DC (G1 N) (CX JS [1,1,0,1,0,0]) ⟨[1,2,3,14,15],[1,2,3],[]⟩ N (PP (C2 u01 1 3) 0 u02 u01 u00 u03 0 0 0 0 0 (C2 u02 1 3) (C2 u01 1 3) 0 0 0) (C4 0 (C5 (G1 N) (CX JS [1,1,1]) (C8 (G1 N) none [.cell 2 37] [[.z,.z,.z,.z,.z,.list true [.z,.list false [.int .u64]]]])))):=by kernel_rfl
theorem tC (N:Nat) (x14 x15 u02 u03:Int) (u00 u01:LI) (u04 u05 u06 u07 u08 u09 u0a u0b u0c u0d:Int) (again:St→C0) (k:Out→St→C0):EK (G1 N) (CX JS [1,1,0,1,0,0]) (PP x14 x15 u02 u03 u00 u01 u04 u05 u06 u07 u08 u09 u0a u0b u0c u0d) (EF again ⟨[1,2,3,14,15],[1,2,3],[]⟩ k)=(cond (decide (x15 < x14)) (cond (decide (0≤x15)) (cond (decide (x15=ic 0)) (again (PP x14 (AA AC (x15+1)) u02 u03 u00 u01 u04 u05 u06 u07 u08 u09 u0a (C2 (DS u00 x15) (-500) 500) u0c u0d)) (cond (decide (x15=ic 1)) (again (PP x14 (AA AC (x15+1)) u02 u03 u00 u01 u04 u05 u06 u07 u08 u09 u0a u0b (C2 (DS u00 x15) (-500) 500) u0d)) (cond (decide (x15=ic 2)) (again (PP x14 (AA AC (x15+1)) u02 u03 u00 u01 u04 u05 u06 u07 u08 u09 u0a u0b u0c (C2 (DS u00 x15) (-500) 500))) none))) none) (k (.exit 0) (PP x14 x15 u02 u03 u00 u01 u04 u05 u06 u07 u08 u09 u0a u0b u0c u0d))):=by kernel_rfl
theorem zO (N:Nat) (x14 x15 u02 u03:Int) (u00 u01:LI) (u04 u05 u06 u07 u08 u09 u0a u0b u0c u0d:Int):(C4 0 (C5 (G1 N) (CX JS [1,1,1]) (C8 (G1 N) none [.cell 2 37] [[.z,.z,.z,.z,.z,.list true [.z,.list false [.int .u64]]]]))) (.exit 0) (PP x14 x15 u02 u03 u00 u01 u04 u05 u06 u07 u08 u09 u0a u0b u0c u0d)=(DC (G1 N) (CX JS [1,1,1,0,1,0,0]) ⟨[1,2,3,5],[1,2,3,500],[⟨(.cell 3 5),500,65,true,[.z,.list false [.int .u64]]⟩]⟩ N (RK 0 u02 u03 u00 u01 u04 u05 u06 u07 u08 u09 u0a u0b u0c u0d 0 []) (C4 2 (C5 (G1 N) (CX JS [1,1,1,1]) (C8 (G1 N) none [.cell 2 37] [[.z,.z,.z,.z,.z,.list true [.z,.list false [.int .u64]]]])))):=by kernel_rfl
theorem tD (N:Nat) (x5 u04 u05:Int) (u00 u01:LI) (u06 u07 u08 u09 u0a u0b u0c u0d u0e u0f:Int) (u03:Nat) (u02:LI) (again:St→C0) (k:Out→St→C0):EK (G1 N) (CX JS [1,1,1,0,1,0,0]) (RK x5 u04 u05 u00 u01 u06 u07 u08 u09 u0a u0b u0c u0d u0e u0f u03 u02) (EF again ⟨[1,2,3,5],[1,2,3,500],[⟨(.cell 3 5),500,65,true,[.z,.list false [.int .u64]]⟩]⟩ k)=(cond (decide (x5 < ic (AF u01))) (cond (decide (x5 < 4)) (cond (decide (0≤x5)&&decide (x5 < ic (AF u01))) (cond (decide (IO 0 (AA AC (u0c - 1))=0)) none (cond (decide (0≤x5)&&decide (x5 < ic (AF u01))) (cond (decide (1≤u0b)&&decide (u0b≤4)) (cond (decide ((u03+AF (CB 0 (AY 1 [IV.agg [IV.int (C2 (IV.toInt (IV.cell (AH u01 (AD x5) default) 0)) 0 (AA AC (u0c - 1))),IV.list (J2 (IV.toList (IV.cell (AH u01 (AD x5) default) 1)) (IV.toList (IV.cell (AH u01 (AD x5) default) 2)) (IV.toList (IV.cell (AH u01 (AD x5) default) 3)) (IV.toList (IV.cell (AH u01 (AD x5) default) 4)) u0b)]])))*TI.bytes (Env.tyd (G1 N) 65)≤D5)) (again (RK (AA AC (x5+1)) u04 u05 u00 u01 u06 u07 u08 u09 u0a u0b u0c u0d u0e u0f (u03+AF (CB 0 (AY 1 [IV.agg [IV.int (C2 (IV.toInt (IV.cell (AH u01 (AD x5) default) 0)) 0 (AA AC (u0c - 1))),IV.list (J2 (IV.toList (IV.cell (AH u01 (AD x5) default) 1)) (IV.toList (IV.cell (AH u01 (AD x5) default) 2)) (IV.toList (IV.cell (AH u01 (AD x5) default) 3)) (IV.toList (IV.cell (AH u01 (AD x5) default) 4)) u0b)]]))) (AY u03 u02++CB 0 (AY 1 [IV.agg [IV.int (C2 (IV.toInt (IV.cell (AH u01 (AD x5) default) 0)) 0 (AA AC (u0c - 1))),IV.list (J2 (IV.toList (IV.cell (AH u01 (AD x5) default) 1)) (IV.toList (IV.cell (AH u01 (AD x5) default) 2)) (IV.toList (IV.cell (AH u01 (AD x5) default) 3)) (IV.toList (IV.cell (AH u01 (AD x5) default) 4)) u0b)]])))) none) none) none)) none) (k (.exit 2) (RK x5 u04 u05 u00 u01 u06 u07 u08 u09 u0a u0b u0c u0d u0e u0f u03 u02))) (k (.exit 2) (RK x5 u04 u05 u00 u01 u06 u07 u08 u09 u0a u0b u0c u0d u0e u0f u03 u02))):=by kernel_rfl
theorem zP (N:Nat) (x5 u04 u05:Int) (u00 u01:LI) (u06 u07 u08 u09 u0a u0b u0c u0d u0e u0f:Int) (u03:Nat) (u02:LI):(C4 2 (C5 (G1 N) (CX JS [1,1,1,1]) (C8 (G1 N) none [.cell 2 37] [[.z,.z,.z,.z,.z,.list true [.z,.list false [.int .u64]]]]))) (.exit 2) (RK x5 u04 u05 u00 u01 u06 u07 u08 u09 u0a u0b u0c u0d u0e u0f u03 u02)=(some ((.agg [.i u0b,.i u0c,.i u0d,.i u0e,.i u0f,.list true [.z,.list false [.int .u64]] (CB 0 (AY u03 u02))]),[])):=by kernel_rfl
open Go Go.Proofs
abbrev Fw:List Kd:=[.z,(.list false [.z]),(.list false [.z]),(.list false [.z]),(.list false [.z])]
def bF (bias:LI) (j:Int):Int:=C2 (DS bias j) (-500) 500
abbrev aZ (d c:Int) (bias ts:LI):Ob:=.box [(.int .i64 d),(.int .i64 c),(.list false [.z] bias),(.list true Fw ts)]
abbrev a7:Ob:=.box [(.int .i64 0),(.int .i64 0),(.int .i64 0),(.int .i64 0),(.int .i64 0),.zs]
abbrev s7 (d c:Int) (bias ts:LI) (D C:Int) (i:Nat) (x:Int):St:=
 ⟨[(1,(.ptr 1 0 0)),(2,(.ptr 2 0 0)),(3,(.ptr 3 0 0)),(14,(.int .i64 C)),(15,(.int .i64 x))],[(1,(some (aZ d c bias ts))),(2,(some a7)),(3,(some (.box [(.int .i64 D),(.int .i64 C),(.int .i64 (cond (A8 0 i) (bF bias 0) 0)),(.int .i64 (cond (A8 1 i) (bF bias 1) 0)),(.int .i64 (cond (A8 2 i) (bF bias 2) 0)),.zs])))]⟩
theorem iY (N:Nat) (d c:Int) (bias ts:LI) (D:Int) (C:Nat) (hC:C≤3) (K:Out→St→C0):∀ (m i n:Nat),i+m=C→m < n →
  DC (G1 N) (CX JS [1,1,0,1,0,0]) ⟨[1,2,3,14,15],[1,2,3],[]⟩ n (s7 d c bias ts D C i (i:Int)) K=K (.exit 0) (s7 d c bias ts D C C (C:Int))
 | 0,i,n+1,hd,hn=>by
  have hi:i=C:=by omega
  subst hi;rw [DI];refine (tC N i i d c bias ts 0 0 0 0 0 D i (cond (A8 0 i) (bF bias 0) 0) (cond (A8 1 i) (bF bias 1) 0) (cond (A8 2 i) (bF bias 2) 0) _ _).trans ?_;rw [AJ (show ¬ (i:Int) < (i:Int) by omega),CV]
 | m+1,i,n+1,hd,hn=>by
  rw [DI];refine (tC N C i d c bias ts 0 0 0 0 0 D C (cond (A8 0 i) (bF bias 0) 0) (cond (A8 1 i) (bF bias 1) 0) (cond (A8 2 i) (bF bias 2) 0) _ _).trans ?_;have ih:=iY N d c bias ts D C hC K m (i+1) n (by omega) (by omega);rw [AE (show (i:Int) < (C:Int) by omega),CU,AE (show 0≤(i:Int) by omega),CU,F2 (by omega)];have hi4:i=0∨i=1∨i=2:=by omega
  rcases hi4 with rfl | rfl | rfl
  ·rw [show decide (((0:Nat):Int)=ic 0)=true from rfl,CU];exact ih
  ·rw [show decide (((1:Nat):Int)=ic 0)=false from rfl,show decide (((1:Nat):Int)=ic 1)=true from rfl,CV,CU];exact ih
  ·rw [show decide (((2:Nat):Int)=ic 0)=false from rfl,show decide (((2:Nat):Int)=ic 1)=false from rfl,show decide (((2:Nat):Int)=ic 2)=true from rfl,CV,CV,CU];exact ih
 | _,_,0,_,h=>by omega
abbrev YE:List Kd:=[.z,(.list false [(.int .u64)])]
abbrev nV:KP:=⟨[1,2,3,5],[1,2,3,500],[⟨(.cell 3 5),500,65,true,[.z,(.list false [(.int .u64)])]⟩]⟩
abbrev gH (d c:Int) (bias ts:LI) (D C b0 b1 b2:Int) (O:LI) (x:Int):St:=
 ⟨[(1,(.ptr 1 0 0)),(2,(.ptr 2 0 0)),(3,(.ptr 3 0 0)),(5,(.int .i64 x))],[(1,(some (aZ d c bias ts))),(2,(some a7)),(3,(some (.box [(.int .i64 D),(.int .i64 C),(.int .i64 b0),(.int .i64 b1),(.int .i64 b2),(.row 500 0 O.length)]))),(500,(some (.row true 65 true YE O)))]⟩
def RE (D C:Int) (t:IV):IV:=.agg [.int (C2 (t.cell 0).toInt 0 (C - 1)),.list (J2 (t.cell 1).toList (t.cell 2).toList (t.cell 3).toList (t.cell 4).toList D)]
theorem Sl (N:Nat):TI.bytes (Env.tyd (G1 N) 65)=32:=by rfl
theorem uQ (N:Nat) (d c:Int) (bias ts:LI) (D C b0 b1 b2:Int) (hD:1≤D∧D≤4) (hC:1≤C∧C≤3):∀ (m i n:Nat) (O:LI),i+m=min ts.length 4→m < n→O.length=i →
  DC (G1 N) (CX JS [1,1,1,0,1,0,0]) nV n (gH d c bias ts D C b0 b1 b2 O (i:Int)) (C4 2 (C5 (G1 N) (CX JS [1,1,1,1]) (C8 (G1 N) none [(vbe 2 37)] [[.z,.z,.z,.z,.z,(.list true [.z,(.list false [(.int .u64)])])]]))) =
   some (.agg [.int .i64 D,.int .i64 C,.int .i64 b0,.int .i64 b1,.int .i64 b2,.list true YE (O++((ts.take 4).drop i).map (RE D C))],[])
 | 0,i,n+1,O,hd,hn,hO=>by
  have fin:(C4 2 (C5 (G1 N) (CX JS [1,1,1,1]) (C8 (G1 N) none [(vbe 2 37)] [[.z,.z,.z,.z,.z,(.list true [.z,(.list false [(.int .u64)])])]]))) (.exit 2) (gH d c bias ts D C b0 b1 b2 O (i:Int))=some (.agg [.int .i64 D,.int .i64 C,.int .i64 b0,.int .i64 b1,.int .i64 b2,.list true YE (O++((ts.take 4).drop i).map (RE D C))],[]):=by
   refine (zP N i d c bias ts 0 0 0 0 0 D C b0 b1 b2 O.length O).trans ?_;rw [CG,BG,List.drop_of_length_le (by rw [A7]; omega),vac,va8]
  rw [DI];refine (tD N i d c bias ts 0 0 0 0 0 D C b0 b1 b2 O.length O _ _).trans ?_;by_cases hp:i < ts.length
  ·rw [AE (show (i:Int) < ic ts.length by simp only [ic]; omega),CU,AJ (show ¬ (i:Int) < 4 by omega),CV];exact fin
  ·rw [AJ (show ¬ (i:Int) < ic ts.length by simp only [ic]; omega),CV];exact fin
 | m+1,i,n+1,O,hd,hn,hO=>by
  have hi:i < ts.length:=by omega
  rw [DI];refine (tD N i d c bias ts 0 0 0 0 0 D C b0 b1 b2 O.length O _ _).trans ?_;have l1:∀ x:IV,CB 0 (AY 1 [x])=[x]:=fun _=>rfl
  have eg:AH ts (AD (i:Int)) default=ts[i]:=by rw [A0]; simp [hi]
  have w1:AA AC (C - 1)=C - 1:=DX (by omega) (by omega);obtain ⟨m1,_,_⟩:=H1 (n:=0) (lo:=0) (hi:=C - 1) (by omega) (by omega) (by omega);have ih:=uQ N d c bias ts D C b0 b1 b2 hD hC m (i+1) n (O++[RE D C ts[i]]) (by omega) (by omega) (by simp [hO]);rw [AE (show (i:Int) < ic ts.length by simp only [ic]; omega),AE (show (i:Int) < 4 by omega),AE (show 0≤(i:Int) by omega),w1,m1,AJ (show ¬ (C - 1 - 0+1=0) by omega),AE hD.1,AE hD.2,eg,l1,Sl,CT,
   AE (show (O.length+1)*32≤D5 by rw [hO]; unfold D5; omega),BG,F2 (by omega)]
  simp only [vay,CU,CV];have ed:(ts.take 4).drop i=ts[i] :: (ts.take 4).drop (i+1):=by
   have h4:i < (ts.take 4).length:=by rw [A7]; omega
   rw [BD h4];congr 1;rw [List.getElem_take]
  rw [ed,A2];rw [vbf] at ih;have eL:(O++[RE D C ts[i]]).length=O.length+1:=by simp
  rw [show gH d c bias ts D C b0 b1 b2 (O++[RE D C ts[i]]) ((i+1:Nat):Int)=⟨[(1,(.ptr 1 0 0)),(2,(.ptr 2 0 0)),(3,(.ptr 3 0 0)),(5,(.int .i64 ((i+1:Nat):Int)))],[(1,(some (aZ d c bias ts))),(2,(some a7)),(3,(some (.box [(.int .i64 D),(.int .i64 C),(.int .i64 b0),(.int .i64 b1),(.int .i64 b2),(.row 500 0 (O++[RE D C ts[i]]).length)]))),(500,(some (.row true 65 true YE (O++[RE D C ts[i]]))))]⟩ from rfl,eL] at ih;exact ih
 | _,_,0,_,_,h,_=>by omega
theorem Pb:DD PR B0 5 W3:=by
 refine DK [(7,KF),(19,TJ),(18,NG)] [(3,⟨[1,2,3,14,15],[1,2,3],[]⟩),(8,nV)] W3 [[.z,.z,.z,.z,.z,.list true [.z,.list false [.int .u64]]]] Tryz.func5 Cn
  ⟨WK,Pe,gB,trivial⟩ ?_
 intro vs r hwf h;unfold W3 at h;split at h
 ·rename_i d c bias ts;refine ⟨20,?_⟩;rw [R.get_ok] at h;rw [← h];refine (Hk 20 d c bias ts).trans ?_;obtain ⟨_,d1,d2⟩:=H1 (n:=d) (lo:=1) (hi:=3) (by omega) (by omega) (by omega);obtain ⟨_,c1,c2⟩:=H1 (n:=c) (lo:=1) (hi:=3) (by omega) (by omega) (by omega);unfold PI SZ NN H6 KM;generalize C2 d 1 3=D at d1 d2;generalize C2 c 1 3=C' at c1 c2;obtain ⟨C,rfl⟩:∃ C:Nat,C'=C:=⟨C'.toNat,by omega⟩;refine (iY 20 d c bias ts D C (by omega) _ C 0 20 (by omega) (by omega)).trans ?_;refine (zO 20 C C d c bias ts 0 0 0 0 0 D C (cond (A8 0 C) (bF bias 0) 0) (cond (A8 1 C) (bF bias 1) 0) (cond (A8 2 C) (bF bias 2) 0)).trans ?_;refine (uQ 20 d c bias ts D C _ _ _ ⟨d1,by omega⟩ ⟨c1,by omega⟩ (min ts.length 4) 0 20 [] (by omega) (by omega) rfl).trans ?_;rw [CG,vaX];have hC:C=1∨C=2∨C=3:=by omega
  rcases hC with rfl | rfl | rfl <;> rfl
 ·simp [R.get] at h
open Go Go.Proofs
def vP (N:Nat):Env:=DJ [(7,KF),(9,TK),(14,TL),(17,TS),(15,T6),(16,P7),(10,P9),(6,UT),(5,UU)] [] 111 N
def U9 (m:Md) (q:Qy):Int:=bif FL m q (DL q) 1500 then 0 else ic (DM m q (DL q) 5)
def l6 (m:Md) (q:Qy) (v:Vd) (z w:Int) (u:Vd):C0:=
 cond (decide (IO 0 (C6 (v.spent - 1))=0)) none (cond (u.kind==3) (cond (u.spent==w) (cond (ic u.proof.length==0) (some (.bool true,[])) (some (.bool false,[]))) (some (.bool false,[]))) (some (.bool false,[])))
def XR (m:Md) (q:Qy) (n:Int) (v:Vd) (y z:Int):C0:=
 cond (decide (v.spent > C6 (n - 1))) (some (.bool false,[])) (cond (!WV (D2 m (q.bud (C6 (v.spent+C2 y 0 500)))) v) (some (.bool false,[]))
  (l6 m q v z (C2 z 0 (C6 (v.spent - 1))) (D2 m (q.bud (C2 z 0 (C6 (v.spent - 1)))))))
def XS (m:Md) (q q1:Qy) (n:Int) (v:Vd) (y z:Int):C0:=
 cond (DQ m q1&&(decide ((1:Int)≤1500)&&decide ((1500:Int)≤65536))) (cond (!!FL m q1 (DL q1) 1500) (some (.bool false,[]))
  (cond (!((!FL m q1 (DL q1) 1500&&LE m q1)==(v.kind==1))) (some (.bool false,[]))
   (cond (!(!FL m q1 (DL q1) 1500&&LE m q1)) (cond (v.kind != 2) (some (.bool false,[])) (XR m q n v y z)) (XR m q n v y z)))) none
theorem Hq (N:Nat) (f:Ft) (a:Ak) (y z:Int):DE (vP N) jP [.tmp 8] [[.bool]] [f.V,a.V,.i y,.i z] =
 cond (Y5 f.M) (cond (QM f.M (E8 a f.M) (DL (E8 a f.M))) (cond (!!FL f.M (E8 a f.M) (DL (E8 a f.M)) 1500) (some (.bool true,[]))
 (XS f.M (E8 a f.M) ((E8 a f.M).bud (C6 (2*U9 f.M (E8 a f.M)))) (C6 (2*U9 f.M (E8 a f.M))) (D2 f.M ((E8 a f.M).bud (C6 (2*U9 f.M (E8 a f.M))))) y z)) none) none:=by kernel_rfl
open Go Go.Proofs
theorem Oq:DD PR B0 5 UU:=Snd.mono Pb fun _ _ h=>xB h
theorem Oo:DD PR B0 6 UT:=Snd.mono Pa fun _ _ h=>xC h
def aL:DB
 | [f,a,.int .i64 _,.int .i64 _]=>g9 f fun _=>g8 a fun _=>.ok (.bool true) []
 | _=>.no
theorem zC (x:IV):ZW x x=true:=by unfold ZW; simp
theorem mC:∀ (l:LI),IK l l=true
 | []=>rfl
 | x :: l=>by simp only [IK,zC,mC l,BK]
theorem zD (v:Vd):WV v v=true:=by unfold WV; simp [mC]
theorem y6 {m:Md} {q:Qy} (hr:∀ w:Int,0≤w→w≤65536→DQ m (q.bud w)=true) (hp:∀ w:Int,I2 m (q.bud w) (DL (q.bud w))≤199) {c:Nat} (hc:DM m q (DL q) 5=c) (h1:1≤c) (h2:c≤1500) (y z:Int) :
  XS m q (q.bud (2*ic c)) (2*ic c) (D2 m (q.bud (2*ic c))) y z=cond (FL m q (DL q) 1500) (some (.bool false,[])) (some (.bool true,[])):=by
 have ec:ic c=(c:Int):=rfl;have r1:=hr (2*ic c) (by omega) (by omega);have eov:FL m (q.bud (2*ic c)) (DL (q.bud (2*ic c))) 1500=FL m q (DL q) 1500:=rfl;have ecnt:DM m (q.bud (2*ic c)) (DL (q.bud (2*ic c))) 5=c:=hc;obtain ⟨d1,d2⟩:=rP r1;have hk:=Ny r1 (hp _) (by rw [ecnt]; show 2*ic c - 1≤2*ic c; omega);have d2:=d2 (by rw [ecnt]; show 2*ic c - 1≤2*ic c; omega);rw [ecnt] at d1;obtain ⟨s1,s2,_,_,_,_⟩:=fQ r1 (hp _);have hs1:1≤(D2 m (q.bud (2*ic c))).spent:=by
  rcases d2 with k1 | k2
  ·obtain ⟨_,e2,e3⟩:=s1 k1;rw [← e2];cases hpr:(D2 m (q.bud (2*ic c))).proof with
   | nil=>rw [hpr] at e3; exact absurd e3 (by decide)
   | cons x l=>simp only [ic,AP]; omega
  ·exact (s2 k2).2.2
 have hT:XR m q (2*ic c) (D2 m (q.bud (2*ic c))) y z=some (.bool true,[]):=by
  have hw:=PM y 0 500 (by omega) (by omega) (by omega);have hz:=PM z 0 ((D2 m (q.bud (2*ic c))).spent - 1) (by omega) (by omega) (by omega);have hmore:D2 m (q.bud ((D2 m (q.bud (2*ic c))).spent+C2 y 0 500))=D2 m (q.bud (2*ic c)):=
   Nt (q:=q.bud (2*ic c)) (b:=(D2 m (q.bud (2*ic c))).spent+C2 y 0 500) r1 (hr _ (by omega) (by omega)) d2 (by omega)
  have e1:C6 (2*ic c - 1)=2*ic c - 1:=DX (by omega) (by omega);have e2:C6 ((D2 m (q.bud (2*ic c))).spent+C2 y 0 500)=(D2 m (q.bud (2*ic c))).spent+C2 y 0 500:=DX (by omega) (by omega);have e3:C6 ((D2 m (q.bud (2*ic c))).spent - 1)=(D2 m (q.bud (2*ic c))).spent - 1:=DX (by omega) (by omega);have hm0:IO 0 ((D2 m (q.bud (2*ic c))).spent - 1)≠0:=by
   unfold IO;rw [show C6 ((D2 m (q.bud (2*ic c))).spent - 1 - 0)=(D2 m (q.bud (2*ic c))).spent - 1 by rw [Int.sub_zero]; exact e3];rw [show C6 ((D2 m (q.bud (2*ic c))).spent - 1+1)=(D2 m (q.bud (2*ic c))).spent from by rw [Int.sub_add_cancel]; exact DX (by omega) (by omega)];omega
  have hless:(D2 m (q.bud (C2 z 0 ((D2 m (q.bud (2*ic c))).spent - 1)))).kind=3:=
   Nr (q:=q.bud (2*ic c)) (b:=C2 z 0 ((D2 m (q.bud (2*ic c))).spent - 1)) r1 (hr _ (by omega) (by omega)) (by omega)
  obtain ⟨_,_,s3,_⟩:=fQ (hr (C2 z 0 ((D2 m (q.bud (2*ic c))).spent - 1)) (by omega) (by omega)) (hp _);obtain ⟨l1,l2⟩:=s3 hless;have l1:(D2 m (q.bud (C2 z 0 ((D2 m (q.bud (2*ic c))).spent - 1)))).spent=C2 z 0 ((D2 m (q.bud (2*ic c))).spent - 1):=l1;unfold XR l6;rw [e1,AJ (show ¬ (D2 m (q.bud (2*ic c))).spent > 2*ic c - 1 by omega),CV,e2,hmore,zD,BB,CV,e3,AJ hm0,CV,hless,l1,l2];simp
 unfold XS;rw [r1,eov,hT];have hh:LE m (q.bud (2*ic c))=((D2 m (q.bud (2*ic c))).kind==1):=by
  rw [hk];cases LE m (q.bud (2*ic c)) <;> rfl
 rw [hh];cases FL m q (DL q) 1500 with
 | true=>rfl
 | false=>
  rcases d2 with k1 | k2
  ·rw [k1]; rfl
  ·rw [k2]; rfl
theorem Pg:DD PR B0 4 aL:=by
 refine DK [(7,KF),(9,TK),(14,TL),(17,TS),(15,T6),(16,P7),(10,P9),(6,UT),(5,UU)] [] aL [[.bool]] Tryz.func4 Ct ⟨WK,Pf,Ph,Po,Qd,sN,sP,Oo,Oq,trivial⟩ ?_;intro vs r hwf h;unfold aL at h;split at h
 ·rename_i f a y z;replace h:=u5 h;obtain ⟨f,rfl,h⟩:=h;replace h:=u4 h;obtain ⟨a,rfl,h⟩:=h;rw [R.get_ok] at h;refine ⟨0,(Hq 0 f a y z).trans ?_⟩;rw [← h,wZ,CU,Bk,CU];cases ho:FL f.M (E8 a f.M) (DL (E8 a f.M)) 1500 with
  | true=>rfl
  | false=>
   have hcp:=RZ f.M (E8 a f.M) (DL (E8 a f.M)) 5;have hc2:DM f.M (E8 a f.M) (DL (E8 a f.M)) 5≤1500:=by
    unfold FL at ho
    have:=A1 ho
    simp only [ic] at this;omega
   have en:U9 f.M (E8 a f.M)=ic (DM f.M (E8 a f.M) (DL (E8 a f.M)) 5):=by
    unfold U9;rw [ho];rfl
   have ew:C6 (2*ic (DM f.M (E8 a f.M) (DL (E8 a f.M)) 5))=2*ic (DM f.M (E8 a f.M) (DL (E8 a f.M)) 5):=DX (by simp only [ic]; omega) (by simp only [ic]; omega);rw [en,ew];show XS _ _ _ _ _ y z=_;rw [y6 (fun w h0 h1=>xP f a h0 h1) (fun w=>by
    have h1:=Mm f.M ((E8 a f.M).bud w) (DL ((E8 a f.M).bud w));have h2:=m6 f;omega) rfl hcp hc2,ho]
   rfl
 ·simp [R.get] at h
open Go Go.Proofs Go.RowKit
def X0:Zone:=⟨fun _=>False,fun _=>False⟩
def γ0:Nat→Value:=fun _=>.nilIface
abbrev O0:Nat→Prop:=CZ X0 γ0 []
theorem iJ (b:Nat):¬ O0 b:=by
 rintro (⟨n,ob,h,_⟩ | h)
 ·simp [CY,D6] at h
 ·exact h
theorem q6 (W:World):Rel B0.base 0 W X0 γ0 ⟨[],[]⟩ IG W:=by
 have no:∀ n ob,CY ([]:Store) n≠some ob:=fun n ob h=>by simp [CY,D6] at h
 refine ⟨rfl,rfl,fun i=>by simp only [St.get,D6,VRel],fun n ob h=>absurd h (no n ob),fun b h=>?_,fun n m ob ob' b _ h=>absurd h (no n ob),Keep.refl _ _,fun b h=>?_,fun b h=>h.elim,fun p _ ob h=>absurd h (no _ ob)⟩
 ·obtain ⟨n,ob,h,_⟩:=h;exact absurd h (no n ob)
 ·obtain ⟨n,ob,h,_⟩:=h;exact absurd h (no n ob)
theorem yC {f:Nat} {fn:Func} (hf:PR.funcs[f]?=some fn) (hn:(fn.name == "runtime.NumGoroutine")=false) (hb:fn.body.isNone=false) {xs:List Value} {w:World} {R:Ending→World→Prop} (h:Does PR f xs w R):Calls PR f xs.toArray w R:=by
 have:(callFunc f xs.toArray).run PR w = .ok (.enter f xs.toArray) w:=by
  unfold callFunc;have hn':¬ fn.name = "runtime.NumGoroutine":=by simpa using hn
  have hb':¬ fn.body=none:=fun h=>by rw [h] at hb; cases hb
  simp [hf,hn',hb']
 unfold Does at h;rw [this] at h;exact h
theorem yD {f:Nat} {fn:Func} {sp:DB} (hS:DD PR B0 f sp) (hf:PR.funcs[f]?=some fn) (hn:(fn.name == "runtime.NumGoroutine")=false) (hb:fn.body.isNone=false) {vs:List V} {xs:List Value} {W:World}
  (hsp:(sp vs).get=some (.bool true,[])) (hbor:EL vs=none) (hG:Glob B0 W) (hV:VRels γ0 [] W O0 (vs.map D4) xs) :
  Calls PR f xs.toArray W fun e w'=>e = .returned (.bool true)∧Below W.heap.size W w':=by
 refine yC hf hn hb ?_;have em:HL vs=[]:=by unfold HL; rw [hbor]
 refine Does.mono (hS W X0 γ0 vs xs (.bool true) [] hsp hG (fun b h=>h.elim) (by rw [em]; exact q6 W) (by rw [em]; exact hV)) ?_;rintro e w' ⟨x,rfl,γ',hR,hx,_⟩;simp only [J6,D4,VRel] at hx;subst hx;exact ⟨rfl,hR.keep.os,hR.keep.tape,hR.keep.output,hR.keep.size,fun b hb=>hR.keep.block b hb (fun h=>h)⟩
open Go
def OM (P:Program) (e:TypeId):Bool:=match P.underlying e with | some (.struct _)=>true | some (.array _ _)=>true | _=>false
def SC (f:TypeId→Option (List Kd)) (cell:TypeId→Nat):Nat→List (TypeId × Nat)→Option (List Kd)
 | _,[]=>some []
 | off,(t,o) :: r=>match A4 o off with
  | true=>match f t with
   | some ks=>match A4 (cell t) ks.length with
    | true=>match SC f cell (off+ks.length) r with
     | some ks'=>some (ks++ks')
     | none=>none
    | false=>none
   | none=>none
  | false=>none
def MS (P:Program):Nat→TypeId→Option (List Kd)
 | 0,_=>none
 | n+1,t=>match P.underlying t with
  | some .bool=>some [.bool]
  | some (.int k)=>some [.int k]
  | some .string=>some [.str]
  | some (.slice e)=>match MS P n e with
   | some ks=>match BM 1 (P.bytesOf e)&&(A4 (P.cellsOf e) ks.length&&(BM 1 ks.length&&(OM P e||A4 ks.length 1))) with
    | true=>some [.list (OM P e) ks]
    | false=>none
   | none=>none
  | some (.struct fs)=>match SC (MS P n) P.cellsOf 0 (fs.toList.map fun f=>(f.type,f.offset)) with
   | some ks=>match A4 (P.cellsOf t) ks.length with | true=>some ks | false=>none
   | none=>none
  | some (.array m e)=>match SC (MS P n) P.cellsOf 0 ((List.range m).map fun i=>(e,i*P.cellsOf e)) with
   | some ks=>match A4 (P.cellsOf t) ks.length with | true=>some ks | false=>none
   | none=>none
  | _=>none
def CellsK (w:World) (O:Nat→Prop):List Kd→LI→List Value→Prop
 | [],[],[]=>True
 | k :: ks,x :: f,v :: cs=>Kd.Rel w O k x v∧CellsK w O ks f cs
 | _,_,_=>False
section
variable {w:World} {O:Nat→Prop}
theorem CellsK.append:∀ {ks:List Kd} {f:LI} {cs:List Value} {ks':List Kd} {f':LI} {cs':List Value},CellsK w O ks f cs→CellsK w O ks' f' cs'→CellsK w O (ks++ks') (f++f') (cs++cs')
 | [],[],[],_,_,_,_,h'=>h'
 | _ :: ks,_ :: f,_ :: cs,_,_,_,h,h'=>by
  simp only [CellsK] at h;simp only [vap,CellsK];exact ⟨h.1,h.2.append h'⟩
 | [],_ :: _,_,_,_,_,h,_=>by simp [CellsK] at h
 | [],[],_ :: _,_,_,_,h,_=>by simp [CellsK] at h
 | _ :: _,[],_,_,_,_,h,_=>by simp [CellsK] at h
 | _ :: _,_ :: _,[],_,_,_,h,_=>by simp [CellsK] at h
theorem CellsK.get:∀ {ks:List Kd} {f:LI} {cs:List Value},CellsK w O ks f cs→∀ (j:Nat) (k:Kd),ks[j]?=some k→∃ v,cs[j]?=some v∧Kd.Rel w O k (IA f j) v
 | [],_,_,_,j,k,h=>by simp at h
 | k :: ks,x :: f,v :: cs,h,j,k',hj=>by
  simp only [CellsK] at h;cases j with
  | zero=>
   simp only [BE,AB] at hj;subst hj;exact ⟨v,rfl,by simpa only [IA] using h.1⟩
  | succ j=>
   obtain ⟨u,h1,h2⟩:=h.2.get j k' (by simpa using hj);exact ⟨u,by simpa using h1,by simpa only [IA] using h2⟩
 | _ :: _,[],_,h,_,_,_=>by simp [CellsK] at h
 | _ :: _,_ :: _,[],h,_,_,_=>by simp [CellsK] at h
theorem lD {α:Type} {Q:Nat→α→Prop}:∀ n,(∀ i,i < n→∃ x,Q i x)→∃ L:List α,L.length=n∧∀ i x,L[i]?=some x→Q i x
 | 0,_=>⟨[],rfl,fun i x h=>by simp at h⟩
 | n+1,h=>by
  obtain ⟨L,hl,hL⟩:=lD n (fun i hi=>h i (by omega));obtain ⟨x,hx⟩:=h n (by omega);refine ⟨L++[x],by simp [hl],fun i y hy=>?_⟩;rw [List.getElem?_append] at hy;split at hy
  ·exact hL i y hy
  ·rename_i hi
   have:i - L.length=0:=by
    rcases Nat.eq_zero_or_pos (i - L.length) with e | e
    ·exact e
    ·rw [BF (by simp; omega)] at hy;cases hy
   rw [this] at hy;simp only [BE,AB] at hy;subst hy
   have:i=n:=by omega
   subst this;exact hx
end
theorem dT {H:Type} {P:Program}:∀ {ts:List TypeId} {ds:List (DataW H)} {i:Nat} {t:TypeId} {d:DataW H},ts[i]?=some t→ds[i]?=some d→∀ y∈d.weights P t,y∈vbu P ts ds
 | [],_,i,_,_,h,_,_,_=>by simp at h
 | _ :: _,[],i,_,_,_,h,_,_=>by simp at h
 | t0 :: ts,d0 :: ds,0,t,d,h,h',y,hy=>by
  simp only [BE,AB] at h h';subst h; subst h';simp only [vbu,AQ];exact .inl hy
 | t0 :: ts,d0 :: ds,i+1,t,d,h,h',y,hy=>by
  simp only [vbu,AQ];exact .inr (dT (by simpa using h) (by simpa using h') y hy)
theorem dS {H:Type} {P:Program} {e:TypeId}:∀ {ds:List (DataW H)} {d:DataW H},d∈ds→∀ y∈d.weights P e,y∈DataW.weightsAll P e ds
 | [],_,h,_,_=>by cases h
 | d0 :: ds,d,h,y,hy=>by
  simp only [DataW.weightsAll,AQ];rcases AT.1 h with rfl | h
  ·exact .inl hy
  ·exact .inr (dS h y hy)
section
variable {H:Type} {enc:TypeId × Value→H} {P:Program} {w:World} {base:Nat} {sp:Nat→Bool} {held:Bool} {O:Nat→Prop}
theorem e7 {f:TypeId→Option (List Kd)} {n:Nat} {cs:List Value}
  (ih:∀ (t:TypeId) (ks:List Kd) (cs:List Value) (d:DataW H) (p:List MemPlace),f t=some ks→DataW.trod enc P w base sp held n t cs=some (d,p)→(∀ y∈d.weights P t,y≤reachBytes)→∃ g,CellsK w O ks g cs) :
  ∀ (parts:List (TypeId × Nat)) (off:Nat) (ks:List Kd) (xs:List (DataW H × List MemPlace)),SC f P.cellsOf off parts=some ks→xs.length=parts.length →
   (∀ (i:Nat) (t:TypeId) (o:Nat),parts[i]?=some (t,o)→DataW.trod enc P w base sp held n t ((cs.drop o).take (P.cellsOf t))=xs[i]?) →
   (∀ (i:Nat) (t:TypeId) (o:Nat) (x:DataW H × List MemPlace),parts[i]?=some (t,o)→xs[i]?=some x→∀ y∈x.1.weights P t,y≤reachBytes)→∃ g,CellsK w O ks g ((cs.drop off).take ks.length)
 | [],off,ks,xs,h,_,_,_=>by
  simp only [SC,AB] at h;subst h;exact ⟨[],by simp only [BZ,List.take_zero,CellsK]⟩
 | (t,o) :: r,off,ks,[],h,hl,_,_=>by simp at hl
 | (t,o) :: r,off,ks,x :: xs,h,hl,ht,hw=>by
  simp only [SC] at h;split at h
  case h_2=>cases h
  rename_i ho;obtain rfl:=vaj ho;split at h
  case h_2=>cases h
  rename_i k1 hk1;split at h
  case h_2=>cases h
  rename_i hc;have hc:=vaj hc;split at h
  case h_2=>cases h
  rename_i k2 hk2;simp only [AB] at h;subst h;have h0:=ht 0 t o rfl;simp only [BE] at h0;obtain ⟨d,p⟩:=x;obtain ⟨g1,hg1⟩:=ih t k1 _ d p hk1 h0 (hw 0 t o (d,p) rfl rfl);obtain ⟨g2,hg2⟩:=e7 ih r (o+k1.length) k2 xs hk2 (by simpa using hl) (fun i t' o' hi=>by simpa using ht (i+1) t' o' (by simpa using hi)) (fun i t' o' x hi hx=>hw (i+1) t' o' x (by simpa using hi) (by simpa using hx));refine ⟨g1++g2,?_⟩;rw [AS,List.take_add,List.drop_drop];rw [hc] at hg1;exact hg1.append hg2
theorem Rk {a:Addr} {v:Value} (h:w.cell? a=some v):a.spot=none∧a.block < w.heap.size:=by
 unfold World.cell? at h;split at h
 ·rename_i c _ _ hc;split at h
  ·cases h
  ·rename_i hs;exact ⟨by simpa using hs,(vaY.1 hc).1⟩
 ·cases h
theorem WT (hO:∀ b,¬ O b):∀ (n:Nat) (t:TypeId) (ks:List Kd) (fuel:Nat) (cs:List Value) (d:DataW H) (p:List MemPlace),MS P n t=some ks →
  DataW.trod enc P w base sp held fuel t cs=some (d,p)→(∀ y∈d.weights P t,y≤reachBytes)→∃ g,CellsK w O ks g cs
 | 0,_,_,_,_,_,_,h,_,_=>by simp [MS] at h
 | n+1,t,ks,fuel,cs,d,p,h,ht,hw=>by
  simp only [MS] at h;split at h
  ·rename_i hu;simp only [AB] at h;subst h;obtain ⟨b,rfl,_⟩:=DataW.trod_bool hu ht;exact ⟨[.bool b],by simp only [CellsK,Kd.Rel,IV.toBool,and_self]⟩
  ·rename_i k hu;simp only [AB] at h;subst h;obtain ⟨m,rfl,_,hm⟩:=DataW.trod_int hu ht;simp only [Lit.wf,AG,AN] at hm;exact ⟨[.int m],by simp only [CellsK,Kd.Rel,IV.toInt,CE,true_and]; exact hm⟩
  ·rename_i hu;simp only [AB] at h;subst h;obtain ⟨s,rfl,hd,hs⟩:=DataW.trod_string hu ht;simp only [AM] at hd;refine ⟨[.str s],?_⟩;simp only [CellsK,Kd.Rel,IV.toStr,CE,true_and];rw [hd.1] at hw
   have:=hw s.data.toList.length (by simp [vbn])
   have e:s.data.toList.length=s.size:=by rw [CS]; rfl
   rw [e] at this;unfold reachBytes at this;unfold strMax;omega
  ·rename_i e hu;split at h
   case h_2=>cases h
   rename_i k1 hk1;split at h
   case h_2=>cases h
   rename_i hc;simp only [AB] at h;subst h;simp only [AG,Bool.or_eq_true] at hc;obtain ⟨hb,hce,hk0,hag⟩:=hc;have hb:=AL hb;have hce:=vaj hce;have hk0:=AL hk0;rcases DataW.trod_slice hu ht with ⟨rfl,_⟩ | ⟨a,len,cap,elems,rest,m,_,rfl,hx,_,hlc,hcap,hlen,hel,_⟩
   ·refine ⟨[.list []],?_⟩;simp only [CellsK,Kd.Rel,IV.toList,CE];exact ⟨none,0,rfl,AO _,B7 _,B7 _,fun i y hi=>by simp at hi⟩
   ·simp only [AM] at hx;obtain ⟨rfl,_⟩:=hx;simp only [vbn,hu,AT,AQ] at hw;have hsz:len≤strMax:=by
     have:=hw _ (.inl rfl)
     rw [CL,hlen] at this;have h1:len*1≤(len+(rest.map (·.1)).length)*P.bytesOf e:=Nat.mul_le_mul (by omega) hb;unfold reachBytes at this;unfold strMax;omega
    have hex:∀ i,i < len→∃ g:LI,∃ ci,w.cells? base (a.add (i*k1.length)) k1.length=some ci∧CellsK w O k1 g ci:=by
     intro i hi;have h1:=hel i hi;have hi':i < elems.length:=by omega
     rw [AV hi',hce] at h1;simp only [Option.bind_eq_some_iff] at h1;obtain ⟨ci,h2,h3⟩:=h1;obtain ⟨g,hg⟩:=WT hO n e k1 m ci elems[i].1 elems[i].2 hk1 h3 (fun y hy=>hw y (.inr (.inl (dS (vaP (vaA hi')) y hy))));exact ⟨g,ci,h2,hg⟩
    obtain ⟨L,hL,hLi⟩:=lD len hex;refine ⟨[.list (L.map fun g=>match OM P e with | true=>IV.agg g | false=>IA g 0)],?_⟩;simp only [CellsK,Kd.Rel,IV.toList,CE,CL,hL];refine ⟨some a,cap,rfl,hlc,hcap,hsz,fun i y hi=>?_⟩;rw [B6,vao] at hi;obtain ⟨g,hg,rfl⟩:=hi;obtain ⟨ci,hci,hgc⟩:=hLi i g hg;have hil:i < len:=by rw [← hL]; exact (A5.1 hg).1
    have cellAt:∀ j k,k1[j]?=some k→∃ u,w.cell? ((a.add (i*k1.length)).add j)=some u∧Kd.Rel w O k (IA g j) u:=by
     intro j k hk;obtain ⟨u,h1,h2⟩:=hgc.get j k hk;refine ⟨u,?_,h2⟩;have hj:j < k1.length:=(A5.1 hk).1;unfold World.cells? at hci;split at hci
     ·obtain ⟨b,hb1,hb2⟩:=Lib.mapM_at hci j j (by simp [hj]);rw [h1] at hb1;simp only [AB] at hb1;rw [hb2,hb1]
     ·cases hci
    have hspot:a.spot=none∧a.block < w.heap.size:=by
     obtain ⟨g0,hg0⟩:∃ g0,L[0]?=some g0:=⟨L[0]'(by omega),AV (by omega)⟩;obtain ⟨c0,hc0,hgc0⟩:=hLi 0 g0 hg0;obtain ⟨u,h1,_⟩:=hgc0.get 0 k1[0] (AV (by omega));unfold World.cells? at hc0;split at hc0
     ·obtain ⟨b,_,hb2⟩:=Lib.mapM_at hc0 0 0 (List.getElem?_range (show 0 < k1.length by omega))
      have:=Rk hb2
      rw [Nat.zero_mul] at this;simpa [Addr.add] using this
     ·cases hc0
    obtain ⟨ab,ao,asp⟩:=a;obtain ⟨hs1,hs2⟩:=hspot;simp only at hs1 hs2;subst hs1;refine ⟨ab,ao,rfl,hO ab,hs2,?_⟩;rw [Kd.RelAll_iff];intro j k hk;obtain ⟨u,h1,h2⟩:=cellAt j k hk;rw [Lib.add_plain,Lib.add_plain] at h1;rw [A3];refine ⟨u,h1,?_⟩;cases hat:OM P e with
    | true=>
     show Kd.Rel w O k (IA g j) u;exact h2
    | false=>
     rw [hat] at hag;have h1l:k1.length=1:=vaj (by simpa using hag);have hj:j < k1.length:=(A5.1 hk).1
     have:j=0:=by omega
     subst this;exact h2
  ·rename_i fs hu;split at h
   case h_2=>cases h
   rename_i k1 hk1;split at h
   case h_2=>cases h
   rename_i hc;have hc:=vaj hc;simp only [AB] at h;subst h;obtain ⟨xs,m,_,hx,hcl,hxl,hall⟩:=DataW.trod_struct hu ht;simp only [AM] at hx;obtain ⟨rfl,_⟩:=hx;simp only [vbn,hu] at hw;have key:=e7 (enc:=enc) (P:=P) (w:=w) (base:=base) (sp:=sp) (held:=held) (O:=O) (f:=MS P n) (n:=m) (cs:=cs) (fun t ks cs d p h1 h2 h3=>WT hO n t ks m cs d p h1 h2 h3) (fs.toList.map fun f=>(f.type,f.offset)) 0 k1 xs hk1 (by simp [hxl]) (fun i t o hi=>by
     rw [B6,vao] at hi;obtain ⟨f,hf,he⟩:=hi;simp only [AM] at he;obtain ⟨rfl,rfl⟩:=he;exact hall i f (by simpa using hf)) (fun i t o x hi hx y hy=>by
     rw [B6,vao] at hi;obtain ⟨f,hf,he⟩:=hi;simp only [AM] at he;obtain ⟨rfl,rfl⟩:=he;exact hw y (dT (i:=i) (by rw [B6,hf]; rfl) (by rw [B6,hx]; rfl) y hy))
   obtain ⟨g,hg⟩:=key;rw [CG,vax (by omega)] at hg;exact ⟨g,hg⟩
  ·rename_i m0 e hu;split at h
   case h_2=>cases h
   rename_i k1 hk1;split at h
   case h_2=>cases h
   rename_i hc;have hc:=vaj hc;simp only [AB] at h;subst h;obtain ⟨xs,m,_,hx,hcl,hxl,hall⟩:=DataW.trod_array hu ht;simp only [AM] at hx;obtain ⟨rfl,_⟩:=hx;simp only [vbn,hu] at hw;have key:=e7 (enc:=enc) (P:=P) (w:=w) (base:=base) (sp:=sp) (held:=held) (O:=O) (f:=MS P n) (n:=m) (cs:=cs) (fun t ks cs d p h1 h2 h3=>WT hO n t ks m cs d p h1 h2 h3) ((List.range m0).map fun i=>(e,i*P.cellsOf e)) 0 k1 xs hk1 (by simp [hxl]) (fun i t o hi=>by
     rw [B6,vao] at hi;obtain ⟨f,hf,he⟩:=hi;simp only [AM] at he;obtain ⟨rfl,rfl⟩:=he;have hfi:=A5.1 hf;obtain ⟨hl,he⟩:=hfi;rw [List.getElem_range] at he;subst he;exact hall i (by simpa using hl)) (fun i t o x hi hx y hy=>by
     rw [B6,vao] at hi;obtain ⟨f,hf,he⟩:=hi;simp only [AM] at he;obtain ⟨rfl,rfl⟩:=he;exact hw y (dS (vaP (vaJ hx)) y hy))
   obtain ⟨g,hg⟩:=key;rw [CG,vax (by omega)] at hg;exact ⟨g,hg⟩
  ·cases h
end
open Go Go.Proofs Go.RowKit Go.ChangeShapes Go.WideShapes
def RF:Kd→IV→V
 | .int k,x=>.int k x.toInt
 | .bool,x=>.bool x.toBool
 | .str,x=>.str x.toStr
 | .list ag ks,x=>.list ag ks x.toList
theorem uW {γ:Nat→Value} {o:Store} {w:World} {O:Nat→Prop} {k:Kd} {x:IV} {v:Value} (h:Kd.Rel w O k x v):VRel γ o w O (RF k x) v:=by
 cases k with
 | int k=>simpa only [RF,VRel,Kd.Rel] using h
 | bool=>simpa only [RF,VRel,Kd.Rel] using h
 | str=>simpa only [RF,VRel,Kd.Rel] using h
 | list ag ks=>
  simp only [RF,VRel];simpa only [Kd.Rel,IV.toList] using h
def WX:List Kd→LI→List V
 | k :: ks,x :: f=>RF k x :: WX ks f
 | _,_=>[]
theorem uZ {γ:Nat→Value} {o:Store} {w:World} {O:Nat→Prop}:∀ {ks:List Kd} {f:LI} {cs:List Value},CellsK w O ks f cs→VRels γ o w O (WX ks f) cs
 | [],[],[],_=>by simp only [WX,VRels]
 | _ :: _,_ :: _,_ :: _,h=>by
  simp only [CellsK] at h;simp only [WX,VRels];exact ⟨uW h.1,uZ h.2⟩
 | [],_ :: _,_,h=>by simp [CellsK] at h
 | [],[],_ :: _,h=>by simp [CellsK] at h
 | _ :: _,[],_,h=>by simp [CellsK] at h
 | _ :: _,_ :: _,[],h=>by simp [CellsK] at h
theorem CellsK.len {w:World} {O:Nat→Prop}:∀ {ks:List Kd} {f:LI} {cs:List Value},CellsK w O ks f cs→f.length=ks.length
 | [],[],[],_=>rfl
 | _ :: _,_ :: _,_ :: _,h=>by
  simp only [CellsK] at h;simp only [List.length_cons,h.2.len]
 | [],_ :: _,_,h=>by simp [CellsK] at h
 | [],[],_ :: _,h=>by simp [CellsK] at h
 | _ :: _,[],_,h=>by simp [CellsK] at h
 | _ :: _,_ :: _,[],h=>by simp [CellsK] at h
section
variable {H:Type} {enc:TypeId × Value→H} {P:Program} {W:World} {base b0:Nat} {sp:Nat→Bool} {held:Bool}
theorem iU {n:Nat} {t:TypeId} {ks:List Kd} {v:Value} {d:DataW H} {p:List MemPlace} (hk:MS P n t=some ks) (hu:OM P t=true) (hval:Value.okWide P W .any base t v)
  (h:DataW.Trod enc P W b0 sp held t v d p) (hw:∀ y∈d.weights P t,y≤reachBytes):∃ g:LI,g.length=ks.length∧VRel γ0 [] W O0 (.agg (WX ks g)) v:=by
 obtain ⟨cs,rfl⟩:∃ cs,v = .agg cs:=by
  unfold OM at hu;unfold Value.okWide at hval;split at hu
  ·rename_i hh; rw [hh] at hval; exact hval.imp (fun _ h=>h.1)
  ·rename_i hh; rw [hh] at hval; exact hval.imp (fun _ h=>h.1)
  ·cases hu
 obtain ⟨fuel,hf⟩:=h;obtain ⟨g,hg⟩:=WT (O:=O0) iJ n t ks fuel _ d p hk hf hw;refine ⟨g,hg.len,?_⟩;simp only [VRel];exact ⟨cs,rfl,uZ hg⟩
theorem iV {n:Nat} {t:TypeId} {k:Kd} {v:Value} {d:DataW H} {p:List MemPlace} (hk:MS P n t=some [k]) (hu:OM P t=false) (hval:Value.okWide P W .any base t v)
  (h:DataW.Trod enc P W b0 sp held t v d p) (hw:∀ y∈d.weights P t,y≤reachBytes):∃ x:IV,VRel γ0 [] W O0 (RF k x) v:=by
 obtain ⟨fuel,hf⟩:=h;obtain ⟨g,hg⟩:=WT (O:=O0) iJ n t [k] fuel _ d p hk hf hw;have hc:v.cells.toList=[v]:=by
  cases v with
  | agg cs=>
   exfalso;unfold OM at hu;unfold Value.okWide at hval;split at hu
   ·cases hu
   ·cases hu
   ·rename_i h1 h2;split at hval
    ·rename_i hh; exact h1 _ hh
    ·rename_i hh; exact h2 _ _ hh
    ·unfold Cell.okWide Cell.ok at hval;split at hval <;> first | (split at hval <;> simp_all) | simp_all
  | _=>rfl
 rw [hc] at hg
 match g,hg with
 | [x],hg=>
  simp only [CellsK,and_true] at hg;exact ⟨x,uW hg⟩
theorem uR (hl:laidOutB P=true) {W':World} (hb:Below W.heap.size W W'):∀ {ts:List TypeId} {vs:List Value} {ds:List (DataW H)} {ps:List MemPlace},DataW.TrodAll enc P W 0 (fun _=>true) true ts vs ds ps →
  (∀ t∈ts,P.readableRec t=true∧t < P.types.size)→(∀ x∈ps,x.block < W.heap.size)→DataW.TrodAll enc P W' 0 (fun b=>decide (b < W.heap.size)) true ts vs ds ps
 | [],vs,ds,ps,h,_,_=>by
  obtain ⟨rfl,rfl,rfl⟩:=trodAll_nil h;rfl
 | t :: ts,vs,ds,ps,h,ht,hp=>by
  obtain ⟨v,vs1,d,ds1,a,b,rfl,rfl,rfl,h1,h2⟩:=trodAll_cons h;have hh:=ht t (List.mem_cons_self ..);exact ⟨a,b,Below.trod hl hh.1 hh.2 h1 hb (fun x hx=>hp x (List.mem_append.2 (.inl hx))),uR hl hb h2 (fun t' h'=>ht t' (List.mem_cons_of_mem _ h')) (fun x hx=>hp x (List.mem_append.2 (.inr hx))),rfl⟩
end
theorem Ok:ownKnob Tryz.prog.godebug=none:=by kernel_rfl
theorem Oj:laidOutB Tryz.prog=true:=by kernel_rfl
theorem Gc {os:Os} (started:os.Started) {H:Type} {enc:TypeId × Value→H} {spec:ChangeSpec} {f:Nat} {fn:Func} {sp:DB} {laid:List (String × DataW Unit)} (hS:DD PR B0 f sp) (hf:Tryz.prog.funcs[f]?=some fn)
  (hn:(fn.name == "runtime.NumGoroutine")=false) (hb:fn.body.isNone=false) (hini:Tryz.prog.inits.idxOf? f=none) (hres:fn.resultTypes = #[4]) (hvars:spec.vars=[])
  (hspec:∀ (ds:List (DataW H)),ds.length=fn.params.toList.length→spec.fn H ds={ results:=[.lit (.bool true)],args:=ds })
  (hpar:fn.params.toList.all (fun t=>Tryz.prog.readableRec t&&decide (t < Tryz.prog.types.size))=true)
  (hglob:∀ W:World,laidMetH Tryz.prog laid W→W.ShapedOpen Tryz.prog→Glob B0 W)
  (witness:∃ (w:World) (tape:Tape) (i:Input),w.os=os∧(w.forCall tape i).Shaped Tryz.prog∧i.vars=[]∧Input.okWide Tryz.prog (w.forCall tape i) .any w.heap.size f i ∧
   (OpenSpec.ofChange spec).preRow enc Tryz.prog fn [] false laid (w.forCall tape i).memory i.args∧({}:Assume).holds Tryz.prog (lone (Frame.enter Tryz.prog f i.args .normal) [] (w.forCall tape i)))
  (harg:∀ (W:World) (base:Nat) (vs:List Value) (ds:List (DataW H)) (p:List MemPlace),DataW.TrodAll enc Tryz.prog W 0 (fun _=>true) true fn.params.toList vs ds p →
   (∀ (j:Nat) t v,fn.params.toList[j]?=some t→vs[j]?=some v→Value.okWide Tryz.prog W .any base t v) →
   (∀ (j:Nat) t d,fn.params.toList[j]?=some t→ds[j]?=some d→∀ y∈d.weights Tryz.prog t,y≤reachBytes) →
   ∃ l:List V,(sp l).get=some (.bool true,[])∧EL l=none∧VRels γ0 [] W O0 (l.map D4) vs) :
  ReturnsInHanded {} Tryz.checked os f .any ((OpenSpec.ofChange spec).preRow enc Tryz.prog fn [] false laid) (spec.post enc Tryz.prog fn false true false false):=by
 refine returnsInHanded_of_row (C:=Tryz.checked) (s:=OpenSpec.ofChange spec) (F:=fun _ _ _=>0) Ok started hini hf witness ?_;intro W base args ds gs before hval hW _ _ hwt hL hsh _;have hW':=hW;obtain ⟨p,q,hA,hV,rfl,_,_⟩:=hW;have hvars':(OpenSpec.ofChange spec).vars=[]:=hvars;rw [hvars'] at hV;obtain ⟨rfl,rfl⟩:=trodVars_none hV;have hlen:ds.length=fn.params.toList.length:=by
  have:∀ {ts:List TypeId} {vs:List Value} {ds:List (DataW H)} {ps:List MemPlace},DataW.TrodAll enc Tryz.prog W 0 (fun _=>true) true ts vs ds ps→ds.length=ts.length:=by
   intro ts
   induction ts with
   | nil=>intro vs ds ps h; obtain ⟨_,rfl,_⟩:=trodAll_nil h; rfl
   | cons t ts ih=>
    intro vs ds ps h;obtain ⟨v,vs1,d,ds1,a,b,rfl,rfl,rfl,h1,h2⟩:=trodAll_cons h;simp only [List.length_cons,ih h2]
  exact this hA
 simp only [List.append_nil] at hW' hwt;obtain ⟨l,hl,hbor,hrel⟩:=harg W base args.toList ds p hA (fun j t v h1 h2=>hval j t v (by simpa using h1) (by simpa using h2)) (fun j t d h1 h2 y hy=>by
  have hm:=dT (P:=Tryz.prog) (ts:=fn.params.toList++(OpenSpec.ofChange spec).bare.plain.varTypes Tryz.prog) (ds:=ds) (i:=j) (t:=t) (d:=d) (by
   rw [List.getElem?_append_left (by rw [← hlen]; exact (List.getElem?_eq_some_iff.1 h2).1)];exact h1) h2 y hy
  have:=List.all_eq_true.1 hwt y hm
  simpa using this)
 have hc:=yD hS hf hn hb hl hbor (hglob W hL hsh) hrel;have ea:args.toList.toArray=args:=by simp
 rw [ea] at hc;refine hc.mono ?_;rintro e W' ⟨rfl,bel⟩;have hfn:spec.fn H (ds++[])={ results:=[.lit (.bool true)],args:=ds }:=by rw [List.append_nil]; exact hspec ds hlen
 have hlt:∀ x∈p,x.block < W.heap.size:=fun x hx=>hW'.lt x hx
 have post:spec.post enc Tryz.prog fn false true false false W args (.bool true) W':=by
  refine ⟨ds,[],p,[],p,[],hW',?_,?_,?_,bel.frame _,fun h=>by cases h⟩
  ·rw [hfn,hres];exact trodAll_mk1 (shut_bool Tryz.underlying4 _)
  ·rw [hfn];exact uR Oj bel hA (fun t ht=>by
    have:=List.all_eq_true.1 hpar t ht
    simpa using this) hlt
  ·rw [hvars,hfn];rfl
 exact ⟨_,rfl,post⟩
end Go.FM
namespace Go.Proofs.YtihliihljmfhlaaGreat
open Go Go.ChangeShapes Go.WideShapes Go.ChangeAt Go.RowKit Go.FM
noncomputable def rZ (os:Os):World:=World.doorLaid Tryz.prog 72 os
theorem Om (os:Os) (args:Array Value):laidMetH Tryz.prog [] ((rZ os).forCall (fun _ _=>0) ⟨#[],args,[]⟩).memory:=
 laidMetH_of_parts3 (fuel:=8) (laidMet_of_run' 8 (by kernel_rfl) (by kernel_rfl)) (by kernel_rfl) (by kernel_rfl)
theorem Ol {W:World} (_:laidMetH Tryz.prog [] W) (_:W.ShapedOpen Tryz.prog):Glob B0 W:=⟨Nat.zero_le _,⟨trivial⟩⟩
end Go.Proofs.YtihliihljmfhlaaGreat
