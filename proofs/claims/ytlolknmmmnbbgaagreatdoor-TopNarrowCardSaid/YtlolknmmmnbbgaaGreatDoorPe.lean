/-
  A small machine that reckons what a call comes to; the functions of the program, one by one. (WHAT IS SHOWN IS CLOSED, IN PLAIN LEAN: check's own test of , A PROOF THAT IS GONE THROUGH, IN PLAIN LEAN: its boxes are r, NORMAL FORMS: what the functions' runs come to (written by a, and so on.)
-/
import Derived.Test.YtlolknmmmnbbgaaGreatDoorPd
import Derived.Lib.LaidU8
import Derived.OpenShut
import Derived.ProofKit
import Derived.LaidMore
import Derived.Test.YtlolknmmmnbbgaaGreatDoorTie
import Derived.Test.YtlolknmmmnbbgaaGreatDoorCards
import Derived.Deep.DeepWitnessRowRef
set_option linter.all false
set_option maxRecDepth 100000
open Array renaming length_toList→CP,getElem?_eq_some_iff→C9
open Bool renaming and_eq_true→AG,not_true→A1,not_false→A9,true_and→BG,and_self→BH,not_eq_true'→BW,false_and→BX,and_true→CR,or_eq_false_iff→C2,false_or→vav,and_false→vax,eq_iff_iff→vaC,or_eq_true→vaT
open ByteArray renaming size→AH,size_append→BI,toList→BR,empty→CH,append_assoc→vai,size_push→vbj
open Go.DataW renaming weights→vbr,weightsEach→vbA
open Go.IntKind renaming wrap→AA,i64→AB
open Go.Lib.laidMet renaming reads→vbm
open Go.ResultVar renaming tmp→BV,cell→vbf
open Go.World renaming cell?→vay
open Int renaming toNat→AD,toNat_natCast→BC,le_refl→CF,le_antisymm→vbv
open List renaming length→AE,getD→AI,take→AK,length_cons→AM,drop→AQ,length_append→AR,mem_cons_self→AU,mem_append→AV,mem_cons_of_mem→AW,mem_cons→AX,map_cons→AZ,map→A3,mem_singleton→A4,getElem?_eq_getElem→A5,length_nil→A6,drop_eq_getElem_cons→A7,length_take→A8,replicate→BB,take_length→BD,getD_eq_getElem?_getD→BO,getElem?_cons_zero→BP,getElem?_eq_some_iff→BQ,getElem?_eq_none→BU,drop_zero→B1,length_singleton→B3,map_nil→B6,getElem?_map→B8,length_map→B9,getElem?_take→CJ,all_eq_true→CN,take_of_length_le→CW,drop_length→CX,not_mem_nil→CY,drop_of_length_le→C4,length_drop→C7,getElem_mem→vaa,append_nil→vad,cons_append→vaf,getElem?_append→vag,mem_of_getElem?→vah,mem_map→vao,eq_nil_of_length_eq_zero→vap,length_set→vas,nil_append→vaE,append_assoc→vaG,mem_map_of_mem→vaM,range→vaQ,mem_of_mem_drop→vaX,mem_of_mem_take→vaY,sum_cons→va2,filter_cons→vbc,rel_of_pairwise_cons→vbd,mem_range→vbg
open List.Pairwise renaming of_cons→va0
open Nat renaming le_of_ble_eq_true→AN,le_refl→AT,zero_add→BK,beq→BM,blt→BN,ble→BS,zero_le→B2,le_trans→CE,ble_eq_true_of_le→CQ,lt_or_ge→C1,add_mul→vae,eq_of_beq_eq_true→vat,add_assoc→vaA,le_mul_of_pos_right→vaF,succ_mul→vaV,lt_succ_iff_lt_or_eq→vbn
open Option renaming map_eq_some_iff→C8
open Option.some renaming injEq→AC,inj→CI
open Prod.mk renaming injEq→AS
namespace Go.FM
open Go
theorem Uq {s:Sp}:VD s=true↔s.good:=by
 unfold VD Sp.good;simp only [AG,AP]
theorem XL {b:Bx}:FJ b=true↔b.good:=by
 unfold FJ;simp only [AG,Uq];constructor
 ·rintro ⟨h0,h1,h2,h3,h4⟩ i hi
  match i,hi with
  | 0,_=>exact h0
  | 1,_=>exact h1
  | 2,_=>exact h2
  | 3,_=>exact h3
  | 4,_=>exact h4
  | n+5,hi=>omega
 ·intro h;exact ⟨h 0 (by omega),h 1 (by omega),h 2 (by omega),h 3 (by omega),h 4 (by omega)⟩
theorem zgb {b:Bx} (h4:b.s4.lo≤b.s4.hi) (p:Pt):(∃ t,(b.p ⟨0,0⟩ 4).has p t=true)↔∃ t,b.has p t=true:=by
 constructor
 ·rintro ⟨t,h⟩;refine ⟨b.s4.lo,?_⟩;unfold Bx.has at h ⊢;simp only [AG] at h ⊢;exact ⟨h.1,h.2.1,h.2.2.1,h.2.2.2.1,IL.2 ⟨CF _,h4⟩⟩
 ·rintro ⟨t,h⟩;refine ⟨0,?_⟩;unfold Bx.has at h ⊢;simp only [AG] at h ⊢;exact ⟨h.1,h.2.1,h.2.2.1,h.2.2.2.1,IL.2 ⟨CF _,CF _⟩⟩
theorem qV {g g':LI→Int} (k:Int):∀ (ts:LI) (s:Int),(∀ t∈ts,g (EJ t)=g' (EJ t))→F7 g k ts s=F7 g' k ts s
 | [],_,_=>rfl
 | t :: ts,s,h=>by
  rw [F7,F7,h t (AU ..)];exact qV k ts _ fun u hu=>h u (AW _ hu)
theorem Ei {m:Md} (hm:EQ m=true) (k:Int) {b:Bx} (hb:b.good):DZ m k (b.p ⟨0,0⟩ 4)=DZ m k b∧DW m k (b.p ⟨0,0⟩ 4)=DW m k b:=by
 have hg:(b.p ⟨0,0⟩ 4).good:=Q9 hb ⟨by decide,by decide,by decide⟩ (by omega);have ht:∀ t∈m.ts,GY (EJ t) (b.p ⟨0,0⟩ 4)=GY (EJ t) b∧GW (EJ t) (b.p ⟨0,0⟩ 4)=GW (EJ t) b:=fun t ht=>
  zfS (TA hm ht) hg.emp hg.ok hb.emp hb.ok (zgb (hb 4 (by omega)).2.1)
 have es:E9 m k (b.p ⟨0,0⟩ 4)=E9 m k b:=by unfold E9; rw [hg.emp,hb.emp]
 unfold DZ DW;rw [es];cases E9 m k b with
 | false=>exact ⟨rfl,rfl⟩
 | true=>
  rw [DB,DB,DB,DB];exact ⟨qV k m.ts _ fun t h=>(ht t h).1,qV k m.ts _ fun t h=>(ht t h).2⟩
def UV (m:Md) (q:Qy) (b:Bx):Nat→Nat→Bool
 | 0,_=>true
 | d+1,i=>cond (!((i:Int)==q.c)&&decide (DW m (i:Int) b≥DZ m q.c b)) false (UV m q b d (i+1))
def KB (q:Qy) (b:Bx):Bx:=b.p b.s4 q.ft.toNat
def pZ (m:Md) (q:Qy) (b:Bx):Bool:=
 cond b.emp true
  (cond (q.k==1) (decide (q.lo≤DZ m q.c b)&&decide (DW m q.c b≤q.hi))
   (cond (q.k==2) (UV m q b m.c.toNat 0)
    (cond (decide ((b.g q.ft.toNat).lo≥b.s4.hi)) true
     (cond q.fl (decide (DW m q.c (KB q b)≤DZ m q.c b)) (decide (DZ m q.c (KB q b)≥DW m q.c b))))))
theorem sT {m:Md} {q:Qy} {b:Bx}:∀ (d i:Nat),UV m q b d i=true↔∀ j:Nat,i≤j→j < i+d→(j:Int)≠q.c→DW m (j:Int) b < DZ m q.c b
 | 0,i=>⟨fun _ j h1 h2=>by omega,fun _=>rfl⟩
 | d+1,i=>by
  rw [UV];cases hc:(!((i:Int)==q.c)&&decide (DW m (i:Int) b≥DZ m q.c b)) with
  | true=>
   rw [DB];simp only [AG,BW,BZ,AP] at hc;refine ⟨(fun h=>by cases h),fun h=>?_⟩
   have:=h i (AT _) (by omega) hc.1
   omega
  | false=>
   rw [DC,sT d (i+1)];rw [Bool.and_eq_false_iff,Bool.not_eq_false',CB,BL] at hc;constructor
   ·intro h j h1 h2 hn;rcases C1 i j with h3 | h3
    ·exact h j h3 (by omega) hn
    ·have:j=i:=by omega
     subst this;rcases hc with hc | hc
     ·exact absurd hc hn
     ·omega
   ·intro h j h1 h2 hn;exact h j (by omega) (by omega) hn
theorem zd9 {m:Md} {q:Qy} {b:Bx} (hr:EU m q=true) (hb:b.emp=true∨b.good):pZ m q b=FS m q b:=by
 unfold pZ FS;rw [hr,BG];cases he:b.emp with
 | true=>rfl
 | false=>
  rw [DC,DC];have hg:b.good:=by
   rcases hb with h | h
   ·rw [he] at h; cases h
   ·exact h
  obtain ⟨hm,⟨c0,c1⟩,_,_,hk⟩:=V0 hr;have hcl:=U9 c0 c1;have hs:=L6 hm hcl he;rcases cE hk with ⟨e,_⟩ | ⟨e,h2,_⟩ | ⟨e,hf,_⟩
  ·rw [e];show (decide (q.lo≤DZ m q.c b)&&decide (DW m q.c b≤q.hi))=(E9 m q.c b&&(decide (q.lo≤DZ m q.c b)&&decide (DW m q.c b≤q.hi)));rw [hs,BG]
  ·rw [e];show UV m q b m.c.toNat 0=(LW m q.c b&&decide (Q4 m q.c b > 0));have hmg:LW m q.c b=true:=by unfold LW; rw [hs,AF (by omega)]; rfl
   rw [hmg,BG,vaC,sT,AP]
   have:=nW hmg
   constructor
   ·intro h;exact this.2 fun j hj hn=>h j (B2 _) (by omega) hn
   ·intro h j _ h2 hn;exact this.1 h j (by omega) hn
  ·rw [e];have hp:=iV hm e hf;have h44:=hg 4 (by omega);have hg2:(KB q b).good:=Q9 hg h44 (by have:=hf; have:=(V0 hr).1; rcases OU hp with e | e | e | e <;> rw [e] <;> decide);have s1:=Ei hm q.c hg;have s2:=Ei hm q.c hg2;have f1:I8 q b=b.p ⟨0,0⟩ 4:=by unfold I8; rw [hp,DB]
   have f2:JE q b=(KB q b).p ⟨0,0⟩ 4:=by unfold JE; rw [hp,DB]; rfl
   have hch:JM m q b=true:=by
    unfold JM;rw [hp,f1,f2,L6 hm hcl (Q9 hg ⟨by decide,by decide,by decide⟩ (by omega)).emp,L6 hm hcl (Q9 hg2 ⟨by decide,by decide,by decide⟩ (by omega)).emp];rfl
   have e1:OH m q b=DW m q.c (KB q b) - DZ m q.c b:=by unfold OH; rw [hch,DB,f1,f2,s1.1,s2.2]
   have e2:OI m q b=DZ m q.c (KB q b) - DW m q.c b:=by unfold OI; rw [hch,DB,f1,f2,s1.2,s2.1]
   have eo:MO q b=!decide ((b.g q.ft.toNat).lo≥b.s4.hi):=by
    unfold MO;rw [hp,he];by_cases h:(b.g q.ft.toNat).lo < b.s4.hi
    ·rw [AF h,AL (by omega)]; rfl
    ·rw [AL h,AF (by omega)]; rfl
   show cond (decide ((b.g q.ft.toNat).lo≥b.s4.hi)) true _=cond (!(MO q b)) true (cond q.fl (JM m q b&&decide (OH m q b≤0)) (JM m q b&&decide (OI m q b≥0)));rw [eo,Bool.not_not,hch,BG,BG,e1,e2];have d1:decide (DW m q.c (KB q b) - DZ m q.c b≤0)=decide (DW m q.c (KB q b)≤DZ m q.c b):=by
    rw [vaC,AP,AP]; omega
   have d2:decide (DZ m q.c (KB q b) - DW m q.c b≥0)=decide (DZ m q.c (KB q b)≥DW m q.c b):=by
    rw [vaC,AP,AP]; omega
   rw [d1,d2]
open Go
theorem mE {x:IV} {left most:Int} {st:Int × Int} (h:MG (left,most) x=some st):left≠0∧NB x=true∧((H5 x=true∧st=(left - 1,most))∨(H5 x=false∧st=(left+1,max most (left+1)))):=by
 unfold MG at h;cases hz:(left==0) with
 | true=>simp only [hz,Bool.true_or,CT] at h; cases h
 | false=>
  have hne:left≠0:=by simpa using hz
  simp only [hz,vav] at h;cases hr:NB x with
  | false=>rw [hr] at h; cases h
  | true=>
   rw [hr] at h;simp only [A1,CG] at h;cases hs:H5 x with
   | true=>rw [hs] at h; exact ⟨hne,rfl,.inl ⟨rfl,(CI h).symm⟩⟩
   | false=>rw [hs] at h; exact ⟨hne,rfl,.inr ⟨rfl,(CI h).symm⟩⟩
theorem pQ {x:IV} (h:NB x=true) (hs:H5 x=false):0≤E8 x∧E8 x≤4:=by
 unfold NB at h;rw [hs,DC,AG,AP,AP] at h;exact h
theorem Cz {x:IV} {left out:LI} {most:Int} {st:Int × Int} {lo:LI × LI} (hl:∀ y∈left,(DN y).good) (ho:∀ y∈out,(DN y).good) (hd:MG (ic left.length,most) x=some st) (hp:MQ (left,out) x=some lo) :
  (∀ y∈lo.1,(DN y).good)∧(∀ y∈lo.2,(DN y).good)∧st.1=ic lo.1.length:=by
 obtain ⟨hne,hr,hd⟩:=mE hd;have hlen:0 < left.length:=by simp only [ic] at hne; omega
 have ht:(DM left).good:=hl _ (S9 hlen).1;unfold MQ at hp;rcases hd with ⟨hs,rfl⟩ | ⟨hs,rfl⟩
 ·rw [hs] at hp;obtain rfl:=CI hp;refine ⟨fun y hy=>hl y (X2 hy),fun y hy=>?_,?_⟩
  ·rcases AV.1 hy with hy | hy
   ·exact ho y hy
   ·obtain rfl:=A4.1 hy;rw [F8]; exact ht
  ·show ic left.length - 1=ic (FB left).length;rw [SU]; simp only [ic]; omega
 ·rw [hs] at hp;have hpl:=pQ hr hs;have ej:E8 x=(((E8 x).toNat:Nat):Int):=by omega
  cases hc:(decide (FR x < ((DM left).g (E8 x).toNat).lo)||decide (FR x≥((DM left).g (E8 x).toNat).hi)) with
  | true=>simp only [hc,CG,CT] at hp; cases hp
  | false=>
   simp only [hc,CG] at hp;obtain rfl:=CI hp;simp only [C2,BL] at hc;refine ⟨fun y hy=>?_,ho,?_⟩
   ·rcases AV.1 hy with hy | hy
    ·exact hl y (X2 hy)
    ·rcases AX.1 hy with rfl | hy
     ·rw [F8,ej]; exact fX ht (by omega) (by omega) (by omega)
     ·obtain rfl:=A4.1 hy;rw [F8,ej]; exact lW ht (by omega) (by omega) (by omega)
   ·show ic left.length+1=ic (FB left++[_,_]).length;rw [AR,SU];simp only [ic,AM,A6]; omega
theorem Cx:∀ {l:LI} {left out:LI} {most:Int} {st:Int × Int} {lo:LI × LI},(∀ y∈left,(DN y).good)→(∀ y∈out,(DN y).good)→JP l (ic left.length,most)=some st→H9 l (left,out)=some lo→∀ y∈lo.2,(DN y).good
 | [],left,out,most,st,lo,_,ho,_,hp=>by
  obtain rfl:=CI hp;exact ho
 | x :: l,left,out,most,st,lo,hl,ho,hd,hp=>by
  rw [JP] at hd;rw [H9] at hp;cases h1:MG (ic left.length,most) x with
  | none=>rw [h1] at hd; cases hd
  | some s1=>
   cases h2:MQ (left,out) x with
   | none=>rw [h2] at hp; cases hp
   | some l1=>
    rw [h1] at hd;rw [h2] at hp;obtain ⟨g1,g2,g3⟩:=Cz hl ho h1 h2;obtain ⟨a,b⟩:=l1;obtain ⟨c,d⟩:=s1;obtain rfl:c=ic a.length:=g3;exact Cx g1 g2 hd hp
theorem mC {l:LI} (h:JO l > 0):∃ st,JP l (1,1)=some st:=by
 unfold JO at h;cases hc:decide (ic l.length > 65536) with
 | true=>rw [hc,DB] at h; omega
 | false=>
  rw [hc,DC] at h;cases hd:JP l (1,1) with
  | none=>rw [hd] at h; exact absurd h (by decide)
  | some st=>exact ⟨st,rfl⟩
theorem Cv {b:Bx} (hb:b.good) {l outs:LI} (h:JC b l=some outs):∀ y∈outs,(DN y).good:=by
 unfold JC at h;cases hd:decide (JO l > 0) with
 | false=>rw [hd,DC] at h; cases h
 | true=>
  rw [hd,DB] at h;obtain ⟨st,hst⟩:=mC (AY hd);cases hp:H9 l ([b.I],[]) with
  | none=>rw [hp] at h; cases h
  | some lo=>
   rw [hp] at h;obtain rfl:=CI h;refine Cx (left:=[b.I]) (out:=[]) (most:=1) (fun y hy=>?_) (fun y hy=>by cases hy) hst hp;obtain rfl:=A4.1 hy;rw [F8]; exact hb
open Go Go.Proofs
def WP (N:Nat):Env:=DV [(61,OB),(31,JH),(55,LN)] [(3,⟨[0,4,5,6,7,8,9],[500],[⟨.tmp 9,500,213,true,hM⟩]⟩)] 88 N
open Go Go.Proofs
set_option maxRecDepth 100000
def PK (l O:LI) (n:Nat) (lo hi:Int) (any:Bool):St:=⟨[(0,.list false [.int .u64] l),(4,.int .i64 0),(5,.int .i64 0),(6,.int .i64 lo),(7,.int .i64 hi),(8,.bool any),(9,.row 500 0 n)],[(500,some (.row true 213 true hM O))]⟩
abbrev nF:KP:=⟨[0,4,5,6,7,8,9],[500],[⟨.tmp 9,500,213,true,hM⟩]⟩
noncomputable abbrev nC (N:Nat):Out→St→DG:=DI 0 (DJ (WP N) (DD W3 [1,1,1,1]) (DL (WP N) none [.tmp 4,.tmp 5] [[.z],[.z]]))
def eW (n:Nat):Int:=AA AB (ic (n - 0) - 1)
def eX (O:LI) (n:Nat):IV:=O.getD (0+(eW n).toNat) default
def IT (l:LI) (x:IV):Int:=(l.getD (HB x).toNat default).toInt
theorem zbv (N:Nat) (l:LI) (b:Bx):DQ (WP N) W3 [.tmp 4,.tmp 5] [[.z],[.z]] [.list false [.int .u64] l,b.V] =
 DR (WP N) (DD W3 [1,1,1,0,0,0]) nF N (PK l [O5 0 b] 1 0 0 false) (nC N):=by kernel_rfl
theorem Hv (N:Nat) (l O:LI) (n:Nat) (lo hi:Int) (any:Bool) (again:St→DG) (k:Out→St→DG):E4 (WP N) (DD W3 [1,1,1,0,0,0]) (PK l O n lo hi any) (EH again nF k) =
 cond (decide (ic (n - 0) > 0)) (cond (decide (0≤eW n)&&decide (eW n < ic (n - 0))) (cond (decide (0≤eW n)&&decide (eW n≤ic (n - 0)))
 (cond (decide (0≤HB (eX O n))&&decide (HB (eX O n) < ic l.length))
 (cond (!(GA (IT l (eX O n)))) (again (PK l O (0+(eW n).toNat) lo hi any))
 (cond (I2 (eX O n)).emp (again (PK l O (0+(eW n).toNat) lo hi any))
 (cond (!(DE (IT l (eX O n))).lf)
 (cond (GT (DE (IT l (eX O n))).f) (cond (decide ((0+(eW n).toNat+2)*88≤D1))
 (again (PK l (O.take (0+(eW n).toNat)++[O5 (DE (IT l (eX O n))).l ((I2 (eX O n)).cutL (DE (IT l (eX O n))).f (DE (IT l (eX O n))).a),O5 (DE (IT l (eX O n))).r ((I2 (eX O n)).cutH (DE (IT l (eX O n))).f (DE (IT l (eX O n))).a)]) (0+(eW n).toNat+2) lo hi any)) none) none)
 (cond (!any) (again (PK l O (0+(eW n).toNat) (min (DE (IT l (eX O n))).v (DE (IT l (eX O n))).v) (max (DE (IT l (eX O n))).v (DE (IT l (eX O n))).v) true))
 (again (PK l O (0+(eW n).toNat) (min lo (DE (IT l (eX O n))).v) (max hi (DE (IT l (eX O n))).v) any)))))) none) none) none)
 (k (.exit 0) (PK l O n lo hi any)):=by kernel_rfl
theorem So (N:Nat) (l O:LI) (n:Nat) (lo hi:Int) (any:Bool):nC N (.exit 0) (PK l O n lo hi any)=some (.tup [.int .i64 lo,.int .i64 hi],[]):=by kernel_rfl
theorem XF (N:Nat) {l:LI} (hT:FY l 4=true) {b:Bx} (hb:b.good):∀ (c:Nat) (O:LI) (n:Nat) (lo hi:Int) (any:Bool),n≤O.length→EnI l b ⟨O.take n,lo,hi,any⟩→OM (O.take n) < c →
  DR (WP N) (DD W3 [1,1,1,0,0,0]) nF c (PK l O n lo hi any) (nC N)=some (.tup [.int .i64 (GY l b),.int .i64 (GW l b)],[])
 | 0,_,_,_,_,_,_,_,h=>absurd h (by omega)
 | c+1,O,0,lo,hi,any,hn,h,hc=>by
  obtain ⟨e1,e2⟩:=Rg hT hb.emp hb.ok h rfl;replace e1:lo=GY l b:=e1;replace e2:hi=GW l b:=e2;rw [DY,Hv,show decide (ic (0 - 0) > 0)=false from rfl,DC,So,e1,e2]
 | c+1,O,j+1,lo,hi,any,hn,h,hc=>by
  have ht:=j8 hT;have hlen:(O.take (j+1)).length=j+1:=by rw [A8]; omega
  have hl:0 < (En.mk (O.take (j+1)) lo hi any).todo.length:=by show 0 < (O.take (j+1)).length; omega
  have hd:=h.depth ht;replace hd:(O.take (j+1)).length≤31:=hd;have hs:=Rk ht h hl;have hw:=Rh ht h hl;have htop:EP (O.take (j+1))=O.getD j default:=by
   unfold EP;rw [hlen,BO,BO,CJ,BJ (by omega)];rfl
  have hpop:FB (O.take (j+1))=O.take j:=by
   unfold FB;rw [hlen,List.take_take];congr 1;omega
  have ew:eW (j+1)=(j:Int):=by
   unfold eW;rw [show ic (j+1 - 0) - 1=(j:Int) by simp only [ic]; omega];exact EA (by omega) (by omega)
  have ej:0+(eW (j+1)).toNat=j:=by rw [ew]; omega
  have ex:eX O (j+1)=EP (O.take (j+1)):=by unfold eX; rw [ej,htop]
  have ha:=h.at_ _ _ (S9 hl).2;replace ha:((((O.take (j+1)).length - 1:Nat)):Int)≤HB (EP (O.take (j+1)))∧HB (EP (O.take (j+1))) < ic l.length:=ha;have i1:decide (ic (j+1 - 0) > 0)=true:=AF (by simp only [ic]; omega);have i2:(decide (0≤eW (j+1))&&decide (eW (j+1) < ic (j+1 - 0)))=true:=by rw [ew,AF (by omega),AF (by simp only [ic]; omega)]; rfl
  have i3:(decide (0≤eW (j+1))&&decide (eW (j+1)≤ic (j+1 - 0)))=true:=by rw [ew,AF (by omega),AF (by simp only [ic]; omega)]; rfl
  rw [DY,Hv,i1,DB,i2,DB,i3,DB,ej,ex,AF (show 0≤HB (EP (O.take (j+1))) by omega),AF ha.2,BH,DB];unfold bS at hs hw;simp only [EV,hpop] at hs hw;have eWdef:IT l (EP (O.take (j+1)))=(l.getD (HB (EP (O.take (j+1)))).toNat default).toInt:=rfl;rw [← eWdef] at hs hw;have hfk:(DE (IT l (EP (O.take (j+1))))).lf=false→GT (DE (IT l (EP (O.take (j+1))))).f=true:=fun hf=>by
   have hk:(HB (EP (O.take (j+1)))).toNat < l.length:=by have:=ha.2; simp only [ic] at this; omega
   have:=(ht.fork _ hk hf).1
   replace this:0≤(DE (IT l (EP (O.take (j+1))))).f∧(DE (IT l (EP (O.take (j+1))))).f < 4:=this;unfold GT;rw [AF this.1,AF (by omega)];rfl
  generalize IT l (EP (O.take (j+1)))=wd at hs hw hfk ⊢;generalize I2 (EP (O.take (j+1)))=vb at hs hw ⊢;cases hnb:GA wd with
  | false=>
   rw [A9,DB];simp only [hnb,A9,Bool.true_or,CT] at hs hw;exact XF N hT hb c O j lo hi any (by omega) hs (by omega)
  | true=>
   rw [A1,DC];simp only [hnb,A1,vav] at hs hw;cases he:vb.emp with
   | true=>
    rw [DB];simp only [he,CT] at hs hw;exact XF N hT hb c O j lo hi any (by omega) hs (by omega)
   | false=>
    rw [DC];simp only [he,CG] at hs hw;cases hlf:(DE wd).lf with
    | true=>
     rw [A1,DC];simp only [hlf,A1,CG] at hs hw;cases any with
     | false=>
      rw [A9,DB];exact XF N hT hb c O j _ _ true (by omega) hs (by omega)
     | true=>
      rw [A1,DC];exact XF N hT hb c O j _ _ true (by omega) hs (by omega)
    | false=>
     rw [A9,DB];simp only [hlf,A9,CT] at hs hw;have e2:∀ v1 v2:IV,(O.take j++[v1,v2]).take (j+2)=O.take j++[v1,v2]:=fun v1 v2=>CW (by simp only [AR,A8,AM,A6]; omega)
     rw [hfk hlf,DB,AF (show (j+2)*88≤D1 by unfold D1; omega),DB];refine XF N hT hb c _ (j+2) lo hi any (by simp only [AR,A8,AM,A6]; omega) ?_ ?_
     ·rw [e2]; exact hs
     ·rw [e2]; omega
theorem zeu:DO PR B0 108 ZM:=by
 refine DX [(61,OB),(31,JH),(55,LN)] [(3,⟨[0,4,5,6,7,8,9],[500],[⟨.tmp 9,500,213,true,hM⟩]⟩)] ZM [[.z],[.z]] Tryz.func108 Vv ⟨jJ,S5,YF,trivial⟩ ?_;intro vs r hwf h;unfold ZM at h;split at h
 ·rename_i l b;replace h:=HK h;obtain ⟨b,rfl,h⟩:=h;cases hg:(FY l 4&&FJ b) with
  | false=>rw [hg] at h; simp [R.get] at h
  | true=>
  rw [hg,R.get_br,DB,R.get_ok] at h;rw [AG] at hg;refine ⟨3 ^ 31+1,(zbv (3 ^ 31+1) l b).trans ?_⟩;rw [← h];have hgd:=XL.1 hg.2;refine XF (3 ^ 31+1) hg.1 hgd (3 ^ 31+1) [O5 0 b] 1 0 0 false (AT _) (Rj (j8 hg.1) hgd.ok) ?_;show OM [O5 0 b] < 3 ^ 31+1;unfold OM;simp only [AZ,B6,va2,List.sum_nil,WB];show 3 ^ 31+0 < 3 ^ 31+1;omega
 ·simp [R.get] at h
open Go Go.Proofs
def WQ (N:Nat):Env:=DV [(61,OB),(70,aJ)] [(6,⟨[4,5,6,7,19,20,21],[500,501],[⟨.tmp 6,500,34,true,EZ⟩,⟨.tmp 7,501,34,true,EZ⟩]⟩)] 75 N
open Go Go.Proofs
set_option maxRecDepth 100000
def P5 (l L:LI) (n:Nat) (out:LI) (m:Nat) (i:Int):St:=⟨[(4,.zs),(5,.bool false),(6,.row 500 0 n),(7,.row 501 0 m),(19,.list true ES l),(20,.int .i64 (ic l.length)),(21,.int .i64 i)],[(500,some (.row true 34 true EZ L)),(501,some (.row true 34 true EZ out))]⟩
abbrev nH:KP:=⟨[4,5,6,7,19,20,21],[500,501],[⟨.tmp 6,500,34,true,EZ⟩,⟨.tmp 7,501,34,true,EZ⟩]⟩
def o4 (p:Int) (f:Nat→DG):DG:=cond (decide (p=ic 0)) (f 0) (cond (decide (p=ic 1)) (f 1) (cond (decide (p=ic 2)) (f 2) (cond (decide (p=ic 3)) (f 3) (cond (decide (p=ic 4)) (f 4) none))))
def J4 (n:Nat):Int:=AA AB (ic (n - 0) - 1)
def pX (L:LI) (n:Nat):IV:=L.getD (0+(J4 n).toNat) default
noncomputable abbrev g9 (N:Nat):Out→St→DG:=DI 0 (DJ (WQ N) (DD W4 [1,1,1,1,1]) (DL (WQ N) none [.tmp 4,.tmp 5] [[.list true EZ],[.bool]]))
theorem zbX (N:Nat) (l:LI) (b:Bx):DQ (WQ N) W4 [.tmp 4,.tmp 5] [[.list true EZ],[.bool]] [b.V,.list true ES l] =
 cond (!decide (JO l > 0)) (some (.tup [.list true EZ [],.bool false],[])) (DR (WQ N) (DD W4 [1,1,1,1,0,1,0,0]) nH N (P5 l [b.I] 1 [] 0 0) (g9 N)):=by kernel_rfl
theorem Th (N:Nat) (l L out:LI) (n m:Nat) (i:Int):g9 N (.exit 0) (P5 l L n out m i)=some (.tup [.list true EZ (AK m out),.bool true],[]):=by kernel_rfl
theorem xU (N:Nat) (l L out:LI) (n m:Nat) (i:Int):g9 N .ret (P5 l L n out m i)=some (.tup [.list true EZ [],.bool false],[]):=by kernel_rfl
theorem Ih (N:Nat) (l L out:LI) (n m:Nat) (i:Int) (again:St→DG) (k:Out→St→DG):E4 (WQ N) (DD W4 [1,1,1,1,0,1,0,0]) (P5 l L n out m i) (EH again nH k) =
 cond (decide (i < ic l.length)) (cond (decide (0≤i)&&decide (i < ic l.length)) (cond (decide (0≤J4 n)&&decide (J4 n < ic (n - 0))) (cond (decide (0≤J4 n)&&decide (J4 n≤ic (n - 0)))
 (cond (H5 (l.getD i.toNat default)) (cond (decide ((m+1)*80≤D1)) (again (P5 l L (0+(J4 n).toNat) (out.take m++[(DN (pX L n)).I]) (m+1) (FC (i+1)))) none)
 (o4 (E8 (l.getD i.toNat default)) fun j=>cond (decide (FR (l.getD i.toNat default) < cI (pX L n) (2*j))) (k .ret (P5 l L (0+(J4 n).toNat) out m i))
 (o4 (E8 (l.getD i.toNat default)) fun j=>cond (decide (FR (l.getD i.toNat default)≥cI (pX L n) (2*j+1))) (k .ret (P5 l L (0+(J4 n).toNat) out m i))
 (cond (GT (E8 (l.getD i.toNat default))) (cond (decide ((0+(J4 n).toNat+2)*80≤D1))
 (again (P5 l (L.take (0+(J4 n).toNat)++[((DN (pX L n)).cutH (E8 (l.getD i.toNat default)) (FR (l.getD i.toNat default))).I,((DN (pX L n)).cutL (E8 (l.getD i.toNat default)) (FR (l.getD i.toNat default))).I]) (0+(J4 n).toNat+2) out m (FC (i+1)))) none) none)))) none) none) none)
 (k (.exit 0) (P5 l L n out m i)):=by kernel_rfl
theorem Cl {p:Int} {a:Nat} (h:p=(a:Int)) (ha:a < 5) (f:Nat→DG):o4 p f=f a:=by
 subst h
 match a,ha with
 | 0,_=>rfl
 | 1,_=>rfl
 | 2,_=>rfl
 | 3,_=>rfl
 | 4,_=>rfl
 | n+5,h=>omega
theorem Pd (x:IV):∀ {a:Nat},a < 5→(DN x).g a=⟨cI x (2*a),cI x (2*a+1)⟩
 | 0,_=>rfl
 | 1,_=>rfl
 | 2,_=>rfl
 | 3,_=>rfl
 | 4,_=>rfl
 | n+5,h=>by omega
def o8 (o:Option (List IV × LI)):DG:=match o with
 | some lo=>some (.tup [.list true EZ lo.2,.bool true],[])
 | none=>some (.tup [.list true EZ [],.bool false],[])
theorem pA (N:Nat) (l:LI) (hl:l.length≤65536):∀ (d c i:Nat) (L:LI) (n:Nat) (out:LI) (most:Int) (st:Int × Int),i+d=l.length→d < c→n≤L.length→n≤i+1→out.length≤i→JP (l.drop i) (ic n,most)=some st →
  DR (WQ N) (DD W4 [1,1,1,1,0,1,0,0]) nH c (P5 l L n out out.length (i:Int)) (g9 N)=o8 (H9 (l.drop i) (L.take n,out))
 | d,0,_,_,_,_,_,_,_,h,_,_,_,_=>absurd h (by omega)
 | 0,c+1,i,L,n,out,most,st,hd,_,_,_,_,_=>by
  rw [DY,Ih,IW (by omega),DC,C4 (by omega),Th,BD];rfl
 | d+1,c+1,i,L,n,out,most,st,hd,hc,hn,hn2,ho,hdp=>by
  have hi:i < l.length:=by omega
  rw [A7 hi,JP] at hdp;rw [DY,Ih,IG hi,DB,IF,BH,DB,I9 hi,A7 hi,H9];have ei:FC ((i:Int)+1)=((i+1:Nat):Int):=GV (by omega);rw [ei];generalize l[i]=x at hdp ⊢;cases h1:MG (ic n,most) x with
  | none=>rw [h1] at hdp; cases hdp
  | some s1=>
   rw [h1] at hdp;obtain ⟨hne,hr,hcase⟩:=mE h1;obtain ⟨j,rfl⟩:∃ j,n=j+1:=⟨n - 1,by simp only [ic] at hne; omega⟩;have hlen:(L.take (j+1)).length=j+1:=by rw [A8]; omega
   have htop:EP (L.take (j+1))=L.getD j default:=by
    unfold EP;rw [hlen,BO,BO,CJ,BJ (by omega)];rfl
   have hpop:FB (L.take (j+1))=L.take j:=by
    unfold FB;rw [hlen,List.take_take];congr 1;omega
   have ew:J4 (j+1)=(j:Int):=by
    unfold J4;rw [show ic (j+1 - 0) - 1=(j:Int) by simp only [ic]; omega];exact EA (by omega) (by omega)
   have ej:0+(J4 (j+1)).toNat=j:=by rw [ew]; omega
   have ex:pX L (j+1)=EP (L.take (j+1)):=by unfold pX; rw [ej,htop]
   have i2:(decide (0≤J4 (j+1))&&decide (J4 (j+1) < ic (j+1 - 0)))=true:=by rw [ew,AF (by omega),AF (by simp only [ic]; omega)]; rfl
   have i3:(decide (0≤J4 (j+1))&&decide (J4 (j+1)≤ic (j+1 - 0)))=true:=by rw [ew,AF (by omega),AF (by simp only [ic]; omega)]; rfl
   have et:DM (L.take (j+1))=DN (EP (L.take (j+1))):=rfl;rw [i2,DB,i3,DB,ej,ex];unfold MQ;simp only [hpop,et];generalize EP (L.take (j+1))=y;rcases hcase with ⟨hs,rfl⟩ | ⟨hs,rfl⟩
   ·rw [hs,DB,DB,AF (show (out.length+1)*80≤D1 by unfold D1; omega),DB,BD]
    have:=pA N l hl d c (i+1) L j (out++[(DN y).I]) most st (by omega) (by omega) (by omega) (by omega) (by simp only [AR,AM,A6]; omega) (by rw [show ic j=ic (j+1) - 1 by simp only [ic]; omega]; exact hdp)
    rw [show (out++[(DN y).I]).length=out.length+1 by simp] at this;exact this
   ·have hpl:=pQ hr hs;obtain ⟨a,ha⟩:∃ a:Nat,E8 x=(a:Int):=⟨(E8 x).toNat,by omega⟩;have ha5:a < 5:=by omega
    rw [hs,DC,DC,Cl ha ha5,Cl ha ha5];have eg:=Pd y ha5;rw [show (E8 x).toNat=a by omega,eg];show cond (decide (FR x < cI y (2*a))) _ _=o8 (match cond (decide (FR x < cI y (2*a))||decide (FR x≥cI y (2*a+1))) none _ with | some st'=>H9 (l.drop (i+1)) st' | none=>none);cases decide (FR x < cI y (2*a)) with
    | true=>rw [DB,xU,Bool.true_or,DB]; rfl
    | false=>
     rw [DC,vav];cases decide (FR x≥cI y (2*a+1)) with
     | true=>rw [DB,xU,DB]; rfl
     | false=>
      have hin:GT (E8 x)=true:=by unfold GT; rw [AF hpl.1,AF (by omega)]; rfl
      rw [DC,DC,hin,DB,AF (show (j+2)*80≤D1 by unfold D1; omega),DB];have e2:∀ v1 v2:IV,(L.take j++[v1,v2]).take (j+2)=L.take j++[v1,v2]:=fun v1 v2=>CW (by simp only [AR,A8,AM,A6]; omega)
      have:=pA N l hl d c (i+1) (L.take j++[((DN y).cutH (E8 x) (FR x)).I,((DN y).cutL (E8 x) (FR x)).I]) (j+2) out (max most (ic (j+1)+1)) st (by omega) (by omega) (by simp only [AR,A8,AM,A6]; omega) (by omega) (by omega) (by rw [show ic (j+2)=ic (j+1)+1 by simp only [ic]; omega]; exact hdp)
      rw [e2] at this;exact this
theorem ze8:DO PR B0 42 aK:=by
 refine DX [(61,OB),(70,aJ)] [(6,⟨[4,5,6,7,19,20,21],[500,501],[⟨.tmp 6,500,34,true,EZ⟩,⟨.tmp 7,501,34,true,EZ⟩]⟩)] aK [[.list true [.z,.z,.z,.z,.z,.z,.z,.z,.z,.z]],[.bool]] Tryz.func42 Xx ⟨jJ,ze7,trivial⟩ ?_;intro vs r hwf h;unfold aK at h;split at h
 ·rename_i b l;replace h:=HK h;obtain ⟨b,rfl,h⟩:=h;rw [R.get_br] at h;refine ⟨l.length+1,(zbX (l.length+1) l b).trans ?_⟩;cases hd:decide (JO l > 0) with
  | false=>
   have e:JC b l=none:=by unfold JC; rw [hd,DC]
   rw [e] at h;rw [A9,DB];exact h
  | true=>
   obtain ⟨st,hst⟩:=mC (AY hd);have hl:l.length≤65536:=by
    have:=AY hd
    unfold JO at this;by_cases hc:ic l.length > 65536
    ·rw [AF hc,DB] at this; omega
    ·simp only [ic] at hc; omega
   have run:=pA (l.length+1) l hl l.length (l.length+1) 0 [b.I] 1 [] 1 st (by omega) (by omega) (AT _) (by omega) (AT _) hst;rw [B1] at run;have e:JC b l=(H9 l ([b.I],[])).map (·.2):=by unfold JC; rw [hd,DB]
   rw [A1,DC];refine Eq.trans run ?_;show o8 (H9 l ([b.I],[]))=_;rw [e] at h;cases hp:H9 l ([b.I],[]) with
   | none=>rw [hp] at h; exact h
   | some lo=>rw [hp] at h; exact h
 ·simp [R.get] at h
open Go Go.Proofs
theorem lN (N:Nat) (ts:LI) (b:Bx) (k:Int) (hts:ts.length≤8) (hT:∀ t∈ts,FY (EJ t) 4=true) (hb:FJ b=true):∀ (m i n:Nat) (lo hi:Int),i+m=ts.length→m < n→(-2147483648*(i+1)≤lo∧lo≤2147483648*(i+1))→(-2147483648*(i+1)≤hi∧hi≤2147483648*(i+1)) →
  DR (GG N) (DD HZ [1,1,1,0,1,0,0]) ⟨[1,5,6,7,8,9,40,41,42],[5],[]⟩ n ⟨[(1,(.int .i64 k)),(5,(.ptr 5 0 0)),(6,(.int .i64 0)),(7,(.int .i64 0)),(8,(.int .i64 lo)),(9,(.int .i64 hi)),(40,(.list true K9 ts)),(41,(.int .i64 (ic ts.length))),(42,(.int .i64 (i:Int)))],[(5,(some (.box (Bx.cs b))))]⟩ (DI 0 (DJ (GG N) (DD HZ [1,1,1,1]) (DL (GG N) none [(BV 6),(BV 7)] [[.z],[.z]]))) =
   some (.tup [.int .i64 (F7 (fun l=>GY l b) k (ts.drop i) lo),.int .i64 (F7 (fun l=>GW l b) k (ts.drop i) hi)],[])
 | m,i,0,_,_,_,h,_,_=>absurd h (by omega)
 | 0,i,n+1,lo,hi,hd,_,_,_=>by
  have hlt:i=ts.length:=by omega
  subst hlt;rw [DY,Hk,IW (AT _),DC,CX];exact Sb N b _ _ _ _ _ _ _ _
 | m+1,i,n+1,lo,hi,hd,hn,h1,h2=>by
  have hlt:i < ts.length:=by omega
  have ei:AA AB ((i:Int)+1)=((i+1:Nat):Int):=GV (by omega);rw [DY,Hk,ei,IG hlt,DB,IF,BH,DB,I9 hlt,A7 hlt,F7,F7];obtain ⟨q1,q2⟩:=j3 (EJ ts[i]) b;have q1:=J5 q1;have q2:=J5 q2;have hti:FY (IV.toList (IV.cell ts[i] 1)) 4=true:=hT _ (vaa hlt);cases ((ts[i].cell 0).toInt==k) with
  | true=>
   rw [DB,DB,DB,hti,hb,BH,DB];have ew:AA AB (lo+GY (EJ ts[i]) b)=lo+GY (EJ ts[i]) b:=EA (by omega) (by omega);have ew2:AA AB (hi+GW (EJ ts[i]) b)=hi+GW (EJ ts[i]) b:=EA (by omega) (by omega);have ih:=lN N ts b k hts hT hb m (i+1) n (lo+GY (EJ ts[i]) b) (hi+GW (EJ ts[i]) b) (by omega) (by omega) (by omega) (by omega);rw [← ew,← ew2] at ih;refine Eq.trans ih ?_;rw [ew,ew2]
  | false=>
   rw [DC,DC,DC];exact lN N ts b k hts hT hb m (i+1) n lo hi (by omega) (by omega) (by omega) (by omega)
theorem zet:DO PR B0 71 ZL:=by
 refine DX [(31,JH),(108,ZM),(20,LM)] [(5,⟨[1,5,6,7,8,9,40,41,42],[5],[]⟩)] ZL [[.z],[.z]] Tryz.func71 Vu ⟨S5,zeu,YE,trivial⟩ ?_;intro vs r hwf h;unfold ZL at h;split at h
 ·rename_i m k b;replace h:=IN h;obtain ⟨m,rfl,h⟩:=h;replace h:=HK h;obtain ⟨b,rfl,h⟩:=h;cases hg:(b.emp||FJ b) with
  | false=>rw [hg] at h; simp [R.get] at h
  | true=>
  rw [hg,R.get_br,DB,R.get_ok] at h;refine ⟨10,?_⟩;rw [← h];refine (za3 10 m k b).trans ?_;unfold DZ DW E9;cases hm:EQ m with
  | false=>rfl
  | true=>
   rw [A1,DC];cases h0:decide (k < 0) with
   | true=>
    have:GR m k=false:=by unfold GR; rw [AL (show ¬ 0≤k by have:=AY h0; omega)]; rfl
    rw [this];rfl
   | false=>
    rw [DC];cases h1:decide (k≥m.c) with
    | true=>
     have:GR m k=false:=by unfold GR; rw [AL (show ¬ k < m.c by have:=AY h1; omega),vax]
     rw [this];rfl
    | false=>
     have hc:GR m k=true:=by unfold GR; rw [AF (show 0≤k by have:=BE h0; omega),AF (show k < m.c by have:=BE h1; omega)]; rfl
     rw [DC,hc];cases he:b.emp with
     | true=>rfl
     | false=>
      rw [he,vav] at hg;have hb:=fI hm k;have run:=lN 10 m.ts b k (IY hm).2.2.1 (fun t ht=>TA hm ht) hg m.ts.length 0 10 (G0 m k) (G0 m k) (by omega) (by have:=(IY hm).2.2.1; omega) (by omega) (by omega);rw [DC];rcases lQ hm hc with rfl | rfl | rfl <;> exact run
 ·simp [R.get] at h
theorem p7 (N:Nat) (m:Md) (q:Qy) (b:Bx) (hb:(b.emp||FJ b)=true):∀ (d i n:Nat),((i+d:Nat):Int)=m.c→d < n→m.c < 1000 →
  DR (KV N) (DD M0 [1,1,1,0,1,0,1,1,1,0,0,1,0,0]) ⟨[3,4,5,6,7,42,43],[3,4,5],[]⟩ n ⟨[(3,(.ptr 3 0 0)),(4,(.ptr 4 0 0)),(5,(.ptr 5 0 0)),(6,(.bool false)),(7,(.int .i64 (DZ m q.c b))),(42,(.int .i64 m.c)),(43,(.int .i64 (i:Int)))],[(3,(some (.box (Md.cs m)))),(4,(some (.box (Qy.cs q)))),(5,(some (.box (Bx.cs b))))]⟩ (DI 1 (DJ (KV N) (DD M0 [1,1,1,0,1,0,1,1,1,0,1]) (DI 0 (DJ (KV N) (DD M0 [1,1,1,1]) (DL (KV N) none [(BV 6)] [[.bool]])))))=some (.bool (UV m q b d i),[])
 | d,i,0,_,h,_=>absurd h (by omega)
 | 0,i,n+1,hd,_,_=>by
  rw [DY,Hl,AL (show ¬ (i:Int) < m.c by omega),DC];exact Sc N m q b _ _ _ _
 | d+1,i,n+1,hd,hn,hc=>by
  have ei:AA AB ((i:Int)+1)=((i+1:Nat):Int):=GV (by omega);rw [DY,Hl,ei,AF (show (i:Int) < m.c by omega),DB,hb,DB,UV];have en:((i:Int) != q.c)=!((i:Int)==q.c):=rfl;rw [en];cases ((i:Int)==q.c) with
  | true=>
   rw [A1,DC,BX,DC];exact p7 N m q b hb d (i+1) n (by omega) (by omega) hc
  | false=>
   rw [A9,DB,BG];cases decide (DW m (i:Int) b≥DZ m q.c b) with
   | true=>
    rw [DB,DB];exact Sd N m q b _ _ _ _
   | false=>
    rw [DC,DC];exact p7 N m q b hb d (i+1) n (by omega) (by omega) hc
theorem zev:DO PR B0 43 ZN:=by
 refine DX [(31,JH),(71,ZL)] [(9,⟨[3,4,5,6,7,42,43],[3,4,5],[]⟩)] ZN [[.bool]] Tryz.func43 Vw ⟨S5,zet,trivial⟩ ?_;intro vs r hwf h;unfold ZN at h;split at h
 ·rename_i m q b;replace h:=IN h;obtain ⟨m,rfl,h⟩:=h;replace h:=I3 h;obtain ⟨q,rfl,h⟩:=h;replace h:=HK h;obtain ⟨b,rfl,h⟩:=h;cases hg:(EU m q&&(b.emp||FJ b)) with
  | false=>rw [hg] at h; simp [R.get] at h
  | true=>
  rw [hg,R.get_br,DB,R.get_ok] at h;rw [AG] at hg;obtain ⟨hr,hb⟩:=hg;have hb':b.emp=true∨b.good:=by
   rw [vaT] at hb;exact hb.imp id XL.1
  refine ⟨1000,?_⟩;rw [← h,← zd9 hr hb'];refine (za4 1000 m q b).trans ?_;obtain ⟨hm,_,_,_,hk⟩:=V0 hr;unfold pZ;cases he:b.emp with
  | true=>rfl
  | false=>
   have hgd:FJ b=true:=by rw [he,vav] at hb; exact hb
   rw [DC,DC,hgd,vav,DB];rcases cE hk with ⟨e,_⟩ | ⟨e,h2,_⟩ | ⟨e,hf,_⟩
   ·rw [e];show cond (decide (q.lo≤DZ m q.c b)) (some (V.bool (decide (DW m q.c b≤q.hi)),[])) (some (V.bool false,[]))=some (V.bool (decide (q.lo≤DZ m q.c b)&&decide (DW m q.c b≤q.hi)),[]);cases decide (q.lo≤DZ m q.c b) <;> rfl
   ·rw [e];have hc:=(IY hm).2.1;exact p7 1000 m q b (by rw [he,hgd]; rfl) m.c.toNat 0 1000 (by omega) (by omega) (by omega)
   ·rw [e];have hp:=iV hm e hf;have hg2:FJ (KB q b)=true:=XL.2 (Q9 (XL.1 hgd) ((XL.1 hgd) 4 (by omega)) (by rcases OU hp with e | e | e | e <;> rw [e] <;> decide));have fin:(cond (decide ((b.g q.ft.toNat).lo≥b.s4.hi)) (some (V.bool true,[])) (cond ((KB q b).emp||FJ (KB q b)) (cond q.fl (some (V.bool (decide (DW m q.c (KB q b)≤DZ m q.c b)),[])) (some (V.bool (decide (DZ m q.c (KB q b)≥DW m q.c b)),[]))) none):DG) =
      some (V.bool (cond (decide ((b.g q.ft.toNat).lo≥b.s4.hi)) true (cond q.fl (decide (DW m q.c (KB q b)≤DZ m q.c b)) (decide (DZ m q.c (KB q b)≥DW m q.c b)))),[]):=by
     rw [hg2,Bool.or_true,DB];cases decide ((b.g q.ft.toNat).lo≥b.s4.hi) <;> cases q.fl <;> rfl
    refine Eq.trans ?_ fin;unfold KB;rcases OU hp with e | e | e | e <;> rw [e] <;> rfl
 ·simp [R.get] at h
theorem Cu (N:Nat) (m:Md) (q:Qy) (hr:EU m q=true) (l:LI) (hl:l.length < 100000) (hg:∀ y∈l,(DN y).good):∀ (d i n:Nat),i+d=l.length→d < n →
  DR (I5 N) (DD K0 [1,1,1,0,1,0,1,0,1,0,1,0,0]) ⟨[3,4,6,9,29,30,31],[3,4],[]⟩ n ⟨[(3,(.ptr 3 0 0)),(4,(.ptr 4 0 0)),(6,(.bool false)),(9,(.bool true)),(29,(.list true EZ l)),(30,(.int .i64 (ic l.length))),(31,(.int .i64 (i:Int)))],[(3,(some (.box (Md.cs m)))),(4,(some (.box (Qy.cs q))))]⟩ (DI 1 (DJ (I5 N) (DD K0 [1,1,1,0,1,0,1,0,1,1]) (DI 0 (DJ (I5 N) (DD K0 [1,1,1,1]) (DL (I5 N) none [(BV 6)] [[.bool]]))))) =
   some (.bool ((l.drop i).all fun x=>FS m q (DN x)),[])
 | d,i,0,_,h=>absurd h (by omega)
 | 0,i,n+1,hd,_=>by
  rw [DY,qN,IW (by omega),DC,C4 (by omega)];exact xT N m q _ _ l _ _
 | d+1,i,n+1,hd,hn=>by
  have hi:i < l.length:=by omega
  have hgi:=hg _ (vaa hi);rw [DY,qN,IG hi,DB,IF,BH,DB,GV (by omega),I9 hi,A7 hi,List.all_cons,hr,XL.2 hgi,Bool.or_true,BH,DB];cases FS m q (DN l[i]) with
  | false=>
   rw [A9,DB];exact Sa N m q _ _ l _ _
  | true=>
   rw [A1,DC,BG];exact Cu N m q hr l hl hg d (i+1) n (by omega) (by omega)
theorem zds {b:Bx} {l outs:LI} (h:JC b l=some outs):outs.length≤65536:=by
 have key:∀ {l:LI} {st lo:LI × LI},H9 l st=some lo→lo.2.length≤st.2.length+l.length:=by
  intro l
  induction l with
  | nil=>intro st lo h; obtain rfl:=CI h; exact AT _
  | cons x l ih=>
   intro st lo h;rw [H9] at h;cases h1:MQ st x with
   | none=>rw [h1] at h; cases h
   | some s1=>
    rw [h1] at h
    have:=ih h
    have h2:s1.2.length≤st.2.length+1:=by
     unfold MQ at h1;cases hs:H5 x with
     | true=>rw [hs] at h1; obtain rfl:=CI h1; simp
     | false=>
      rw [hs,DC] at h1;cases hc:(decide (FR x < ((DM st.1).g (E8 x).toNat).lo)||decide (FR x≥((DM st.1).g (E8 x).toNat).hi)) with
      | true=>rw [hc] at h1; cases h1
      | false=>rw [hc] at h1; obtain rfl:=CI h1; exact Nat.le_succ _
    simp only [AM];omega
 unfold JC at h;cases hd:decide (JO l > 0) with
 | false=>rw [hd,DC] at h; cases h
 | true=>
  rw [hd,DB] at h;have hl:l.length≤65536:=by
   have:=AY hd
   unfold JO at this;by_cases hc:ic l.length > 65536
   ·rw [AF hc,DB] at this; omega
   ·simp only [ic] at hc; omega
  cases hp:H9 l ([b.I],[]) with
  | none=>rw [hp] at h; cases h
  | some lo=>
   rw [hp] at h;obtain rfl:=CI h
   have:=key hp
   simp only [A6] at this;show lo.2.length≤65536;omega
theorem Fj:DO PR B0 23 T2:=by
 refine DX [(44,ZE),(43,ZN),(42,aK),(45,UE),(41,MX),(27,QM)] [(8,⟨[3,4,6,9,29,30,31],[3,4],[]⟩)] T2 [[.bool]] Tryz.func23 Vt ⟨zem,zev,ze8,Gb,dO,qC,trivial⟩ ?_;intro vs r hwf h;unfold T2 at h;split at h
 ·rename_i m q v;replace h:=IN h;obtain ⟨m,rfl,h⟩:=h;replace h:=I3 h;obtain ⟨q,rfl,h⟩:=h;replace h:=zgn h;obtain ⟨v,rfl,h⟩:=h;rw [R.get_ok] at h;refine ⟨70000,?_⟩;rw [← h];refine (za2 70000 m q v).trans ?_;unfold LX;cases hr:EU m q with
  | false=>rfl
  | true=>
   rw [A1,DC,BG];cases v.kind==1 with
   | true=>
    rw [DB,DB];cases hp:JC (EE q) v.proof with
    | none=>
     show cond false _ _=_;rw [DC,DY,qN];exact xT 70000 m q _ _ [] _ _
    | some l=>
     show cond true _ _=_;rw [DB];have hl:=zds hp
     have:=Cu 70000 m q hr l (by omega) (Cv (YI hr) hp) l.length 0 70000 (by omega) (by omega)
     rw [B1] at this;exact this
   | false=>
    rw [DC,DC];cases v.kind==2 with
    | false=>rfl
    | true=>
     rw [DB,DB];show cond ((EE q).has v.p v.twin) (some (V.bool (FO m q v.p v.twin),[])) (some (V.bool false,[]))=some (V.bool ((EE q).has v.p v.twin&&FO m q v.p v.twin),[]);cases (EE q).has v.p v.twin <;> rfl
 ·simp [R.get] at h
open Go Go.Proofs
def O9 (N:Nat):Env:=DV [] [(4,⟨[2,13,14,15],[],[]⟩)] 37 N
abbrev NG (b2:Bool) (l13:LI) (x14 x15:Int):St:=⟨[(2,(.bool b2)),(13,(.list true [.bool,.z,.z] l13)),(14,(.i x14)),(15,(.i x15))],[]⟩
theorem za1 (N:Nat) (l:LI):DQ (O9 N) R8 [.tmp 2] [[.bool]] [.list true [.bool,.z,.z] l]=(cond (decide (ic (AE l) < 1)) (some ((.bool false),[])) (cond (decide (ic (AE l) > 65536)) (some ((.bool false),[])) (DR (O9 N) (DD R8 [1,1,0,1,0,0]) ⟨[2,13,14,15],[],[]⟩ N (NG false l (ic (AE l)) 0) (DI 0 (DJ (O9 N) (DD R8 [1,1,1]) (DL (O9 N) none [.tmp 2] [[.bool]])))))):=by kernel_rfl
theorem Hj (N:Nat) (b2:Bool) (l13:LI) (x14 x15:Int) (again:St→DG) (k:Out→St→DG):E4 (O9 N) (DD R8 [1,1,0,1,0,0]) (NG b2 l13 x14 x15) (EH again ⟨[2,13,14,15],[],[]⟩ k)=(cond (decide (x15 < x14)) (cond (decide (0≤x15)&&decide (x15 < ic (AE l13))) (cond (IV.toBool (IV.cell (AI l13 (AD x15) default) 0)) (cond (! (IV.toBool (IV.cell (AI l13 (AD x15) default) 0)==true&&(IV.toInt (IV.cell (AI l13 (AD x15) default) 1)==0&&(IV.toInt (IV.cell (AI l13 (AD x15) default) 2)==0&&true)))) (k .ret (NG false l13 x14 x15)) (cond (decide (IV.toInt (IV.cell (AI l13 (AD x15) default) 1) < 0)) (k .ret (NG false l13 x14 x15)) (cond (decide (IV.toInt (IV.cell (AI l13 (AD x15) default) 1) > 4)) (k .ret (NG false l13 x14 x15)) (again (NG b2 l13 x14 (AA AB (x15+1))))))) (cond (decide (IV.toInt (IV.cell (AI l13 (AD x15) default) 1) < 0)) (k .ret (NG false l13 x14 x15)) (cond (decide (IV.toInt (IV.cell (AI l13 (AD x15) default) 1) > 4)) (k .ret (NG false l13 x14 x15)) (again (NG b2 l13 x14 (AA AB (x15+1))))))) none) (k (.exit 0) (NG b2 l13 x14 x15))):=by kernel_rfl
theorem Ry (N:Nat) (b2:Bool) (l13:LI) (x14 x15:Int):(DI 0 (DJ (O9 N) (DD R8 [1,1,1]) (DL (O9 N) none [.tmp 2] [[.bool]]))) (.exit 0) (NG b2 l13 x14 x15)=(some ((.bool true),[])):=by kernel_rfl
theorem Rz (N:Nat) (b2:Bool) (l13:LI) (x14 x15:Int):(DI 0 (DJ (O9 N) (DD R8 [1,1,1]) (DL (O9 N) none [.tmp 2] [[.bool]]))) .ret (NG b2 l13 x14 x15)=(some ((.bool b2),[])):=by kernel_rfl
def Lc (N:Nat):Env:=DV [(115,ZK)] [] 47 N
theorem zaZ (N:Nat) (u00:Int) (u01:LI) (u04 u05 u06 u07 u03 u02:Int):DQ (Lc N) tT [.tmp 2] [[.bool]] [.agg [.i u00,.list true [.bool,.z,.z] u01,.i u04,.i u05,.i u06,.i u07,.i u03,.i u02]]=(cond (decide (u02 < 0)) (some ((.bool false),[])) (cond (decide (u02 > 65536)) (some ((.bool false),[])) (cond (u04==0&&(u05==0&&(u06==0&&(u07==0&&true)))) (cond (u00==1) (cond (u03==0) (some ((.bool (YJ u01)),[])) (some ((.bool false),[]))) (cond (u00==2) (some ((.bool (ic (AE u01)==0)),[])) (cond (u00==3) (cond (u03==0) (some ((.bool (ic (AE u01)==0)),[])) (some ((.bool false),[]))) (cond (u00==4) (cond (u03==0) (some ((.bool (ic (AE u01)==0)),[])) (some ((.bool false),[]))) (some ((.bool false),[])))))) (cond (u00==1) (some ((.bool false),[])) (cond (u00==2) (some ((.bool (ic (AE u01)==0)),[])) (cond (u00==3) (some ((.bool false),[])) (cond (u00==4) (some ((.bool false),[])) (some ((.bool false),[]))))))))):=by kernel_rfl
def RQ (N:Nat):Env:=DV [(49,PE),(87,WT),(48,RZ)] [(2,⟨[0,11,12,13],[900000],[]⟩)] 26 N
abbrev YX (l11:LI) (x12 x13:Int) (u00:BA):St:=⟨[(0,(.ptr 900000 0 0)),(11,(.list false [.z] l11)),(12,(.i x12)),(13,(.i x13))],[(900000,(some (.bld u00)))]⟩
theorem za0 (N:Nat) (b word:BA) (l:LI):DQ (RQ N) UX [] [] [.bor [.bld b],.str word,.list false [.z] l]=(cond (decide (AH b+AH word≤strMax)) (DR (RQ N) (DD UX [1,0,1,0,0]) ⟨[0,11,12,13],[900000],[]⟩ N (YX l (ic (AE l)) 0 (b++word)) (DI 0 (DJ (RQ N) (DD UX [1,1]) (DL (RQ N) (some [.bld b]) [] [])))) none):=by kernel_rfl
theorem Hi (N:Nat) (l11:LI) (x12 x13:Int) (u00:BA) (again:St→DG) (k:Out→St→DG):E4 (RQ N) (DD UX [1,0,1,0,0]) (YX l11 x12 x13 u00) (EH again ⟨[0,11,12,13],[900000],[]⟩ k)=(cond (decide (x13 < x12)) (cond (decide (0≤x13)&&decide (x13 < ic (AE l11))) (cond (decide (AH u00+1≤strMax)) (cond (decide (AH (ByteArray.push u00 (MA 32))+AH (DP (IV.toInt (AI l11 (AD x13) default)))≤strMax)) (again (YX l11 x12 (AA AB (x13+1)) (ByteArray.push u00 (MA 32)++DP (IV.toInt (AI l11 (AD x13) default))))) none) none) none) (k (.exit 0) (YX l11 x12 x13 u00))):=by kernel_rfl
theorem Rx (N:Nat) (b:BA) (l11:LI) (x12 x13:Int) (u00:BA):(DI 0 (DJ (RQ N) (DD UX [1,1]) (DL (RQ N) (some [.bld b]) [] []))) (.exit 0) (YX l11 x12 x13 u00)=(cond (decide (AH u00+1≤strMax)) (some ((.tup []),[[.bld (ByteArray.push u00 (MA 10))]])) none):=by kernel_rfl
open Go Go.Proofs
theorem Iv (N:Nat) (l:LI) (K:Out→St→DG) (hl:l.length≤65536)
  (hx:∀ b2 x14 x15,K (.exit 0) ⟨[(2,(.bool b2)),(13,(.list true [.bool,.z,.z] l)),(14,(.int .i64 x14)),(15,(.int .i64 x15))],[]⟩=some (.bool true,[]))
  (hr:∀ b2 x14 x15,K .ret ⟨[(2,(.bool b2)),(13,(.list true [.bool,.z,.z] l)),(14,(.int .i64 x14)),(15,(.int .i64 x15))],[]⟩=some (.bool b2,[])) :
  ∀ (d i n:Nat),i+d=l.length→d < n→DR (O9 N) (DD R8 [1,1,0,1,0,0]) ⟨[2,13,14,15],[],[]⟩ n ⟨[(2,(.bool false)),(13,(.list true [.bool,.z,.z] l)),(14,(.int .i64 (ic l.length))),(15,(.int .i64 (i:Int)))],[]⟩ K=some (.bool ((l.drop i).all jV),[])
 | 0,i,n+1,hd,_=>by
  rw [DY,Hj];rw [IW (by omega),C4 (by omega)];simp only [CG,List.all_nil];exact hx ..
 | d+1,i,n+1,hd,hn=>by
  rw [DY,Hj];have hi:i < l.length:=by omega
  rw [IG hi,IF,GV (by omega),I9 hi,A7 hi,List.all_cons];generalize l[i]=x;have ih:=Iv N l K hl hx hr d (i+1) n (by omega) (by omega);rw [ih];generalize (AQ (i+1) l).all jV=rest;unfold jV H5 E8 FR;simp only [CT,CR,l8,l9,R4];cases hs:IV.toBool (IV.cell x 0) <;> cases hp0:decide (IV.toInt (IV.cell x 1) < 0) <;> cases hp4:decide (4 < IV.toInt (IV.cell x 1)) <;> cases hz:decide (IV.toInt (IV.cell x 1)=0) <;> cases ha:decide (IV.toInt (IV.cell x 2)=0) <;>
   (simp only [CT,CG,A1,A9,CR,vax,BG,BX,vbC,hr]
    try rfl)
 | 0,_,0,_,h=>by omega
 | _+1,_,0,_,h=>by omega
theorem zes:DO PR B0 115 ZK:=by
 refine DX [] [(4,⟨[2,13,14,15],[],[]⟩)] ZK [[.bool]] Tryz.func115 Vs trivial ?_;intro vs r hwf h;unfold ZK at h;split at h
 ·rename_i l;refine ⟨l.length+1,?_⟩;rw [← h];refine (za1 (l.length+1) l).trans ?_;simp only [R.get_ok];unfold YJ;by_cases h1:l.length < 1
  ·have e1:decide (ic l.length < 1)=true:=AF (by show ((l.length:Nat):Int) < 1; omega);have e2:decide (1≤l.length)=false:=AL (by omega);rw [e1,e2]; rfl
  ·have e1:decide (ic l.length < 1)=false:=AL (by show ¬ ((l.length:Nat):Int) < 1; omega);have e2:decide (1≤l.length)=true:=AF (by omega);rw [e1,e2];simp only [CG,BG];by_cases h3:l.length≤65536
   ·have e3:decide (ic l.length > 65536)=false:=AL (by show ¬ ((l.length:Nat):Int) > 65536; omega);have e4:decide (l.length≤65536)=true:=AF h3;rw [e3,e4];simp only [CG,BG]
    have:=Iv (l.length+1) l _ h3 (fun b2 x14 x15=>Ry (l.length+1) b2 l x14 x15) (fun b2 x14 x15=>Rz (l.length+1) b2 l x14 x15) l.length 0 (l.length+1) (by omega) (by omega)
    rw [B1] at this;exact this
   ·have e3:decide (ic l.length > 65536)=true:=AF (by show ((l.length:Nat):Int) > 65536; omega);have e4:decide (l.length≤65536)=false:=AL h3;rw [e3,e4]; rfl
 ·simp [R.get] at h
theorem zao (l:LI):(ic l.length==0)=l.isEmpty:=by
 cases l with
 | nil=>rfl
 | cons a l=>
  simp only [ic,List.isEmpty_cons,AM];rw [BZ];omega
theorem zeq:DO PR B0 83 ZI:=by
 refine DX [(115,ZK)] [] ZI [[.bool]] Tryz.func83 Vq ⟨zes,trivial⟩ ?_;intro vs r hwf h;unfold ZI at h;split at h
 ·rename_i k p a b c d t s;refine ⟨0,?_⟩;rw [← h];refine (zaZ 0 k p a b c d t s).trans ?_;simp only [R.get_ok,zao];unfold Vd.right Vd.bare;simp only [l8,l9,CR];generalize YJ p=sp;generalize p.isEmpty=pe;cases decide (s < 0) <;> cases decide (65536 < s) <;> simp only [CT,CG,A1,A9,BG,BX]
  by_cases k1:k=1
  ·subst k1;cases a==0 <;> cases b==0 <;> cases c==0 <;> cases d==0 <;> cases t==0 <;> cases sp <;> cases pe <;> rfl
  by_cases k2:k=2
  ·subst k2;cases a==0 <;> cases b==0 <;> cases c==0 <;> cases d==0 <;> cases t==0 <;> cases sp <;> cases pe <;> rfl
  by_cases k3:k=3
  ·subst k3;cases a==0 <;> cases b==0 <;> cases c==0 <;> cases d==0 <;> cases t==0 <;> cases sp <;> cases pe <;> rfl
  by_cases k4:k=4
  ·subst k4;cases a==0 <;> cases b==0 <;> cases c==0 <;> cases d==0 <;> cases t==0 <;> cases sp <;> cases pe <;> rfl
  simp only [BZ.2 k1,BZ.2 k2,BZ.2 k3,BZ.2 k4,CG,BX,Bool.or_false,Bool.cond_self]
 ·simp [R.get] at h
theorem iO:∀ (l:LI) (s:BA),s.size≤(P2 s l).size
 | [],s=>AT _
 | x :: l,s=>by
  simp only [P2];refine CE ?_ (iO l _);simp only [BI,vbj];omega
theorem zP (N:Nat) (l:LI) (K:Out→St→DG) (hl:l.length≤strMax) (z:DG)
  (hx:∀ s x12 x13,s=P2 s []→K (.exit 0) ⟨[(0,(.ptr 900000 0 0)),(11,(.list false [.z] l)),(12,(.int .i64 x12)),(13,(.int .i64 x13))],[(900000,(some (.bld s)))]⟩=cond (decide (s.size+1≤strMax)) (some (.tup [],[[.bld (s.push (MA 10))]])) none) :
  ∀ (d i n:Nat) (s:BA),i+d=l.length→d < n→(P2 s (l.drop i)).size≤strMax→DR (RQ N) (DD UX [1,0,1,0,0]) ⟨[0,11,12,13],[900000],[]⟩ n ⟨[(0,(.ptr 900000 0 0)),(11,(.list false [.z] l)),(12,(.int .i64 (ic l.length))),(13,(.int .i64 (i:Int)))],[(900000,(some (.bld s)))]⟩ K =
   cond (decide ((P2 s (l.drop i)).size+1≤strMax)) (some (.tup [],[[.bld ((P2 s (l.drop i)).push (MA 10))]])) none
 | 0,i,n+1,s,hd,_,_=>by
  rw [DY,Hi,IW (by omega),C4 (by omega)];simp only [CG,P2];exact hx s _ _ rfl
 | d+1,i,n+1,s,hd,hn,hs=>by
  have hi:i < l.length:=by omega
  unfold strMax at hl;rw [DY,Hi,IG hi,IF,GV (by omega),I9 hi];rw [A7 hi] at hs ⊢;simp only [P2] at hs ⊢;have e32:MA 32=32:=rfl;rw [e32];have hsz:=iO (l.drop (i+1)) (s.push 32++DP l[i].toInt);have h1:decide (s.size+1≤strMax)=true:=AF (by
   simp only [BI,vbj] at hsz;omega)
  have h2:decide ((s.push 32).size+(DP l[i].toInt).size≤strMax)=true:=AF (by
   simp only [BI] at hsz;omega)
  rw [h1,h2];simp only [CT,CR];exact zP N l K (by unfold strMax; omega) z hx d (i+1) n _ (by omega) (by omega) hs
 | 0,_,0,_,_,h,_=>by omega
 | _+1,_,0,_,_,h,_=>by omega
theorem zer:DO PR B0 84 ZJ:=by
 refine DX [(49,PE),(87,WT),(48,RZ)] [(2,⟨[0,11,12,13],[900000],[]⟩)] ZJ [] Tryz.func84 Vr ⟨jM,Gi,qF,trivial⟩ ?_;intro vs r hwf h;unfold ZJ at h;split at h
 ·rename_i s w l;refine ⟨l.length+1,?_⟩;rw [← h];refine (za0 (l.length+1) s w l).trans ?_;simp only [R.get_br,R.get_ok,R.get_no];have hwf:=hwf (by simp [KK,FD]);simp only [RG,N8,wfLs,wfL] at hwf;rw [R.get_br,R.get_ok,R.get_no] at h;cases hc:decide ((GO s w l).size≤strMax) with
  | false=>rw [hc] at h; cases h
  | true=>
   have hle:=AY hc;unfold GO at hle ⊢;rw [vbj] at hle;have h1:=iO l (s++w);have e1:decide (s.size+w.size≤strMax)=true:=AF (by rw [BI] at h1; omega);rw [e1];simp only [CT]
   have:=zP (l.length+1) l _ hwf.2.2.1.1 none (fun s' x12 x13 _=>Rx (l.length+1) s l x12 x13 s') l.length 0 (l.length+1) (s++w) (by omega) (by omega) (by rw [B1]; omega)
   rw [B1] at this;refine this.trans ?_;rw [AF hle];rfl
 ·simp [R.get] at h
open Go Go.Proofs
def RP (N:Nat):Env:=DV [(83,ZI),(84,ZJ),(52,RY)] [(9,⟨[2,3,25,26,27],[3],[]⟩)] 61 N
abbrev WK (s2:BA) (l25:LI) (x26 x27:Int) (so3:BA):St:=⟨[(2,(.str s2)),(3,(.ptr 3 0 0)),(25,(.list true ES l25)),(26,(.i x26)),(27,(.i x27))],[(3,(some (.bld so3)))]⟩
theorem zaY (N:Nat) (v:Vd):DQ (RP N) UW [.tmp 2] [[.str]] [(Vd.V v)]=(cond (!Vd.right v) (some ((.str ({data:=#[]})),[])) (cond (Vd.kind v==1) (cond (decide (AH (GO CH {data:=#[104,111,108,100,115]} [IV.int (Vd.spent v),IV.int (ic (AE (Vd.proof v)))])≤strMax)) (DR (RP N) (DD UW [1,1,1,0,1,0,1,0,1,1,0,0]) ⟨[2,3,25,26,27],[3],[]⟩ N (WK ({data:=#[]}) (Vd.proof v) (ic (AE (Vd.proof v))) 0 (GO CH {data:=#[104,111,108,100,115]} [IV.int (Vd.spent v),IV.int (ic (AE (Vd.proof v)))])) (DI 1 (DI 0 (DJ (RP N) (DD UW [1,1,1,1]) (DL (RP N) none [.tmp 2] [[.str]]))))) none) (cond (Vd.kind v==2) (cond (decide (AH (GO CH {data:=#[102,97,105,108,115]} (AQ 0 (AK (1+4+1) (AK (1+4) (AK 1 [IV.int (Vd.spent v)]++[IV.int (Vd.w0 v),IV.int (Vd.w1 v),IV.int (Vd.w2 v),IV.int (Vd.w3 v)])++[IV.int (Vd.twin v)]))))≤strMax)) (some ((.str (GO CH {data:=#[102,97,105,108,115]} (AQ 0 (AK (1+4+1) (AK (1+4) (AK 1 [IV.int (Vd.spent v)]++[IV.int (Vd.w0 v),IV.int (Vd.w1 v),IV.int (Vd.w2 v),IV.int (Vd.w3 v)])++[IV.int (Vd.twin v)]))))),[])) none) (cond (Vd.kind v==3) (cond (decide (AH (GO CH {data:=#[117,110,107,110,111,119,110]} [IV.int (Vd.spent v)])≤strMax)) (some ((.str (GO CH {data:=#[117,110,107,110,111,119,110]} [IV.int (Vd.spent v)])),[])) none) (cond (decide (AH (GO CH {data:=#[119,114,111,110,103]} [IV.int (Vd.spent v)])≤strMax)) (some ((.str (GO CH {data:=#[119,114,111,110,103]} [IV.int (Vd.spent v)])),[])) none))))):=by kernel_rfl
theorem Hh (N:Nat) (s2:BA) (l25:LI) (x26 x27:Int) (so3:BA) (again:St→DG) (k:Out→St→DG):E4 (RP N) (DD UW [1,1,1,0,1,0,1,0,1,1,0,0]) (WK s2 l25 x26 x27 so3) (EH again ⟨[2,3,25,26,27],[3],[]⟩ k)=(cond (decide (x27 < x26)) (cond (decide (0≤x27)&&decide (x27 < ic (AE l25))) (cond (IV.toBool (IV.cell (AI l25 (AD x27) default) 0)) (cond (decide (AH (GO so3 {data:=#[115,117,109]} [])≤strMax)) (again (WK s2 l25 x26 (AA AB (x27+1)) (GO so3 {data:=#[115,117,109]} []))) none) (cond (decide (AH (GO so3 {data:=#[99,117,116]} [IV.int (IV.toInt (IV.cell (AI l25 (AD x27) default) 1)),IV.int (IV.toInt (IV.cell (AI l25 (AD x27) default) 2))])≤strMax)) (again (WK s2 l25 x26 (AA AB (x27+1)) (GO so3 {data:=#[99,117,116]} [IV.int (IV.toInt (IV.cell (AI l25 (AD x27) default) 1)),IV.int (IV.toInt (IV.cell (AI l25 (AD x27) default) 2))]))) none)) none) (k (.exit 1) (WK s2 l25 x26 x27 so3))):=by kernel_rfl
theorem Rw (N:Nat) (s2:BA) (l25:LI) (x26 x27:Int) (so3:BA):(DI 1 (DI 0 (DJ (RP N) (DD UW [1,1,1,1]) (DL (RP N) none [.tmp 2] [[.str]])))) (.exit 1) (WK s2 l25 x26 x27 so3)=(some ((.str so3),[])):=by kernel_rfl
open Go Go.Proofs
theorem zO (s w:BA) (l:LI):s.size≤(GO s w l).size:=by
 unfold GO
 have:=iO l (s++w)
 rw [BI] at this;rw [vbj];omega
theorem o7:∀ (l:LI) (s:BA),s.size≤(SW s l).size
 | [],s=>AT _
 | x :: l,s=>by
  unfold SW;refine CE ?_ (o7 l _);cases H5 x
  ·exact zO _ _ _
  ·exact zO _ _ _
theorem Cr (N:Nat) (l:LI) (t:BA) (K:Out→St→DG) (hl:l.length≤65536)
  (hx:∀ s x26 x27,K (.exit 1) ⟨[(2,(.str t)),(3,(.ptr 3 0 0)),(25,(.list true ES l)),(26,(.int .i64 x26)),(27,(.int .i64 x27))],[(3,(some (.bld s)))]⟩=some (.str s,[])) :
  ∀ (d i n:Nat) (s:BA),i+d=l.length→d < n→(SW s (l.drop i)).size≤strMax →
   DR (RP N) (DD UW [1,1,1,0,1,0,1,0,1,1,0,0]) ⟨[2,3,25,26,27],[3],[]⟩ n ⟨[(2,(.str t)),(3,(.ptr 3 0 0)),(25,(.list true ES l)),(26,(.int .i64 (ic l.length))),(27,(.int .i64 (i:Int)))],[(3,(some (.bld s)))]⟩ K=some (.str (SW s (l.drop i)),[])
 | 0,i,n+1,s,hd,_,_=>by
  rw [DY,Hh,IW (by omega),C4 (l:=l) (i:=i) (by omega)];simp only [DC,SW];exact hx s _ _
 | d+1,i,n+1,s,hd,hn,hs=>by
  have hi:i < l.length:=by omega
  rw [DY,Hh,IG hi,IF,GV (by omega),I9 hi];rw [A7 hi] at hs ⊢;simp only [SW] at hs ⊢;simp only [DB,CR];have hsz:=o7 (l.drop (i+1)) (cond (H5 l[i]) (GO s rQ []) (GO s rL [.int (E8 l[i]),.int (FR l[i])]));have ih:=fun s' h'=>Cr N l t K hl hx d (i+1) n s' (by omega) (by omega) h'
  have es:(l[i].cell 0).toBool=H5 l[i]:=rfl;rw [es];cases hc:H5 l[i] with
  | true=>
   rw [hc] at hsz hs;simp only [DB] at hsz hs ⊢;rw [AF (show (GO s rQ []).size≤strMax by omega)];simp only [DB];exact ih _ hs
  | false=>
   rw [hc] at hsz hs;simp only [DC] at hsz hs ⊢;have e2:[IV.int (IV.toInt (IV.cell l[i] 1)),IV.int (IV.toInt (IV.cell l[i] 2))]=[.int (E8 l[i]),.int (FR l[i])]:=rfl;rw [e2,AF (show (GO s rL [.int (E8 l[i]),.int (FR l[i])]).size≤strMax by omega)];simp only [DB];exact ih _ hs
 | 0,_,0,_,_,h,_=>by omega
 | _+1,_,0,_,_,h,_=>by omega
theorem zdO {v:Vd} (h:v.right=true):v.proof.length≤65536:=by
 unfold Vd.right at h;simp only [AG,vaT] at h;rcases h.2.2 with h1 | h1 | h1
 ·have:=h1.2.2
  unfold YJ at this;simp only [AG,AP] at this;exact this.2.1
 ·have:=h1.2
  cases hp:v.proof with
  | nil=>simp
  | cons a b=>rw [hp] at this; cases this
 ·have:=h1.2.2
  cases hp:v.proof with
  | nil=>simp
  | cons a b=>rw [hp] at this; cases this
theorem zep:DO PR B0 50 ZH:=by
 refine DX [(83,ZI),(84,ZJ),(52,RY)] [(9,⟨[2,3,25,26,27],[3],[]⟩)] ZH [[.str]] Tryz.func50 Vp ⟨zeq,zer,qE,trivial⟩ ?_;intro vs r hwf h;unfold ZH at h;split at h
 ·rename_i k p a b c d t s;obtain ⟨v,hv⟩:∃ v:Vd,v=⟨k,p,a,b,c,d,t,s⟩:=⟨_,rfl⟩;refine ⟨v.proof.length+1,?_⟩;rw [← h];rw [← hv] at h ⊢;have hn:=zaY (v.proof.length+1) v;rw [show Vd.V v = .agg [.int .i64 k,.list true [.bool,.z,.z] p,.int .i64 a,.int .i64 b,.int .i64 c,.int .i64 d,.int .i64 t,.int .i64 s] by rw [hv]; rfl] at hn;refine hn.trans ?_;clear hn;rw [R.get_br,R.get_ok,R.get_no] at h;simp only [R.get_br,R.get_ok,R.get_no];cases hc:decide ((MP v).size≤strMax) with
  | false=>rw [hc] at h; cases h
  | true=>
   have hle:=AY hc;simp only [DB];unfold MP at hle ⊢;cases hr:Vd.right v with
   | false=>rfl
   | true=>
    rw [hr] at hle;simp only [A1,DB,DC] at hle ⊢;have e0:CH=IB:=rfl;simp only [e0];cases k1:v.kind==1 with
    | true=>
     rw [k1] at hle;simp only [DB] at hle ⊢;have h1:=o7 v.proof (GO IB kE [.int v.spent,.int (ic v.proof.length)]);rw [AF (show (GO IB kE [.int v.spent,.int (ic v.proof.length)]).size≤strMax by omega)];simp only [DB]
     have:=Cr (v.proof.length+1) v.proof IB _ (zdO hr) (fun s' x26 x27=>Rw (v.proof.length+1) IB v.proof x26 x27 s') v.proof.length 0 (v.proof.length+1) (GO IB kE [.int v.spent,.int (ic v.proof.length)]) (by omega) (by omega) (by rw [B1]; exact hle)
     rw [B1] at this;exact this
    | false=>
     rw [k1] at hle;simp only [DC] at hle ⊢;cases k2:v.kind==2 with
     | true=>
      rw [k2] at hle;simp only [DB] at hle ⊢;have ew:(AQ 0 (AK (1+4+1) (AK (1+4) (AK 1 [IV.int (Vd.spent v)]++[IV.int (Vd.w0 v),IV.int (Vd.w1 v),IV.int (Vd.w2 v),IV.int (Vd.w3 v)])++[IV.int (Vd.twin v)])))=[.int v.spent,.int v.w0,.int v.w1,.int v.w2,.int v.w3,.int v.twin]:=rfl;rw [ew,AF hle];rfl
     | false=>
      rw [k2] at hle;simp only [DC] at hle ⊢;cases k3:v.kind==3 with
      | true=>
       rw [k3] at hle;simp only [DB] at hle ⊢;rw [AF hle];rfl
      | false=>
       rw [k3] at hle;simp only [DC] at hle ⊢;rw [AF hle];rfl
 ·simp [R.get] at h
open Go
abbrev WF:BA:=⟨#[113,117,101,114,121,32]⟩
abbrev zgj:BA:=⟨#[109,111,100,101,108,10]⟩
def LV (s:BA):LI:=cond (s.toList==IB.toList) [] ((D7 (I0 s QB) QB).map IV.str)
def Z2:DK
 | [.str s]=>.br (decide (s.size < 4294967281)) (.ok (.list false [.str] (LV s)) []) .no
 | _=>.no
def Kg:Vd:=⟨4,[],0,0,0,0,0,0⟩
def sG (m:Md) (l:BA):Bool:=UU l&&(UT l==m.d&&EU m (GQ l))
def sH (m:Md) (q:Qy):Vd:=cond ((FU m q).kind==3||LX m q (FU m q)) (FU m q) Kg
def MY (m:Md) (l:BA):Vd:=cond (sG m l) (sH m (GQ l)) Kg
def Z1:DK
 | [m,.str l]=>ID m fun m=>.br (decide (l.size < 4294967281)) (.ok (MY m l).V []) .no
 | _=>.no
def OP (i:Nat):BA:=(WF++DP (i:Int))++QB
def bZ (i:Int):BA:=(WF++DP i)++QB
def SX (m:Md):BA→Nat→LI→BA
 | s,_,[]=>s
 | s,i,x :: l=>SX m (s++OP i++MP (MY m x.toStr)) (i+1) l
def jD (a b:BA):BA:=cond (YK a) (SX (IZ a) IB 0 (LV b)) zgj
def Z3:DK
 | [.str a,.str b]=>.br (decide (a.size < 4294967281)&&(decide (b.size < 4294967281)&&decide ((jD a b).size≤strMax))) (.ok (.str (jD a b)) []) .no
 | _=>.no
def Vd.I (v:Vd):IV:=.agg [.int v.kind,.list v.proof,.int v.w0,.int v.w1,.int v.w2,.int v.w3,.int v.twin,.int v.spent]
open Go Go.Proofs
open Go Go.Proofs
def Ly (N:Nat):Env:=DV [(74,PF),(75,UK)] [] 8 N
theorem zbt (N:Nat) (s:BA):DQ (Ly N) uL [.tmp 2] [[.list false [.str]]] [.str s]=(cond (BR s==BR {data:=#[]}) (some ((.list false [.str] []),[])) (cond (decide (AH (I0 s {data:=#[10]}) < 4294967281)&&decide (1≤AH {data:=#[10]})) (some ((.list false [.str] (A3 IV.str (D7 (I0 s {data:=#[10]}) {data:=#[10]}))),[])) none)):=by kernel_rfl
def Lx (N:Nat):Env:=DV [(85,Y4),(23,T2),(41,MX),(13,QN)] [] 46 N
theorem zbs (N:Nat) (m:Md) (line:BA):DQ (Lx N) uK [.cell 4 51] [[.z,.list true [.bool,.z,.z],.z,.z,.z,.z,.z,.z]] [(Md.V m),.str line]=(cond (decide (AH line < 4294967281)) (cond (!UU line) (some ((.agg [.i 4,.list true ES [],.i 0,.i 0,.i 0,.i 0,.i 0,.i 0]),[])) (cond (UT line != Md.d m) (some ((.agg [.i 4,.list true ES [],.i 0,.i 0,.i 0,.i 0,.i 0,.i 0]),[])) (cond (!EU m (GQ line)) (some ((.agg [.i 4,.list true ES [],.i 0,.i 0,.i 0,.i 0,.i 0,.i 0]),[])) (cond (Vd.kind (FU m (GQ line))==3) (some ((Vd.V (FU m (GQ line))),[])) (cond (LX m (GQ line) (FU m (GQ line))) (some ((Vd.V (FU m (GQ line))),[])) (some ((.agg [.i 4,.list true ES [],.i 0,.i 0,.i 0,.i 0,.i 0,.i 0]),[]))))))) none):=by kernel_rfl
def RS (N:Nat):Env:=DV [(50,ZH),(51,Z1),(47,Z2),(49,PE),(52,RY),(48,RZ),(46,aX)] [(6,⟨[4,5,7,18,19,20],[5,7],[]⟩)] 37 N
abbrev TL (u00 s4:BA) (l18:LI) (x19 x20:Int) (so7:BA):St:=⟨[(4,(.str s4)),(5,(.ptr 5 0 0)),(7,(.ptr 7 0 0)),(18,(.list false [.str] l18)),(19,(.i x19)),(20,(.i x20))],[(5,(some (.box (Md.cs (IZ u00))))),(7,(some (.bld so7)))]⟩
theorem zbu (N:Nat) (u00 u01:BA):DQ (RS N) UZ [.tmp 4] [[.str]] [.str u00,.str u01]=(cond (decide (AH u00 < 4294967281)) (cond (!YK u00) (some ((.str ({data:=#[109,111,100,101,108,10]})),[])) (cond (decide (AH u01 < 4294967281)) (DR (RS N) (DD UZ [1,1,1,1,0,1,0,0]) ⟨[4,5,7,18,19,20],[5,7],[]⟩ N (TL u00 ({data:=#[]}) (LV u01) (ic (AE (LV u01))) 0 CH) (DI 0 (DJ (RS N) (DD UZ [1,1,1,1,1]) (DL (RS N) none [.tmp 4] [[.str]])))) none)) none):=by kernel_rfl
theorem Hu (N:Nat) (u00 s4:BA) (l18:LI) (x19 x20:Int) (so7:BA) (again:St→DG) (k:Out→St→DG):E4 (RS N) (DD UZ [1,1,1,1,0,1,0,0]) (TL u00 s4 l18 x19 x20 so7) (EH again ⟨[4,5,7,18,19,20],[5,7],[]⟩ k)=(cond (decide (x20 < x19)) (cond (decide (0≤x20)&&decide (x20 < ic (AE l18))) (cond (decide (AH {data:=#[113,117,101,114,121,32]}+AH (DP x20)≤strMax)) (cond (decide (AH ({data:=#[113,117,101,114,121,32]}++DP x20)+AH {data:=#[10]}≤strMax)) (cond (decide (AH so7+AH (bZ x20)≤strMax)) (cond (decide (AH (IV.toStr (AI l18 (AD x20) default)) < 4294967281)) (cond (decide (AH (MP (MY (IZ u00) (IV.toStr (AI l18 (AD x20) default))))≤strMax)) (cond (decide (AH (so7++(bZ x20))+AH (MP (MY (IZ u00) (IV.toStr (AI l18 (AD x20) default))))≤strMax)) (again (TL u00 s4 l18 x19 (AA AB (x20+1)) (so7++(bZ x20)++MP (MY (IZ u00) (IV.toStr (AI l18 (AD x20) default)))))) none) none) none) none) none) none) none) (k (.exit 0) (TL u00 s4 l18 x19 x20 so7))):=by kernel_rfl
theorem Sn (N:Nat) (u00 s4:BA) (l18:LI) (x19 x20:Int) (so7:BA):(DI 0 (DJ (RS N) (DD UZ [1,1,1,1,1]) (DL (RS N) none [.tmp 4] [[.str]]))) (.exit 0) (TL u00 s4 l18 x19 x20 so7)=(some ((.str so7),[])):=by kernel_rfl
open Go
open Go
def SK (n:Int):Prop := -9223372036854775808≤n∧n≤9223372036854775807
def zfE (x:IV):Prop:=SK (E8 x)∧SK (FR x)
structure Vd.rng (v:Vd):Prop where
 w0:SK v.w0
 w1:SK v.w1
 w2:SK v.w2
 w3:SK v.w3
 twin:SK v.twin
 spent:SK v.spent
 proof:∀ x∈v.proof,zfE x
open Go
open Go
theorem dQ {x y:IV}:qL x y=true↔H5 x=H5 y∧E8 x=E8 y∧FR x=FR y:=by simp [qL]
theorem Ej:∀ {l m:LI},L7 l m=true→L7 m l=true
 | [],[],_=>rfl
 | [],_ :: _,h=>by simp [L7] at h
 | _ :: _,[],h=>by simp [L7] at h
 | x :: l,y :: m,h=>by
  simp only [L7,AG] at h ⊢;obtain ⟨h1,h2,h3⟩:=dQ.1 h.1;exact ⟨dQ.2 ⟨h1.symm,h2.symm,h3.symm⟩,Ej h.2⟩
theorem Ek:∀ {l m n:LI},L7 l m=true→L7 m n=true→L7 l n=true
 | [],[],[],_,_=>rfl
 | [],[],_ :: _,_,h=>by simp [L7] at h
 | [],_ :: _,_,h,_=>by simp [L7] at h
 | _ :: _,[],_,h,_=>by simp [L7] at h
 | _ :: _,_ :: _,[],_,h=>by simp [L7] at h
 | x :: l,y :: m,z :: n,h,k=>by
  simp only [L7,AG] at h k ⊢;obtain ⟨h1,h2,h3⟩:=dQ.1 h.1;obtain ⟨k1,k2,k3⟩:=dQ.1 k.1;exact ⟨dQ.2 ⟨h1.trans k1,h2.trans k2,h3.trans k3⟩,Ek h.2 k.2⟩
structure VSame (a b:Vd):Prop where
 kind:a.kind=b.kind
 proof:L7 a.proof b.proof=true
 w0:a.w0=b.w0
 w1:a.w1=b.w1
 w2:a.w2=b.w2
 w3:a.w3=b.w3
 twin:a.twin=b.twin
 spent:a.spent=b.spent
theorem VSame.symm {a b:Vd} (h:VSame a b):VSame b a:=⟨h.kind.symm,Ej h.proof,h.w0.symm,h.w1.symm,h.w2.symm,h.w3.symm,h.twin.symm,h.spent.symm⟩
theorem VSame.trans {a b c:Vd} (h:VSame a b) (k:VSame b c):VSame a c:=⟨h.kind.trans k.kind,Ek h.proof k.proof,h.w0.trans k.w0,h.w1.trans k.w1,h.w2.trans k.w2,h.w3.trans k.w3,h.twin.trans k.twin,h.spent.trans k.spent⟩
open Go
theorem Qy.eq_of {p q:Qy} (h:p.eq q=true):p=q:=by
 cases p; cases q;simp only [Qy.eq,AG,CB,BY] at h;simp only [Qy.mk.injEq];exact h
open Go
open Go
def d8:Nat→List Vd→BA
 | _,[]=>IB
 | i,v :: r=>OP i++(MP v++d8 (i+1) r)
theorem Zi (i:Nat):0 < (OP i).size:=by
 unfold OP;rw [BI];show 0 < _+1;omega
theorem Jz:∀ (i:Nat) (vs:List Vd),vs.length≤(d8 i vs).size
 | _,[]=>AT _
 | i,v :: r=>by
  have:=Jz (i+1) r
  have hp:=Zi i;unfold d8;rw [BI,BI,AM];omega
open Go
open Go
theorem Dp (m:Md):∀ (ls:LI) (s:BA) (i:Nat),SX m s i ls=s++d8 i (ls.map fun x=>MY m x.toStr)
 | [],s,i=>by
  show s=s++IB;exact (ByteArray.append_empty).symm
 | x :: l,s,i=>by
  rw [SX,Dp m l,AZ,d8,vai,vai]
open Go Go.Proofs
theorem zeN:DO PR B0 47 Z2:=by
 refine DX [(74,PF),(75,UK)] [] Z2 [[.list false [.str]]] Tryz.func47 Wx ⟨jN,Gm,trivial⟩ ?_;intro vs r hwf h;unfold Z2 at h;split at h
 ·rename_i s;cases hg:(decide (s.size < 4294967281)) with
  | false=>rw [hg] at h; simp [R.get] at h
  | true=>
  rw [hg,R.get_br,DB,R.get_ok] at h;refine ⟨0,(zbt 0 s).trans ?_⟩;have hz:=AY hg;have ht:=j9 s QB;rw [show decide (1≤AH { data:=#[10] })=true from rfl,CR,AF (show (I0 s { data:=#[10] }).size < 4294967281 by exact Nat.lt_of_le_of_lt ht hz),DB,← h];unfold LV;cases (s.toList==IB.toList) <;> rfl
 ·simp [R.get] at h
theorem zeM:DO PR B0 51 Z1:=by
 refine DX [(85,Y4),(23,T2),(41,MX),(13,QN)] [] Z1 [[.z,.list true [.bool,.z,.z],.z,.z,.z,.z,.z,.z]] Tryz.func51 Ww ⟨zec,Fj,dO,qD,trivial⟩ ?_;intro vs r hwf h;unfold Z1 at h;split at h
 ·rename_i m l;replace h:=IN h;obtain ⟨m,rfl,h⟩:=h;cases hg:(decide (l.size < 4294967281)) with
  | false=>rw [hg] at h; simp [R.get] at h
  | true=>
  rw [hg,R.get_br,DB,R.get_ok] at h;refine ⟨0,(zbs 0 m l).trans ?_⟩;rw [hg,DB,← h];unfold MY sG sH;rw [show (UT l != m.d)=!(UT l==m.d) from rfl];cases UU l
  ·rfl
  cases (UT l==m.d)
  ·rfl
  cases EU m (GQ l)
  ·rfl
  cases ((FU m (GQ l)).kind==3)
  ·cases LX m (GQ l) (FU m (GQ l)) <;> rfl
  ·rfl
 ·simp [R.get] at h
theorem Dq (m:Md) (s:BA) (i:Nat) (l:LI):s.size+l.length≤(SX m s i l).size:=by
 rw [Dp,BI]
 have:=Jz i (l.map fun x=>MY m x.toStr)
 rw [B9] at this;omega
theorem Eg (N:Nat) (a:BA) (ls:LI) (hs:∀ x∈ls,x.toStr.size < 4294967281) (hl:ls.length≤strMax) (K:Out→St→DG) (hx:∀ x y so,K (.exit 0) (TL a IB ls x y so)=some (.str so,[])) :
  ∀ (d i n:Nat) (so:BA),i+d=ls.length→d < n→(SX (IZ a) so i (ls.drop i)).size≤strMax →
   DR (RS N) (DD UZ [1,1,1,1,0,1,0,0]) ⟨[4,5,7,18,19,20],[5,7],[]⟩ n (TL a IB ls (ic ls.length) (i:Int) so) K=some (.str (SX (IZ a) so i (ls.drop i)),[])
 | 0,i,n+1,so,hd,_,_=>by
  rw [DY,Hu,IW (by omega),C4 (by omega),DC];exact hx _ _ _
 | d+1,i,n+1,so,hd,hn,hz=>by
  have hi:i < ls.length:=by omega
  rw [A7 hi] at hz ⊢;rw [SX] at hz ⊢;have h1:=Dq (IZ a) (so++OP i++MP (MY (IZ a) ls[i].toStr)) (i+1) (ls.drop (i+1));have h2:(so++OP i++MP (MY (IZ a) ls[i].toStr)).size=so.size+(WF.size+(DP (i:Int)).size+QB.size)+(MP (MY (IZ a) ls[i].toStr)).size:=by
   unfold OP;simp only [BI]
  have e1:WF.size=6:=rfl;have e2:QB.size=1:=rfl;have h3:(so++OP i).size=so.size+(WF.size+(DP (i:Int)).size+QB.size):=by
   unfold OP;simp only [BI]
  have h4:=hs ls[i] (vaa hi);unfold strMax at hl;rw [DY,Hu,IG hi,IF,GV (by omega),I9 hi];rw [AF (show AH { data:=#[113,117,101,114,121,32] }+(DP (i:Int)).size≤strMax by show WF.size+_≤_; omega)];rw [AF (show AH ({ data:=#[113,117,101,114,121,32] }++DP (i:Int))+AH { data:=#[10] }≤strMax by rw [BI]; show WF.size+_+QB.size≤_; omega)];rw [AF (show so.size+(bZ (i:Int)).size≤strMax by rw [← BI]; show (so++OP i).size≤_; omega)];rw [AF h4,AF (show (MP (MY (IZ a) ls[i].toStr)).size≤strMax by omega)];rw [AF (show (so++bZ (i:Int)).size+(MP (MY (IZ a) ls[i].toStr)).size≤strMax by show (so++OP i).size+_≤_; omega)];simp only [DB,CR];exact Eg N a ls hs (by unfold strMax; omega) K hx d (i+1) n _ (by omega) (by omega) hz
 | 0,_,0,_,_,h,_=>by omega
 | _+1,_,0,_,_,h,_=>by omega
theorem zfA {s sep:BA} {n:Nat} (h:s.size < n):∀ x∈D7 s sep,x.size < n:=fun x hx=>by
 have:=(YH sep _ s).2 x hx
 omega
theorem zau {s:BA} {n:Nat} (h:s.size < n):∀ x∈LV s,x.toStr.size < n:=by
 intro x hx;unfold LV at hx;cases he:(s.toList==IB.toList) with
 | true=>rw [he,DB] at hx; cases hx
 | false=>
  rw [he,DC] at hx;obtain ⟨y,hy,rfl⟩:=vao.1 hx;have ht:=j9 s QB;exact zfA (Nat.lt_of_le_of_lt ht h) y hy
theorem zeO:DO PR B0 24 Z3:=by
 refine DX [(50,ZH),(51,Z1),(47,Z2),(49,PE),(52,RY),(48,RZ),(46,aX)] [(6,⟨[4,5,7,18,19,20],[5,7],[]⟩)] Z3 [[.str]] Tryz.func24 Wy ⟨zep,zeM,zeN,jM,qE,qF,zfs,trivial⟩ ?_;intro vs r hwf h;unfold Z3 at h;split at h
 ·rename_i a b;cases hg:(decide (a.size < 4294967281)&&(decide (b.size < 4294967281)&&decide ((jD a b).size≤strMax))) with
  | false=>rw [hg] at h; simp [R.get] at h
  | true=>
  rw [hg,R.get_br,DB,R.get_ok] at h;rw [AG,AG] at hg;have hz:=AY hg.2.2;refine ⟨(LV b).length+1,(zbu _ a b).trans ?_⟩;rw [hg.1,DB,← h];unfold jD at hz ⊢;cases ht:YK a with
  | false=>rfl
  | true=>
   rw [ht,DB] at hz;simp only [A1,DC,DB];rw [hg.2.1,DB];have hl:=Dq (IZ a) IB 0 (LV b);have e0:IB.size=0:=rfl
   have:=Eg ((LV b).length+1) a (LV b) (zau (AY hg.2.1)) (by omega) _ (fun x y so=>Sn ((LV b).length+1) a IB (LV b) x y so) (LV b).length 0 ((LV b).length+1) IB (by omega) (by omega) (by rw [B1]; exact hz)
   rw [B1] at this;exact this
 ·simp [R.get] at h
open Go Go.Proofs
open Go Go.Proofs
open Go
open Go
theorem Qy.In.sp {q:Qy} (hq:q.In):∀ s∈q.spans,FA s.1∧FA s.2:=by
 intro s hs;simp only [Qy.spans,AX,CY,vak] at hs;rcases hs with rfl | rfl | rfl | rfl | rfl
 ·exact ⟨hq.a0,hq.b0⟩
 ·exact ⟨hq.a1,hq.b1⟩
 ·exact ⟨hq.a2,hq.b2⟩
 ·exact ⟨hq.a3,hq.b3⟩
 ·exact ⟨hq.a4,hq.b4⟩
open Go
theorem Ug {m:Md} (h:PX m.ts≤99) (q:Qy):JU m q (EE q)≤199:=by
 have:=zdk m q (EE q)
 omega
open Go
def Qy.I (q:Qy):IV:=.agg [.int q.k,.int q.c,.int q.a0,.int q.b0,.int q.a1,.int q.b1,.int q.a2,.int q.b2,.int q.a3,.int q.b3,.int q.a4,.int q.b4,.int q.lo,.int q.hi,.int q.ft,.bool q.fl,.int q.bu]
def T5:DK
 | []=>.ok (.bool true) []
 | _=>.no
open Go
open Go
open Go Go.Proofs
open Go
open Go Go.Proofs
def G4 (N:Nat):Env:=DV [(7,LL),(15,OC),(33,T4)] [(4,⟨[1,2,4,5,6,7],[2,500,501],[⟨.tmp 5,500,82,true,[.bool,.z,.z,.z,.z,.z]⟩,⟨.tmp 6,501,3,false,[.z]⟩]⟩),(14,⟨[4,11,100,101,102],[500,502],[⟨.tmp 11,502,84,false,[.int .u64]⟩]⟩)] 113 N
abbrev WM (x1:Int) (n5 n6:Nat) (x7 u06:Int) (u00 u01 u02 u03 u04 u05:LI):St:=⟨[(1,(.i x1)),(2,(.ptr 2 0 0)),(4,.zs),(5,(.row 500 0 n5)),(6,(.row 501 0 n6)),(7,(.i x7))],[(2,(some (.box [.i u06,.list false [.z] u00,.list false [.z] u01,.list false [.z] u02,.list false [.z] u03]))),(500,(some (.row true 82 true [.bool,.z,.z,.z,.z,.z] u04))),(501,(some (.row true 3 false [.z] u05)))]⟩
abbrev YY (n11 n100:Nat) (x101 x102:Int) (u00 u01:LI):St:=⟨[(4,.zs),(11,(.row 502 0 n11)),(100,(.row 500 0 n100)),(101,(.i x101)),(102,(.i x102))],[(500,(some (.row true 82 true [.bool,.z,.z,.z,.z,.z] u00))),(502,(some (.row true 84 false [.int .u64] u01)))]⟩
theorem zbb (N:Nat) (u00:Int) (u01 t_By t_At u02:LI) (a1:Int):DQ (G4 N) LQ [.tmp 4] [[.list false [.int .u64]]] [.agg [.i u00,.list false [.z] u01,.list false [.z] t_By,.list false [.z] t_At,.list false [.z] u02],.i a1]=(DR (G4 N) (DD LQ [1,1,1,0,1,0,0]) ⟨[1,2,4,5,6,7],[2,500,501],[⟨(.tmp 5),500,82,true,[.bool,.z,.z,.z,.z,.z]⟩,⟨(.tmp 6),501,3,false,[.z]⟩]⟩ N (WM a1 1 1 0 u00 u01 t_By t_At u02 [(IV.agg [IV.bool true,IV.int (DS (ED u02 0) (-3000) 3000),IV.int 0,IV.int 0,IV.int 0,IV.int 0])] [(IV.int 0)]) (DI 0 (DJ (G4 N) (DD LQ [1,1,1,1]) (DL (G4 N) none [.tmp 4] [[.list false [.int .u64]]])))):=by kernel_rfl
theorem Hs (N:Nat) (x1:Int) (n5 n6:Nat) (x7 u06:Int) (u00 u01 u02 u03 u04 u05:LI) (again:St→DG) (k:Out→St→DG):E4 (G4 N) (DD LQ [1,1,1,0,1,0,0]) (WM x1 n5 n6 x7 u06 u00 u01 u02 u03 u04 u05) (EH again ⟨[1,2,4,5,6,7],[2,500,501],[⟨(.tmp 5),500,82,true,[.bool,.z,.z,.z,.z,.z]⟩,⟨(.tmp 6),501,3,false,[.z]⟩]⟩ k)=(cond (decide (x7 < ic (AE u00))) (cond (decide (x7 < 7)) (cond (decide (0≤x7)&&decide (x7 < ic (AE u00))) (cond (decide (I4 0 (AA AB (ic (n6 - 0) - 1))=0)) none (cond (decide (0≤DS (IV.toInt (AI u00 (AD x7) default)) 0 (AA AB (ic (n6 - 0) - 1)))&&decide (DS (IV.toInt (AI u00 (AD x7) default)) 0 (AA AB (ic (n6 - 0) - 1)) < ic (n6 - 0))) (cond (decide (0≤x7)) (cond (decide (I4 0 (AA AB (x1 - 1))=0)) none (cond (decide (0≤x7)) (cond (decide (0≤IV.toInt (AI u05 (0+AD (DS (IV.toInt (AI u00 (AD x7) default)) 0 (AA AB (ic (n6 - 0) - 1)))) default))&&decide (IV.toInt (AI u05 (0+AD (DS (IV.toInt (AI u00 (AD x7) default)) 0 (AA AB (ic (n6 - 0) - 1)))) default) < ic (n5 - 0))) (cond (decide (0≤AA AB (AA AB (2*x7)+1))) (cond (decide (0≤AA AB (AA AB (2*x7)+2))) (cond (decide ((n5+AE (AQ 0 (AK 2 [IV.agg [IV.bool true,IV.int (DS (ED u03 (AA AB (AA AB (2*x7)+1))) (-3000) 3000),IV.int 0,IV.int 0,IV.int 0,IV.int 0],IV.agg [IV.bool true,IV.int (DS (ED u03 (AA AB (AA AB (2*x7)+2))) (-3000) 3000),IV.int 0,IV.int 0,IV.int 0,IV.int 0]])))*TI.bytes (Env.tyd (G4 N) 82)≤D1)) (cond (decide (0≤DS (IV.toInt (AI u00 (AD x7) default)) 0 (AA AB (ic (n6 - 0) - 1)))&&decide (DS (IV.toInt (AI u00 (AD x7) default)) 0 (AA AB (ic (n6 - 0) - 1))≤ic (n6 - 0))) (cond (decide ((0+AE (AQ 0 (AK (0+AD (DS (IV.toInt (AI u00 (AD x7) default)) 0 (AA AB (ic (n6 - 0) - 1)))) u05)))*TI.bytes (Env.tyd (G4 N) 3)≤D1)) (cond (decide (0≤AA AB (DS (IV.toInt (AI u00 (AD x7) default)) 0 (AA AB (ic (n6 - 0) - 1))+1))&&decide (AA AB (DS (IV.toInt (AI u00 (AD x7) default)) 0 (AA AB (ic (n6 - 0) - 1))+1)≤ic (n6 - 0))) (cond (decide ((0+AE (AQ 0 (AK (0+AD (DS (IV.toInt (AI u00 (AD x7) default)) 0 (AA AB (ic (n6 - 0) - 1)))) u05))+AE (AQ (0+AD (AA AB (DS (IV.toInt (AI u00 (AD x7) default)) 0 (AA AB (ic (n6 - 0) - 1))+1))) (AK (0+(n6 - 0)) u05)))*TI.bytes (Env.tyd (G4 N) 3)≤D1)) (cond (decide ((0+AE (AQ 0 (AK (0+AD (DS (IV.toInt (AI u00 (AD x7) default)) 0 (AA AB (ic (n6 - 0) - 1)))) u05))+AE (AQ (0+AD (AA AB (DS (IV.toInt (AI u00 (AD x7) default)) 0 (AA AB (ic (n6 - 0) - 1))+1))) (AK (0+(n6 - 0)) u05))+AE (AQ 0 (AK 2 [IV.int (ic (n5 - 0)),IV.int (AA AB (ic (n5 - 0)+1))])))*TI.bytes (Env.tyd (G4 N) 3)≤D1)) (again (WM x1 (n5+AE (AQ 0 (AK 2 [IV.agg [IV.bool true,IV.int (DS (ED u03 (AA AB (AA AB (2*x7)+1))) (-3000) 3000),IV.int 0,IV.int 0,IV.int 0,IV.int 0],IV.agg [IV.bool true,IV.int (DS (ED u03 (AA AB (AA AB (2*x7)+2))) (-3000) 3000),IV.int 0,IV.int 0,IV.int 0,IV.int 0]]))) (0+AE (AQ 0 (AK (0+AD (DS (IV.toInt (AI u00 (AD x7) default)) 0 (AA AB (ic (n6 - 0) - 1)))) u05))+AE (AQ (0+AD (AA AB (DS (IV.toInt (AI u00 (AD x7) default)) 0 (AA AB (ic (n6 - 0) - 1))+1))) (AK (0+(n6 - 0)) u05))+AE (AQ 0 (AK 2 [IV.int (ic (n5 - 0)),IV.int (AA AB (ic (n5 - 0)+1))]))) (AA AB (x7+1)) u06 u00 u01 u02 u03 (AK n5 (List.set u04 (0+AD (IV.toInt (AI u05 (0+AD (DS (IV.toInt (AI u00 (AD x7) default)) 0 (AA AB (ic (n6 - 0) - 1)))) default))) (M7 true [Kd.bool,Kd.int AB,Kd.int AB,Kd.int AB,Kd.int AB,Kd.int AB] (AI u04 (0+AD (IV.toInt (AI u05 (0+AD (DS (IV.toInt (AI u00 (AD x7) default)) 0 (AA AB (ic (n6 - 0) - 1)))) default))) default) 0 [IV.bool false,IV.int 0,IV.int (DS (ED u01 x7) 0 (AA AB (x1 - 1))),IV.int (DS (ED u02 x7) 0 9),IV.int (ic (n5 - 0)),IV.int (AA AB (ic (n5 - 0)+1))]))++AQ 0 (AK 2 [IV.agg [IV.bool true,IV.int (DS (ED u03 (AA AB (AA AB (2*x7)+1))) (-3000) 3000),IV.int 0,IV.int 0,IV.int 0,IV.int 0],IV.agg [IV.bool true,IV.int (DS (ED u03 (AA AB (AA AB (2*x7)+2))) (-3000) 3000),IV.int 0,IV.int 0,IV.int 0,IV.int 0]])) (AK (0+AE (AQ 0 (AK (0+AD (DS (IV.toInt (AI u00 (AD x7) default)) 0 (AA AB (ic (n6 - 0) - 1)))) u05))+AE (AQ (0+AD (AA AB (DS (IV.toInt (AI u00 (AD x7) default)) 0 (AA AB (ic (n6 - 0) - 1))+1))) (AK (0+(n6 - 0)) u05))) (AK (0+AE (AQ 0 (AK (0+AD (DS (IV.toInt (AI u00 (AD x7) default)) 0 (AA AB (ic (n6 - 0) - 1)))) u05))) (AK 0 []++AQ 0 (AK (0+AD (DS (IV.toInt (AI u00 (AD x7) default)) 0 (AA AB (ic (n6 - 0) - 1)))) u05))++AQ (0+AD (AA AB (DS (IV.toInt (AI u00 (AD x7) default)) 0 (AA AB (ic (n6 - 0) - 1))+1))) (AK (0+(n6 - 0)) u05))++AQ 0 (AK 2 [IV.int (ic (n5 - 0)),IV.int (AA AB (ic (n5 - 0)+1))])))) none) none) none) none) none) none) none) none) none) none)) none) none)) none) (k (.exit 0) (WM x1 n5 n6 x7 u06 u00 u01 u02 u03 u04 u05))) (k (.exit 0) (WM x1 n5 n6 x7 u06 u00 u01 u02 u03 u04 u05))):=by kernel_rfl
theorem Sl (N:Nat) (x1:Int) (n5 n6:Nat) (x7 u06:Int) (u00 u01 u02 u03 u04 u05:LI):(DI 0 (DJ (G4 N) (DD LQ [1,1,1,1]) (DL (G4 N) none [.tmp 4] [[.list false [.int .u64]]]))) (.exit 0) (WM x1 n5 n6 x7 u06 u00 u01 u02 u03 u04 u05)=(DR (G4 N) (DD LQ [1,1,1,1,1,0,1,0,0]) ⟨[4,11,100,101,102],[500,502],[⟨(.tmp 11),502,84,false,[.int .u64]⟩]⟩ N (YY 0 n5 (ic (n5 - 0)) 0 u04 []) (DI 2 (DJ (G4 N) (DD LQ [1,1,1,1,1,1]) (DL (G4 N) none [.tmp 4] [[.list false [.int .u64]]])))):=by kernel_rfl
theorem Ht (N n11 n100:Nat) (x101 x102:Int) (u00 u01:LI) (again:St→DG) (k:Out→St→DG):E4 (G4 N) (DD LQ [1,1,1,1,1,0,1,0,0]) (YY n11 n100 x101 x102 u00 u01) (EH again ⟨[4,11,100,101,102],[500,502],[⟨(.tmp 11),502,84,false,[.int .u64]⟩]⟩ k)=(cond (decide (x102 < x101)) (cond (decide (0≤x102)&&decide (x102 < ic (n100 - 0))) (cond (decide ((n11+AE (AQ 0 (AK 1 [IV.int (HP (IV.toBool (IV.cell (AI u00 (0+AD x102) default) 0)) (IV.toInt (IV.cell (AI u00 (0+AD x102) default) 1)) (IV.toInt (IV.cell (AI u00 (0+AD x102) default) 2)) (IV.toInt (IV.cell (AI u00 (0+AD x102) default) 3)) (IV.toInt (IV.cell (AI u00 (0+AD x102) default) 4)) (IV.toInt (IV.cell (AI u00 (0+AD x102) default) 5)))])))*TI.bytes (Env.tyd (G4 N) 84)≤D1)) (again (YY (n11+AE (AQ 0 (AK 1 [IV.int (HP (IV.toBool (IV.cell (AI u00 (0+AD x102) default) 0)) (IV.toInt (IV.cell (AI u00 (0+AD x102) default) 1)) (IV.toInt (IV.cell (AI u00 (0+AD x102) default) 2)) (IV.toInt (IV.cell (AI u00 (0+AD x102) default) 3)) (IV.toInt (IV.cell (AI u00 (0+AD x102) default) 4)) (IV.toInt (IV.cell (AI u00 (0+AD x102) default) 5)))]))) n100 x101 (AA AB (x102+1)) u00 (AK n11 u01++AQ 0 (AK 1 [IV.int (HP (IV.toBool (IV.cell (AI u00 (0+AD x102) default) 0)) (IV.toInt (IV.cell (AI u00 (0+AD x102) default) 1)) (IV.toInt (IV.cell (AI u00 (0+AD x102) default) 2)) (IV.toInt (IV.cell (AI u00 (0+AD x102) default) 3)) (IV.toInt (IV.cell (AI u00 (0+AD x102) default) 4)) (IV.toInt (IV.cell (AI u00 (0+AD x102) default) 5)))])))) none) none) (k (.exit 2) (YY n11 n100 x101 x102 u00 u01))):=by kernel_rfl
theorem Sm (N n11 n100:Nat) (x101 x102:Int) (u00 u01:LI):(DI 2 (DJ (G4 N) (DD LQ [1,1,1,1,1,1]) (DL (G4 N) none [.tmp 4] [[.list false [.int .u64]]]))) (.exit 2) (YY n11 n100 x101 x102 u00 u01)=(some ((.list false [.int .u64] (AQ 0 (AK n11 u01))),[])):=by kernel_rfl
open Go Go.Proofs
structure Ns.At (i:Nat) (s:Ns):Prop where
 nl:s.nodes.length=2*i+1
 ll:s.leaves.length=i+1
 lt:∀ x∈s.leaves,0≤x.toInt∧x.toInt < (2*i+1:Nat)
theorem oI {part:LI} {i:Nat} {s:Ns} (h:s.At i) (hi:i≤100):0≤HH part i s∧HH part i s < ((i+1:Nat):Int)∧I4 0 (ic s.leaves.length - 1)=((i+1:Nat):Int):=by
 have e:ic s.leaves.length=((i+1:Nat):Int):=by rw [h.ll]
 obtain ⟨m,a,b⟩:=JG (n:=(part.getD i default).toInt) (lo:=0) (hi:=ic s.leaves.length - 1) (by rw [e]; omega) (by omega) (by rw [e]; omega);unfold HH;rw [e] at a b m ⊢;exact ⟨a,by omega,by rw [m]; omega⟩
theorem zcG {part:LI} {i:Nat} {s:Ns} (h:s.At i) (hi:i≤100):0≤PZ part i s∧PZ part i s < (2*i+1:Nat):=by
 obtain ⟨k0,k1,_⟩:=oI (part:=part) h hi;have hk:(HH part i s).toNat < s.leaves.length:=by rw [h.ll]; omega
 have e:s.leaves.getD (HH part i s).toNat default=s.leaves[(HH part i s).toNat]:=by simp [hk]
 unfold PZ;rw [e];exact h.lt _ (vaa hk)
theorem Ns.At.step {part byl atl val:LI} {dim:Int} {i:Nat} {s:Ns} (h:s.At i) (hi:i≤100):(JS part byl atl val dim i s).At (i+1):=by
 obtain ⟨k0,k1,_⟩:=oI (part:=part) h hi;refine ⟨?_,?_,?_⟩
 ·simp only [JS,AR,vas,AM,A6,h.nl];omega
 ·simp only [JS,AR,A8,C7,AM,A6,h.ll];omega
 ·intro x hx;simp only [JS,AV] at hx;rcases hx with (hx | hx) | hx
  ·have:=h.lt x (vaY hx)
   omega
  ·have:=h.lt x (vaX hx)
   omega
  ·simp only [AX,CY,vak] at hx;rcases hx with rfl | rfl
   ·simp only [IV.toInt,ic,h.nl]; omega
   ·simp only [IV.toInt,ic,h.nl]; omega
abbrev kN:List Kd:=[.bool,.z,.z,.z,.z,.z]
abbrev nG:KP:=⟨[1,2,4,5,6,7],[2,500,501],[⟨(.tmp 5),500,82,true,[.bool,.z,.z,.z,.z,.z]⟩,⟨(.tmp 6),501,3,false,[.z]⟩]⟩
abbrev dR (cl:Int) (part byl atl val:LI) (dim:Int) (s:Ns) (i:Int):St:=
 ⟨[(1,(.int .i64 dim)),(2,(.ptr 2 0 0)),(4,.zs),(5,(.row 500 0 s.nodes.length)),(6,(.row 501 0 s.leaves.length)),(7,(.int .i64 i))],[(2,(some (.box [(.int .i64 cl),(.list false [.z] part),(.list false [.z] byl),(.list false [.z] atl),(.list false [.z] val)]))),(500,(some (.row true 82 true kN s.nodes))),(501,(some (.row true 3 false [.z] s.leaves)))]⟩
theorem zcz (N:Nat):TI.bytes (Env.tyd (G4 N) 82)=48:=by rfl
theorem Zo (N:Nat):TI.bytes (Env.tyd (G4 N) 3)=8:=by rfl
theorem zdy (x a b c d e f:IV):M7 true kN x 0 [a,b,c,d,e,f] = .agg [a,b,c,d,e,f]:=rfl
set_option maxHeartbeats 4000000 in
theorem zcA (N:Nat) (cl:Int) (part byl atl val:LI) (dim:Int) (h1:1≤dim) (h4:dim≤4) (s:Ns) (i:Nat) (hs:s.At i) (hi:i < part.length) (h7:i < 7) (again:St→DG) (k:Out→St→DG) :
  E4 (G4 N) (DD LQ [1,1,1,0,1,0,0]) (dR cl part byl atl val dim s (i:Int)) (EH again nG k)=again (dR cl part byl atl val dim (JS part byl atl val dim i s) ((i+1:Nat):Int)):=by
 refine (Hs N dim s.nodes.length s.leaves.length i cl part byl atl val s.nodes s.leaves again k).trans ?_;obtain ⟨k0,k1,km⟩:=oI (part:=part) hs (by omega);obtain ⟨a0,a1⟩:=zcG (part:=part) hs (by omega);obtain ⟨dm,_,_⟩:=JG (n:=0) (lo:=0) (hi:=dim - 1) (by omega) (by omega) (by omega);have eL:ic (s.leaves.length - 0)=ic s.leaves.length:=rfl;have eN:ic (s.nodes.length - 0)=ic s.nodes.length:=rfl;have hL:ic s.leaves.length=((i+1:Nat):Int):=by rw [hs.ll]
 have hN:ic s.nodes.length=((2*i+1:Nat):Int):=by rw [hs.nl]
 have w1:IntKind.wrap IntKind.i64 (ic s.leaves.length - 1)=ic s.leaves.length - 1:=EA (by rw [hL]; omega) (by rw [hL]; omega);have w2:IntKind.wrap IntKind.i64 (dim - 1)=dim - 1:=EA (by omega) (by omega);have w3:IntKind.wrap IntKind.i64 (2*(i:Int))=2*(i:Int):=EA (by omega) (by omega);have w4:IntKind.wrap IntKind.i64 (2*(i:Int)+1)=2*(i:Int)+1:=EA (by omega) (by omega);have w5:IntKind.wrap IntKind.i64 (2*(i:Int)+2)=2*(i:Int)+2:=EA (by omega) (by omega);have w6:IntKind.wrap IntKind.i64 (ic s.nodes.length+1)=ic s.nodes.length+1:=EA (by rw [hN]; omega) (by rw [hN]; omega);rw [eL,eN,w1,w2,w3,w4,w5,w6,Int.toNat_natCast];have eK:DS (IV.toInt (List.getD part i default)) 0 (ic s.leaves.length - 1)=HH part i s:=rfl;rw [eK];have w7:IntKind.wrap IntKind.i64 (HH part i s+1)=HH part i s+1:=EA (by omega) (by omega);rw [w7];have e0:∀ n:Nat,0+n=n:=Nat.zero_add;simp only [e0];have eA:IV.toInt (List.getD s.leaves (HH part i s).toNat default)=PZ part i s:=rfl;rw [eA,zcz,Zo];obtain ⟨q,hq⟩:∃ q:Nat,HH part i s=q:=⟨(HH part i s).toNat,by omega⟩;have eq1:(HH part i s+1).toNat=q+1:=by omega
 have eq0:(HH part i s).toNat=q:=by omega
 have hq1:q < i+1:=by omega
 have lt2:∀ x y:IV,(List.drop 0 (List.take 2 [x,y]))=[x,y]:=fun _ _=>rfl
 have lk:List.drop 0 (List.take q s.leaves)=List.take q s.leaves:=List.drop_zero;have lk2:List.drop (q+1) (List.take (s.leaves.length - 0) s.leaves)=List.drop (q+1) s.leaves:=by rw [Nat.sub_zero,List.take_length]
 rw [eq1,eq0,lt2,lt2,lk,lk2];have zA:(List.take q s.leaves).length=q:=by rw [List.length_take,hs.ll]; omega
 have zB:(List.drop (q+1) s.leaves).length=i - q:=by rw [List.length_drop,hs.ll]; omega
 rw [zA,zB];simp only [List.length_cons,List.length_nil];rw [decide_eq_true (show (i:Int) < ic part.length by simp only [ic]; omega),decide_eq_true (show (i:Int) < 7 by omega),decide_eq_true (show 0≤(i:Int) by omega),km,decide_eq_false (show ¬ ((i+1:Nat):Int)=0 by omega),
  decide_eq_true k0,decide_eq_true (show HH part i s < ic s.leaves.length by rw [hL]; exact k1),dm,decide_eq_false (show ¬ (dim - 1 - 0+1=0) by omega),decide_eq_true a0,decide_eq_true (show PZ part i s < ic s.nodes.length by rw [hN]; exact a1),
  decide_eq_true (show 0≤2*(i:Int)+1 by omega),decide_eq_true (show 0≤2*(i:Int)+2 by omega),decide_eq_true (show (s.nodes.length+(0+1+1))*48≤D1 by rw [hs.nl]; unfold D1; omega),
  decide_eq_true (show HH part i s≤ic s.leaves.length by rw [hL]; omega),decide_eq_true (show q*8≤D1 by unfold D1; omega),decide_eq_true (show 0≤HH part i s+1 by omega),decide_eq_true (show HH part i s+1≤ic s.leaves.length by rw [hL]; omega),
  decide_eq_true (show (q+(i - q))*8≤D1 by unfold D1; omega),decide_eq_true (show (q+(i - q)+(0+1+1))*8≤D1 by unfold D1; omega)]
 simp only [Bool.and_true,DB,DC];have g1:(JS part byl atl val dim i s).nodes.length=s.nodes.length+(0+1+1):=by rw [(hs.step (by omega)).nl,hs.nl]; omega
 have g2:(JS part byl atl val dim i s).leaves.length=q+(i - q)+(0+1+1):=by rw [(hs.step (by omega)).ll]; omega
 have g3:(JS part byl atl val dim i s).nodes=List.take s.nodes.length (List.set s.nodes (PZ part i s).toNat (M7 true kN (List.getD s.nodes (PZ part i s).toNat default) 0 [IV.bool false,IV.int 0,IV.int (DS (ED byl (i:Int)) 0 (dim - 1)),IV.int (DS (ED atl (i:Int)) 0 9),IV.int (ic s.nodes.length),IV.int (ic s.nodes.length+1)])) ++
   [IV.agg [IV.bool true,IV.int (DS (ED val (2*(i:Int)+1)) (-3000) 3000),IV.int 0,IV.int 0,IV.int 0,IV.int 0],IV.agg [IV.bool true,IV.int (DS (ED val (2*(i:Int)+2)) (-3000) 3000),IV.int 0,IV.int 0,IV.int 0,IV.int 0]]:=by
  rw [zdy,List.take_of_length_le (by rw [List.length_set]; exact Nat.le_refl _)];rfl
 have g4:(JS part byl atl val dim i s).leaves=List.take (q+(i - q)) (List.take q (List.take 0 []++List.take q s.leaves)++List.drop (q+1) s.leaves)++[IV.int (ic s.nodes.length),IV.int (ic s.nodes.length+1)]:=by
  rw [List.take_zero,List.nil_append,List.take_take,Nat.min_self,List.take_of_length_le (by rw [List.length_append,zA,zB]; exact Nat.le_refl _)];show List.take (HH part i s).toNat s.leaves++List.drop ((HH part i s).toNat+1) s.leaves++_=_;rw [eq0]
 rw [show dR cl part byl atl val dim (JS part byl atl val dim i s) ((i+1:Nat):Int)=⟨[(1,(.int .i64 dim)),(2,(.ptr 2 0 0)),(4,.zs),(5,(.row 500 0 (JS part byl atl val dim i s).nodes.length)),(6,(.row 501 0 (JS part byl atl val dim i s).leaves.length)),(7,(.int .i64 ((i+1:Nat):Int)))],[(2,(some (.box [(.int .i64 cl),(.list false [.z] part),(.list false [.z] byl),(.list false [.z] atl),(.list false [.z] val)]))),(500,(some (.row true 82 true kN (JS part byl atl val dim i s).nodes))),(501,(some (.row true 3 false [.z] (JS part byl atl val dim i s).leaves)))]⟩ from rfl,g1,g2,g3,g4,GV (by omega)]
theorem Bf (N:Nat) (cl:Int) (part byl atl val:LI) (dim:Int) (h1:1≤dim) (h4:dim≤4) (K:Out→St→DG):∀ (d i n:Nat) (s:Ns),i+d=min part.length 7→d < n→s.At i →
  (∃ j,DR (G4 N) (DD LQ [1,1,1,0,1,0,0]) nG n (dR cl part byl atl val dim s (i:Int)) K=K (.exit 0) (dR cl part byl atl val dim (XV part byl atl val dim d i s) j))∧(XV part byl atl val dim d i s).At (i+d)
 | 0,i,n+1,s,hd,hn,hs=>by
  refine ⟨⟨(i:Int),?_⟩,hs⟩;rw [DY];refine (Hs N dim s.nodes.length s.leaves.length i cl part byl atl val s.nodes s.leaves _ _).trans ?_;by_cases hp:i < part.length
  ·rw [AF (show (i:Int) < ic part.length by simp only [ic]; omega),DB,AL (show ¬ (i:Int) < 7 by omega),DC];rfl
  ·rw [AL (show ¬ (i:Int) < ic part.length by simp only [ic]; omega),DC];rfl
 | d+1,i,n+1,s,hd,hn,hs=>by
  obtain ⟨⟨j,ih⟩,ih2⟩:=Bf N cl part byl atl val dim h1 h4 K d (i+1) n (JS part byl atl val dim i s) (by omega) (by omega) (hs.step (by omega));refine ⟨⟨j,?_⟩,by rw [show i+(d+1)=i+1+d by omega]; exact ih2⟩;rw [DY,zcA N cl part byl atl val dim h1 h4 s i hs (by omega) (by omega)];exact ih
 | _,_,0,_,_,h,_=>by omega
theorem zgc (N:Nat):TI.bytes (Env.tyd (G4 N) 84)=8:=by rfl
abbrev y9:KP:=⟨[4,11,100,101,102],[500,502],[⟨(.tmp 11),502,84,false,[(.int .u64)]⟩]⟩
theorem Bs (N:Nat) (L:LI) (hL:L.length≤1000):∀ (d i n:Nat) (O:LI),i+d=L.length→d < n→O.length=i →
  DR (G4 N) (DD LQ [1,1,1,1,1,0,1,0,0]) y9 n ⟨[(4,.zs),(11,(.row 502 0 O.length)),(100,(.row 500 0 L.length)),(101,(.int .i64 (ic (L.length - 0)))),(102,(.int .i64 (i:Int)))],[(500,(some (.row true 82 true kN L))),(502,(some (.row true 84 false [(.int .u64)] O)))]⟩
   (DI 2 (DJ (G4 N) (DD LQ [1,1,1,1,1,1]) (DL (G4 N) none [(BV 4)] [[(.list false [(.int .u64)])]])))=some (.list false [.int .u64] (O++(L.drop i).map RA),[])
 | 0,i,n+1,O,hd,hn,hO=>by
  rw [DY];refine (Ht N O.length L.length (ic (L.length - 0)) i L O _ _).trans ?_;rw [AL (show ¬ (i:Int) < ic (L.length - 0) by simp only [ic]; omega),DC];refine (Sm N O.length L.length (ic (L.length - 0)) i L O).trans ?_;rw [B1,BD,C4 (by omega),B6,vad]
 | d+1,i,n+1,O,hd,hn,hO=>by
  have hi:i < L.length:=by omega
  rw [DY];refine (Ht N O.length L.length (ic (L.length - 0)) i L O _ _).trans ?_;have ih:=Bs N L hL d (i+1) n (O++[RA L[i]]) (by omega) (by omega) (by simp [hO]);have l1:∀ x:IV,AQ 0 (AK 1 [x])=[x]:=fun _=>rfl
  have eg:AI L (0+AD (i:Int)) default=L[i]:=by rw [BK,BC]; simp [hi]
  rw [AF (show (i:Int) < ic (L.length - 0) by simp only [ic]; omega),AF (show 0≤(i:Int) by omega),CR,DB,DB,eg,l1,zgc,B3,AF (show (O.length+1)*8≤D1 by rw [hO]; unfold D1; omega),DB,BD,GV (by omega)];rw [A7 hi,AZ];rw [AR,B3,vaG] at ih;exact ih
 | _,_,0,_,_,h,_=>by omega
theorem zeB:DO PR B0 16 ZS:=by
 refine DX [(7,LL),(15,OC),(33,T4)] [(4,nG),(14,y9)] ZS [[.list false [.int .u64]]] Tryz.func16 We
  ⟨YD,jK,Fl,trivial⟩ ?_
 intro vs r hwf h;unfold ZS at h;split at h
 ·rename_i cl part byl atl val dim;cases hc:(decide (1≤dim)&&decide (dim≤4)) with
  | false=>rw [hc] at h; simp [R.get] at h
  | true=>
   rw [hc,R.get_br,DB,R.get_ok] at h;simp only [AG,AP] at hc;refine ⟨30,?_⟩;rw [← h];refine (zbb 30 cl part byl atl val dim).trans ?_;have h0:(⟨[LB (DS (ED val 0) (-3000) 3000)],[.int 0]⟩:Ns).At 0:=⟨rfl,rfl,fun x hx=>by
    rw [A4] at hx;subst hx;exact ⟨by decide,by decide⟩⟩
   obtain ⟨⟨j,run⟩,hat⟩:=Bf 30 cl part byl atl val dim hc.1 hc.2 (DI 0 (DJ (G4 30) (DD LQ [1,1,1,1]) (DL (G4 30) none [(BV 4)] [[(.list false [(.int .u64)])]]))) (min part.length 7) 0 30 _ (by omega) (by omega) h0;refine run.trans ?_;have e:XV part byl atl val dim (min part.length 7) 0 ⟨[LB (DS (ED val 0) (-3000) 3000)],[.int 0]⟩=NZ part byl atl val dim:=rfl;rw [e] at hat ⊢;have hn:=hat.nl;refine (Sl 30 dim (NZ part byl atl val dim).nodes.length (NZ part byl atl val dim).leaves.length j cl part byl atl val (NZ part byl atl val dim).nodes (NZ part byl atl val dim).leaves).trans ?_
   have:=Bs 30 (NZ part byl atl val dim).nodes (by omega) (NZ part byl atl val dim).nodes.length 0 30 [] (by omega) (by omega) rfl
   rw [B1,vaE] at this;exact this
 ·simp [R.get] at h
open Go Go.Proofs
def IP (N:Nat):Env:=DV [(7,LL),(16,ZS),(15,OC)] [(3,⟨[1,2,3,14,15],[1,2,3],[]⟩),(8,⟨[1,2,3,5],[1,2,3,500],[⟨.cell 3 5,500,61,true,[.z,.list false [.int .u64]]⟩]⟩)] 63 N
abbrev TK (x14 x15 u02 u03:Int) (u00 u01:LI) (u04 u05 u06 u07 u08 u09 u0a u0b u0c u0d:Int):St:=⟨[(1,(.ptr 1 0 0)),(2,(.ptr 2 0 0)),(3,(.ptr 3 0 0)),(14,(.i x14)),(15,(.i x15))],[(1,(some (.box [.i u02,.i u03,.list false [.z] u00,.list true [.z,.list false [.z],.list false [.z],.list false [.z],.list false [.z]] u01]))),(2,(some (.box [.i u04,.i u05,.i u06,.i u07,.i u08,.zs]))),(3,(some (.box [.i u09,.i u0a,.i u0b,.i u0c,.i u0d,.zs])))]⟩
abbrev WL (x5 u04 u05:Int) (u00 u01:LI) (u06 u07 u08 u09 u0a u0b u0c u0d u0e u0f:Int) (u03:Nat) (u02:LI):St:=⟨[(1,(.ptr 1 0 0)),(2,(.ptr 2 0 0)),(3,(.ptr 3 0 0)),(5,(.i x5))],[(1,(some (.box [.i u04,.i u05,.list false [.z] u00,.list true [.z,.list false [.z],.list false [.z],.list false [.z],.list false [.z]] u01]))),(2,(some (.box [.i u06,.i u07,.i u08,.i u09,.i u0a,.zs]))),(3,(some (.box [.i u0b,.i u0c,.i u0d,.i u0e,.i u0f,.row 500 0 u03]))),(500,(some (.row true 61 true [.z,.list false [.int .u64]] u02)))]⟩
theorem za8 (N:Nat) (u02 u01:Int) (u00 u03:LI):DQ (IP N) MC [.cell 2 29] [[.z,.z,.z,.z,.z,.list true [.z,.list false [.int .u64]]]] [.agg [.i u02,.i u01,.list false [.z] u00,.list true [.z,.list false [.z],.list false [.z],.list false [.z],.list false [.z]] u03]]=(DR (IP N) (DD MC [1,1,0,1,0,0]) ⟨[1,2,3,14,15],[1,2,3],[]⟩ N (TK (DS u01 1 3) 0 u02 u01 u00 u03 0 0 0 0 0 (DS u02 1 3) (DS u01 1 3) 0 0 0) (DI 0 (DJ (IP N) (DD MC [1,1,1]) (DL (IP N) none [.cell 2 29] [[.z,.z,.z,.z,.z,.list true [.z,.list false [.int .u64]]]])))):=by kernel_rfl
theorem Hp (N:Nat) (x14 x15 u02 u03:Int) (u00 u01:LI) (u04 u05 u06 u07 u08 u09 u0a u0b u0c u0d:Int) (again:St→DG) (k:Out→St→DG):E4 (IP N) (DD MC [1,1,0,1,0,0]) (TK x14 x15 u02 u03 u00 u01 u04 u05 u06 u07 u08 u09 u0a u0b u0c u0d) (EH again ⟨[1,2,3,14,15],[1,2,3],[]⟩ k)=(cond (decide (x15 < x14)) (cond (decide (0≤x15)) (cond (decide (x15=ic 0)) (again (TK x14 (AA AB (x15+1)) u02 u03 u00 u01 u04 u05 u06 u07 u08 u09 u0a (DS (ED u00 x15) (-500) 500) u0c u0d)) (cond (decide (x15=ic 1)) (again (TK x14 (AA AB (x15+1)) u02 u03 u00 u01 u04 u05 u06 u07 u08 u09 u0a u0b (DS (ED u00 x15) (-500) 500) u0d)) (cond (decide (x15=ic 2)) (again (TK x14 (AA AB (x15+1)) u02 u03 u00 u01 u04 u05 u06 u07 u08 u09 u0a u0b u0c (DS (ED u00 x15) (-500) 500))) none))) none) (k (.exit 0) (TK x14 x15 u02 u03 u00 u01 u04 u05 u06 u07 u08 u09 u0a u0b u0c u0d))):=by kernel_rfl
theorem Si (N:Nat) (x14 x15 u02 u03:Int) (u00 u01:LI) (u04 u05 u06 u07 u08 u09 u0a u0b u0c u0d:Int):(DI 0 (DJ (IP N) (DD MC [1,1,1]) (DL (IP N) none [.cell 2 29] [[.z,.z,.z,.z,.z,.list true [.z,.list false [.int .u64]]]]))) (.exit 0) (TK x14 x15 u02 u03 u00 u01 u04 u05 u06 u07 u08 u09 u0a u0b u0c u0d)=(DR (IP N) (DD MC [1,1,1,0,1,0,0]) ⟨[1,2,3,5],[1,2,3,500],[⟨(.cell 3 5),500,61,true,[.z,.list false [.int .u64]]⟩]⟩ N (WL 0 u02 u03 u00 u01 u04 u05 u06 u07 u08 u09 u0a u0b u0c u0d 0 []) (DI 2 (DJ (IP N) (DD MC [1,1,1,1]) (DL (IP N) none [.cell 2 29] [[.z,.z,.z,.z,.z,.list true [.z,.list false [.int .u64]]]])))):=by kernel_rfl
theorem Hq (N:Nat) (x5 u04 u05:Int) (u00 u01:LI) (u06 u07 u08 u09 u0a u0b u0c u0d u0e u0f:Int) (u03:Nat) (u02:LI) (again:St→DG) (k:Out→St→DG):E4 (IP N) (DD MC [1,1,1,0,1,0,0]) (WL x5 u04 u05 u00 u01 u06 u07 u08 u09 u0a u0b u0c u0d u0e u0f u03 u02) (EH again ⟨[1,2,3,5],[1,2,3,500],[⟨(.cell 3 5),500,61,true,[.z,.list false [.int .u64]]⟩]⟩ k)=(cond (decide (x5 < ic (AE u01))) (cond (decide (x5 < 4)) (cond (decide (0≤x5)&&decide (x5 < ic (AE u01))) (cond (decide (I4 0 (AA AB (u0c - 1))=0)) none (cond (decide (0≤x5)&&decide (x5 < ic (AE u01))) (cond (decide (1≤u0b)&&decide (u0b≤4)) (cond (decide ((u03+AE (AQ 0 (AK 1 [IV.agg [IV.int (DS (IV.toInt (IV.cell (AI u01 (AD x5) default) 0)) 0 (AA AB (u0c - 1))),IV.list (MN (IV.toList (IV.cell (AI u01 (AD x5) default) 1)) (IV.toList (IV.cell (AI u01 (AD x5) default) 2)) (IV.toList (IV.cell (AI u01 (AD x5) default) 3)) (IV.toList (IV.cell (AI u01 (AD x5) default) 4)) u0b)]])))*TI.bytes (Env.tyd (IP N) 61)≤D1)) (again (WL (AA AB (x5+1)) u04 u05 u00 u01 u06 u07 u08 u09 u0a u0b u0c u0d u0e u0f (u03+AE (AQ 0 (AK 1 [IV.agg [IV.int (DS (IV.toInt (IV.cell (AI u01 (AD x5) default) 0)) 0 (AA AB (u0c - 1))),IV.list (MN (IV.toList (IV.cell (AI u01 (AD x5) default) 1)) (IV.toList (IV.cell (AI u01 (AD x5) default) 2)) (IV.toList (IV.cell (AI u01 (AD x5) default) 3)) (IV.toList (IV.cell (AI u01 (AD x5) default) 4)) u0b)]]))) (AK u03 u02++AQ 0 (AK 1 [IV.agg [IV.int (DS (IV.toInt (IV.cell (AI u01 (AD x5) default) 0)) 0 (AA AB (u0c - 1))),IV.list (MN (IV.toList (IV.cell (AI u01 (AD x5) default) 1)) (IV.toList (IV.cell (AI u01 (AD x5) default) 2)) (IV.toList (IV.cell (AI u01 (AD x5) default) 3)) (IV.toList (IV.cell (AI u01 (AD x5) default) 4)) u0b)]])))) none) none) none)) none) (k (.exit 2) (WL x5 u04 u05 u00 u01 u06 u07 u08 u09 u0a u0b u0c u0d u0e u0f u03 u02))) (k (.exit 2) (WL x5 u04 u05 u00 u01 u06 u07 u08 u09 u0a u0b u0c u0d u0e u0f u03 u02))):=by kernel_rfl
theorem Sj (N:Nat) (x5 u04 u05:Int) (u00 u01:LI) (u06 u07 u08 u09 u0a u0b u0c u0d u0e u0f:Int) (u03:Nat) (u02:LI):(DI 2 (DJ (IP N) (DD MC [1,1,1,1]) (DL (IP N) none [.cell 2 29] [[.z,.z,.z,.z,.z,.list true [.z,.list false [.int .u64]]]]))) (.exit 2) (WL x5 u04 u05 u00 u01 u06 u07 u08 u09 u0a u0b u0c u0d u0e u0f u03 u02)=(some ((.agg [.i u0b,.i u0c,.i u0d,.i u0e,.i u0f,.list true [.z,.list false [.int .u64]] (AQ 0 (AK u03 u02))]),[])):=by kernel_rfl
open Go Go.Proofs
abbrev Zv:List Kd:=[.z,(.list false [.z]),(.list false [.z]),(.list false [.z]),(.list false [.z])]
def bF (bias:LI) (j:Int):Int:=DS (ED bias j) (-500) 500
abbrev lD (d c:Int) (bias ts:LI):Ob:=.box [(.int .i64 d),(.int .i64 c),(.list false [.z] bias),(.list true Zv ts)]
abbrev lF:Ob:=.box [(.int .i64 0),(.int .i64 0),(.int .i64 0),(.int .i64 0),(.int .i64 0),.zs]
abbrev Hb (d c:Int) (bias ts:LI) (D C:Int) (i:Nat) (x:Int):St:=
 ⟨[(1,(.ptr 1 0 0)),(2,(.ptr 2 0 0)),(3,(.ptr 3 0 0)),(14,(.int .i64 C)),(15,(.int .i64 x))],[(1,(some (lD d c bias ts))),(2,(some lF)),(3,(some (.box [(.int .i64 D),(.int .i64 C),(.int .i64 (cond (BN 0 i) (bF bias 0) 0)),(.int .i64 (cond (BN 1 i) (bF bias 1) 0)),(.int .i64 (cond (BN 2 i) (bF bias 2) 0)),.zs])))]⟩
theorem sV (N:Nat) (d c:Int) (bias ts:LI) (D:Int) (C:Nat) (hC:C≤3) (K:Out→St→DG):∀ (m i n:Nat),i+m=C→m < n →
  DR (IP N) (DD MC [1,1,0,1,0,0]) ⟨[1,2,3,14,15],[1,2,3],[]⟩ n (Hb d c bias ts D C i (i:Int)) K=K (.exit 0) (Hb d c bias ts D C C (C:Int))
 | 0,i,n+1,hd,hn=>by
  have hi:i=C:=by omega
  subst hi;rw [DY];refine (Hp N i i d c bias ts 0 0 0 0 0 D i (cond (BN 0 i) (bF bias 0) 0) (cond (BN 1 i) (bF bias 1) 0) (cond (BN 2 i) (bF bias 2) 0) _ _).trans ?_;rw [AL (show ¬ (i:Int) < (i:Int) by omega),DC]
 | m+1,i,n+1,hd,hn=>by
  rw [DY];refine (Hp N C i d c bias ts 0 0 0 0 0 D C (cond (BN 0 i) (bF bias 0) 0) (cond (BN 1 i) (bF bias 1) 0) (cond (BN 2 i) (bF bias 2) 0) _ _).trans ?_;have ih:=sV N d c bias ts D C hC K m (i+1) n (by omega) (by omega);rw [AF (show (i:Int) < (C:Int) by omega),DB,AF (show 0≤(i:Int) by omega),DB,GV (by omega)];have hi4:i=0∨i=1∨i=2:=by omega
  rcases hi4 with rfl | rfl | rfl
  ·rw [show decide (((0:Nat):Int)=ic 0)=true from rfl,DB];exact ih
  ·rw [show decide (((1:Nat):Int)=ic 0)=false from rfl,show decide (((1:Nat):Int)=ic 1)=true from rfl,DC,DB];exact ih
  ·rw [show decide (((2:Nat):Int)=ic 0)=false from rfl,show decide (((2:Nat):Int)=ic 1)=false from rfl,show decide (((2:Nat):Int)=ic 2)=true from rfl,DC,DC,DB];exact ih
 | _,_,0,_,h=>by omega
abbrev g7:List Kd:=[.z,(.list false [(.int .u64)])]
abbrev y8:KP:=⟨[1,2,3,5],[1,2,3,500],[⟨(.cell 3 5),500,61,true,[.z,(.list false [(.int .u64)])]⟩]⟩
abbrev qM (d c:Int) (bias ts:LI) (D C b0 b1 b2:Int) (O:LI) (x:Int):St:=
 ⟨[(1,(.ptr 1 0 0)),(2,(.ptr 2 0 0)),(3,(.ptr 3 0 0)),(5,(.int .i64 x))],[(1,(some (lD d c bias ts))),(2,(some lF)),(3,(some (.box [(.int .i64 D),(.int .i64 C),(.int .i64 b0),(.int .i64 b1),(.int .i64 b2),(.row 500 0 O.length)]))),(500,(some (.row true 61 true g7 O)))]⟩
def V8 (D C:Int) (t:IV):IV:=.agg [.int (DS (t.cell 0).toInt 0 (C - 1)),.list (MN (t.cell 1).toList (t.cell 2).toList (t.cell 3).toList (t.cell 4).toList D)]
theorem zf6 (N:Nat):TI.bytes (Env.tyd (IP N) 61)=32:=by rfl
theorem Jo (N:Nat) (d c:Int) (bias ts:LI) (D C b0 b1 b2:Int) (hD:1≤D∧D≤4) (hC:1≤C∧C≤3):∀ (m i n:Nat) (O:LI),i+m=min ts.length 4→m < n→O.length=i →
  DR (IP N) (DD MC [1,1,1,0,1,0,0]) y8 n (qM d c bias ts D C b0 b1 b2 O (i:Int)) (DI 2 (DJ (IP N) (DD MC [1,1,1,1]) (DL (IP N) none [(vbf 2 29)] [[.z,.z,.z,.z,.z,(.list true [.z,(.list false [(.int .u64)])])]]))) =
   some (.agg [.int .i64 D,.int .i64 C,.int .i64 b0,.int .i64 b1,.int .i64 b2,.list true g7 (O++((ts.take 4).drop i).map (V8 D C))],[])
 | 0,i,n+1,O,hd,hn,hO=>by
  have fin:(DI 2 (DJ (IP N) (DD MC [1,1,1,1]) (DL (IP N) none [(vbf 2 29)] [[.z,.z,.z,.z,.z,(.list true [.z,(.list false [(.int .u64)])])]]))) (.exit 2) (qM d c bias ts D C b0 b1 b2 O (i:Int))=some (.agg [.int .i64 D,.int .i64 C,.int .i64 b0,.int .i64 b1,.int .i64 b2,.list true g7 (O++((ts.take 4).drop i).map (V8 D C))],[]):=by
   refine (Sj N i d c bias ts 0 0 0 0 0 D C b0 b1 b2 O.length O).trans ?_;rw [B1,BD,C4 (by rw [A8]; omega),B6,vad]
  rw [DY];refine (Hq N i d c bias ts 0 0 0 0 0 D C b0 b1 b2 O.length O _ _).trans ?_;by_cases hp:i < ts.length
  ·rw [AF (show (i:Int) < ic ts.length by simp only [ic]; omega),DB,AL (show ¬ (i:Int) < 4 by omega),DC];exact fin
  ·rw [AL (show ¬ (i:Int) < ic ts.length by simp only [ic]; omega),DC];exact fin
 | m+1,i,n+1,O,hd,hn,hO=>by
  have hi:i < ts.length:=by omega
  rw [DY];refine (Hq N i d c bias ts 0 0 0 0 0 D C b0 b1 b2 O.length O _ _).trans ?_;have l1:∀ x:IV,AQ 0 (AK 1 [x])=[x]:=fun _=>rfl
  have eg:AI ts (AD (i:Int)) default=ts[i]:=by rw [BC]; simp [hi]
  have w1:AA AB (C - 1)=C - 1:=EA (by omega) (by omega);obtain ⟨m1,_,_⟩:=JG (n:=0) (lo:=0) (hi:=C - 1) (by omega) (by omega) (by omega);have ih:=Jo N d c bias ts D C b0 b1 b2 hD hC m (i+1) n (O++[V8 D C ts[i]]) (by omega) (by omega) (by simp [hO]);rw [AF (show (i:Int) < ic ts.length by simp only [ic]; omega),AF (show (i:Int) < 4 by omega),AF (show 0≤(i:Int) by omega),w1,m1,AL (show ¬ (C - 1 - 0+1=0) by omega),AF hD.1,AF hD.2,eg,l1,zf6,B3,
   AF (show (O.length+1)*32≤D1 by rw [hO]; unfold D1; omega),BD,GV (by omega)]
  simp only [CR,DB,DC];have ed:(ts.take 4).drop i=ts[i] :: (ts.take 4).drop (i+1):=by
   have h4:i < (ts.take 4).length:=by rw [A8]; omega
   rw [A7 h4];congr 1;rw [List.getElem_take]
  rw [ed,AZ];rw [vaG] at ih;have eL:(O++[V8 D C ts[i]]).length=O.length+1:=by simp
  rw [show qM d c bias ts D C b0 b1 b2 (O++[V8 D C ts[i]]) ((i+1:Nat):Int)=⟨[(1,(.ptr 1 0 0)),(2,(.ptr 2 0 0)),(3,(.ptr 3 0 0)),(5,(.int .i64 ((i+1:Nat):Int)))],[(1,(some (lD d c bias ts))),(2,(some lF)),(3,(some (.box [(.int .i64 D),(.int .i64 C),(.int .i64 b0),(.int .i64 b1),(.int .i64 b2),(.row 500 0 (O++[V8 D C ts[i]]).length)]))),(500,(some (.row true 61 true g7 (O++[V8 D C ts[i]]))))]⟩ from rfl,eL] at ih;exact ih
 | _,_,0,_,_,h,_=>by omega
theorem zey:DO PR B0 5 eT:=by
 refine DX [(7,LL),(16,ZS),(15,OC)] [(3,⟨[1,2,3,14,15],[1,2,3],[]⟩),(8,y8)] eT [[.z,.z,.z,.z,.z,.list true [.z,.list false [.int .u64]]]] Tryz.func5 Wa
  ⟨YD,zeB,jK,trivial⟩ ?_
 intro vs r hwf h;unfold eT at h;split at h
 ·rename_i d c bias ts;refine ⟨20,?_⟩;rw [R.get_ok] at h;rw [← h];refine (za8 20 d c bias ts).trans ?_;obtain ⟨_,d1,d2⟩:=JG (n:=d) (lo:=1) (hi:=3) (by omega) (by omega) (by omega);obtain ⟨_,c1,c2⟩:=JG (n:=c) (lo:=1) (hi:=3) (by omega) (by omega) (by omega);unfold TB YL QQ J2 M3;generalize DS d 1 3=D at d1 d2;generalize DS c 1 3=C' at c1 c2;obtain ⟨C,rfl⟩:∃ C:Nat,C'=C:=⟨C'.toNat,by omega⟩;refine (sV 20 d c bias ts D C (by omega) _ C 0 20 (by omega) (by omega)).trans ?_;refine (Si 20 C C d c bias ts 0 0 0 0 0 D C (cond (BN 0 C) (bF bias 0) 0) (cond (BN 1 C) (bF bias 1) 0) (cond (BN 2 C) (bF bias 2) 0)).trans ?_;refine (Jo 20 d c bias ts D C _ _ _ ⟨d1,by omega⟩ ⟨c1,by omega⟩ (min ts.length 4) 0 20 [] (by omega) (by omega) rfl).trans ?_;rw [B1,vaE];have hC:C=1∨C=2∨C=3:=by omega
  rcases hC with rfl | rfl | rfl <;> rfl
 ·simp [R.get] at h
open Go Go.Proofs
def Ll (N:Nat):Env:=DV [(23,T2),(22,ZR),(24,Z3),(13,QN),(25,UL)] [] 31 N
theorem zbi (N:Nat):DQ (Ll N) t8 [.tmp 0] [[.bool]] []=(some ((.bool true),[])):=by kernel_rfl
open Go Go.Proofs
def Lf (N:Nat):Env:=DV [(33,T4)] [] 14 N
theorem zba (N:Nat):DQ (Lf N) tW [.cell 0 29] [[.z,.z,.z,.z,.z,.list true [.z,.list false [.int .u64]]]] []=(some ((.agg [.i 1,.i 1,.i 3,.i 0,.i 0,.list true K9 [(IV.agg [IV.int 0,IV.list [IV.int (HP false 0 0 5 1 2),IV.int (HP true 10 0 0 0 0),IV.int (HP true 20 0 0 0 0)]])]]),[])):=by kernel_rfl
def Le (N:Nat):Env:=DV [(7,LL),(15,OC)] [(3,⟨[1,2,4,5,7],[2,4,5],[]⟩)] 31 N
open Go Go.Proofs
theorem zeA:DO PR B0 22 ZR:=by
 refine DX [(33,T4)] [] ZR [[.z,.z,.z,.z,.z,.list true [.z,.list false [.int .u64]]]] Tryz.func22 Wd ⟨Fl,trivial⟩ ?_;intro vs r hwf h;unfold ZR at h;split at h
 ·skip
  rw [R.get_ok] at h;refine ⟨0,(zba 0).trans ?_⟩;rw [← h];rfl
 ·simp [R.get] at h
theorem Fm:DO PR B0 11 T5:=by
 refine DX [(23,T2),(22,ZR),(24,Z3),(13,QN),(25,UL)] [] T5 [[.bool]] Tryz.func11 Wl ⟨Fj,zeA,zeO,qD,Gn,trivial⟩ ?_;intro vs r hwf h;unfold T5 at h;split at h
 ·skip
  rw [R.get_ok] at h;refine ⟨0,(zbi 0).trans ?_⟩;rw [← h]
 ·simp [R.get] at h
open Go Go.Proofs
open Go Go.Proofs
theorem Fe:DO PR B0 5 UR:=Snd.mono zey fun _ _ h=>Nr h
open Go
def H4 (x:IV):Bx:=DN x
def Q5 (x y:IV):IV:=ST ((H4 x).meet (H4 y)) (AA AB (FF x+FF y))
def LD (x:IV):LI→LI→LI
 | [],out=>out
 | y :: r,out=>LD x r (cond ((H4 x).meet (H4 y)).emp out (out++[Q5 x y]))
def MK:LI→LI→LI→LI
 | [],_,out=>out
 | x :: r,l,out=>MK r l (LD x l out)
def OR (a b:LI):LI:=MK a b []
def OS (a b:LI) (most:Int):Bool:=decide (ic (OR a b).length≤most)
def ZP:DK
 | [.list true [.z,.z,.z,.z,.z,.z,.z,.z,.z,.z,.z] a,.list true [.z,.z,.z,.z,.z,.z,.z,.z,.z,.z,.z] b,.int .i64 most]=>
  .br (decide (0≤most)&&decide (most≤65536)) (.ok (.tup [.list true D9 (cond (OS a b most) (OR a b) []),.bool (OS a b most)]) []) .no
 | _=>.no
def ZO:DK
 | [.list true [.z,.z,.z,.z,.z,.z,.z,.z,.z,.z,.z] a]=>
  .ok (.tup [.int .i64 (cond a.isEmpty 0 (KN a)),.int .i64 (cond a.isEmpty 0 (KM a)),.bool (!a.isEmpty)]) []
 | _=>.no
def KD (m:Md) (c:Int) (b:Bx):LI:=(m.ts.filter fun t=>JW t==c).map fun t=>.list (F9 (EJ t) b)
def aD:DK
 | [m,.int .i64 c,b]=>ID m fun m=>HC b fun b=>.ok (.tup [.list false [.list true D9] (cond (E9 m c b) (KD m c b) []),.bool (E9 m c b)]) []
 | _=>.no
def GL (most:Int):LI→LI × Bool
 | []=>([],false)
 | [x]=>([.list x.toList],false)
 | x :: y :: r=>cond (OS x.toList y.toList most) (.list (OR x.toList y.toList) :: (GL most r).1,true) (.list x.toList :: (GL most (y :: r)).1,(GL most (y :: r)).2)
def aC:DK
 | [.list false [.list true [.z,.z,.z,.z,.z,.z,.z,.z,.z,.z,.z]] l,.int .i64 most]=>
  .br (decide (0≤most)&&(decide (most≤65536)&&BS l.length 65536)) (.ok (.tup [.list false [.list true D9] (GL most l).1,.bool (GL most l).2]) []) .no
 | _=>.no
def PH (most:Int):Nat→LI→LI
 | 0,l=>l
 | n+1,l=>cond (GL most l).2 (PH most n (GL most l).1) l
def fR (most:Int):Nat→LI→LI→LI
 | 0,_,ns=>ns
 | n+1,l,ns=>cond (GL most l).2 (fR most n (GL most l).1 (ns++[.int (ic (GL most l).1.length)])) ns
def OK (most:Int) (l:LI):LI:=PH most (l.length+1) l
def Py (most:Int) (l:LI):LI:=fR most (l.length+1) l [.int (ic l.length)]
def aB:DK
 | [.list false [.list true [.z,.z,.z,.z,.z,.z,.z,.z,.z,.z,.z]] l,.int .i64 most]=>
  .br (decide (0≤most)&&(decide (most≤65536)&&BS l.length 65536)) (.ok (.tup [.list false [.list true D9] (OK most l),.list false [.z] (Py most l)]) []) .no
 | _=>.no
def gQ (g:IV):Int:=cond g.toList.isEmpty 0 (KN g.toList)
def gP (g:IV):Int:=cond g.toList.isEmpty 0 (KM g.toList)
def PU:LI→Int→Int
 | [],s=>s
 | g :: r,s=>PU r (AA AB (s+gQ g))
def PM:LI→Int→Int
 | [],s=>s
 | g :: r,s=>PM r (AA AB (s+gP g))
def S1 (m:Md) (c:Int) (b:Bx) (most:Int):LI:=OK most (KD m c b)
def HJ (m:Md) (c:Int) (b:Bx) (most:Int):Int:=cond (E9 m c b) (PU (S1 m c b most) (G0 m c)) 0
def HI (m:Md) (c:Int) (b:Bx) (most:Int):Int:=cond (E9 m c b) (PM (S1 m c b most) (G0 m c)) 0
def KR (m:Md) (c:Int) (b:Bx) (most:Int):Bool:=E9 m c b&&decide (ic (S1 m c b most).length≤1)
def UA:DK
 | [m,.int .i64 c,b,.int .i64 most]=>ID m fun m=>HC b fun b=>
  .br (decide (0≤most)&&decide (most≤65536)) (.ok (.tup [.int .i64 (HJ m c b most),.int .i64 (HI m c b most),.bool (KR m c b most)]) []) .no
 | _=>.no
open Go
def fW (j:Nat):Bx→List Int→List Bx
 | c,[]=>[c]
 | c,a :: r=>c.cutL (j:Int) a :: fW j (c.cutH (j:Int) a) r
def bM (m:Md) (q:Qy) (b:Bx):Nat→List Bx
 | 0=>[b]
 | j+1=>(bM m q b j).flatMap fun c=>fW j c (D6 m q b j)
def SJ (m:Md) (q:Qy):Bool:=(bM m q (EE q) 5).all fun c=>!(FO m q c.low c.s4.hi)
def ER (m:Md) (q:Qy) (b:Bx):Nat→Nat
 | 0=>1
 | j+1=>ER m q b j*(1+(D6 m q b j).length)
def PL (m:Md) (q:Qy) (b:Bx):Bool:=EQ m&&BS (ER m q b 5) 1000000000000000
def M6 (m:Md) (q:Qy) (b:Bx) (most:Int):Bool:=decide (ic (ER m q b 5) > most)
def Z7:DK
 | [m,q,b,.int .i64 most]=>ID m fun m=>IO q fun q=>HC b fun b=>.br (PL m q b) (.ok (.tup [.int .i64 (cond (M6 m q b most) 0 (ic (ER m q b 5))),.bool (!(M6 m q b most))]) []) .no
 | _=>.no
def XG (m:Md) (q:Qy):Qy:=q.bud (cond (M6 m q (EE q) 1500) 0 (2*ic (ER m q (EE q) 5)))
def ZV:DK
 | [m,q]=>ID m fun m=>IO q fun q=>.br (PL m q (EE q)) (.ok (.tup [(XG m q).V,.bool (!(M6 m q (EE q) 1500))]) []) .no
 | _=>.no
open Go
def kT:DK
 | [f,.list false [.z] _,.int .i64 _,.int .i64 _]=>kG f fun _=>.ok (.bool true) []
 | _=>.no
def kS:DK
 | [f,.list false [.z] _,.int .i64 _,.int .i64 _,.int .i64 _,.list false [.z] _]=>kG f fun _=>.ok (.bool true) []
 | _=>.no
def IJ (d:Int) (l:LI):Bx:=⟨⟨J8 d l 0,J9 d l 0⟩,⟨J8 d l 1,J9 d l 1⟩,⟨J8 d l 2,J9 d l 2⟩,⟨J8 d l 3,J9 d l 3⟩,⟨0,0⟩⟩
def FW (c:Int) (b:Bx) (lo hi bu:Int):Qy:=⟨1,c,b.s0.lo,b.s0.hi,b.s1.lo,b.s1.hi,b.s2.lo,b.s2.hi,b.s3.lo,b.s3.hi,b.s4.lo,b.s4.hi,lo,hi,0,false,bu⟩
def Qy.rng (q:Qy) (lo hi:Int):Qy:=⟨q.k,q.c,q.a0,q.b0,q.a1,q.b1,q.a2,q.b2,q.a3,q.b3,q.a4,q.b4,lo,hi,q.ft,q.fl,q.bu⟩
def pM (m:Md) (c:Int) (b:Bx) (z:Int):DG:=
 cond (PL m (FW c b (HJ m c b z) (HI m c b z) 0) (EE (FW c b (HJ m c b z) (HI m c b z) 0)))
  (cond (!!M6 m (FW c b (HJ m c b z) (HI m c b z) 0) (EE (FW c b (HJ m c b z) (HI m c b z) 0)) 1500) (some (.bool true,[]))
   (cond ((FU m (XG m (FW c b (HJ m c b z) (HI m c b z) 0))).kind != 1) (some (.bool false,[]))
    (cond (!KR m c b z) (some (.bool true,[]))
     (cond ((FU m ((XG m (FW c b (HJ m c b z) (HI m c b z) 0)).rng (AA AB (HJ m c b z+1)) (max (AA AB (HJ m c b z+1)) (HI m c b z)))).kind==2)
      (cond ((FU m ((XG m (FW c b (HJ m c b z) (HI m c b z) 0)).rng (min (HJ m c b z) (AA AB (HI m c b z - 1))) (AA AB (HI m c b z - 1)))).kind==2)
       (cond (E9 m c b) (cond (decide (DZ m c b≤HJ m c b z)) (cond (decide (HI m c b z≤DW m c b)) (some (.bool true,[])) (some (.bool false,[]))) (some (.bool false,[]))) (some (.bool false,[])))
       (some (.bool false,[])))
      (some (.bool false,[])))))) none
open Go Go.Proofs
def Lk (N:Nat):Env:=DV [(14,MW),(7,LL),(6,T3),(11,T5),(12,ZV),(8,UA),(13,QN),(5,UR)] [] 117 N
theorem zbh (N:Nat) (f:Ft) (l:LI) (x z:Int):DQ (Lk N) t7 [.tmp 8] [[.bool]] [(Ft.V f),.list false [.z] l,.i x,.i z] =
 (cond (decide (0≤Md.d (Ft.M f))&&decide (Md.d (Ft.M f)≤4))
 (cond (decide (I4 0 (AA AB (Md.c (Ft.M f) - 1))=0))
 none
 (cond (decide (0≤DS z 0 300)&&decide (DS z 0 300≤65536))
 (pM (Ft.M f) (DS x 0 (AA AB (Md.c (Ft.M f) - 1))) (IJ (Md.d (Ft.M f)) l) (DS z 0 300))
 none))
 none):=by kernel_rfl
open Go Go.Proofs
def KW (N:Nat):Env:=DV [(31,JH),(106,ZG)] [(3,⟨[1,2,6,7,8,14,15,16],[500],[⟨.tmp 8,500,89,true,D9⟩]⟩),(6,⟨[1,2,6,7,8,10,14,15,16,20,21,22],[10,500],[⟨.tmp 8,500,89,true,D9⟩]⟩)] 50 N
abbrev O6 (l1:LI) (x2:Int) (b7:Bool) (n8:Nat) (l14:LI) (x15 x16:Int) (u00:LI):St:=⟨[(1,(.list true D9 l1)),(2,(.i x2)),(6,.zs),(7,(.bool b7)),(8,(.row 500 0 n8)),(14,(.list true D9 l14)),(15,(.i x15)),(16,(.i x16))],[(500,(some (.row true 89 true D9 u00)))]⟩
abbrev NH (l1:LI) (x2:Int) (b7:Bool) (n8:Nat) (l14:LI) (x15 x16:Int) (l20:LI) (x21 x22:Int) (c:Bx) (v:Int) (u00:LI):St:=⟨[(1,(.list true D9 l1)),(2,(.i x2)),(6,.zs),(7,(.bool b7)),(8,(.row 500 0 n8)),(10,(.ptr 10 0 0)),(14,(.list true D9 l14)),(15,(.i x15)),(16,(.i x16)),(20,(.list true D9 l20)),(21,(.i x21)),(22,(.i x22))],[(10,(some (.box [.i (Sp.lo (Bx.s0 c)),.i (Sp.hi (Bx.s0 c)),.i (Sp.lo (Bx.s1 c)),.i (Sp.hi (Bx.s1 c)),.i (Sp.lo (Bx.s2 c)),.i (Sp.hi (Bx.s2 c)),.i (Sp.lo (Bx.s3 c)),.i (Sp.hi (Bx.s3 c)),.i (Sp.lo (Bx.s4 c)),.i (Sp.hi (Bx.s4 c)),.i v]))),(500,(some (.row true 89 true D9 u00)))]⟩
theorem za6 (N:Nat) (a b:LI) (most:Int):DQ (KW N) MB [.tmp 6,.tmp 7] [[.list true [.z,.z,.z,.z,.z,.z,.z,.z,.z,.z,.z]],[.bool]] [.list true [.z,.z,.z,.z,.z,.z,.z,.z,.z,.z,.z] a,.list true [.z,.z,.z,.z,.z,.z,.z,.z,.z,.z,.z] b,.i most]=(DR (KW N) (DD MB [1,1,0,1,0,0]) ⟨[1,2,6,7,8,14,15,16],[500],[⟨(.tmp 8),500,89,true,D9⟩]⟩ N (O6 b most false 0 a (ic (AE a)) 0 []) (DI 0 (DJ (KW N) (DD MB [1,1,1]) (DL (KW N) none [.tmp 6,.tmp 7] [[.list true D9],[.bool]])))):=by kernel_rfl
theorem Hn (N:Nat) (l1:LI) (x2:Int) (b7:Bool) (n8:Nat) (l14:LI) (x15 x16:Int) (u00:LI) (again:St→DG) (k:Out→St→DG):E4 (KW N) (DD MB [1,1,0,1,0,0]) (O6 l1 x2 b7 n8 l14 x15 x16 u00) (EH again ⟨[1,2,6,7,8,14,15,16],[500],[⟨(.tmp 8),500,89,true,D9⟩]⟩ k)=(cond (decide (x16 < x15)) (cond (decide (0≤x16)&&decide (x16 < ic (AE l14))) (DR (KW N) (DD MB [1,1,0,1,0,0,1,1,0,0,1,1,0,0]) ⟨[1,2,6,7,8,10,14,15,16,20,21,22],[10,500],[⟨(.tmp 8),500,89,true,D9⟩]⟩ N (NH l1 x2 b7 n8 l14 x15 x16 l1 (ic (AE l1)) 0 (DN (AI l14 (AD x16) default)) (FF (AI l14 (AD x16) default)) u00) (DI 2 (DI 1 (DJ (KW N) (DD MB [1,1,0,1,0,0,1,1,1]) (EH again ⟨[1,2,6,7,8,14,15,16],[500],[⟨(.tmp 8),500,89,true,D9⟩]⟩ k))))) none) (k (.exit 0) (O6 l1 x2 b7 n8 l14 x15 x16 u00))):=by kernel_rfl
theorem Ho (N:Nat) (l1:LI) (x2:Int) (b7:Bool) (n8:Nat) (l14:LI) (x15 x16:Int) (l20:LI) (x21 x22:Int) (c:Bx) (v:Int) (u00:LI) (again:St→DG) (k:Out→St→DG):E4 (KW N) (DD MB [1,1,0,1,0,0,1,1,0,0,1,1,0,0]) (NH l1 x2 b7 n8 l14 x15 x16 l20 x21 x22 c v u00) (EH again ⟨[1,2,6,7,8,10,14,15,16,20,21,22],[10,500],[⟨(.tmp 8),500,89,true,D9⟩]⟩ k)=(cond (decide (x22 < x21)) (cond (decide (0≤x22)&&decide (x22 < ic (AE l20))) (cond (Bx.emp (Bx.meet c (DN (AI l20 (AD x22) default)))) (again (NH l1 x2 b7 n8 l14 x15 x16 l20 x21 (AA AB (x22+1)) c v u00)) (cond (decide (ic (n8 - 0)≥x2)) (k .ret (NH l1 x2 false n8 l14 x15 x16 l20 x21 x22 c v u00)) (cond (decide ((n8+1)*88≤D1)) (again (NH l1 x2 b7 (n8+1) l14 x15 x16 l20 x21 (AA AB (x22+1)) c v (AK n8 u00++[(ST (Bx.meet c (DN (AI l20 (AD x22) default))) (AA AB (v+IV.toInt (IV.cell (AI l20 (AD x22) default) 10))))]))) none))) none) (k (.exit 2) (NH l1 x2 b7 n8 l14 x15 x16 l20 x21 x22 c v u00))):=by kernel_rfl
theorem Sf (N:Nat) (l1:LI) (x2:Int) (b7:Bool) (n8:Nat) (l14:LI) (x15 x16:Int) (u00:LI):(DI 0 (DJ (KW N) (DD MB [1,1,1]) (DL (KW N) none [.tmp 6,.tmp 7] [[.list true D9],[.bool]]))) (.exit 0) (O6 l1 x2 b7 n8 l14 x15 x16 u00)=(some ((.tup [.list true D9 (AQ 0 (AK n8 u00)),.bool true]),[])):=by kernel_rfl
theorem Sg (N:Nat) (again:St→DG) (k:Out→St→DG) (l1:LI) (x2:Int) (b7:Bool) (n8:Nat) (l14:LI) (x15 x16:Int) (l20:LI) (x21 x22:Int) (c:Bx) (v:Int) (u00:LI):(DI 2 (DI 1 (DJ (KW N) (DD MB [1,1,0,1,0,0,1,1,1]) (EH again ⟨[1,2,6,7,8,14,15,16],[500],[⟨(.tmp 8),500,89,true,D9⟩]⟩ k)))) (.exit 2) (NH l1 x2 b7 n8 l14 x15 x16 l20 x21 x22 c v u00)=(again (O6 l1 x2 b7 n8 l14 x15 (AA AB (x16+1)) u00)):=by kernel_rfl
theorem Sh (N:Nat) (again:St→DG) (k:Out→St→DG) (l1:LI) (x2:Int) (b7:Bool) (n8:Nat) (l14:LI) (x15 x16:Int) (l20:LI) (x21 x22:Int) (c:Bx) (v:Int) (u00:LI):(DI 2 (DI 1 (DJ (KW N) (DD MB [1,1,0,1,0,0,1,1,1]) (EH again ⟨[1,2,6,7,8,14,15,16],[500],[⟨(.tmp 8),500,89,true,D9⟩]⟩ k)))) .ret (NH l1 x2 b7 n8 l14 x15 x16 l20 x21 x22 c v u00)=(k .ret (O6 l1 x2 b7 n8 l14 x15 x16 u00)):=by kernel_rfl
def RR (N:Nat):Env:=DV [] [(5,⟨[2,3,4,5,6,20,21,22],[],[]⟩)] 37 N
abbrev TJ (x2 x3:Int) (b4:Bool) (x5 x6:Int) (l20:LI) (x21 x22:Int):St:=⟨[(2,(.i x2)),(3,(.i x3)),(4,(.bool b4)),(5,(.i x5)),(6,(.i x6)),(20,(.list true D9 l20)),(21,(.i x21)),(22,(.i x22))],[]⟩
theorem za5 (N:Nat) (ps:LI):DQ (RR N) UY [.tmp 2,.tmp 3,.tmp 4] [[.z],[.z],[.bool]] [.list true [.z,.z,.z,.z,.z,.z,.z,.z,.z,.z,.z] ps]=(cond (ic (AE ps)==0) (some ((.tup [.i 0,.i 0,.bool false]),[])) (cond (decide (0≤0)&&decide (0 < ic (AE ps))) (cond (decide (0≤0)&&decide (0 < ic (AE ps))) (DR (RR N) (DD UY [1,1,1,0,1,0,0]) ⟨[2,3,4,5,6,20,21,22],[],[]⟩ N (TJ 0 0 false (IV.toInt (IV.cell (AI ps (AD 0) default) 10)) (IV.toInt (IV.cell (AI ps (AD 0) default) 10)) ps (ic (AE ps)) 0) (DI 0 (DJ (RR N) (DD UY [1,1,1,1]) (DL (RR N) none [.tmp 2,.tmp 3,.tmp 4] [[.z],[.z],[.bool]])))) none) none)):=by kernel_rfl
theorem Hm (N:Nat) (x2 x3:Int) (b4:Bool) (x5 x6:Int) (l20:LI) (x21 x22:Int) (again:St→DG) (k:Out→St→DG):E4 (RR N) (DD UY [1,1,1,0,1,0,0]) (TJ x2 x3 b4 x5 x6 l20 x21 x22) (EH again ⟨[2,3,4,5,6,20,21,22],[],[]⟩ k)=(cond (decide (x22 < x21)) (cond (decide (0≤x22)&&decide (x22 < ic (AE l20))) (again (TJ x2 x3 b4 (min x5 (IV.toInt (IV.cell (AI l20 (AD x22) default) 10))) (max x6 (IV.toInt (IV.cell (AI l20 (AD x22) default) 10))) l20 x21 (AA AB (x22+1)))) none) (k (.exit 0) (TJ x2 x3 b4 x5 x6 l20 x21 x22))):=by kernel_rfl
theorem Se (N:Nat) (x2 x3:Int) (b4:Bool) (x5 x6:Int) (l20:LI) (x21 x22:Int):(DI 0 (DJ (RR N) (DD UY [1,1,1,1]) (DL (RR N) none [.tmp 2,.tmp 3,.tmp 4] [[.z],[.z],[.bool]]))) (.exit 0) (TJ x2 x3 b4 x5 x6 l20 x21 x22)=(some ((.tup [.i x5,.i x6,.bool true]),[])):=by kernel_rfl
def RW (N:Nat):Env:=DV [(14,MW),(34,T9)] [(6,⟨[1,5,6,7,11,25,26,27],[5,500],[⟨.tmp 11,500,67,false,[.list true [.z,.z,.z,.z,.z,.z,.z,.z,.z,.z,.z]]⟩]⟩)] 44 N
abbrev QF (b:Bx) (x1:Int) (b7:Bool) (n11:Nat) (l25:LI) (x26 x27:Int) (u00:LI):St:=⟨[(1,(.i x1)),(5,(.ptr 5 0 0)),(6,.zs),(7,(.bool b7)),(11,(.row 500 0 n11)),(25,(.list true K9 l25)),(26,(.i x26)),(27,(.i x27))],[(5,(some (.box (Bx.cs b)))),(500,(some (.row true 67 false [.list true D9] u00)))]⟩
theorem zbJ (N:Nat) (m:Md) (u00:Int) (b:Bx):DQ (RW N) U7 [.tmp 6,.tmp 7] [[.list false [.list true [.z,.z,.z,.z,.z,.z,.z,.z,.z,.z,.z]]],[.bool]] [(Md.V m),.i u00,(Bx.V b)]=(cond (!E9 m u00 b) (some ((.tup [.list false [.list true D9] [],.bool false]),[])) (DR (RW N) (DD U7 [1,1,1,0,1,0,0]) ⟨[1,5,6,7,11,25,26,27],[5,500],[⟨(.tmp 11),500,67,false,[.list true D9]⟩]⟩ N (QF b u00 false 0 (Md.ts m) (ic (AE (Md.ts m))) 0 []) (DI 0 (DJ (RW N) (DD U7 [1,1,1,1]) (DL (RW N) none [.tmp 6,.tmp 7] [[.list false [.list true D9]],[.bool]]))))):=by kernel_rfl
theorem Ia (N:Nat) (b:Bx) (x1:Int) (b7:Bool) (n11:Nat) (l25:LI) (x26 x27:Int) (u00:LI) (again:St→DG) (k:Out→St→DG):E4 (RW N) (DD U7 [1,1,1,0,1,0,0]) (QF b x1 b7 n11 l25 x26 x27 u00) (EH again ⟨[1,5,6,7,11,25,26,27],[5,500],[⟨(.tmp 11),500,67,false,[.list true D9]⟩]⟩ k)=(cond (decide (x27 < x26)) (cond (decide (0≤x27)&&decide (x27 < ic (AE l25))) (cond (IV.toInt (IV.cell (AI l25 (AD x27) default) 0)==x1) (cond (decide ((n11+1)*24≤D1)) (again (QF b x1 b7 (n11+1) l25 x26 (AA AB (x27+1)) (AK n11 u00++[IV.list (F9 (IV.toList (IV.cell (AI l25 (AD x27) default) 1)) b)]))) none) (again (QF b x1 b7 n11 l25 x26 (AA AB (x27+1)) u00))) none) (k (.exit 0) (QF b x1 b7 n11 l25 x26 x27 u00))):=by kernel_rfl
theorem Sz (N:Nat) (b:Bx) (x1:Int) (b7:Bool) (n11:Nat) (l25:LI) (x26 x27:Int) (u00:LI):(DI 0 (DJ (RW N) (DD U7 [1,1,1,1]) (DL (RW N) none [.tmp 6,.tmp 7] [[.list false [.list true D9]],[.bool]]))) (.exit 0) (QF b x1 b7 n11 l25 x26 x27 u00)=(some ((.tup [.list false [.list true D9] (AQ 0 (AK n11 u00)),.bool true]),[])):=by kernel_rfl
def RV (N:Nat):Env:=DV [(65,ZP)] [(3,⟨[0,1,4,5,6,7],[500],[⟨.tmp 6,500,67,false,[.list true [.z,.z,.z,.z,.z,.z,.z,.z,.z,.z,.z]]⟩]⟩)] 44 N
abbrev QE (l0:LI) (x1:Int) (b5:Bool) (n6:Nat) (b7:Bool) (u00:LI):St:=⟨[(0,(.list false [.list true D9] l0)),(1,(.i x1)),(4,.zs),(5,(.bool b5)),(6,(.row 500 0 n6)),(7,(.bool b7))],[(500,(some (.row true 67 false [.list true D9] u00)))]⟩
theorem zbI (N:Nat) (u00:LI) (most:Int):DQ (RV N) U6 [.tmp 4,.tmp 5] [[.list false [.list true [.z,.z,.z,.z,.z,.z,.z,.z,.z,.z,.z]]],[.bool]] [.list false [.list true [.z,.z,.z,.z,.z,.z,.z,.z,.z,.z,.z]] u00,.i most]=(DR (RV N) (DD U6 [1,1,1,0,0,0]) ⟨[0,1,4,5,6,7],[500],[⟨(.tmp 6),500,67,false,[.list true D9]⟩]⟩ N (QE u00 most false 0 false []) (DI 0 (DJ (RV N) (DD U6 [1,1,1,1]) (DL (RV N) none [.tmp 4,.tmp 5] [[.list false [.list true D9]],[.bool]])))):=by kernel_rfl
theorem qO (N:Nat) (l0:LI) (x1:Int) (b5:Bool) (n6:Nat) (b7:Bool) (u00:LI) (again:St→DG) (k:Out→St→DG):E4 (RV N) (DD U6 [1,1,1,0,0,0]) (QE l0 x1 b5 n6 b7 u00) (EH again ⟨[0,1,4,5,6,7],[500],[⟨(.tmp 6),500,67,false,[.list true D9]⟩]⟩ k)=(cond (decide (ic (AE l0) > 0)) (cond (decide (ic (AE l0) > 1)) (cond (decide (0≤0)&&decide (0 < ic (AE l0))) (cond (decide (0≤1)&&decide (1 < ic (AE l0))) (cond (decide (0≤x1)&&decide (x1≤65536)) (cond (OS (IV.toList (AI l0 (AD 0) default)) (IV.toList (AI l0 (AD 1) default)) x1) (cond (decide ((n6+1)*24≤D1)) (cond (decide (0≤2)&&decide (2≤ic (AE l0))) (again (QE (AQ (AD 2) (AK (AE l0) l0)) x1 b5 (n6+1) true (AK n6 u00++[IV.list (bif OS (IV.toList (AI l0 (AD 0) default)) (IV.toList (AI l0 (AD 1) default)) x1 then OR (IV.toList (AI l0 (AD 0) default)) (IV.toList (AI l0 (AD 1) default)) else [])]))) none) none) (cond (decide (0≤0)&&decide (0 < ic (AE l0))) (cond (decide ((n6+1)*24≤D1)) (cond (decide (0≤1)&&decide (1≤ic (AE l0))) (again (QE (AQ (AD 1) (AK (AE l0) l0)) x1 b5 (n6+1) b7 (AK n6 u00++[IV.list (IV.toList (AI l0 (AD 0) default))]))) none) none) none)) none) none) none) (cond (decide (0≤0)&&decide (0 < ic (AE l0))) (cond (decide ((n6+1)*24≤D1)) (cond (decide (0≤1)&&decide (1≤ic (AE l0))) (again (QE (AQ (AD 1) (AK (AE l0) l0)) x1 b5 (n6+1) b7 (AK n6 u00++[IV.list (IV.toList (AI l0 (AD 0) default))]))) none) none) none)) (k (.exit 0) (QE l0 x1 b5 n6 b7 u00))):=by kernel_rfl
theorem Sy (N:Nat) (l0:LI) (x1:Int) (b5:Bool) (n6:Nat) (b7:Bool) (u00:LI):(DI 0 (DJ (RV N) (DD U6 [1,1,1,1]) (DL (RV N) none [.tmp 4,.tmp 5] [[.list false [.list true D9]],[.bool]]))) (.exit 0) (QE l0 x1 b5 n6 b7 u00)=(some ((.tup [.list false [.list true D9] (AQ 0 (AK n6 u00)),.bool b7]),[])):=by kernel_rfl
def TW (N:Nat):Env:=DV [(35,aC)] [(2,⟨[0,1,4,5,6],[500],[⟨.tmp 6,500,3,false,[.z]⟩]⟩)] 28 N
abbrev eG (l0:LI) (x1:Int) (n6:Nat) (u00:LI):St:=⟨[(0,(.list false [.list true D9] l0)),(1,(.i x1)),(4,.zs),(5,.zs),(6,(.row 500 0 n6))],[(500,(some (.row true 3 false [.z] u00)))]⟩
theorem zbH (N:Nat) (u00:LI) (most:Int):DQ (TW N) bI [.tmp 4,.tmp 5] [[.list false [.list true [.z,.z,.z,.z,.z,.z,.z,.z,.z,.z,.z]]],[.list false [.z]]] [.list false [.list true [.z,.z,.z,.z,.z,.z,.z,.z,.z,.z,.z]] u00,.i most]=(DR (TW N) (DD bI [1,1,0,0]) ⟨[0,1,4,5,6],[500],[⟨(.tmp 6),500,3,false,[.z]⟩]⟩ N (eG u00 most 1 [(IV.int (ic (AE u00)))]) (DI 0 (DL (TW N) none [.tmp 4,.tmp 5] [[.list false [.list true D9]],[.list false [.z]]]))):=by kernel_rfl
theorem zfF (N:Nat) (l0:LI) (x1:Int) (n6:Nat) (u00:LI) (again:St→DG) (k:Out→St→DG):E4 (TW N) (DD bI [1,1,0,0]) (eG l0 x1 n6 u00) (EH again ⟨[0,1,4,5,6],[500],[⟨(.tmp 6),500,3,false,[.z]⟩]⟩ k)=(cond (decide (0≤x1)&&(decide (x1≤65536)&&BS (AE l0) 65536)) (cond (!Prod.snd (GL x1 l0)) (k .ret ⟨[(0,(.list false [.list true D9] l0)),(1,(.i x1)),(4,(.list false [.list true D9] l0)),(5,(.row 500 0 n6)),(6,(.row 500 0 n6))],[(500,(some (.row true 3 false [.z] u00)))]⟩) (cond (decide ((n6+1)*8≤D1)) (again (eG (Prod.fst (GL x1 l0)) x1 (n6+1) (AK n6 u00++[IV.int (ic (AE (Prod.fst (GL x1 l0))))]))) none)) none):=by kernel_rfl
theorem Sx (N:Nat) (l0:LI) (x1:Int) (l4:LI) (n5 n6:Nat) (u00:LI):(DI 0 (DL (TW N) none [.tmp 4,.tmp 5] [[.list false [.list true D9]],[.list false [.z]]])) .ret ⟨[(0,(.list false [.list true D9] l0)),(1,(.i x1)),(4,(.list false [.list true D9] l4)),(5,(.row 500 0 n5)),(6,(.row 500 0 n6))],[(500,(some (.row true 3 false [.z] u00)))]⟩=(some ((.tup [.list false [.list true D9] l4,.list false [.z] (AQ 0 (AK n5 u00))]),[])):=by kernel_rfl
def RU (N:Nat):Env:=DV [(19,ZO),(18,aB),(17,aD)] [(7,⟨[8,9,10,11,13,14,43,44,45],[],[]⟩)] 67 N
abbrev TP (x8 x9:Int) (b10:Bool) (l11:LI) (x13 x14:Int) (l43:LI) (x44 x45:Int):St:=⟨[(8,(.i x8)),(9,(.i x9)),(10,(.bool b10)),(11,(.list false [.list true D9] l11)),(13,(.i x13)),(14,(.i x14)),(43,(.list false [.list true D9] l43)),(44,(.i x44)),(45,(.i x45))],[]⟩
noncomputable abbrev OA (N:Nat) (m:Md) (a1:Int) (a2:Bx) (a3 x y:Int):DG:=DR (RU N) (DD U5 [1,1,1,1,1,0,1,0,0]) ⟨[8,9,10,11,13,14,43,44,45],[],[]⟩ N (TP 0 0 false (OK a3 (bif E9 m a1 a2 then KD m a1 a2 else [])) x y (OK a3 (bif E9 m a1 a2 then KD m a1 a2 else [])) (ic (AE (OK a3 (bif E9 m a1 a2 then KD m a1 a2 else [])))) 0) (DI 0 (DJ (RU N) (DD U5 [1,1,1,1,1,1]) (DL (RU N) none [(BV 8),(BV 9),(BV 10)] [[.z],[.z],[.bool]])))
theorem zbG (N:Nat) (m:Md) (a1:Int) (a2:Bx) (a3:Int):DQ (RU N) U5 [.tmp 8,.tmp 9,.tmp 10] [[.z],[.z],[.bool]] [(Md.V m),.i a1,(Bx.V a2),.i a3]=(cond (!E9 m a1 a2) (some ((.tup [.i 0,.i 0,.bool false]),[])) (cond (decide (0≤a3)&&(decide (a3≤65536)&&BS (AE (bif E9 m a1 a2 then KD m a1 a2 else [])) 65536)) (cond (decide (a1=ic 0)) (cond (decide (a1=ic 0)) (OA N m a1 a2 a3 (Md.b0 m) (Md.b0 m)) (cond (decide (a1=ic 1)) (OA N m a1 a2 a3 (Md.b0 m) (Md.b1 m)) (cond (decide (a1=ic 2)) (OA N m a1 a2 a3 (Md.b0 m) (Md.b2 m)) none))) (cond (decide (a1=ic 1)) (cond (decide (a1=ic 0)) (OA N m a1 a2 a3 (Md.b1 m) (Md.b0 m)) (cond (decide (a1=ic 1)) (OA N m a1 a2 a3 (Md.b1 m) (Md.b1 m)) (cond (decide (a1=ic 2)) (OA N m a1 a2 a3 (Md.b1 m) (Md.b2 m)) none))) (cond (decide (a1=ic 2)) (cond (decide (a1=ic 0)) (OA N m a1 a2 a3 (Md.b2 m) (Md.b0 m)) (cond (decide (a1=ic 1)) (OA N m a1 a2 a3 (Md.b2 m) (Md.b1 m)) (cond (decide (a1=ic 2)) (OA N m a1 a2 a3 (Md.b2 m) (Md.b2 m)) none))) none))) none)):=by kernel_rfl
theorem Hz (N:Nat) (x8 x9:Int) (b10:Bool) (l11:LI) (x13 x14:Int) (l43:LI) (x44 x45:Int) (again:St→DG) (k:Out→St→DG):E4 (RU N) (DD U5 [1,1,1,1,1,0,1,0,0]) (TP x8 x9 b10 l11 x13 x14 l43 x44 x45) (EH again ⟨[8,9,10,11,13,14,43,44,45],[],[]⟩ k)=(cond (decide (x45 < x44)) (cond (decide (0≤x45)&&decide (x45 < ic (AE l43))) (again (TP x8 x9 b10 l11 (AA AB (x13+bif List.isEmpty (IV.toList (AI l43 (AD x45) default)) then 0 else KN (IV.toList (AI l43 (AD x45) default)))) (AA AB (x14+bif List.isEmpty (IV.toList (AI l43 (AD x45) default)) then 0 else KM (IV.toList (AI l43 (AD x45) default)))) l43 x44 (AA AB (x45+1)))) none) (k (.exit 0) (TP x8 x9 b10 l11 x13 x14 l43 x44 x45))):=by kernel_rfl
theorem Sw (N:Nat) (x8 x9:Int) (b10:Bool) (l11:LI) (x13 x14:Int) (l43:LI) (x44 x45:Int):(DI 0 (DJ (RU N) (DD U5 [1,1,1,1,1,1]) (DL (RU N) none [.tmp 8,.tmp 9,.tmp 10] [[.z],[.z],[.bool]]))) (.exit 0) (TP x8 x9 b10 l11 x13 x14 l43 x44 x45)=(some ((.tup [.i x13,.i x14,.bool (decide (ic (AE l11)≤1))]),[])):=by kernel_rfl
open Go Go.Proofs
def Mz (N:Nat):Env:=DV [(142,UJ)] [] 16 N
theorem zci (N:Nat) (a b:Sp):DQ (Mz N) vI [.cell 4 32] [[.z,.z]] [(Sp.V a),(Sp.V b)] =
 (some ((Sp.V (JV (max (Sp.lo a) (Sp.lo b)) (min (Sp.hi a) (Sp.hi b)))),[])):=by kernel_rfl
def Lb (N:Nat):Env:=DV [(144,aW)] [(2,⟨[2,3,4,6],[2,3,4],[]⟩)] 20 N
theorem zdZ (a b:Bx):DQ (Lb 6) tS [.cell 4 34] [[.z,.z,.z,.z,.z,.z,.z,.z,.z,.z]] [(Bx.V a),(Bx.V b)]=some (Bx.V (a.meet b),[]):=by kernel_rfl
open Go
theorem Aa {x z:IV}:∀ {l out:LI},z∈LD x l out↔z∈out∨∃ y∈l,((H4 x).meet (H4 y)).emp=false∧z=Q5 x y
 | [],out=>by simp [LD]
 | y :: r,out=>by
  rw [LD,Aa];cases h:((H4 x).meet (H4 y)).emp with
  | true=>
   rw [DB];constructor
   ·rintro (h1 | ⟨u,hu,h2,h3⟩)
    ·exact .inl h1
    ·exact .inr ⟨u,AW _ hu,h2,h3⟩
   ·rintro (h1 | ⟨u,hu,h2,h3⟩)
    ·exact .inl h1
    ·rcases AX.1 hu with rfl | hu
     ·rw [h] at h2; cases h2
     ·exact .inr ⟨u,hu,h2,h3⟩
  | false=>
   rw [DC,AV,A4];constructor
   ·rintro ((h1 | h1) | ⟨u,hu,h2,h3⟩)
    ·exact .inl h1
    ·exact .inr ⟨y,AU ..,h,h1⟩
    ·exact .inr ⟨u,AW _ hu,h2,h3⟩
   ·rintro (h1 | ⟨u,hu,h2,h3⟩)
    ·exact .inl (.inl h1)
    ·rcases AX.1 hu with rfl | hu
     ·exact .inl (.inr h3)
     ·exact .inr ⟨u,hu,h2,h3⟩
theorem Ad {z:IV}:∀ {a l out:LI},z∈MK a l out↔z∈out∨∃ x∈a,∃ y∈l,((H4 x).meet (H4 y)).emp=false∧z=Q5 x y
 | [],l,out=>by simp [MK]
 | x :: r,l,out=>by
  rw [MK,Ad,Aa];constructor
  ·rintro ((h | ⟨y,hy,h1,h2⟩) | ⟨u,hu,y,hy,h1,h2⟩)
   ·exact .inl h
   ·exact .inr ⟨x,AU ..,y,hy,h1,h2⟩
   ·exact .inr ⟨u,AW _ hu,y,hy,h1,h2⟩
  ·rintro (h | ⟨u,hu,y,hy,h1,h2⟩)
   ·exact .inl (.inl h)
   ·rcases AX.1 hu with rfl | hu
    ·exact .inl (.inr ⟨y,hy,h1,h2⟩)
    ·exact .inr ⟨u,hu,y,hy,h1,h2⟩
theorem nY {z:IV} {a b:LI}:z∈OR a b↔∃ x∈a,∃ y∈b,((H4 x).meet (H4 y)).emp=false∧z=Q5 x y:=by
 unfold OR;rw [Ad];simp
theorem z8 (x:IV):∀ (l out:LI),(LD x l out).length≤out.length+l.length
 | [],out=>AT _
 | y :: r,out=>by
  rw [LD];refine CE (z8 x r _) ?_;cases ((H4 x).meet (H4 y)).emp <;> simp only [CT,CG,AR,AM,A6] <;> omega
theorem Ac:∀ (a l out:LI),(MK a l out).length≤out.length+a.length*l.length
 | [],l,out=>by simp [MK]
 | x :: r,l,out=>by
  rw [MK];refine CE (Ac r l _) ?_
  have:=z8 x l out
  rw [AM,vaV];omega
theorem iJ (a b:Bx):∀ {i:Nat},i < 5→(a.meet b).g i=(a.g i).meet (b.g i)
 | 0,_=>rfl
 | 1,_=>rfl
 | 2,_=>rfl
 | 3,_=>rfl
 | 4,_=>rfl
 | i+5,h=>by omega
theorem Ae {a b:Bx} {p:Pt} {t:Int}:(a.meet b).has p t=true↔a.has p t=true∧b.has p t=true:=by
 rw [JL,JL,JL];constructor
 ·intro h;refine ⟨fun i hi=>?_,fun i hi=>?_⟩
  ·have:=h i hi
   rw [iJ a b hi,nZ] at this;exact this.1
  ·have:=h i hi
   rw [iJ a b hi,nZ] at this;exact this.2
 ·rintro ⟨h1,h2⟩ i hi;rw [iJ a b hi,nZ];exact ⟨h1 i hi,h2 i hi⟩
theorem zax {a b:Bx} (h:a.ok):(a.meet b).ok:=fun i hi=>by
 rw [iJ a b hi];unfold Sp.meet;exact qI (by have:=h i hi; omega)
structure Grp (b:Bx) (g:LI) (F:Pt→Int) (L U K:Int):Prop where
 val:∀ x∈g,(DN x).emp=false∧(DN x).ok∧∀ p t,(DN x).has p t=true→b.has p t=true∧F p=FF x
 all:∀ p t,b.has p t=true→∃ x∈g,(DN x).has p t=true
 lim:∀ x∈g,(L≤FF x∧FF x≤U)∧(-K≤FF x∧FF x≤K)
theorem Grp.meet {b:Bx} {g1 g2:LI} {F1 F2:Pt→Int} {L1 L2 U1 U2 K1 K2:Int} (h1:Grp b g1 F1 L1 U1 K1) (h2:Grp b g2 F2 L2 U2 K2) (hk:K1+K2≤4611686018427387904):Grp b (OR g1 g2) (fun p=>F1 p+F2 p) (L1+L2) (U1+U2) (K1+K2):=by
 have hv:∀ x∈g1,∀ y∈g2,FF (Q5 x y)=FF x+FF y:=fun x hx y hy=>by
  have q1:=h1.lim x hx;have q2:=h2.lim y hy;show AA AB (FF x+FF y)=_;exact EA (by omega) (by omega)
 refine ⟨fun z hz=>?_,fun p t hb=>?_,fun z hz=>?_⟩
 ·obtain ⟨x,hx,y,hy,he,rfl⟩:=nY.1 hz;refine ⟨he,zax (h1.val x hx).2.1,fun p t hh=>?_⟩;obtain ⟨a1,a2⟩:=Ae.1 (show ((H4 x).meet (H4 y)).has p t=true from hh);obtain ⟨c1,c2⟩:=(h1.val x hx).2.2 p t a1;obtain ⟨d1,d2⟩:=(h2.val y hy).2.2 p t a2;refine ⟨c1,?_⟩;rw [hv x hx y hy];show F1 p+F2 p=_;rw [c2,d2]
 ·obtain ⟨x,hx,hxp⟩:=h1.all p t hb;obtain ⟨y,hy,hyp⟩:=h2.all p t hb;have hm:((H4 x).meet (H4 y)).has p t=true:=Ae.2 ⟨hxp,hyp⟩;exact ⟨Q5 x y,nY.2 ⟨x,hx,y,hy,R5 hm,rfl⟩,hm⟩
 ·obtain ⟨x,hx,y,hy,he,rfl⟩:=nY.1 hz;rw [hv x hx y hy];have q1:=h1.lim x hx;have q2:=h2.lim y hy;omega
theorem Grp.ends {b:Bx} {g:LI} {F:Pt→Int} {L U K:Int} (h:Grp b g F L U K) (hb:b.emp=false):g.isEmpty=false∧(L≤KN g∧KM g≤U)∧(-K≤KN g∧KN g≤K)∧(-K≤KM g∧KM g≤K) ∧
  (∀ p t,b.has p t=true→KN g≤F p∧F p≤KM g)∧(∃ p t,b.has p t=true∧F p=KN g)∧∃ p t,b.has p t=true∧F p=KM g:=by
 have hne:g≠[]:=fun e=>by
  obtain ⟨x,hx,_⟩:=h.all b.low b.s4.hi (LP b hb);rw [e] at hx;cases hx
 obtain ⟨q1,⟨x,hx,q2⟩,⟨y,hy,q3⟩⟩:=Cy hne;have lx:=h.lim x hx;have ly:=h.lim y hy;refine ⟨?_,⟨by omega,by omega⟩,⟨by omega,by omega⟩,⟨by omega,by omega⟩,fun p t hh=>?_,⟨(DN x).low,(DN x).s4.hi,?_⟩,⟨(DN y).low,(DN y).s4.hi,?_⟩⟩
 ·cases g with
  | nil=>exact absurd rfl hne
  | cons _ _=>rfl
 ·obtain ⟨z,hz,hzh⟩:=h.all p t hh;rw [((h.val z hz).2.2 p t hzh).2];exact q1 z hz
 ·obtain ⟨r1,r2⟩:=(h.val x hx).2.2 _ _ (LP _ (h.val x hx).1);exact ⟨r1,r2.trans q2⟩
 ·obtain ⟨r1,r2⟩:=(h.val y hy).2.2 _ _ (LP _ (h.val y hy).1);exact ⟨r1,r2.trans q3⟩
def PD (b:Bx):LI→(Pt→Int)→Int→Int→Int→Prop
 | [],F,L,U,K=>(∀ p,F p=0)∧L≤0∧0≤U∧0≤K
 | g :: r,F,L,U,K=>∃ (F1 F2:Pt→Int) (L1 L2 U1 U2 K1 K2:Int),Grp b g.toList F1 L1 U1 K1∧PD b r F2 L2 U2 K2∧(∀ p,F p=F1 p+F2 p)∧L≤L1+L2∧U1+U2≤U∧0≤K1∧K1+K2≤K
theorem mX {b:Bx}:∀ {l:LI} {F:Pt→Int} {L U K:Int},PD b l F L U K→0≤K
 | [],_,_,_,_,h=>h.2.2.2
 | g :: r,_,_,_,_,h=>by
  obtain ⟨F1,F2,L1,L2,U1,U2,K1,K2,_,hr,_,_,_,k0,k1⟩:=h
  have:=mX hr
  omega
theorem nQ (most:Int) {b:Bx}:∀ (l:LI) {F:Pt→Int} {L U K:Int},PD b l F L U K→K≤4611686018427387904→PD b (GL most l).1 F L U K
 | [],_,_,_,_,h,_=>h
 | [x],_,_,_,_,h,_=>h
 | x :: y :: r,F,L,U,K,h,hK=>by
  obtain ⟨F1,F2,L1,L2,U1,U2,K1,K2,g1,hr,e,l1,u1,k0,k1⟩:=h;have hr0:=hr;obtain ⟨F3,F4,L3,L4,U3,U4,K3,K4,g3,h4,e2,l2,u2,k2,k3⟩:=hr;have p4:=mX h4;rw [GL];cases OS x.toList y.toList most with
  | true=>
   rw [DB];exact ⟨fun p=>F1 p+F3 p,F4,L1+L3,L4,U1+U3,U4,K1+K3,K4,g1.meet g3 (by omega),nQ most r h4 (by omega),fun p=>by show F p=(F1 p+F3 p)+F4 p; rw [e,e2]; omega,by omega,by omega,by omega,by omega⟩
  | false=>
   rw [DC];exact ⟨F1,F2,L1,L2,U1,U2,K1,K2,g1,nQ most (y :: r) hr0 (by omega),e,l1,u1,k0,k1⟩
theorem cO (most:Int):∀ (l:LI),(GL most l).1.length≤l.length∧((GL most l).2=true→(GL most l).1.length < l.length)
 | []=>⟨AT _,fun h=>by cases h⟩
 | [x]=>⟨AT _,fun h=>by cases h⟩
 | x :: y :: r=>by
  rw [GL];cases OS x.toList y.toList most with
  | true=>
   rw [DB];have h:=cO most r;refine ⟨?_,fun _=>?_⟩ <;> simp only [AM] <;> omega
  | false=>
   rw [DC];obtain ⟨h1,h2⟩:=cO most (y :: r);simp only [AM] at h1 h2 ⊢;exact ⟨by omega,fun h=>by have:=h2 h; omega⟩
theorem wC (most:Int) {b:Bx}:∀ (n:Nat) (l:LI) {F:Pt→Int} {L U K:Int},PD b l F L U K→K≤4611686018427387904→PD b (PH most n l) F L U K
 | 0,_,_,_,_,_,h,_=>h
 | n+1,l,_,_,_,_,h,hK=>by
  rw [PH];cases (GL most l).2 with
  | true=>exact wC most n _ (nQ most l h hK) hK
  | false=>exact h
theorem xI {b:Bx} (hb:b.emp=false):∀ (l:LI) {F:Pt→Int} {L U K:Int} (s s':Int),PD b l F L U K→K≤4611686018427387904→(-(4611686018427387904 - K)≤s∧s≤4611686018427387904 - K)→(-(4611686018427387904 - K)≤s'∧s'≤4611686018427387904 - K) →
  (s+L≤PU l s∧PM l s'≤s'+U)∧(∀ p t,b.has p t=true→PU l s≤s+F p∧s'+F p≤PM l s') ∧
  (l.length≤1→(∃ p t,b.has p t=true∧PU l s=s+F p)∧∃ p t,b.has p t=true∧PM l s'=s'+F p)
 | [],F,L,U,K,s,s',h,_,_,_=>by
  obtain ⟨e,h1,h2,_⟩:=h;have hl:=LP b hb;refine ⟨⟨by show s+L≤s; omega,by show s'≤s'+U; omega⟩,fun p t _=>?_,fun _=>⟨⟨_,_,hl,?_⟩,⟨_,_,hl,?_⟩⟩⟩
  ·rw [e];exact ⟨by show s≤s+0; omega,by show s'+0≤s'; omega⟩
  ·rw [e]; show s=s+0; omega
  ·rw [e]; show s'=s'+0; omega
 | g :: r,F,L,U,K,s,s',h,hK,hs,hs'=>by
  obtain ⟨F1,F2,L1,L2,U1,U2,K1,K2,g1,hr,e,l1,u1,k0,k1⟩:=h;have hp:=mX hr;obtain ⟨ge,⟨gl,gu⟩,gk,gk',ga,gx,gy⟩:=g1.ends hb;have el:gQ g=KN g.toList:=by unfold gQ; rw [ge,DC]
  have eu:gP g=KM g.toList:=by unfold gP; rw [ge,DC]
  have wl:AA AB (s+gQ g)=s+KN g.toList:=by rw [el]; exact EA (by omega) (by omega)
  have wu:AA AB (s'+gP g)=s'+KM g.toList:=by rw [eu]; exact EA (by omega) (by omega)
  obtain ⟨⟨i1,i2⟩,i3,i4⟩:=xI hb r (s+KN g.toList) (s'+KM g.toList) hr (by omega) (by omega) (by omega);rw [PU,PM,wl,wu];refine ⟨⟨by omega,by omega⟩,fun p t hh=>?_,fun hlen=>?_⟩
  ·have q1:=ga p t hh;have q2:=i3 p t hh;rw [e];omega
  ·have hr0:r=[]:=vap (by simp only [AM] at hlen; omega);subst hr0;obtain ⟨e0,_⟩:=hr;obtain ⟨p,t,hp1,hp2⟩:=gx;obtain ⟨p',t',hp1',hp2'⟩:=gy;refine ⟨⟨p,t,hp1,?_⟩,⟨p',t',hp1',?_⟩⟩
   ·rw [e,e0,hp2]; show s+KN g.toList=_; omega
   ·rw [e,e0,hp2']; show s'+KM g.toList=_; omega
theorem gH (c:Int) (p:Pt):∀ (ts:LI) (s:Int),G1 c p ts s=s+G1 c p ts 0
 | [],s=>by show s=s+0; omega
 | t :: r,s=>by
  rw [G1,G1,gH c p r (cond _ _ s),gH c p r (cond _ _ 0)];cases (JW t==c) <;> simp only [CT,CG] <;> omega
theorem dU (h:LI→Int) (c:Int):∀ (ts:LI) (s:Int),F7 h c ts s=s+F7 h c ts 0
 | [],s=>by show s=s+0; omega
 | t :: r,s=>by
  rw [F7,F7,dU h c r (cond _ _ s),dU h c r (cond _ _ 0)];cases (JW t==c) <;> simp only [CT,CG] <;> omega
theorem Ur {b:Bx} {F:Pt→Int} {L U K:Int}:∀ (l:LI),PD b l F L U K→PD b l F L U (2147483648+K)
 | [],h=>⟨h.1,h.2.1,h.2.2.1,by have:=h.2.2.2; omega⟩
 | g :: r,h=>by
  obtain ⟨F1,F2,L1,L2,U1,U2,K1,K2,g1,hr,e,l1,u1,k0,k1⟩:=h;exact ⟨F1,F2,L1,L2,U1,U2,K1,K2,g1,hr,e,l1,u1,k0,by omega⟩
def Q1 (c:Int) (b:Bx) (ts:LI):LI:=(ts.filter fun t=>JW t==c).map fun t=>.list (F9 (EJ t) b)
theorem zak {l:LI} (ht:FY l 4=true) {b:Bx} (hb:b.emp=false) (hok:b.ok):Grp b (F9 l b) (GC l) (GY l b) (GW l b) 2147483648:=by
 obtain ⟨h1,h2⟩:=nM ht hb hok;refine ⟨fun x hx=>?_,h2,fun x hx=>?_⟩
 ·obtain ⟨a,c,d⟩:=h1 x hx;exact ⟨a,c,d⟩
 ·obtain ⟨a,c,d⟩:=h1 x hx;obtain ⟨e1,e2⟩:=d _ _ (LP _ a);have h3:=(S8 ht hb hok).1 _ _ e1;have h4:=rH l (DN x).low;rw [e2] at h3 h4;omega
theorem Iu {b:Bx} (hb:b.emp=false) (hok:b.ok) (c:Int):∀ (ts:LI),(∀ t∈ts,FY (EJ t) 4=true)→PD b (Q1 c b ts) (fun p=>G1 c p ts 0) (F7 (fun l=>GY l b) c ts 0) (F7 (fun l=>GW l b) c ts 0) (2147483648*ts.length)
 | [],_=>⟨fun _=>rfl,CF _,CF _,by simp⟩
 | t :: r,h=>by
  have ih:=Iu hb hok c r fun u hu=>h u (AW _ hu)
  have hK:(0:Int)≤2147483648*((r.length:Nat):Int):=by omega
  have hKt:(2147483648:Int)*(((t :: r).length:Nat):Int)=2147483648+2147483648*((r.length:Nat):Int):=by rw [AM]; omega
  unfold Q1;rw [vbc];cases hc:JW t==c with
  | false=>
   rw [A2 (by simp)];have e1:∀ p,G1 c p (t :: r) 0=G1 c p r 0:=fun p=>by rw [G1,hc,DC]
   have e2:∀ g:LI→Int,F7 g c (t :: r) 0=F7 g c r 0:=fun g=>by rw [F7,hc,DC]
   rw [e2,e2,hKt];have e3:(fun p=>G1 c p (t :: r) 0)=fun p=>G1 c p r 0:=funext e1
   rw [e3];revert ih;generalize ((2147483648:Int)*((r.length:Nat):Int))=K;intro ih;exact Ur (Q1 c b r) ih
  | true=>
   rw [BJ rfl,AZ];have e1:∀ p,G1 c p (t :: r) 0=GC (EJ t) p+G1 c p r 0:=fun p=>by rw [G1,hc,DB,gH]; omega
   have e2:∀ g:LI→Int,F7 g c (t :: r) 0=g (EJ t)+F7 g c r 0:=fun g=>by rw [F7,hc,DB,dU]; omega
   rw [e2,e2,hKt];exact ⟨GC (EJ t),fun p=>G1 c p r 0,_,_,_,_,2147483648,_,zak (h t (AU ..)) hb hok,ih,e1,CF _,CF _,by omega,CF _⟩
structure RgSem (m:Md) (c:Int) (b:Bx) (most:Int):Prop where
 sums:DZ m c b≤HJ m c b most∧HI m c b most≤DW m c b
 all:∀ p t,b.has p t=true→HJ m c b most≤D4 m c p∧D4 m c p≤HI m c b most
 one:KR m c b most=true→(∃ p t,b.has p t=true∧HJ m c b most=D4 m c p)∧∃ p t,b.has p t=true∧HI m c b most=D4 m c p
theorem sU {m:Md} (hm:EQ m=true) (c:Int) : -2147483648≤G0 m c∧G0 m c≤2147483647:=by
 have h:=(IY hm).2.2.2.1;unfold G0;cases c==0 with
 | true=>exact J5 h.1
 | false=>
  cases c==1 with
  | true=>exact J5 h.2.1
  | false=>exact J5 h.2.2
theorem jC {m:Md} {c:Int} {b:Bx} (h:E9 m c b=true) (hok:b.ok) (most:Int):RgSem m c b most:=by
 obtain ⟨hm,hk,hb⟩:=V2 h;have hp:=IY hm;have hbi:=sU hm c;have h0:=Iu hb hok c m.ts fun t ht=>TA hm ht
 have hK:(2147483648:Int)*((m.ts.length:Nat):Int)≤17179869184:=by have:=hp.2.2.1; omega
 have hK0:(0:Int)≤2147483648*((m.ts.length:Nat):Int):=by omega
 revert h0 hK hK0;generalize ((2147483648:Int)*((m.ts.length:Nat):Int))=K;intro h0 hK hK0;have h1:=wC most ((KD m c b).length+1) (KD m c b) h0 (by omega);obtain ⟨⟨i1,i2⟩,i3,i4⟩:=xI hb _ (G0 m c) (G0 m c) h1 (by omega) (by omega) (by omega);have e1:∀ p,D4 m c p=G0 m c+G1 c p m.ts 0:=fun p=>by rw [gI hm hk,gH]
 have el:HJ m c b most=PU (S1 m c b most) (G0 m c):=by unfold HJ; rw [h,DB]
 have eu:HI m c b most=PM (S1 m c b most) (G0 m c):=by unfold HI; rw [h,DB]
 have sl:DZ m c b=G0 m c+F7 (fun l=>GY l b) c m.ts 0:=by unfold DZ; rw [h,DB,dU]
 have su:DW m c b=G0 m c+F7 (fun l=>GW l b) c m.ts 0:=by unfold DW; rw [h,DB,dU]
 refine ⟨?_,fun p t hh=>?_,fun ho=>?_⟩
 ·rw [el,eu,sl,su];exact ⟨i1,i2⟩
 ·rw [el,eu,e1];exact i3 p t hh
 ·unfold KR at ho;rw [h,BG] at ho;have hlen:(S1 m c b most).length≤1:=by
   have:=AY ho
   simp only [ic] at this;omega
  obtain ⟨⟨p,t,q1,q2⟩,⟨p',t',q1',q2'⟩⟩:=i4 hlen;rw [el,eu];exact ⟨⟨p,t,q1,by rw [e1]; exact q2⟩,⟨p',t',q1',by rw [e1]; exact q2'⟩⟩
open Go Go.Proofs
theorem zfn:DO PR B0 144 aW:=by
 refine DX [(142,UJ)] [] aW [[.z,.z]] Tryz.func144 Yr ⟨Gg,trivial⟩ ?_;intro vs r hwf h;unfold aW at h;split at h
 ·rename_i a b;replace h:=eD h;obtain ⟨a,rfl,h⟩:=h;replace h:=eD h;obtain ⟨b,rfl,h⟩:=h;rw [R.get_ok] at h;refine ⟨0,(zci 0 a b).trans ?_⟩;rw [← h];rfl
 ·simp [R.get] at h
theorem zeo:DO PR B0 106 ZG:=by
 refine DX [(144,aW)] [(2,⟨[2,3,4,6],[2,3,4],[]⟩)] ZG [[.z,.z,.z,.z,.z,.z,.z,.z,.z,.z]] Tryz.func106 Vo ⟨zfn,trivial⟩ ?_;intro vs r hwf h;unfold ZG at h;split at h
 ·rename_i a b;replace h:=HK h;obtain ⟨a,rfl,h⟩:=h;replace h:=HK h;obtain ⟨b,rfl,h⟩:=h;rw [R.get_ok] at h;refine ⟨6,(zdZ a b).trans ?_⟩;rw [← h]
 ·simp [R.get] at h
theorem nX (x:IV):∀ (l out:LI),out.length≤(LD x l out).length
 | [],out=>AT _
 | y :: r,out=>by
  rw [LD];refine CE ?_ (nX x r _);cases ((H4 x).meet (H4 y)).emp with
  | true=>exact AT _
  | false=>
   rw [DC,AR];omega
theorem Ab:∀ (a l out:LI),out.length≤(MK a l out).length
 | [],l,out=>AT _
 | x :: r,l,out=>by
  rw [MK];exact CE (nX x l out) (Ab r l _)
abbrev zaa:KP:=⟨[1,2,6,7,8,14,15,16],[500],[⟨(.tmp 8),500,89,true,D9⟩]⟩
abbrev zab:KP:=⟨[1,2,6,7,8,10,14,15,16,20,21,22],[10,500],[⟨(.tmp 8),500,89,true,D9⟩]⟩
theorem n3 (N:Nat) {most:Int} (h0:0≤most) (h1:most≤65536) (A B:LI) (hB:B.length≤strMax) (x15 x16:Int) (x:IV) (Z:DG) (K:Out→St→DG) (hz:∀ y O,K .ret (NH B most false O.length A x15 x16 B (ic B.length) y (DN x) (FF x) O)=Z) :
  ∀ (d i n:Nat) (O:LI),i+d=B.length→d < n→ic O.length≤most →
   DR (KW N) (DD MB [1,1,0,1,0,0,1,1,0,0,1,1,0,0]) zab n (NH B most false O.length A x15 x16 B (ic B.length) (i:Int) (DN x) (FF x) O) K =
    cond (decide (ic (LD x (B.drop i) O).length≤most)) (K (.exit 2) (NH B most false (LD x (B.drop i) O).length A x15 x16 B (ic B.length) (ic B.length) (DN x) (FF x) (LD x (B.drop i) O))) Z
 | 0,i,n+1,O,hd,_,hO=>by
  have hi:i=B.length:=by omega
  subst hi;rw [DY,Ho,IW (AT _),DC,CX];show _=cond (decide (ic O.length≤most)) (K (.exit 2) (NH B most false O.length A x15 x16 B (ic B.length) (ic B.length) (DN x) (FF x) O)) Z;rw [AF hO,DB]
 | d+1,i,n+1,O,hd,hn,hO=>by
  have hi:i < B.length:=by omega
  have m':strMax=140737488355327:=rfl;rw [DY,Ho,IG hi,DB,IF,BH,DB,I9 hi,GV (by omega),A7 hi,LD];show cond ((H4 x).meet (H4 B[i])).emp _ _=_;cases he:((H4 x).meet (H4 B[i])).emp with
  | true=>
   rw [DB,DB];exact n3 N h0 h1 A B hB x15 x16 x Z K hz d (i+1) n O (by omega) (by omega) hO
  | false=>
   rw [DC,DC];have hge:=nX x (B.drop (i+1)) (O++[Q5 x B[i]]);rw [AR,B3] at hge;by_cases hm:ic O.length≥most
   ·rw [AF (show ic (O.length - 0)≥most from hm),DB,AL (by simp only [ic] at hm ⊢; omega),DC];exact hz _ _
   ·rw [AL (show ¬ ic (O.length - 0)≥most from hm),DC,AF (show (O.length+1)*88≤D1 by unfold D1; simp only [ic] at hm; omega),DB,BD];have ih:=n3 N h0 h1 A B hB x15 x16 x Z K hz d (i+1) n (O++[Q5 x B[i]]) (by omega) (by omega) (by rw [AR,B3]; simp only [ic] at hm ⊢; omega);have e1:(O++[Q5 x B[i]]).length=O.length+1:=by rw [AR,B3]
    rw [e1] at ih;exact ih
 | 0,_,0,_,_,h,_=>by omega
 | _+1,_,0,_,_,h,_=>by omega
theorem Af (N:Nat) {most:Int} (h0:0≤most) (h1:most≤65536) (A B:LI) (hA:A.length≤strMax) (hB:B.length≤strMax) (hN:B.length < N) (T:LI→DG) (Z:DG) (K:Out→St→DG)
  (hx:∀ y O,K (.exit 0) (O6 B most false O.length A (ic A.length) y O)=T O) (hz:∀ y O,K .ret (O6 B most false O.length A (ic A.length) y O)=Z) :
  ∀ (d i n:Nat) (O:LI),i+d=A.length→d < n→ic O.length≤most →
   DR (KW N) (DD MB [1,1,0,1,0,0]) zaa n (O6 B most false O.length A (ic A.length) (i:Int) O) K =
    cond (decide (ic (MK (A.drop i) B O).length≤most)) (T (MK (A.drop i) B O)) Z
 | 0,i,n+1,O,hd,_,hO=>by
  have hi:i=A.length:=by omega
  subst hi;rw [DY,Hn,IW (AT _),DC,CX,hx];show _=cond (decide (ic O.length≤most)) (T O) Z;rw [AF hO,DB]
 | d+1,i,n+1,O,hd,hn,hO=>by
  have hi:i < A.length:=by omega
  have m':strMax=140737488355327:=rfl;rw [DY,Hn,IG hi,DB,IF,BH,DB,I9 hi,A7 hi,MK];refine (n3 N h0 h1 A B hB (ic A.length) (i:Int) A[i] Z _ (fun y O=>(Sh N _ _ B most false O.length A (ic A.length) (i:Int) B (ic B.length) y _ _ O).trans (hz _ _)) B.length 0 N O (by omega) hN hO).trans ?_;rw [B1];by_cases hm:ic (LD A[i] B O).length≤most
  ·rw [AF hm,DB];refine (Sg N _ _ B most false _ A (ic A.length) (i:Int) B (ic B.length) _ _ _ _).trans ?_;rw [GV (by omega)];exact Af N h0 h1 A B hA hB hN T Z K hx hz d (i+1) n (LD A[i] B O) (by omega) (by omega) hm
  ·have hge:=Ab (A.drop (i+1)) B (LD A[i] B O);rw [AL hm,DC,AL (by simp only [ic] at hm ⊢; omega),DC]
 | 0,_,0,_,_,h,_=>by omega
 | _+1,_,0,_,_,h,_=>by omega
theorem zay (N:Nat) (B:LI) (most:Int) (n8:Nat) (A:LI) (x15 x16:Int) (O:LI):(DI 0 (DJ (KW N) (DD MB [1,1,1]) (DL (KW N) none [(BV 6),(BV 7)] [[(.list true D9)],[.bool]]))) .ret (O6 B most false n8 A x15 x16 O)=some (.tup [.list true D9 [],.bool false],[]):=by kernel_rfl
theorem zex:DO PR B0 65 ZP:=by
 refine DX [(31,JH),(106,ZG)] [(3,⟨[1,2,6,7,8,14,15,16],[500],[⟨.tmp 8,500,89,true,D9⟩]⟩),(6,⟨[1,2,6,7,8,10,14,15,16,20,21,22],[10,500],[⟨.tmp 8,500,89,true,D9⟩]⟩)] ZP [[.list true [.z,.z,.z,.z,.z,.z,.z,.z,.z,.z,.z]],[.bool]] Tryz.func65 Vy ⟨S5,zeo,trivial⟩ ?_;intro vs r hwf h;unfold ZP at h;split at h
 ·rename_i a b most;cases hg:(decide (0≤most)&&decide (most≤65536)) with
  | false=>rw [hg] at h; simp [R.get] at h
  | true=>
  rw [hg,R.get_br,DB,R.get_ok] at h;rw [AG] at hg;have h0:=AY hg.1;have h1:=AY hg.2;have hb:=hwf (by simp [KK]);have hA:a.length≤strMax:=by have:=hb.1; simp only [N8,wfL] at this; exact this.1
  have hB:b.length≤strMax:=by have:=hb.2.1; simp only [N8,wfL] at this; exact this.1
  refine ⟨a.length+b.length+1,(za6 (a.length+b.length+1) a b most).trans ?_⟩;rw [← h];refine (Af (a.length+b.length+1) h0 h1 a b hA hB (by omega) (fun O=>some (.tup [.list true D9 O,.bool true],[])) (some (.tup [.list true D9 [],.bool false],[])) _ (fun y O=>(Sf _ b most false O.length a (ic a.length) y O).trans (by rw [BD]; rfl)) (fun y O=>zay _ b most O.length a (ic a.length) y O) a.length 0 _ [] (by omega) (by omega) h0).trans ?_;rw [B1];unfold OS OR;cases decide (ic (MK a b []).length≤most) <;> rfl
 ·simp [R.get] at h
theorem xH (N:Nat) (ps:LI) (hp:ps.length≤strMax) (K:Out→St→DG):∀ (d i n:Nat) (a b:Int),i+d=ps.length→d < n →
  DR (RR N) (DD UY [1,1,1,0,1,0,0]) ⟨[2,3,4,5,6,20,21,22],[],[]⟩ n (TJ 0 0 false a b ps (ic ps.length) (i:Int)) K =
   K (.exit 0) (TJ 0 0 false (ML (ps.drop i) a) (MJ (ps.drop i) b) ps (ic ps.length) (ic ps.length))
 | 0,i,n+1,a,b,hd,_=>by
  have hi:i=ps.length:=by omega
  subst hi;rw [DY,Hm,IW (AT _),DC,CX];rfl
 | d+1,i,n+1,a,b,hd,hn=>by
  have hi:i < ps.length:=by omega
  have m':strMax=140737488355327:=rfl;rw [DY,Hm,IG hi,DB,IF,BH,DB,I9 hi,GV (by omega),A7 hi,ML,MJ];exact xH N ps hp K d (i+1) n _ _ (by omega) (by omega)
 | 0,_,0,_,_,_,h=>by omega
 | _+1,_,0,_,_,_,h=>by omega
theorem zew:DO PR B0 19 ZO:=by
 refine DX [] [(5,⟨[2,3,4,5,6,20,21,22],[],[]⟩)] ZO [[.z],[.z],[.bool]] Tryz.func19 Vx trivial ?_;intro vs r hwf h;unfold ZO at h;split at h
 ·rename_i ps;rw [R.get_ok] at h;have hb:=hwf (by simp [KK]);have hp:ps.length≤strMax:=by have:=hb.1; simp only [N8,wfL] at this; exact this.1
  refine ⟨ps.length+1,(za5 (ps.length+1) ps).trans ?_⟩;rw [← h];cases hps:ps with
  | nil=>rfl
  | cons x r=>
   rw [← hps];have e1:(ic ps.length==0)=false:=by rw [hps]; simp [ic]; omega
   have e2:decide ((0:Int) < ic ps.length)=true:=AF (by rw [hps]; simp [ic]);have e3:ps.isEmpty=false:=by rw [hps]; rfl
   rw [e1,DC,e2,e3];simp only [AT,decide_true,BH,DB];refine (xH (ps.length+1) ps hp _ ps.length 0 (ps.length+1) _ _ (by omega) (by omega)).trans ?_;rw [B1];exact Se (ps.length+1) 0 0 false _ _ ps (ic ps.length) (ic ps.length)
 ·simp [R.get] at h
abbrev zac:KP:=⟨[1,5,6,7,11,25,26,27],[5,500],[⟨(.tmp 11),500,67,false,[(.list true D9)]⟩]⟩
theorem qR (N:Nat) (b:Bx) (c:Int) (ts:LI) (hts:ts.length≤8) (K:Out→St→DG):∀ (d i n:Nat) (O:LI),i+d=ts.length→d < n→O.length≤i →
  DR (RW N) (DD U7 [1,1,1,0,1,0,0]) zac n (QF b c false O.length ts (ic ts.length) (i:Int) O) K =
   K (.exit 0) (QF b c false (O++Q1 c b (ts.drop i)).length ts (ic ts.length) (ic ts.length) (O++Q1 c b (ts.drop i)))
 | 0,i,n+1,O,hd,_,_=>by
  have hi:i=ts.length:=by omega
  subst hi;rw [DY,Ia,IW (AT _),DC,CX];show _=K (.exit 0) (QF b c false (O++[]).length ts (ic ts.length) (ic ts.length) (O++[]));rw [vad]
 | d+1,i,n+1,O,hd,hn,hO=>by
  have hi:i < ts.length:=by omega
  rw [DY,Ia,IG hi,DB,IF,BH,DB,I9 hi,GV (by omega),A7 hi,BD];have e:Q1 c b (ts[i] :: ts.drop (i+1))=cond (JW ts[i]==c) (IV.list (F9 (EJ ts[i]) b) :: Q1 c b (ts.drop (i+1))) (Q1 c b (ts.drop (i+1))):=by
   unfold Q1;rw [vbc];cases JW ts[i]==c <;> rfl
  rw [e];show cond (JW ts[i]==c) _ _=_;cases JW ts[i]==c with
  | true=>
   rw [DB,DB,AF (show (O.length+1)*24≤D1 by unfold D1; omega),DB];have ih:=qR N b c ts hts K d (i+1) n (O++[IV.list (F9 (EJ ts[i]) b)]) (by omega) (by omega) (by rw [AR,B3]; omega);rw [vaG] at ih;have e1:(O++[IV.list (F9 (EJ ts[i]) b)]).length=O.length+1:=by rw [AR,B3]
   rw [e1] at ih;exact ih
  | false=>
   rw [DC,DC];exact qR N b c ts hts K d (i+1) n O (by omega) (by omega) (by omega)
 | 0,_,0,_,_,h,_=>by omega
 | _+1,_,0,_,_,h,_=>by omega
theorem ze1:DO PR B0 17 aD:=by
 refine DX [(14,MW),(34,T9)] [(6,⟨[1,5,6,7,11,25,26,27],[5,500],[⟨.tmp 11,500,67,false,[.list true [.z,.z,.z,.z,.z,.z,.z,.z,.z,.z,.z]]⟩]⟩)] aD [[.list false [.list true [.z,.z,.z,.z,.z,.z,.z,.z,.z,.z,.z]]],[.bool]] Tryz.func17 Xl ⟨dN,Fv,trivial⟩ ?_;intro vs r hwf h;unfold aD at h;split at h
 ·rename_i m c b;replace h:=IN h;obtain ⟨m,rfl,h⟩:=h;replace h:=HK h;obtain ⟨b,rfl,h⟩:=h;rw [R.get_ok] at h;refine ⟨9,(zbJ 9 m c b).trans ?_⟩;rw [← h];cases hs:E9 m c b with
  | false=>rfl
  | true=>
   have hts:=(IY (V2 hs).1).2.2.1;rw [A1,DC];refine (qR 9 b c m.ts hts _ m.ts.length 0 9 [] (by omega) (by omega) (AT _)).trans ?_;refine (Sz 9 b c false _ m.ts (ic m.ts.length) (ic m.ts.length) _).trans ?_;rw [BD,B1,B1,vaE];rfl
 ·simp [R.get] at h
abbrev zad:KP:=⟨[0,1,4,5,6,7],[500],[⟨(.tmp 6),500,67,false,[(.list true D9)]⟩]⟩
theorem iF (N:Nat) {most:Int} (h0:0≤most) (h1:most≤65536) (T:LI→Bool→DG) (K:Out→St→DG) (hx:∀ b O,K (.exit 0) (QE [] most false (AE O) b O)=T O b) :
  ∀ (n:Nat) (l O:LI) (b:Bool),l.length < n→O.length+l.length≤65536 →
   DR (RV N) (DD U6 [1,1,1,0,0,0]) zad n (QE l most false O.length b O) K=T (O++(GL most l).1) (b||(GL most l).2)
 | 0,_,_,_,h,_=>by omega
 | n+1,[],O,b,_,_=>by
  rw [DY,qO,AL (show ¬ ic ([]:LI).length > 0 by simp [ic]),DC,hx];show _=T (O++[]) (b||false);rw [vad,Bool.or_false]
 | n+1,[x],O,b,hn,hO=>by
  have z1:decide ((0:Int)≤1)=true:=rfl;have z2:decide ((0:Nat)≤1)=true:=rfl;have q1:decide ((0:Int) < ic [x].length)=true:=rfl;have q2:decide ((1:Int)≤ic [x].length)=true:=rfl;have hO1:O.length+1≤65536:=hO;have q0:decide (ic [x].length > 0)=true:=rfl;have q3:decide (ic [x].length > 1)=false:=rfl;have hsz:decide ((O.length+1)*24≤D1)=true:=AF (by unfold D1; omega);have g0:[x].getD (AD 0) default=x:=rfl;have d1:[x].drop (AD 1)=[]:=rfl;rw [DY,qO];simp only [q0,q2,q3,hsz,g0,d1,AT,decide_true,z2,BH,DB,DC,BD];have ih:=iF N h0 h1 T K hx n [] (O++[.list x.toList]) b (by simp only [AM,A6] at hn ⊢; omega) (by rw [AR]; simp only [AM,A6]; omega);have e1:(O++[IV.list x.toList]).length=O.length+1:=by rw [AR,B3]
  rw [e1] at ih;refine Eq.trans ih ?_;show T (O++[IV.list x.toList]++[]) (b||false)=T (O++[IV.list x.toList]) (b||false);rw [vad]
 | n+1,x :: y :: r,O,b,hn,hO=>by
  have z1:decide ((0:Int)≤1)=true:=rfl;have z2:decide ((0:Nat)≤1)=true:=rfl;have z3:decide ((0:Int)≤2)=true:=rfl;have z4:decide ((0:Nat)≤2)=true:=rfl;have hO1:O.length+(r.length+2)≤65536:=hO;have hn1:r.length+2 < n+1:=hn;have el:ic (x :: y :: r).length=((r.length+2:Nat):Int):=rfl;have q0:decide (ic (x :: y :: r).length > 0)=true:=AF (by rw [el]; omega);have q1:decide (ic (x :: y :: r).length > 1)=true:=AF (by rw [el]; omega);have q2:decide (0 < ic (x :: y :: r).length)=true:=AF (by rw [el]; omega);have q3:decide (1 < ic (x :: y :: r).length)=true:=AF (by rw [el]; omega);have q4:decide (1≤ic (x :: y :: r).length)=true:=AF (by rw [el]; omega);have q5:decide (2≤ic (x :: y :: r).length)=true:=AF (by rw [el]; omega);have g0:(x :: y :: r).getD (AD 0) default=x:=rfl;have g1:(x :: y :: r).getD (AD 1) default=y:=rfl;have d1:(x :: y :: r).drop (AD 1)=y :: r:=rfl;have d2:(x :: y :: r).drop (AD 2)=r:=rfl;have hsz:decide ((O.length+1)*24≤D1)=true:=AF (by unfold D1; omega);rw [DY,qO,GL];simp only [q0,q1,q4,q5,g0,g1,AF h0,AF h1,hsz,BD,d1,d2,AT,decide_true,z2,z4,BH,DB];cases hm:OS x.toList y.toList most with
  | true=>
   simp only [DB];have ih:=iF N h0 h1 T K hx n r (O++[.list (OR x.toList y.toList)]) true (by omega) (by rw [AR,B3]; omega);have e1:(O++[IV.list (OR x.toList y.toList)]).length=O.length+1:=by rw [AR,B3]
   rw [e1,Bool.true_or,vaG] at ih;rw [Bool.or_true];exact ih
  | false=>
   simp only [DC];have ih:=iF N h0 h1 T K hx n (y :: r) (O++[.list x.toList]) b (by simp only [AM]; omega) (by rw [AR,B3]; simp only [AM]; omega);have e1:(O++[IV.list x.toList]).length=O.length+1:=by rw [AR,B3]
   rw [e1,vaG] at ih;exact ih
theorem ze0:DO PR B0 35 aC:=by
 refine DX [(65,ZP)] [(3,⟨[0,1,4,5,6,7],[500],[⟨.tmp 6,500,67,false,[.list true [.z,.z,.z,.z,.z,.z,.z,.z,.z,.z,.z]]⟩]⟩)] aC [[.list false [.list true [.z,.z,.z,.z,.z,.z,.z,.z,.z,.z,.z]]],[.bool]] Tryz.func35 Xk ⟨zex,trivial⟩ ?_;intro vs r hwf h;unfold aC at h;split at h
 ·rename_i l most;cases hg:(decide (0≤most)&&(decide (most≤65536)&&BS l.length 65536)) with
  | false=>rw [hg] at h; simp [R.get] at h
  | true=>
  rw [hg,R.get_br,DB,R.get_ok] at h;rw [AG,AG] at hg;have h0:=AY hg.1;have h1:=AY hg.2.1;have h2:=AN hg.2.2;refine ⟨l.length+1,(zbI (l.length+1) l most).trans ?_⟩;rw [← h];refine (iF (l.length+1) h0 h1 (fun O b=>some (.tup [.list false [.list true D9] O,.bool b],[])) _ (fun b O=>(Sy (l.length+1) [] most false O.length b O).trans (by rw [BD]; rfl)) (l.length+1) l [] false (by omega) (by simp only [A6]; omega)).trans ?_;rw [vaE,vav]
 ·simp [R.get] at h
abbrev Zy:KP:=⟨[0,1,4,5,6],[500],[⟨(.tmp 6),500,3,false,[.z]⟩]⟩
theorem wF (N:Nat) {most:Int} (h0:0≤most) (h1:most≤65536):∀ (d n:Nat) (l ns:LI),l.length≤d→d < n→d≤65536→ns.length+d≤65537 →
  DR (TW N) (DD bI [1,1,0,0]) Zy n (eG l most ns.length ns) (DI 0 (DL (TW N) none [(BV 4),(BV 5)] [[(.list false [(.list true D9)])],[(.list false [.z])]])) =
   some (.tup [.list false [.list true D9] (PH most (d+1) l),.list false [.z] (fR most (d+1) l ns)],[])
 | d,n+1,l,ns,hl,hn,hd,hns=>by
  obtain ⟨l1,l2⟩:=cO most l;rw [DY,zfF,AF h0,AF h1,CQ (show l.length≤65536 by omega),BH,BH,DB,PH,fR];cases hm:(GL most l).2 with
  | false=>
   rw [A9,DB,DC,DC];refine (Sx N l most l ns.length ns.length ns).trans ?_;rw [BD];rfl
  | true=>
   have h3:=l2 hm;obtain ⟨d,rfl⟩:∃ e,d=e+1:=⟨d - 1,by omega⟩;rw [A1,DC,DB,DB,AF (show (ns.length+1)*8≤D1 by unfold D1; omega),DB,BD];have ih:=wF N h0 h1 d n (GL most l).1 (ns++[.int (ic (GL most l).1.length)]) (by omega) (by omega) (by omega) (by rw [AR,B3]; omega);have e1:(ns++[IV.int (ic (GL most l).1.length)]).length=ns.length+1:=by rw [AR,B3]
   rw [e1] at ih;exact ih
 | _,0,_,_,_,h,_,_=>by omega
theorem zeZ:DO PR B0 18 aB:=by
 refine DX [(35,aC)] [(2,⟨[0,1,4,5,6],[500],[⟨.tmp 6,500,3,false,[.z]⟩]⟩)] aB [[.list false [.list true [.z,.z,.z,.z,.z,.z,.z,.z,.z,.z,.z]]],[.list false [.z]]] Tryz.func18 Xj ⟨ze0,trivial⟩ ?_;intro vs r hwf h;unfold aB at h;split at h
 ·rename_i l most;cases hg:(decide (0≤most)&&(decide (most≤65536)&&BS l.length 65536)) with
  | false=>rw [hg] at h; simp [R.get] at h
  | true=>
  rw [hg,R.get_br,DB,R.get_ok] at h;rw [AG,AG] at hg;have h0:=AY hg.1;have h1:=AY hg.2.1;have h2:=AN hg.2.2;refine ⟨l.length+1,(zbH (l.length+1) l most).trans ?_⟩;rw [← h];exact wF (l.length+1) h0 h1 l.length (l.length+1) l [.int (ic l.length)] (AT _) (by omega) h2 (by simp only [B3]; omega)
 ·simp [R.get] at h
theorem Dg (N:Nat) (C:LI) (hC:C.length≤65536) (K:Out→St→DG):∀ (d i n:Nat) (a b:Int),i+d=C.length→d < n →
  DR (RU N) (DD U5 [1,1,1,1,1,0,1,0,0]) ⟨[8,9,10,11,13,14,43,44,45],[],[]⟩ n (TP 0 0 false C a b C (ic C.length) (i:Int)) K =
   K (.exit 0) (TP 0 0 false C (PU (C.drop i) a) (PM (C.drop i) b) C (ic C.length) (ic C.length))
 | 0,i,n+1,a,b,hd,_=>by
  have hi:i=C.length:=by omega
  subst hi;rw [DY,Hz,IW (AT _),DC,CX];rfl
 | d+1,i,n+1,a,b,hd,hn=>by
  have hi:i < C.length:=by omega
  rw [DY,Hz,IG hi,DB,IF,BH,DB,I9 hi,GV (by omega),A7 hi,PU,PM];exact Dg N C hC K d (i+1) n _ _ (by omega) (by omega)
 | 0,_,0,_,_,_,h=>by omega
 | _+1,_,0,_,_,_,h=>by omega
theorem wD (most:Int):∀ (n:Nat) (l:LI),(PH most n l).length≤l.length
 | 0,l=>AT _
 | n+1,l=>by
  rw [PH];cases (GL most l).2 with
  | true=>exact CE (wD most n _) (cO most l).1
  | false=>exact AT _
theorem Fw:DO PR B0 8 UA:=by
 refine DX [(19,ZO),(18,aB),(17,aD)] [(7,⟨[8,9,10,11,13,14,43,44,45],[],[]⟩)] UA [[.z],[.z],[.bool]] Tryz.func8 Xi ⟨zew,zeZ,ze1,trivial⟩ ?_;intro vs r hwf h;unfold UA at h;split at h
 ·rename_i m c b most;replace h:=IN h;obtain ⟨m,rfl,h⟩:=h;replace h:=HK h;obtain ⟨b,rfl,h⟩:=h;cases hg:(decide (0≤most)&&decide (most≤65536)) with
  | false=>rw [hg] at h; simp [R.get] at h
  | true=>
  rw [hg,R.get_br,DB,R.get_ok] at h;rw [AG] at hg;refine ⟨10,(zbG 10 m c b most).trans ?_⟩;rw [← h];unfold HJ HI KR S1;cases hs:E9 m c b with
  | false=>rfl
  | true=>
   obtain ⟨hm,hc,_⟩:=V2 hs;have hp:=IY hm;have hlen:(KD m c b).length≤8:=by
    unfold KD;rw [B9];exact CE (List.length_filter_le ..) hp.2.2.1
   have hC:(OK most (KD m c b)).length≤8:=CE (wD most _ _) hlen;have key:∀ x:Int,OA 10 m c b most x x=some (.tup [.int .i64 (PU (OK most (KD m c b)) x),.int .i64 (PM (OK most (KD m c b)) x),.bool (decide (ic (OK most (KD m c b)).length≤1))],[]):=fun x=>by
    unfold OA;rw [hs,DB];refine (Dg 10 (OK most (KD m c b)) (by omega) _ (OK most (KD m c b)).length 0 10 x x (by omega) (by omega)).trans ?_;rw [B1];exact Sw 10 0 0 false _ _ _ _ _ _
   unfold GR at hc;rw [AG] at hc;have c0:=AY hc.1;have c1:=AY hc.2;rw [A1,DC,hg.1,hg.2,DB,CQ (show (KD m c b).length≤65536 by omega)];simp only [BH,DB,BG];have hcs:c=0∨c=1∨c=2:=by omega
   rcases hcs with rfl | rfl | rfl
   ·exact key m.b0
   ·exact key m.b1
   ·exact key m.b2
 ·simp [R.get] at h
open Go
def dis (a b:Bx):Prop:=∀ p t,a.has p t=true→b.has p t=true→False
structure PDis (l:LI) (i:Nat) (own out:LI):Prop where
 oo:out.Pairwise fun x y=>dis (DN x) (DN y)
 of:∀ x∈out,∀ j,fr l i j→dis (DN x) (E6 own j)
 ff:∀ j k,fr l i j→fr l i k→j≠k→dis (E6 own j) (E6 own k)
theorem zdg {l:LI} (h:TreeOK l) {b:Bx} {i:Nat} (hi:i < l.length) {own out:LI} (hp:PInv l b i own out) (hd:PDis l i own out) :
  PDis l (i+1) (H1 (nd l i) i own) (cond ((nd l i).lf&&!(E6 own i).emp) (out++[ST (E6 own i) (nd l i).v]) out):=by
 have hfi:=gN h hi;cases hl:(nd l i).lf with
 | true=>
  have e1:H1 (nd l i) i own=own:=by unfold H1; rw [hl,DB]
  have hfr:∀ j,fr l (i+1) j→fr l i j:=fun j hj=>by
   refine ⟨by have:=hj.1; omega,hj.2.1,hj.2.2.imp_right ?_⟩;rintro ⟨k,hk,hn⟩;refine ⟨k,?_,hn⟩;rcases vbn.1 hk with h1 | h1
   ·exact h1
   ·subst h1;rw [hn.1] at hl;cases hl
  rw [e1,BG];cases he:(E6 own i).emp with
  | true=>
   rw [A1,DC];exact ⟨hd.oo,fun x hx j hj=>hd.of x hx j (hfr j hj),fun j k hj hk hne=>hd.ff j k (hfr j hj) (hfr k hk) hne⟩
  | false=>
   rw [A9,DB];refine ⟨List.pairwise_append.2 ⟨hd.oo,by simp,fun x hx y hy=>?_⟩,fun x hx j hj=>?_,fun j k hj hk hne=>hd.ff j k (hfr j hj) (hfr k hk) hne⟩
   ·obtain rfl:=A4.1 hy;exact hd.of x hx i hfi
   ·rcases AV.1 hx with hx | hx
    ·exact hd.of x hx j (hfr j hj)
    ·obtain rfl:=A4.1 hx;exact hd.ff i j hfi (hfr j hj) (by have:=hj.1; omega)
 | false=>
  obtain ⟨⟨f0,f4⟩,ha,⟨a1,a2⟩,⟨b1,b2⟩,hne⟩:=h.fork i hi hl;simp only [ic] at a2 b2;have ef:(nd l i).f=(((nd l i).f.toNat:Nat):Int):=by omega
  have hf5:(nd l i).f.toNat < 5:=by omega
  have e1:H1 (nd l i) i own=(own.set (nd l i).l.toNat ((E6 own i).cutL (nd l i).f (nd l i).a).I).set (nd l i).r.toNat ((E6 own i).cutH (nd l i).f (nd l i).a).I:=by unfold H1; rw [hl,DC]
  have hlen:=hp.len;have at_:∀ j,(H1 (nd l i) i own).getD j default=if j=(nd l i).r.toNat then ((E6 own i).cutH (nd l i).f (nd l i).a).I else if j=(nd l i).l.toNat then ((E6 own i).cutL (nd l i).f (nd l i).a).I else own.getD j default:=fun j=>by
   rw [e1,YA (by rw [vas]; omega)];congr 1;rw [YA (by omega)]
  have fits:=J5 ha;have hok:=hp.ok i hfi;have cl:∀ p t,((E6 own i).cutL (nd l i).f (nd l i).a).has p t=true↔(E6 own i).has p t=true∧co p t (nd l i).f.toNat≤(nd l i).a:=fun p t=>by
   have:=XA (b:=E6 own i) hf5 (a:=(nd l i).a) (p:=p) (t:=t)
   rw [← ef] at this;exact this
  have ch:∀ p t,((E6 own i).cutH (nd l i).f (nd l i).a).has p t=true↔(E6 own i).has p t=true∧(nd l i).a < co p t (nd l i).f.toNat:=fun p t=>by
   have:=W9 hok hf5 (a:=(nd l i).a) fits.1 (p:=p) (t:=t)
   rw [← ef] at this;exact this
  have hfr:∀ j,fr l (i+1) j→j≠(nd l i).l.toNat→j≠(nd l i).r.toNat→fr l i j:=fun j hj h1 h2=>by
   refine ⟨by have:=hj.1; omega,hj.2.1,hj.2.2.imp_right ?_⟩;rintro ⟨k,hk,hn⟩;refine ⟨k,?_,hn⟩;rcases vbn.1 hk with h3 | h3
   ·exact h3
   ·subst h3;rcases hn.2 with e | e
    ·exact absurd (by omega) h1
    ·exact absurd (by omega) h2
  have hlr:(nd l i).l.toNat≠(nd l i).r.toNat:=by omega
  have el:E6 (H1 (nd l i) i own) (nd l i).l.toNat=(E6 own i).cutL (nd l i).f (nd l i).a:=by
   unfold E6;rw [at_,A2 hlr,BJ rfl,F8]
  have er:E6 (H1 (nd l i) i own) (nd l i).r.toNat=(E6 own i).cutH (nd l i).f (nd l i).a:=by
   unfold E6;rw [at_,BJ rfl,F8]
  have eo:∀ j,j≠(nd l i).l.toNat→j≠(nd l i).r.toNat→E6 (H1 (nd l i) i own) j=E6 own j:=fun j h1 h2=>by
   unfold E6;rw [at_,A2 h2,A2 h1]
  have src:∀ j,fr l (i+1) j→∃ s,fr l i s∧(∀ p t,(E6 (H1 (nd l i) i own) j).has p t=true→(E6 own s).has p t=true)∧((j=(nd l i).l.toNat∨j=(nd l i).r.toNat)∧s=i∨j≠(nd l i).l.toNat∧j≠(nd l i).r.toNat∧s=j):=fun j hj=>by
   by_cases h1:j=(nd l i).l.toNat
   ·refine ⟨i,hfi,fun p t hh=>?_,.inl ⟨.inl h1,rfl⟩⟩;rw [h1,el,cl] at hh;exact hh.1
   ·by_cases h2:j=(nd l i).r.toNat
    ·refine ⟨i,hfi,fun p t hh=>?_,.inl ⟨.inr h2,rfl⟩⟩;rw [h2,er,ch] at hh;exact hh.1
    ·refine ⟨j,hfr j hj h1 h2,fun p t hh=>?_,.inr ⟨h1,h2,rfl⟩⟩;rw [eo j h1 h2] at hh;exact hh
  have lr:dis (E6 (H1 (nd l i) i own) (nd l i).l.toNat) (E6 (H1 (nd l i) i own) (nd l i).r.toNat):=fun p t h1 h2=>by
   rw [el,cl] at h1;rw [er,ch] at h2;omega
  rw [BX,DC];refine ⟨hd.oo,fun x hx j hj p t hxp hjp=>?_,fun j k hj hk hjk p t hjp hkp=>?_⟩
  ·obtain ⟨s,hs,hsub,_⟩:=src j hj;exact hd.of x hx s hs p t hxp (hsub p t hjp)
  ·obtain ⟨s,hs,hsub,hsj⟩:=src j hj;obtain ⟨s',hs',hsub',hsk⟩:=src k hk;by_cases hss:s=s'
   ·have hki:i < k:=by have:=hk.1; omega
    have hji:i < j:=by have:=hj.1; omega
    rcases hsj with ⟨q1,q2⟩ | ⟨q1,q2,q3⟩
    ·rcases hsk with ⟨r1,r2⟩ | ⟨r1,r2,r3⟩
     ·rcases q1 with q1 | q1 <;> rcases r1 with r1 | r1
      ·exact hjk (q1.trans r1.symm)
      ·rw [q1] at hjp; rw [r1] at hkp; exact lr p t hjp hkp
      ·rw [q1] at hjp; rw [r1] at hkp; exact lr p t hkp hjp
      ·exact hjk (q1.trans r1.symm)
     ·omega
    ·rcases hsk with ⟨r1,r2⟩ | ⟨r1,r2,r3⟩
     ·omega
     ·omega
   ·exact hd.ff s s' hs hs' hss p t (hsub p t hjp) (hsub' p t hkp)
theorem Ci {l:LI} (h:TreeOK l) {b:Bx}:∀ (m i:Nat) (own out:LI),i+m=l.length→PInv l b i own out→PDis l i own out→(KG (l.drop i) i own out).Pairwise fun x y=>dis (DN x) (DN y)
 | 0,i,own,out,hd,_,hp=>by
  have hi:i=l.length:=by omega
  subst hi;rw [CX,KG];exact hp.oo
 | m+1,i,own,out,hd,hp,hq=>by
  have hi:i < l.length:=by omega
  rw [A7 hi,KG];have hs:=Ck h hi hp;have hs':=zdg h hi hp hq;have e:nd l i=DE (l[i]).toInt:=by unfold nd; rw [XK hi]
  rw [e] at hs hs';exact Ci h m (i+1) _ _ (by omega) hs hs'
theorem zai {l:LI} (ht:FY l 4=true) {b:Bx} (hb:b.emp=false) (hok:b.ok):(F9 l b).Pairwise fun x y=>dis (DN x) (DN y):=by
 have h:=j8 ht;have h1:=h.len.1;have hz:((BB l.length OG.I).set 0 b.I).getD 0 default=b.I:=by rw [YA (by simp; omega),BJ rfl]
 have f0:∀ j,fr l 0 j→j=0:=fun j hj=>by
  rcases hj.2.2 with e | ⟨k,hk,_⟩
  ·exact e
  ·omega
 have h0:PInv l b 0 ((BB l.length OG.I).set 0 b.I) []:=by
  refine ⟨by simp,fun j hj p t hh=>?_,fun j hj=>?_,fun p t hh=>.inr ⟨0,gN h (by omega),?_⟩,fun x hx=>by cases hx⟩
  ·obtain rfl:=f0 j hj;unfold E6 at hh;rw [hz,F8] at hh;exact ⟨hh,rfl⟩
  ·obtain rfl:=f0 j hj;unfold E6;rw [hz,F8];exact hok
  ·unfold E6;rw [hz,F8];exact hh
 have hd0:PDis l 0 ((BB l.length OG.I).set 0 b.I) []:=⟨List.Pairwise.nil,(fun x hx=>by cases hx),fun j k hj hk hne=>absurd ((f0 j hj).trans (f0 k hk).symm) hne⟩;have e:F9 l b=KG (l.drop 0) 0 ((BB l.length OG.I).set 0 b.I) []:=by unfold F9; rw [ht,hb]; rfl
 rw [e];exact Ci h l.length 0 _ _ (by omega) h0 hd0
def Bx.pnt (b:Bx):Prop:=∀ i,i < 5→(b.g i).lo=(b.g i).hi
theorem zdh {b:Bx} (h:b.pnt) {p:Pt} {t:Int} (hb:b.has p t=true) {c:Bx} {p':Pt} {t':Int} (hb':b.has p' t'=true) (hc:c.has p t=true):c.has p' t'=true:=by
 rw [JL] at hb hb' hc ⊢;intro i hi;have h1:=hb i hi;have h2:=hb' i hi;have h3:=hc i hi;have h4:=h i hi;rw [IL] at h1 h2 h3 ⊢;omega
theorem zam {l:LI} (ht:FY l 4=true) {b:Bx} (hb:b.emp=false) (hok:b.ok) (hp:b.pnt):(F9 l b).length≤1:=by
 obtain ⟨h1,_⟩:=nM ht hb hok;have h2:=zai ht hb hok
 match hl:F9 l b with
 | []=>simp
 | [_]=>simp
 | x :: y :: r=>
  exfalso;rw [hl] at h1 h2;have hx:=h1 x (AU ..);have hy:=h1 y (AW _ (AU ..));have lx:=LP _ hx.1;have ly:=LP _ hy.1;have hxy:=(List.pairwise_cons.1 h2).1 y (AU ..);exact hxy _ _ lx (zdh hp (hy.2.2 _ _ ly).1 (hx.2.2 _ _ lx).1 ly)
theorem zT {most:Int} (hm:1≤most):∀ (l:LI),(∀ g∈l,g.toList.length≤1)→(∀ g∈(GL most l).1,g.toList.length≤1)∧(2≤l.length→(GL most l).2=true)
 | [],h=>⟨h,fun h=>by simp at h⟩
 | [x],h=>⟨fun g hg=>by
   obtain rfl:=A4.1 hg;exact h x (A4.2 rfl),fun h=>by simp at h⟩
 | x :: y :: r,h=>by
  have hx:=h x (AU ..);have hy:=h y (AW _ (AU ..));have hl:(OR x.toList y.toList).length≤1:=by
   refine CE (Ac x.toList y.toList []) ?_
   have:=Nat.mul_le_mul hx hy
   simp only [A6];omega
  have ho:OS x.toList y.toList most=true:=by
   unfold OS;exact AF (by simp only [ic]; omega)
  rw [GL,ho,DB];refine ⟨fun g hg=>?_,fun _=>rfl⟩;rcases AX.1 hg with rfl | hg
  ·exact hl
  ·exact (zT hm r fun u hu=>h u (AW _ (AW _ hu))).1 g hg
theorem wE {most:Int} (hm:1≤most):∀ (n:Nat) (l:LI),l.length≤n+1→(∀ g∈l,g.toList.length≤1)→(PH most n l).length≤1
 | 0,l,hl,_=>hl
 | n+1,l,hl,h=>by
  obtain ⟨h1,h2⟩:=zT hm l h;obtain ⟨l1,l2⟩:=cO most l;rw [PH];cases hc:(GL most l).2 with
  | true=>
   rw [DB];exact wE hm n _ (by have:=l2 hc; omega) h1
  | false=>
   rw [DC];by_cases h3:2≤l.length
   ·rw [h2 h3] at hc;cases hc
   ·omega
theorem zdM {m:Md} {c:Int} {b:Bx} (h:E9 m c b=true) (hok:b.ok) (hp:b.pnt) {most:Int} (hm:1≤most):KR m c b most=true:=by
 obtain ⟨h1,h2,hb⟩:=V2 h;unfold KR;rw [h,BG];refine AF ?_
 have:(S1 m c b most).length≤1:=wE hm _ _ (by omega) fun g hg=>by
  unfold KD at hg;obtain ⟨t,ht,rfl⟩:=vao.1 hg;exact zam (TA h1 (List.mem_filter.1 ht).1) hb hok hp
 simp only [ic];omega
open Go
theorem zM {l:LI} (h:0 < l.length):l=FB l++[EP l]:=by
 unfold FB EP;rw [BO,A5 (show l.length - 1 < l.length by omega)]
 have:=List.take_succ_eq_append_getElem (l:=l) (i:=l.length - 1) (by omega)
 rw [show l.length - 1+1=l.length by omega,BD] at this;exact this
theorem zL {l:LI} {y:IV} (h:y∈l):y=EP l∨y∈FB l:=by
 have hl:0 < l.length:=List.length_pos_of_mem h;rw [zM hl] at h;rcases AV.1 h with h | h
 ·exact .inr h
 ·exact .inl (A4.1 h)
def gS (lo:LI × LI) (p:Pt) (t:Int):Prop:=∃ y,(y∈lo.1∨y∈lo.2)∧(DN y).has p t=true
theorem zdt {x:IV} {left out:LI} {most:Int} {st:Int × Int} {lo:LI × LI} (hl:∀ y∈left,(DN y).good) (hd:MG (ic left.length,most) x=some st) (hp:MQ (left,out) x=some lo) {p:Pt} {t:Int}
  (h:gS (left,out) p t):gS lo p t:=by
 obtain ⟨hne,hr,hd⟩:=mE hd;have hlen:0 < left.length:=by simp only [ic] at hne; omega
 have ht:(DM left).good:=hl _ (S9 hlen).1;obtain ⟨y,hy,hb⟩:=h;unfold MQ at hp;rcases hd with ⟨hs,_⟩ | ⟨hs,_⟩
 ·rw [hs] at hp;obtain rfl:=CI hp;rcases hy with hy | hy
  ·rcases zL hy with rfl | hy
   ·exact ⟨(DM left).I,.inr (AV.2 (.inr (A4.2 rfl))),by rw [F8]; exact hb⟩
   ·exact ⟨y,.inl hy,hb⟩
  ·exact ⟨y,.inr (AV.2 (.inl hy)),hb⟩
 ·rw [hs] at hp;have hpl:=pQ hr hs;have ej:E8 x=(((E8 x).toNat:Nat):Int):=by omega
  have hj:(E8 x).toNat < 5:=by omega
  cases hc:(decide (FR x < ((DM left).g (E8 x).toNat).lo)||decide (FR x≥((DM left).g (E8 x).toNat).hi)) with
  | true=>simp only [hc,CG,CT] at hp; cases hp
  | false=>
   simp only [hc,CG] at hp;obtain rfl:=CI hp;simp only [C2,BL] at hc;have hgj:=ht (E8 x).toNat hj;rcases hy with hy | hy
   ·rcases zL hy with rfl | hy
    ·have hb:(DM left).has p t=true:=hb;by_cases hle:co p t (E8 x).toNat≤FR x
     ·refine ⟨((DM left).cutL (E8 x) (FR x)).I,.inl (AV.2 (.inr (by simp))),?_⟩;rw [F8,ej];exact (XA hj).2 ⟨hb,hle⟩
     ·refine ⟨((DM left).cutH (E8 x) (FR x)).I,.inl (AV.2 (.inr (by simp))),?_⟩;rw [F8,ej];exact (W9 ht.ok hj (by omega)).2 ⟨hb,by omega⟩
    ·exact ⟨y,.inl (AV.2 (.inl hy)),hb⟩
   ·exact ⟨y,.inr hy,hb⟩
theorem Cw:∀ {l:LI} {left out:LI} {most:Int} {st:Int × Int} {lo:LI × LI},(∀ y∈left,(DN y).good)→(∀ y∈out,(DN y).good)→JP l (ic left.length,most)=some st→H9 l (left,out)=some lo →
  st.1=ic lo.1.length∧∀ (p:Pt) (t:Int),gS (left,out) p t→gS lo p t
 | [],left,out,most,st,lo,_,_,hd,hp=>by
  obtain rfl:=CI hp;obtain rfl:=CI hd;exact ⟨rfl,fun p t h=>h⟩
 | x :: l,left,out,most,st,lo,hl,ho,hd,hp=>by
  rw [JP] at hd;rw [H9] at hp;cases h1:MG (ic left.length,most) x with
  | none=>rw [h1] at hd; cases hd
  | some s1=>
   cases h2:MQ (left,out) x with
   | none=>rw [h2] at hp; cases hp
   | some l1=>
    rw [h1] at hd;rw [h2] at hp;obtain ⟨g1,g2,g3⟩:=Cz hl ho h1 h2;have hcov:=fun p t h=>zdt (p:=p) (t:=t) hl h1 h2 h
    obtain ⟨a,b⟩:=l1;obtain ⟨c,d⟩:=s1;obtain rfl:c=ic a.length:=g3;obtain ⟨e1,e2⟩:=Cw g1 g2 hd hp;exact ⟨e1,fun p t h=>e2 p t (hcov p t h)⟩
theorem Ra {l:LI} (h:JO l > 0):∃ most,JP l (1,1)=some (0,most):=by
 obtain ⟨st,hst⟩:=mC h;unfold JO at h;cases hc:decide (ic l.length > 65536) with
 | true=>rw [hc,DB] at h; omega
 | false=>
  rw [hc,DC,hst] at h;replace h:cond (!(st.1==0)||decide (st.2 > 200)) 0 st.2 > 0:=h;cases hz:st.1==0 with
  | false=>rw [hz] at h; exact absurd h (by show ¬ (0:Int) > 0; omega)
  | true=>
   have:st.1=0:=by simpa using hz
   obtain ⟨a,b⟩:=st;obtain rfl:a=0:=this;exact ⟨b,hst⟩
theorem zdr {b:Bx} (hb:b.good) {l outs:LI} (h:JC b l=some outs) {p:Pt} {t:Int} (hh:b.has p t=true):∃ y∈outs,(DN y).has p t=true:=by
 unfold JC at h;cases hd:decide (JO l > 0) with
 | false=>rw [hd,DC] at h; cases h
 | true=>
  rw [hd,DB] at h;obtain ⟨most,hst⟩:=Ra (AY hd);cases hp:H9 l ([b.I],[]) with
  | none=>rw [hp] at h; cases h
  | some lo=>
   rw [hp] at h;obtain rfl:=CI h;obtain ⟨e1,e2⟩:=Cw (left:=[b.I]) (out:=[]) (most:=1) (fun y hy=>by obtain rfl:=A4.1 hy; rw [F8]; exact hb) (fun y hy=>by cases hy) hst hp;have e1:(0:Int)=ic lo.1.length:=e1;have hnil:lo.1=[]:=vap (by simp only [ic] at e1; omega);obtain ⟨y,hy,hyb⟩:=e2 p t ⟨b.I,.inl (A4.2 rfl),by rw [F8]; exact hh⟩;rcases hy with hy | hy
   ·rw [hnil] at hy; cases hy
   ·exact ⟨y,hy,hyb⟩
theorem zdq {m:Md} {q:Qy} {v:Vd} (h:LX m q v=true) (hk:v.kind=1) {p:Pt} {t:Int} (hh:(EE q).has p t=true):FO m q p t=false:=by
 unfold LX at h;rw [AG] at h;obtain ⟨hr,h⟩:=h;have hg:=YI hr;rw [show (v.kind==1)=true by rw [hk]; rfl,DB] at h;cases hps:JC (EE q) v.proof with
 | none=>rw [hps] at h; cases h
 | some outs=>
  rw [hps] at h;obtain ⟨y,hy,hyb⟩:=zdr hg hps hh;exact wG (Cv hg hps y hy).ok (CN.1 h y hy) hyb
theorem zdp {m:Md} {q:Qy} {v:Vd} (h:LX m q v=true) (hk:v.kind=2):EU m q=true∧(EE q).has v.p v.twin=true∧FO m q v.p v.twin=true:=by
 unfold LX at h;rw [AG] at h;obtain ⟨hr,h⟩:=h;rw [show (v.kind==1)=false by rw [hk]; rfl,DC,show (v.kind==2)=true by rw [hk]; rfl,DB,AG] at h;exact ⟨hr,h.1,h.2⟩
open Go
theorem wJ:∀ (l:List Int) (p:Int),(p :: l).Pairwise (·≤·)→(JN p l).Pairwise (· < ·)∧∀ y∈JN p l,p < y
 | [],p,_=>by simp [JN]
 | x :: r,p,h=>by
  have hpx:p≤x:=vbd h (AU ..);have ih:=wJ r x (va0 h);rw [JN];cases hx:x==p with
  | true=>
   have:x=p:=by simpa using hx
   subst this;exact ih
  | false=>
   have hne:x≠p:=by simpa using hx
   rw [DC];refine ⟨List.Pairwise.cons (fun y hy=>ih.2 y hy) ih.1,fun y hy=>?_⟩;rcases AX.1 hy with rfl | hy
   ·omega
   ·have:=ih.2 y hy
    omega
theorem Qf {l:List Int} (h:l.Pairwise (·≤·)):(IE l).Pairwise (· < ·):=by
 cases l with
 | nil=>simp [IE]
 | cons x r=>
  rw [IE]
  have:=wJ r x h
  exact List.Pairwise.cons (fun y hy=>this.2 y hy) this.1
theorem lZ (m:Md) (q:Qy) (b:Bx) (i:Nat):(D6 m q b i).Pairwise (· < ·):=by
 unfold D6;cases decide (HU q (i:Int) < 0) with
 | true=>simp
 | false=>
  rw [DC];unfold JA IM;exact (Qf (qG _)).filter _
theorem wY {b:Bx} {j:Nat} (hj:j < 5) {a:Int} (h1:(b.g j).lo≤a) (h2:a < (b.g j).hi) {k:Nat} (hk:k < 5):(b.cutL (j:Int) a).g k=if k=j then ⟨(b.g j).lo,a⟩ else b.g k:=by
 unfold Bx.cutL;rw [BC,JK b _ hj hk];by_cases h:k=j
 ·rw [BJ h,BJ h];unfold Sp.cutL JV;rw [show min (b.g j).hi a=a by omega,AL (show ¬ (b.g j).lo > a by omega),DC]
 ·rw [A2 h,A2 h]
theorem lU {b:Bx} (hb:b.good) {j:Nat} (hj:j < 5) {a:Int} (h1:(b.g j).lo≤a) (h2:a < (b.g j).hi) {k:Nat} (hk:k < 5):(b.cutH (j:Int) a).g k=if k=j then ⟨a+1,(b.g j).hi⟩ else b.g k:=by
 have hg:=hb j hj;have e:FC (a+1)=a+1:=EA (by omega) (by omega);unfold Bx.cutH;rw [BC,JK b _ hj hk];by_cases h:k=j
 ·rw [BJ h,BJ h];unfold Sp.cutH;rw [AL (show ¬ a≥(b.g j).hi by omega),DC,e];unfold JV;rw [show max (b.g j).lo (a+1)=a+1 by omega,AL (show ¬ a+1 > (b.g j).hi by omega),DC]
 ·rw [A2 h,A2 h]
theorem wW {j:Nat} (hj:j < 5):∀ (L:List Int) (c:Bx),c.good→L.Pairwise (· < ·)→(∀ a∈L,(c.g j).lo≤a∧a < (c.g j).hi)→∀ d∈fW j c L,
  d.good∧(∀ k,k < 5→k≠j→d.g k=c.g k)∧(c.g j).lo≤(d.g j).lo∧(d.g j).hi≤(c.g j).hi∧∀ a∈L,¬ ((d.g j).lo≤a∧a < (d.g j).hi)
 | [],c,hc,_,_,d,hd=>by
  obtain rfl:=A4.1 hd;exact ⟨hc,fun _ _ _=>rfl,CF _,CF _,fun a ha=>by cases ha⟩
 | a :: r,c,hc,hp,hin,d,hd=>by
  have ha:=hin a (AU ..);have hlt:∀ x∈r,a < x:=fun x hx=>vbd hp hx
  rcases AX.1 hd with rfl | hd
  ·have e:=fun {k} hk=>wY (b:=c) hj ha.1 ha.2 (k:=k) hk
   refine ⟨lW hc hj ha.1 ha.2,fun k hk hne=>by rw [e hk,A2 hne],?_,?_,fun x hx=>?_⟩
   ·rw [e hj,BJ rfl]; exact CF _
   ·rw [e hj,BJ rfl]; show a≤_; omega
   ·rw [e hj,BJ rfl];show ¬ (_∧x < a);rcases AX.1 hx with rfl | hx
    ·omega
    ·have:=hlt x hx; omega
  ·have e:=fun {k} hk=>lU (b:=c) hc hj ha.1 ha.2 (k:=k) hk
   have ej:(c.cutH (j:Int) a).g j=⟨a+1,(c.g j).hi⟩:=by rw [e hj,BJ rfl]
   obtain ⟨d1,d2,d3,d4,d5⟩:=wW hj r _ (fX hc hj ha.1 ha.2) (va0 hp) (fun x hx=>by
    rw [ej];have h1:=hlt x hx;have h2:=hin x (AW _ hx);exact ⟨by show a+1≤x; omega,h2.2⟩) d hd
   rw [ej] at d3 d4;replace d3:a+1≤(d.g j).lo:=d3;replace d4:(d.g j).hi≤(c.g j).hi:=d4;refine ⟨d1,fun k hk hne=>by rw [d2 k hk hne,e hk,A2 hne],by omega,d4,fun x hx=>?_⟩;rcases AX.1 hx with rfl | hx
   ·omega
   ·exact d5 x hx
theorem wV {j:Nat} (hj:j < 5):∀ (L:List Int) (c:Bx),c.good→L.Pairwise (· < ·)→(∀ a∈L,(c.g j).lo≤a∧a < (c.g j).hi)→∀ (p:Pt) (t:Int),c.has p t=true→∃ d∈fW j c L,d.has p t=true
 | [],c,_,_,_,p,t,h=>⟨c,A4.2 rfl,h⟩
 | a :: r,c,hc,hp,hin,p,t,h=>by
  have ha:=hin a (AU ..);have hlt:∀ x∈r,a < x:=fun x hx=>vbd hp hx
  have hg:=hc j hj;by_cases hle:co p t j≤a
  ·exact ⟨_,AU ..,(XA hj).2 ⟨h,hle⟩⟩
  ·have ej:(c.cutH (j:Int) a).g j=⟨a+1,(c.g j).hi⟩:=by rw [lU hc hj ha.1 ha.2 hj,BJ rfl]
   obtain ⟨d,hd,hb⟩:=wV hj r _ (fX hc hj ha.1 ha.2) (va0 hp) (fun x hx=>by
    rw [ej];have h1:=hlt x hx;have h2:=hin x (AW _ hx);exact ⟨by show a+1≤x; omega,h2.2⟩) p t ((W9 hc.ok hj (by omega)).2 ⟨h,by omega⟩)
   exact ⟨d,AW _ hd,hb⟩
structure CellAt (m:Md) (q:Qy) (b:Bx) (j:Nat) (c:Bx):Prop where
 good:c.good
 sub:∀ k,k < 5→(b.g k).lo≤(c.g k).lo∧(c.g k).hi≤(b.g k).hi
 rest:∀ k,k < 5→j≤k→c.g k=b.g k
 done:∀ k,k < j→D6 m q c k=[]
theorem fP {m:Md} {q:Qy} {b:Bx} (hb:b.good):∀ (j:Nat),j≤5→∀ c∈bM m q b j,CellAt m q b j c
 | 0,_,c,hc=>by
  obtain rfl:=A4.1 hc;exact ⟨hb,fun _ _=>⟨CF _,CF _⟩,fun _ _ _=>rfl,fun k hk=>by omega⟩
 | j+1,hj5,d,hd=>by
  have hj:j < 5:=by omega
  rw [bM] at hd;obtain ⟨c,hc,hd⟩:=List.mem_flatMap.1 hd;have h:=fP hb j (by omega) c hc;have hcj:c.g j=b.g j:=h.rest j hj (AT _);obtain ⟨d1,d2,d3,d4,d5⟩:=wW hj (D6 m q b j) c h.good (lZ m q b j) (fun a ha=>by
   rw [hcj]; exact (MF.1 ha).2.2) d hd
  rw [hcj] at d3 d4;refine ⟨d1,fun k hk=>?_,fun k hk hjk=>?_,fun k hk=>?_⟩
  ·by_cases e:k=j
   ·subst e; exact ⟨d3,d4⟩
   ·rw [d2 k hk e]; exact h.sub k hk
  ·rw [d2 k hk (by omega)]; exact h.rest k hk (by omega)
  ·by_cases e:k=j
   ·subst e;cases hq:D6 m q d k with
    | nil=>rfl
    | cons a r=>
     exfalso;have ha:a∈D6 m q d k:=by rw [hq]; exact AU ..
     obtain ⟨f1,f2,f3,f4⟩:=MF.1 ha;exact d5 a (MF.2 ⟨f1,f2,by omega,by omega⟩) ⟨f3,f4⟩
   ·rw [XC (m:=m) (q:=q) (d2 k (by omega) e)];exact h.done k (by omega)
theorem v7 {m:Md} {q:Qy} {b:Bx} (hb:b.good) {p:Pt} {t:Int} (h:b.has p t=true):∀ (j:Nat),j≤5→∃ c∈bM m q b j,c.has p t=true
 | 0,_=>⟨b,A4.2 rfl,h⟩
 | j+1,hj5=>by
  have hj:j < 5:=by omega
  obtain ⟨c,hc,hcb⟩:=v7 hb h j (by omega);have hk:=fP (m:=m) (q:=q) hb j (by omega) c hc;have hcj:c.g j=b.g j:=hk.rest j hj (AT _);obtain ⟨d,hd,hdb⟩:=wV hj (D6 m q b j) c hk.good (lZ m q b j) (fun a ha=>by
   rw [hcj]; exact (MF.1 ha).2.2) p t hcb
  exact ⟨d,List.mem_flatMap.2 ⟨c,hc,hd⟩,hdb⟩
theorem Ps {m:Md} {q:Qy} {b c:Bx} (h:CellAt m q b 5 c) {p:Pt} {t:Int} (hc:c.has p t=true):b.has p t=true:=by
 rw [JL] at hc ⊢;intro i hi;have h1:=hc i hi;have h2:=h.sub i hi;rw [IL] at h1 ⊢;omega
theorem yS {m:Md} {q:Qy} (hr:EU m q=true) (h:∀ p t,(EE q).has p t=true→FO m q p t=false):SJ m q=true:=by
 unfold SJ;rw [CN];intro c hc;have hcell:=fP (m:=m) (q:=q) (YI hr) 5 (AT _) c hc;rw [h c.low c.s4.hi (Ps hcell (LP c hcell.good.emp))];rfl
theorem yT {m:Md} {q:Qy} (hr:EU m q=true) (h:SJ m q=true) {p:Pt} {t:Int} (hb:(EE q).has p t=true):FO m q p t=false:=by
 obtain ⟨c,hc,hcb⟩:=v7 (m:=m) (q:=q) (YI hr) hb 5 (AT _);have hcell:=fP (m:=m) (q:=q) (YI hr) 5 (AT _) c hc;have h1:=CN.1 h c hc;rcases vZ hr hcell.good.emp hcell.good.ok (fun i hi=>hcell.done i hi) with hcl | hbr
 ·exact wG hcell.good.ok hcl hcb
 ·rw [hbr] at h1; cases h1
theorem Ct {m:Md} {q:Qy} {v:Vd} (h:LX m q v=true):(v.kind=1→SJ m q=true)∧(v.kind=2→SJ m q=false):=by
 refine ⟨fun hk=>?_,fun hk=>?_⟩
 ·have hr:EU m q=true:=by
   unfold LX at h;exact (AG _ _ ▸ h:_∧_).1
  exact yS hr fun p t hh=>zdq h hk hh
 ·obtain ⟨hr,hh,hb⟩:=zdp h hk;cases hc:SJ m q with
  | false=>rfl
  | true=>
   have:=yT hr hc hh
   rw [hb] at this;cases this
open Go
theorem wO {m:Md} {q:Qy} {b:Bx} {k:Nat} (h:∀ j,(D6 m q b j).length≤k):∀ j,ER m q b j≤(k+1) ^ j
 | 0=>AT _
 | j+1=>by
  rw [ER,Nat.pow_succ];exact Nat.mul_le_mul (wO h j) (by have:=h j; omega)
theorem Uf (f:Ft) (q:Qy) (b:Bx):PL f.M q b=true:=by
 have h1:∀ j,(D6 f.M q b j).length≤60:=fun j=>CE (XD ..) (CE (pF ..) (yH f))
 have h2:=wO h1 5;unfold PL;rw [kR f,CQ (CE h2 (by decide))];rfl
open Go Go.Proofs
def RT (N:Nat):Env:=DV [(56,T8)] [(3,⟨[3,4,5,6,8,9,10,12],[4,5,6],[]⟩)] 29 N
abbrev TN (m:Md) (q:Qy) (b:Bx) (x3 x8:Int) (b9:Bool) (x10 x12:Int):St:=⟨[(3,(.i x3)),(4,(.ptr 4 0 0)),(5,(.ptr 5 0 0)),(6,(.ptr 6 0 0)),(8,(.i x8)),(9,(.bool b9)),(10,(.i x10)),(12,(.i x12))],[(4,(some (.box (Md.cs m)))),(5,(some (.box (Qy.cs q)))),(6,(some (.box (Bx.cs b))))]⟩
theorem zbz (N:Nat) (m:Md) (q:Qy) (b:Bx) (most:Int):DQ (RT N) U0 [.tmp 8,.tmp 9] [[.z],[.bool]] [(Md.V m),(Qy.V q),(Bx.V b),.i most]=(DR (RT N) (DD U0 [1,1,0,1,0,0]) ⟨[3,4,5,6,8,9,10,12],[4,5,6],[]⟩ N (TN m q b most 0 false 1 0) (DI 0 (DJ (RT N) (DD U0 [1,1,1]) (DL (RT N) none [.tmp 8,.tmp 9] [[.z],[.bool]])))):=by kernel_rfl
theorem Hx (N:Nat) (m:Md) (q:Qy) (b:Bx) (x3 x8:Int) (b9:Bool) (x10 x12:Int) (again:St→DG) (k:Out→St→DG):E4 (RT N) (DD U0 [1,1,0,1,0,0]) (TN m q b x3 x8 b9 x10 x12) (EH again ⟨[3,4,5,6,8,9,10,12],[4,5,6],[]⟩ k)=(cond (decide (x12 < 5)) (cond (EQ m&&GT x12) (again (TN m q b x3 x8 b9 (AA AB (x10*AA AB (1+ic (AE (iZ (D6 m q b (AD x12))))))) (AA AB (x12+1)))) none) (k (.exit 0) (TN m q b x3 x8 b9 x10 x12))):=by kernel_rfl
theorem Su (N:Nat) (m:Md) (q:Qy) (b:Bx) (x3 x8:Int) (b9:Bool) (x10 x12:Int):(DI 0 (DJ (RT N) (DD U0 [1,1,1]) (DL (RT N) none [.tmp 8,.tmp 9] [[.z],[.bool]]))) (.exit 0) (TN m q b x3 x8 b9 x10 x12)=(cond (decide (x10 > x3)) (some ((.tup [.i 0,.bool false]),[])) (some ((.tup [.i x10,.bool true]),[]))):=by kernel_rfl
def Lm (N:Nat):Env:=DV [(26,Z7),(27,QM)] [] 21 N
theorem zbj (N:Nat) (m:Md) (q:Qy):DQ (Lm N) uA [.cell 4 46,.tmp 5] [[.z,.z,.z,.z,.z,.z,.z,.z,.z,.z,.z,.z,.z,.z,.z,.bool,.z],[.bool]] [(Md.V m),(Qy.V q)]=(cond (PL m q (EE q)) (some ((.tup [.agg [.i (Qy.k q),.i (Qy.c q),.i (Qy.a0 q),.i (Qy.b0 q),.i (Qy.a1 q),.i (Qy.b1 q),.i (Qy.a2 q),.i (Qy.b2 q),.i (Qy.a3 q),.i (Qy.b3 q),.i (Qy.a4 q),.i (Qy.b4 q),.i (Qy.lo q),.i (Qy.hi q),.i (Qy.ft q),.bool (Qy.fl q),.i (AA AB (2*bif M6 m q (EE q) 1500 then 0 else ic (ER m q (EE q) 5)))],.bool (!M6 m q (EE q) 1500)]),[])) none):=by kernel_rfl
open Go Go.Proofs
theorem W8 (m:Md) (q:Qy) (b:Bx):∀ j,1≤ER m q b j
 | 0=>AT _
 | j+1=>by
  rw [ER];exact (Nat.mul_le_mul (W8 m q b j) (show 1≤1+(D6 m q b j).length by omega):1*1≤_)
theorem wP (m:Md) (q:Qy) (b:Bx):∀ d j,ER m q b j≤ER m q b (j+d)
 | 0,j=>AT _
 | d+1,j=>by
  rw [← vaA,ER];exact CE (wP m q b d j) (vaF _ (by omega))
theorem xX {m:Md} {q:Qy} {b:Bx} (h:PL m q b=true):EQ m=true∧ER m q b 5≤1000000000000000:=by
 unfold PL at h;rw [AG] at h;exact ⟨h.1,AN h.2⟩
theorem Zk {j:Nat} (h:j < 5):GT (j:Int)=true:=by
 unfold GT;rw [AF (by omega),AF (by omega)];rfl
theorem wU (N:Nat) {m:Md} {q:Qy} {b:Bx} (hm:EQ m=true) (hc:ER m q b 5≤1000000000000000) (most:Int) (K:Out→St→DG) :
  ∀ (d j n:Nat),j+d=5→d < n→DR (RT N) (DD U0 [1,1,0,1,0,0]) ⟨[3,4,5,6,8,9,10,12],[4,5,6],[]⟩ n (TN m q b most 0 false (ic (ER m q b j)) (j:Int)) K =
   K (.exit 0) (TN m q b most 0 false (ic (ER m q b 5)) ((5:Nat):Int))
 | 0,j,n+1,hd,_=>by
  obtain rfl:j=5:=by omega
  rw [DY,Hx,AL (show ¬ ((5:Nat):Int) < 5 by omega),DC]
 | d+1,j,n+1,hd,hn=>by
  have h1:=wP m q b d (j+1);rw [show j+1+d=5 by omega] at h1;have e0:ER m q b (j+1)=ER m q b j*(1+(D6 m q b j).length):=rfl;have h2:1+(D6 m q b j).length≤ER m q b (j+1):=by
   rw [e0];exact Nat.le_mul_of_pos_left _ (W8 m q b j)
  have e1:AA AB (1+ic (iZ (D6 m q b (AD (j:Int)))).length)=((1+(D6 m q b j).length:Nat):Int):=by
   rw [BC,NV,EA (by simp only [ic]; omega) (by simp only [ic]; omega)];simp only [ic];omega
  have e2:AA AB (ic (ER m q b j)*((1+(D6 m q b j).length:Nat):Int))=ic (ER m q b (j+1)):=by
   have e3:ic (ER m q b j)*((1+(D6 m q b j).length:Nat):Int)=ic (ER m q b (j+1)):=by
    rw [e0];simp only [ic];rw [Int.natCast_mul]
   rw [e3];exact EA (by simp only [ic]; omega) (by simp only [ic]; omega)
  rw [DY,Hx,AF (show ((j:Nat):Int) < 5 by omega),DB,hm,Zk (by omega),BH,DB,e1,e2,GV (by omega)];exact wU N hm hc most K d (j+1) n (by omega) (by omega)
 | 0,_,0,_,h=>by omega
 | _+1,_,0,_,h=>by omega
theorem zeS:DO PR B0 26 Z7:=by
 refine DX [(56,T8)] [(3,⟨[3,4,5,6,8,9,10,12],[4,5,6],[]⟩)] Z7 [[.z],[.bool]] Tryz.func26 Xc ⟨Fu,trivial⟩ ?_;intro vs r hwf h;unfold Z7 at h;split at h
 ·rename_i m q b most;replace h:=IN h;obtain ⟨m,rfl,h⟩:=h;replace h:=I3 h;obtain ⟨q,rfl,h⟩:=h;replace h:=HK h;obtain ⟨b,rfl,h⟩:=h;cases hg:(PL m q b) with
  | false=>rw [hg] at h; simp [R.get] at h
  | true=>
  rw [hg,R.get_br,DB,R.get_ok] at h;obtain ⟨hm,hc⟩:=xX hg;refine ⟨6,(zbz 6 m q b most).trans ?_⟩;rw [← h];refine (wU 6 hm hc most _ 5 0 6 rfl (by omega)).trans ?_;refine (Su 6 m q b most 0 false (ic (ER m q b 5)) ((5:Nat):Int)).trans ?_;unfold M6;cases decide (ic (ER m q b 5) > most) <;> rfl
 ·simp [R.get] at h
theorem zeG:DO PR B0 12 ZV:=by
 refine DX [(26,Z7),(27,QM)] [] ZV [[.z,.z,.z,.z,.z,.z,.z,.z,.z,.z,.z,.z,.z,.z,.z,.bool,.z],[.bool]] Tryz.func12 Wm ⟨zeS,qC,trivial⟩ ?_;intro vs r hwf h;unfold ZV at h;split at h
 ·rename_i m q;replace h:=IN h;obtain ⟨m,rfl,h⟩:=h;replace h:=I3 h;obtain ⟨q,rfl,h⟩:=h;cases hg:(PL m q (EE q)) with
  | false=>rw [hg] at h; simp [R.get] at h
  | true=>
  rw [hg,R.get_br,DB,R.get_ok] at h;obtain ⟨hm,hc⟩:=xX hg;refine ⟨0,(zbj 0 m q).trans ?_⟩;rw [← h,hg,DB];have e:AA AB (2*cond (M6 m q (EE q) 1500) 0 (ic (ER m q (EE q) 5)))=cond (M6 m q (EE q) 1500) 0 (2*ic (ER m q (EE q) 5)):=by
   cases M6 m q (EE q) 1500 with
   | true=>rfl
   | false=>
    rw [DC,DC];exact EA (by simp only [ic]; omega) (by simp only [ic]; omega)
  rw [e];rfl
 ·simp [R.get] at h
open Go
theorem wM {a:Int}:∀ {l:List Int},l.Pairwise (· < ·)→a∈l→(l.filter fun t=>decide (t < a)).length+(l.filter fun t=>decide (a < t)).length+1=l.length
 | x :: r,hp,ha=>by
  have hlt:∀ y∈r,x < y:=fun y hy=>vbd hp hy
  rw [vbc,vbc];by_cases hx:x=a
  ·subst hx;have h1:(r.filter fun t=>decide (t < x))=[]:=List.filter_eq_nil_iff.2 fun y hy=>by have:=hlt y hy; simp; omega
   have h2:(r.filter fun t=>decide (x < t))=r:=List.filter_eq_self.2 fun y hy=>by have:=hlt y hy; simp; omega
   rw [A2 (by simp),A2 (by simp),h1,h2];simp
  ·have har:a∈r:=by
    rcases AX.1 ha with h | h
    ·exact absurd h.symm hx
    ·exact h
   have hxa:=hlt a har;have ih:=wM (va0 hp) har;rw [BJ (by simp; omega),A2 (by simp; omega),AM,AM];omega
theorem Qo {m:Md} {q:Qy} {b c:Bx} {j:Nat} {a:Int} (ha:a∈D6 m q b j) (hc:c.g j=⟨(b.g j).lo,a⟩):D6 m q c j=(D6 m q b j).filter fun t=>decide (t < a):=by
 obtain ⟨hf,hm,hl,hh⟩:=MF.1 ha;unfold D6;rw [AL (by omega),DC,DC,hc];unfold JA;rw [List.filter_filter];refine List.filter_congr fun t _=>?_
 rw [vaC];simp only [BW,C2,BL,AG,AP];omega
theorem Qn {m:Md} {q:Qy} {b c:Bx} {j:Nat} {a:Int} (ha:a∈D6 m q b j) (hc:c.g j=⟨a+1,(b.g j).hi⟩):D6 m q c j=(D6 m q b j).filter fun t=>decide (a < t):=by
 obtain ⟨hf,hm,hl,hh⟩:=MF.1 ha;unfold D6;rw [AL (by omega),DC,DC,hc];unfold JA;rw [List.filter_filter];refine List.filter_congr fun t _=>?_
 rw [vaC];simp only [BW,C2,BL,AG,AP];omega
theorem wQ {m:Md} {q:Qy} {b c d:Bx} {j:Nat} (hj:(D6 m q c j).length+(D6 m q d j).length+1=(D6 m q b j).length) (hc:∀ k,k < 5→k≠j→c.g k=b.g k) (hd:∀ k,k < 5→k≠j→d.g k=b.g k) :
  ∀ n,n≤5→(n≤j→ER m q c n=ER m q b n∧ER m q d n=ER m q b n)∧(j < n→ER m q c n+ER m q d n=ER m q b n)
 | 0,_=>⟨fun _=>⟨rfl,rfl⟩,fun h=>by omega⟩
 | n+1,hn=>by
  obtain ⟨h1,h2⟩:=wQ hj hc hd n (by omega);refine ⟨fun h=>?_,fun h=>?_⟩
  ·obtain ⟨e1,e2⟩:=h1 (by omega);rw [ER,ER,ER,e1,e2,XC (hc n (by omega) (by omega)),XC (hd n (by omega) (by omega))];exact ⟨rfl,rfl⟩
  ·rw [ER,ER,ER];by_cases e:j=n
   ·subst e;obtain ⟨e1,e2⟩:=h1 (AT _);rw [e1,e2,← Nat.mul_add];congr 1;omega
   ·rw [XC (hc n (by omega) (by omega)),XC (hd n (by omega) (by omega)),← vae,h2 (by omega)]
def MT (m:Md) (q:Qy) (l:LI):Int:=(l.map fun x=>2*ic (ER m q (DN x) 5) - 1).sum
theorem jX (m:Md) (q:Qy) (a b:LI):MT m q (a++b)=MT m q a+MT m q b:=by
 unfold MT;rw [List.map_append,List.sum_append]
theorem dT (m:Md) (q:Qy) (x:IV):MT m q [x]=2*ic (ER m q (DN x) 5) - 1:=by simp [MT]
theorem jY (m:Md) (q:Qy):∀ l:LI,ic l.length≤MT m q l
 | []=>CF _
 | x :: r=>by
  have h:=jY m q r;have h1:=W8 m q (DN x) 5;have e:=jX m q [x] r;rw [dT] at e;show ic (r.length+1)≤MT m q ([x]++r);rw [e];simp only [ic] at h ⊢;omega
structure Dc (m:Md) (q:Qy) (s:Sr):Prop where
 opn:s.v.kind=0→s.spent+MT m q s.left≤2*ic (ER m q (EE q) 5) - 1
 sp:s.spent≤2*ic (ER m q (EE q) 5) - 1
theorem Qq {m:Md} {q:Qy} {s:Sr} (hr:EU m q=true) (h:Ri m q s) (hd:Dc m q s) (ho:H7 q s=false):Dc m q (FE m q s):=by
 unfold H7 at ho;rw [C2] at ho;have hk:s.v.kind=0:=by simpa using ho.1
 obtain ⟨hrp,hl,hsp,hvp,hsub⟩:=h.opn hk;have h0:=hd.opn hk;have h1:=jY m q s.left;have ht:=dY hrp.left hl;have ept:DM s.left=DN (EP s.left):=rfl;have hsplit:MT m q s.left=MT m q (FB s.left)+(2*ic (ER m q (DM s.left) 5) - 1):=by
  have:=congrArg (MT m q) (zM hl)
  rw [jX,dT,← ept] at this;exact this
 have hc1:=W8 m q (DM s.left) 5;have hp:=jY m q (FB s.left);have hss:(FE m q s).spent=s.spent+1:=by
  unfold FE;cases FS m _ _ <;> cases FO m _ _ _ <;> cases (EO m _ _).isSome <;> rfl
 have hspn:(FE m q s).spent≤2*ic (ER m q (EE q) 5) - 1:=by
  rw [hss];simp only [ic] at h1 h0 ⊢;omega
 refine ⟨fun hk'=>?_,hspn⟩;cases hc:FS m q (DM s.left) with
 | true=>
  have e:(FE m q s).left=FB s.left:=by unfold FE; rw [hc,DB]
  rw [hss,e];simp only [ic] at hc1 h0 hsplit ⊢;omega
 | false=>
  cases hb:FO m q (DM s.left).low (DM s.left).s4.hi with
  | true=>
   have e:(FE m q s).v.kind=2:=by unfold FE; rw [hc,DC,hb,DB]
   rw [e] at hk';omega
  | false=>
   have hs2:=qT hr hrp.left hl hc hb;obtain ⟨j,hj,ei,_,_,hm⟩:=jP hs2;have hcut:=MF.1 hm;have hg:=ht j hj;have e:(FE m q s).left=FB s.left++[((DM s.left).cutH (j:Int) (HQ (EO m q (DM s.left)))).I,((DM s.left).cutL (j:Int) (HQ (EO m q (DM s.left)))).I]:=by
    unfold FE;rw [hc,DC,hb,DC,hs2,DB,ei]
   generalize HQ (EO m q (DM s.left))=a at hm hcut e;have eL:=fun {k} hk=>wY (b:=DM s.left) hj hcut.2.2.1 hcut.2.2.2 (k:=k) hk
   have eH:=fun {k} hk=>lU (b:=DM s.left) ht hj hcut.2.2.1 hcut.2.2.2 (k:=k) hk
   have l1:=Qo (c:=(DM s.left).cutL (j:Int) a) hm (by rw [eL hj,BJ rfl]);have l2:=Qn (c:=(DM s.left).cutH (j:Int) a) hm (by rw [eH hj,BJ rfl]);have l3:=wM (lZ m q (DM s.left) j) hm;rw [← l1,← l2] at l3;have hcnt:=(wQ l3 (fun k hk hne=>by rw [eL hk,A2 hne]) (fun k hk hne=>by rw [eH hk,A2 hne]) 5 (AT _)).2 hj;have e2:MT m q [((DM s.left).cutH (j:Int) a).I,((DM s.left).cutL (j:Int) a).I]=(2*ic (ER m q ((DM s.left).cutH (j:Int) a) 5) - 1)+(2*ic (ER m q ((DM s.left).cutL (j:Int) a) 5) - 1):=by
    have:=jX m q [((DM s.left).cutH (j:Int) a).I] [((DM s.left).cutL (j:Int) a).I]
    rw [dT,dT,F8,F8] at this;exact this
   rw [hss,e,jX,e2];simp only [ic] at h0 hsplit ⊢;omega
theorem xC {m:Md} {q:Qy} (hr:EU m q=true):∀ (d:Nat) (s:Sr),Ri m q s→Dc m q s→Dc m q (L0 m q d s)
 | 0,s,_,hd=>hd
 | d+1,s,h,hd=>by
  rw [L0];cases ho:H7 q s with
  | true=>rw [DB]; exact hd
  | false=>rw [DC]; exact xC hr d _ (Ea hr h ho) (Qq hr h hd ho)
theorem zd0 {m:Md} {q:Qy} (hr:EU m q=true):(FU m q).spent≤2*ic (ER m q (EE q) 5) - 1∧(2*ic (ER m q (EE q) 5) - 1≤q.bu→(FU m q).kind=1∨(FU m q).kind=2):=by
 have h3:=(V0 hr).2.2.1;have hnew:XU m q=⟨[(EE q).I],[],Vd.none,0⟩:=by unfold XU; rw [hr,DB]
 have hd0:Dc m q ⟨[(EE q).I],[],Vd.none,0⟩:=by
  have:=W8 m q (EE q) 5
  refine ⟨fun _=>?_,?_⟩
  ·show 0+MT m q [(EE q).I]≤_;rw [dT,F8];omega
  ·show (0:Int)≤_;simp only [ic];omega
 obtain ⟨hi,ho⟩:=pP hr (q.bu.toNat+1) _ (pO hr) (by show q.bu < 0+_; omega);have hd:=xC hr (q.bu.toNat+1) _ (pO hr) hd0;unfold FU;rw [hnew];generalize L0 m q (q.bu.toNat+1) _=s at hi ho hd;refine ⟨hd.sp,fun hbu=>?_⟩;rcases hi.kinds with hk | hk | hk
 ·exfalso;obtain ⟨_,hl,_⟩:=hi.opn hk;have h1:=hd.opn hk;have h2:=jY m q s.left;unfold H7 at ho;rw [hk] at ho;have h4:s.spent≥q.bu:=by simpa using ho
  simp only [ic] at h1 h2 hbu;omega
 ·exact .inl (by simp [KU,hk])
 ·exact .inr (by simp [KU,hk])
theorem Ef {m:Md} {q:Qy} (hr:EU m q=true) (hp:JU m q (EE q)≤199) (hb:2*ic (ER m q (EE q) 5) - 1≤q.bu):(FU m q).kind=cond (SJ m q) 1 2:=by
 obtain ⟨h1,h2,_⟩:=zd3 hr hp;rcases (zd0 hr).2 hb with hk | hk
 ·rw [(Ct (h1 hk).1).1 hk,hk]; rfl
 ·rw [(Ct (h2 hk).1).2 hk,hk]; rfl
open Go
theorem zdG (c:Int) (b:Bx) (lo hi bu:Int):(FW c b lo hi bu).bx=b:=rfl
theorem dH (c:Int) (b:Bx) (lo hi bu:Int) (h:b.s4=⟨0,0⟩):EE (FW c b lo hi bu)=b:=by
 obtain ⟨s0,s1,s2,s3,s4⟩:=b;obtain rfl:s4=⟨0,0⟩:=h;rfl
theorem pN (d:Int) (l:LI):N1 (IJ d l) d=true:=by
 unfold N1;have h0:=jA d l 0;have h1:=jA d l 1;have h2:=jA d l 2;have h3:=jA d l 3;show (HR d 0 ⟨J8 d l 0,J9 d l 0⟩&&(HR d 1 ⟨J8 d l 1,J9 d l 1⟩&&(HR d 2 ⟨J8 d l 2,J9 d l 2⟩&&(HR d 3 ⟨J8 d l 3,J9 d l 3⟩&&HR d 4 ⟨0,0⟩))))=true;rw [show HR d 0 ⟨J8 d l 0,J9 d l 0⟩=true from h0,show HR d 1 ⟨J8 d l 1,J9 d l 1⟩=true from h1,show HR d 2 ⟨J8 d l 2,J9 d l 2⟩=true from h2,show HR d 3 ⟨J8 d l 3,J9 d l 3⟩=true from h3];simp [HR,Sp.emp,EY]
theorem zdH {m:Md} (hm:EQ m=true) {c:Int} (hc:0≤c∧c < m.c) {b:Bx} (hb:N1 b m.d=true) {lo hi bu:Int} (hl:lo≤hi) (hu:0≤bu∧bu≤65536):EU m (FW c b lo hi bu)=true:=by
 have e1:PP m (FW c b lo hi bu)=true:=by
  unfold PP;show cond true (decide (lo≤hi)&&true) _=true;rw [DB,AF hl];rfl
 unfold EU;rw [hm,e1,zdG,hb];show (true&&(decide (c≥0)&&(decide (c < m.c)&&(decide (bu≥0)&&(decide (bu≤65536)&&(true&&true))))))=true;rw [AF hc.1,AF hc.2,AF hu.1,AF hu.2];rfl
theorem Dx {m:Md} {c:Int} {b:Bx} {lo hi bu:Int} (hr:EU m (FW c b lo hi bu)=true) (p:Pt) (t:Int):FO m (FW c b lo hi bu) p t=!(decide (lo≤D4 m c p)&&decide (D4 m c p≤hi)):=by
 unfold FO;rw [hr];rfl
theorem zdK {m:Md} {c:Int} {b:Bx} {lo hi bu:Int} (h4:b.s4=⟨0,0⟩) (hr:EU m (FW c b lo hi bu)=true) (hp:JU m (FW c b lo hi bu) b≤199) (hbu:2*ic (ER m (FW c b lo hi bu) b 5) - 1≤bu)
  (h:∀ p t,b.has p t=true→lo≤D4 m c p∧D4 m c p≤hi):(FU m (FW c b lo hi bu)).kind=1:=by
 have es:=dH c b lo hi bu h4;have h1:=Ef hr (by rw [es]; exact hp) (by rw [es]; exact hbu);rw [h1,yS hr fun p t hh=>?_]
 ·rfl
 ·rw [es] at hh;obtain ⟨q1,q2⟩:=h p t hh;rw [Dx hr,AF q1,AF q2];rfl
theorem Dz {m:Md} {c:Int} {b:Bx} {lo hi bu:Int} (h4:b.s4=⟨0,0⟩) (hr:EU m (FW c b lo hi bu)=true) (hp:JU m (FW c b lo hi bu) b≤199) (hbu:2*ic (ER m (FW c b lo hi bu) b 5) - 1≤bu)
  {p:Pt} {t:Int} (hh:b.has p t=true) (h:D4 m c p < lo∨hi < D4 m c p):(FU m (FW c b lo hi bu)).kind=2:=by
 have es:=dH c b lo hi bu h4;have h1:=Ef hr (by rw [es]; exact hp) (by rw [es]; exact hbu);rw [h1];cases hc:SJ m (FW c b lo hi bu) with
 | false=>rfl
 | true=>
  have h2:=yT hr hc (p:=p) (t:=t) (by rw [es]; exact hh);rw [Dx hr] at h2;simp only [Bool.not_eq_false',AG,AP] at h2;omega
theorem Dy (m:Md) (c:Int) (b:Bx) (lo hi bu lo' hi' bu':Int):∀ j,ER m (FW c b lo hi bu) b j=ER m (FW c b lo' hi' bu') b j
 | 0=>rfl
 | j+1=>by
  rw [ER,ER,Dy m c b lo hi bu lo' hi' bu' j];rfl
theorem xR (c:Int) (p:Pt):∀ (ts:LI) (s:Int),s - 2147483648*ic ts.length≤G1 c p ts s∧G1 c p ts s≤s+2147483648*ic ts.length
 | [],s=>by
  show s - 2147483648*ic 0≤s∧s≤s+2147483648*ic 0;simp only [ic];omega
 | t :: r,s=>by
  rw [G1,AM];have h:=xR c p r (cond (JW t==c) (s+GC (EJ t) p) s);have hv:=rH (EJ t) p;simp only [ic] at h ⊢;revert h;cases JW t==c with
  | true=>rw [DB]; intro h; omega
  | false=>rw [DC]; intro h; omega
theorem Rq {m:Md} (hm:EQ m=true) {c:Int} (hc:GR m c=true) (p:Pt) : -100000000000≤D4 m c p∧D4 m c p≤100000000000:=by
 rw [gI hm hc];have h1:=xR c p m.ts (G0 m c);have h2:=sU hm c;have h3:=(IY hm).2.2.1;simp only [ic] at h1;omega
theorem zdI (f:Ft) (l:LI) {c:Int} (hc:0≤c∧c < f.M.c) (z:Int):pM f.M c (IJ f.M.d l) z=some (.bool true,[]):=by
 have hm:=kR f;have hreg:=pN f.M.d l;have hg:=i8 hreg;have h4:(IJ f.M.d l).s4=⟨0,0⟩:=rfl;generalize IJ f.M.d l=b at hreg hg h4 ⊢;have hcls:=U9 hc.1 hc.2;have hs:=L6 hm hcls hg.emp;obtain ⟨⟨s1,s2⟩,hall,hone⟩:=jC hs hg.ok z;have hl:=hall b.low b.s4.hi (LP b hg.emp);have hin:=fun p=>Rq hm hcls p
 unfold pM;generalize HJ f.M c b z=lo at s1 hall hone hl ⊢;generalize HI f.M c b z=hi at s2 hall hone hl ⊢;rw [Uf,DB,Bool.not_not];cases hov:M6 f.M (FW c b lo hi 0) (EE (FW c b lo hi 0)) 1500 with
 | true=>rfl
 | false=>
  rw [DC];have hcnt:ic (ER f.M (FW c b lo hi 0) b 5)≤1500:=by
   unfold M6 at hov;rw [dH c b lo hi 0 h4] at hov
   have:=BE hov
   omega
  have hcn1:=W8 f.M (FW c b lo hi 0) b 5;have eq:XG f.M (FW c b lo hi 0)=FW c b lo hi (2*ic (ER f.M (FW c b lo hi 0) b 5)):=by
   unfold XG;rw [hov,DC,dH c b lo hi 0 h4];rfl
  have er:∀ lo' hi' bu,(FW c b lo hi bu).rng lo' hi'=FW c b lo' hi' bu:=fun _ _ _=>rfl
  rw [eq,er,er];generalize hbu:2*ic (ER f.M (FW c b lo hi 0) b 5)=bu;have hb2:0≤bu∧bu≤65536:=by simp only [ic] at hbu hcnt; omega
  have hbud:∀ lo' hi',2*ic (ER f.M (FW c b lo' hi' bu) b 5) - 1≤bu:=fun lo' hi'=>by
   rw [Dy f.M c b lo' hi' bu lo hi 0 5];omega
  have hpot:∀ lo' hi',JU f.M (FW c b lo' hi' bu) b≤199:=fun lo' hi'=>by
   have:=Ug (m:=f.M) (by have:=yH f; omega) (FW c b lo' hi' bu)
   rw [dH c b lo' hi' bu h4] at this;exact this
  have hr:∀ lo' hi',lo'≤hi'→EU f.M (FW c b lo' hi' bu)=true:=fun lo' hi' h=>zdH hm hc hreg h hb2
  have k1:=zdK h4 (hr lo hi (by omega)) (hpot lo hi) (hbud lo hi) hall;rw [k1,show ((1:Int) != 1)=false from rfl,DC];cases ho:KR f.M c b z with
  | false=>rfl
  | true=>
   obtain ⟨⟨p,t,p1,p2⟩,⟨p',t',p1',p2'⟩⟩:=hone ho;have i1:=hin p;have i2:=hin p';have w1:AA AB (lo+1)=lo+1:=EA (by omega) (by omega);have w2:AA AB (hi - 1)=hi - 1:=EA (by omega) (by omega);rw [w1,w2,Dz h4 (hr (lo+1) (max (lo+1) hi) (by omega)) (hpot _ _) (hbud _ _) p1 (.inl (by omega)),Dz h4 (hr (min lo (hi - 1)) (hi - 1) (by omega)) (hpot _ _) (hbud _ _) p1' (.inr (by omega)),hs,AF s1,AF s2];rfl
open Go Go.Proofs
theorem Qd (f:Ft) (x:Int):AA AB (f.M.c - 1)=f.M.c - 1∧I4 0 (f.M.c - 1)≠0∧0≤DS x 0 (f.M.c - 1)∧DS x 0 (f.M.c - 1) < f.M.c:=by
 have hc:1≤f.M.c∧f.M.c≤3:=fT f.c;obtain ⟨h1,h2⟩:=JG (n:=x) (lo:=0) (hi:=f.M.c - 1) (by omega) (by omega) (by omega);exact ⟨EA (by omega) (by omega),by omega,h2.1,by omega⟩
theorem zeF:DO PR B0 4 kT:=by
 refine DX [(14,MW),(7,LL),(6,T3),(11,T5),(12,ZV),(8,UA),(13,QN),(5,UR)] [] kT [[.bool]] Tryz.func4 Wk ⟨dN,YD,Fk,Fm,zeG,Fw,qD,Fe,trivial⟩ ?_;intro vs r hwf h;unfold kT at h;split at h
 ·rename_i f l x z;replace h:=rT h;obtain ⟨f,rfl,h⟩:=h;rw [R.get_ok] at h;refine ⟨0,(zbh 0 f l x z).trans ?_⟩;rw [← h];have hd:1≤f.M.d∧f.M.d≤3:=bQ f.d;obtain ⟨e1,e2,e3⟩:=Qd f x;obtain ⟨_,g2⟩:=JG (n:=z) (lo:=0) (hi:=300) (by omega) (by omega) (by omega);rw [e1,AL e2,AF (show 0≤f.M.d by omega),AF (show f.M.d≤4 by omega),AF g2.1,AF (show DS z 0 300≤65536 by omega)];simp only [BH,DB,DC];exact zdI f l e3 _
 ·simp [R.get] at h
open Go Go.Proofs Go.RowKit
theorem yR {P:Program} {w:World} {name:String} {g:Nat} {cs:Array Value} (hn:P.globalNamed name=some g) (hv:w.var? P name=some cs):∃ T fr,w.heap[g]?=some (.cells cs T fr):=by
 unfold World.var? at hv;rw [hn] at hv;simp only [Option.bind_some] at hv;split at hv
 ·rename_i c T fr hh;simp only [AC] at hv;subst hv;exact ⟨T,fr,hh⟩
 ·cases hv
theorem xP {w:World} {name:String} {g t:Nat} {ms:Array (String × TypeId)} {tn:String} {d:DataW Unit} (h:Lib.VarReads Tryz.prog w name (.iface tn d)) (hn:Tryz.prog.globalNamed name=some g)
  (ht:(Tryz.prog.globals[g]?).map (·.type)=some t) (hu:Tryz.prog.underlying t=some (.interface ms)):∃ c T fr te pe,w.heap[g]?=some (.cells c T fr)∧c[0]?=some (.iface te pe):=by
 obtain ⟨g',t',cs,fuel,p,h1,h2,h3,h4⟩:=h;obtain rfl:=CI (hn.symm.trans h1);obtain rfl:=CI (ht.symm.trans h2);obtain ⟨f',u,v,hcs,_,_⟩:=iface_of_trod hu h4;obtain ⟨T,fr,hh⟩:=yR hn h3;refine ⟨cs,T,fr,u,v,hh,?_⟩
 have:cs = #[.iface u v]:=by
  apply Array.ext';rw [hcs]
 rw [this];rfl
theorem Up {W:World} {l:List (String × DataW Unit)} (hL:laidMet Tryz.prog l W) (hsh:W.ShapedOpen Tryz.prog)
  (hp:("internal/strconv.uint64pow10", Lib.tabData .u64 Lib.pow10Tab)∈l)
  {n1:String} {d1:DataW Unit} (h1:("strconv.ErrRange", .iface n1 d1)∈l)
  {n2:String} {d2:DataW Unit} (h2:("strconv.ErrSyntax", .iface n2 d2)∈l)
  : Glob B0 W:=by
 have hz:∀ g,g < 4→g < Tryz.prog.globals.size→g < W.heap.size:=fun g _ hg=>by
  have hb:((vaQ Tryz.prog.globals.size).all fun g=>(((begin Tryz.prog (fun _ _=>0) default).world.heap[g]?).bind Obj.row?).isSome)=true:=by kernel_rfl
  have:=CN.1 hb g (vbg.2 hg)
  obtain ⟨⟨z,t⟩,hz⟩:=Option.isSome_iff_exists.1 this;obtain ⟨cs,hh,_⟩:=hsh.1 g z t hg hz;exact (C9.1 hh).1
 have hsize:4≤W.heap.size:=by
  first
  | exact B2 _
  | (
    have:=hz (4 - 1) (by decide) (AY (by kernel_rfl))
    omega)
 have low:∀ {g:Nat},g < 4→(fun b=>if b < B0.ng then W.heap[b]? else none) g=W.heap[g]?:=fun h=>BJ (show _ < B0.ng from h)
 refine ⟨hsize,?_⟩;show GF _;constructor
 first | exact trivial | skip
 case gm=>
  obtain ⟨m,hm⟩:=cell_of_shapedOpen_int (P:=Tryz.prog) (g:=1) (t:=3) (zero:=#[.int .i64 0]) hsh (AY (by kernel_rfl)) (by kernel_rfl) rfl (by kernel_rfl) (by kernel_rfl) Tryz.underlying3;simp only [vay] at hm;split at hm
  ·rename_i c T fr' hh;exact ⟨c,T,fr',m,(low (by decide)).trans hh,hm⟩
  ·cases hm
 case gp=>
  have gp:Tryz.prog.globalNamed "internal/strconv.uint64pow10" = some 0:=by kernel_rfl
  obtain ⟨g',t',cp,fuel,p,e1,e2,e3,e4⟩:=vbm hL hp;obtain rfl:=CI (gp.symm.trans e1);obtain ⟨T,fr',hh⟩:=yR gp e3;refine ⟨T,fr',(low (by decide)).trans ?_⟩;rw [hh];have et:(Tryz.prog.globals[0]?).map (·.type)=some 252:=by kernel_rfl
  obtain rfl:=CI (et.symm.trans e2)
  have:=Lib.cells_of_tab (e:=84) (n:=20) (by kernel_rfl) (by kernel_rfl) (by kernel_rfl) (by kernel_rfl) e4
  congr 1;congr 1;apply Array.ext';exact this
 case gs=>
  obtain ⟨cs,Ts,fs,tes,pes,hs1,hs2⟩:=xP (g:=2) (vbm hL h2) (by kernel_rfl) (show _=some 111 by kernel_rfl) Tryz.underlying111;exact ⟨cs,Ts,fs,tes,pes,(low (by decide)).trans hs1,hs2⟩
 case gr=>
  obtain ⟨cr,Tr,fr,ter,per,hr1,hr2⟩:=xP (g:=3) (vbm hL h1) (by kernel_rfl) (show _=some 111 by kernel_rfl) Tryz.underlying111;exact ⟨cr,Tr,fr,ter,per,(low (by decide)).trans hr1,hr2⟩
def X0:Zone:=⟨fun _=>False,fun _=>False⟩
def γ0:Nat→Value:=fun _=>.nilIface
abbrev O0:Nat→Prop:=DH X0 γ0 []
theorem sB (b:Nat):¬ O0 b:=by
 rintro (⟨n,ob,h,_⟩ | h)
 ·simp [DF,EL] at h
 ·exact h
theorem Dm (W:World):Rel B0.base 0 W X0 γ0 ⟨[],[]⟩ IQ W:=by
 have no:∀ n ob,DF ([]:Store) n≠some ob:=fun n ob h=>by simp [DF,EL] at h
 refine ⟨rfl,rfl,fun i=>by simp only [St.get,EL,VRel],fun n ob h=>absurd h (no n ob),fun b h=>?_,fun n m ob ob' b _ h=>absurd h (no n ob),Keep.refl _ _,fun b h=>?_,fun b h=>h.elim,fun p _ ob h=>absurd h (no _ ob)⟩
 ·obtain ⟨n,ob,h,_⟩:=h;exact absurd h (no n ob)
 ·obtain ⟨n,ob,h,_⟩:=h;exact absurd h (no n ob)
theorem Pm {f:Nat} {fn:Func} (hf:PR.funcs[f]?=some fn) (hn:(fn.name == "runtime.NumGoroutine")=false) (hb:fn.body.isNone=false) {xs:List Value} {w:World} {R:Ending→World→Prop} (h:Does PR f xs w R):Calls PR f xs.toArray w R:=by
 have:(callFunc f xs.toArray).run PR w = .ok (.enter f xs.toArray) w:=by
  unfold callFunc;have hn':¬ fn.name = "runtime.NumGoroutine":=by simpa using hn
  have hb':¬ fn.body=none:=fun h=>by rw [h] at hb; cases hb
  simp [hf,hn',hb']
 unfold Does at h;rw [this] at h;exact h
theorem Pn {f:Nat} {fn:Func} {sp:DK} (hS:DO PR B0 f sp) (hf:PR.funcs[f]?=some fn) (hn:(fn.name == "runtime.NumGoroutine")=false) (hb:fn.body.isNone=false) {vs:List V} {xs:List Value} {W:World}
  (hsp:(sp vs).get=some (.bool true,[])) (hbor:FD vs=none) (hG:Glob B0 W) (hV:VRels γ0 [] W O0 (vs.map D8) xs) :
  Calls PR f xs.toArray W fun e w'=>e = .returned (.bool true)∧Below W.heap.size W w':=by
 refine Pm hf hn hb ?_;have em:HO vs=[]:=by unfold HO; rw [hbor]
 refine Does.mono (hS W X0 γ0 vs xs (.bool true) [] hsp hG (fun b h=>h.elim) (by rw [em]; exact Dm W) (by rw [em]; exact hV)) ?_;rintro e w' ⟨x,rfl,γ',hR,hx,_⟩;simp only [LE,D8,VRel] at hx;subst hx;exact ⟨rfl,hR.keep.os,hR.keep.tape,hR.keep.output,hR.keep.size,fun b hb=>hR.keep.block b hb (fun h=>h)⟩
open Go
def R0 (P:Program) (e:TypeId):Bool:=match P.underlying e with | some (.struct _)=>true | some (.array _ _)=>true | _=>false
def XQ (f:TypeId→Option (List Kd)) (cell:TypeId→Nat):Nat→List (TypeId × Nat)→Option (List Kd)
 | _,[]=>some []
 | off,(t,o) :: r=>match BM o off with
  | true=>match f t with
   | some ks=>match BM (cell t) ks.length with
    | true=>match XQ f cell (off+ks.length) r with
     | some ks'=>some (ks++ks')
     | none=>none
    | false=>none
   | none=>none
  | false=>none
def PO (P:Program):Nat→TypeId→Option (List Kd)
 | 0,_=>none
 | n+1,t=>match P.underlying t with
  | some .bool=>some [.bool]
  | some (.int k)=>some [.int k]
  | some .string=>some [.str]
  | some (.slice e)=>match PO P n e with
   | some ks=>match BS 1 (P.bytesOf e)&&(BM (P.cellsOf e) ks.length&&(BS 1 ks.length&&(R0 P e||BM ks.length 1))) with
    | true=>some [.list (R0 P e) ks]
    | false=>none
   | none=>none
  | some (.struct fs)=>match XQ (PO P n) P.cellsOf 0 (fs.toList.map fun f=>(f.type,f.offset)) with
   | some ks=>match BM (P.cellsOf t) ks.length with | true=>some ks | false=>none
   | none=>none
  | some (.array m e)=>match XQ (PO P n) P.cellsOf 0 ((vaQ m).map fun i=>(e,i*P.cellsOf e)) with
   | some ks=>match BM (P.cellsOf t) ks.length with | true=>some ks | false=>none
   | none=>none
  | _=>none
def CellsK (w:World) (O:Nat→Prop):List Kd→LI→List Value→Prop
 | [],[],[]=>True
 | k :: ks,x :: f,v :: cs=>Kd.Rel w O k x v∧CellsK w O ks f cs
 | _,_,_=>False
section
variable {w:World} {O:Nat→Prop}
theorem CellsK.append:∀ {ks:List Kd} {f:LI} {cs:List Value} {ks':List Kd} {f':LI} {cs':List Value},CellsK w O ks f cs→CellsK w O ks' f' cs'→CellsK w O (ks++ks') (f++f') (cs++cs')
 | [],[],[],_,_,_,_,h'=>h'
 | _ :: ks,_ :: f,_ :: cs,_,_,_,h,h'=>by
  simp only [CellsK] at h;simp only [vaf,CellsK];exact ⟨h.1,h.2.append h'⟩
 | [],_ :: _,_,_,_,_,h,_=>by simp [CellsK] at h
 | [],[],_ :: _,_,_,_,h,_=>by simp [CellsK] at h
 | _ :: _,[],_,_,_,_,h,_=>by simp [CellsK] at h
 | _ :: _,_ :: _,[],_,_,_,h,_=>by simp [CellsK] at h
theorem CellsK.get:∀ {ks:List Kd} {f:LI} {cs:List Value},CellsK w O ks f cs→∀ (j:Nat) (k:Kd),ks[j]?=some k→∃ v,cs[j]?=some v∧Kd.Rel w O k (J7 f j) v
 | [],_,_,_,j,k,h=>by simp at h
 | k :: ks,x :: f,v :: cs,h,j,k',hj=>by
  simp only [CellsK] at h;cases j with
  | zero=>
   simp only [BP,AC] at hj;subst hj;exact ⟨v,rfl,by simpa only [J7] using h.1⟩
  | succ j=>
   obtain ⟨u,h1,h2⟩:=h.2.get j k' (by simpa using hj);exact ⟨u,by simpa using h1,by simpa only [J7] using h2⟩
 | _ :: _,[],_,h,_,_,_=>by simp [CellsK] at h
 | _ :: _,_ :: _,[],h,_,_,_=>by simp [CellsK] at h
theorem wA {α:Type} {Q:Nat→α→Prop}:∀ n,(∀ i,i < n→∃ x,Q i x)→∃ L:List α,L.length=n∧∀ i x,L[i]?=some x→Q i x
 | 0,_=>⟨[],rfl,fun i x h=>by simp at h⟩
 | n+1,h=>by
  obtain ⟨L,hl,hL⟩:=wA n (fun i hi=>h i (by omega));obtain ⟨x,hx⟩:=h n (by omega);refine ⟨L++[x],by simp [hl],fun i y hy=>?_⟩;rw [vag] at hy;split at hy
  ·exact hL i y hy
  ·rename_i hi
   have:i - L.length=0:=by
    rcases Nat.eq_zero_or_pos (i - L.length) with e | e
    ·exact e
    ·rw [BU (by simp; omega)] at hy;cases hy
   rw [this] at hy;simp only [BP,AC] at hy;subst hy
   have:i=n:=by omega
   subst this;exact hx
end
theorem n9 {H:Type} {P:Program}:∀ {ts:List TypeId} {ds:List (DataW H)} {i:Nat} {t:TypeId} {d:DataW H},ts[i]?=some t→ds[i]?=some d→∀ y∈d.weights P t,y∈vbA P ts ds
 | [],_,i,_,_,h,_,_,_=>by simp at h
 | _ :: _,[],i,_,_,_,h,_,_=>by simp at h
 | t0 :: ts,d0 :: ds,0,t,d,h,h',y,hy=>by
  simp only [BP,AC] at h h';subst h; subst h';simp only [vbA,AV];exact .inl hy
 | t0 :: ts,d0 :: ds,i+1,t,d,h,h',y,hy=>by
  simp only [vbA,AV];exact .inr (n9 (by simpa using h) (by simpa using h') y hy)
theorem n7 {H:Type} {P:Program} {e:TypeId}:∀ {ds:List (DataW H)} {d:DataW H},d∈ds→∀ y∈d.weights P e,y∈DataW.weightsAll P e ds
 | [],_,h,_,_=>by cases h
 | d0 :: ds,d,h,y,hy=>by
  simp only [DataW.weightsAll,AV];rcases AX.1 h with rfl | h
  ·exact .inl hy
  ·exact .inr (n7 h y hy)
section
variable {H:Type} {enc:TypeId × Value→H} {P:Program} {w:World} {base:Nat} {sp:Nat→Bool} {held:Bool} {O:Nat→Prop}
theorem o0 {f:TypeId→Option (List Kd)} {n:Nat} {cs:List Value}
  (ih:∀ (t:TypeId) (ks:List Kd) (cs:List Value) (d:DataW H) (p:List MemPlace),f t=some ks→DataW.trod enc P w base sp held n t cs=some (d,p)→(∀ y∈d.weights P t,y≤reachBytes)→∃ g,CellsK w O ks g cs) :
  ∀ (parts:List (TypeId × Nat)) (off:Nat) (ks:List Kd) (xs:List (DataW H × List MemPlace)),XQ f P.cellsOf off parts=some ks→xs.length=parts.length →
   (∀ (i:Nat) (t:TypeId) (o:Nat),parts[i]?=some (t,o)→DataW.trod enc P w base sp held n t ((cs.drop o).take (P.cellsOf t))=xs[i]?) →
   (∀ (i:Nat) (t:TypeId) (o:Nat) (x:DataW H × List MemPlace),parts[i]?=some (t,o)→xs[i]?=some x→∀ y∈x.1.weights P t,y≤reachBytes)→∃ g,CellsK w O ks g ((cs.drop off).take ks.length)
 | [],off,ks,xs,h,_,_,_=>by
  simp only [XQ,AC] at h;subst h;exact ⟨[],by simp only [A6,List.take_zero,CellsK]⟩
 | (t,o) :: r,off,ks,[],h,hl,_,_=>by simp at hl
 | (t,o) :: r,off,ks,x :: xs,h,hl,ht,hw=>by
  simp only [XQ] at h;split at h
  case h_2=>cases h
  rename_i ho;obtain rfl:=vat ho;split at h
  case h_2=>cases h
  rename_i k1 hk1;split at h
  case h_2=>cases h
  rename_i hc;have hc:=vat hc;split at h
  case h_2=>cases h
  rename_i k2 hk2;simp only [AC] at h;subst h;have h0:=ht 0 t o rfl;simp only [BP] at h0;obtain ⟨d,p⟩:=x;obtain ⟨g1,hg1⟩:=ih t k1 _ d p hk1 h0 (hw 0 t o (d,p) rfl rfl);obtain ⟨g2,hg2⟩:=o0 ih r (o+k1.length) k2 xs hk2 (by simpa using hl) (fun i t' o' hi=>by simpa using ht (i+1) t' o' (by simpa using hi)) (fun i t' o' x hi hx=>hw (i+1) t' o' x (by simpa using hi) (by simpa using hx));refine ⟨g1++g2,?_⟩;rw [AR,List.take_add,List.drop_drop];rw [hc] at hg1;exact hg1.append hg2
theorem zfB {a:Addr} {v:Value} (h:w.cell? a=some v):a.spot=none∧a.block < w.heap.size:=by
 unfold vay at h;split at h
 ·rename_i c _ _ hc;split at h
  ·cases h
  ·rename_i hs;exact ⟨by simpa using hs,(C9.1 hc).1⟩
 ·cases h
theorem dZ (hO:∀ b,¬ O b):∀ (n:Nat) (t:TypeId) (ks:List Kd) (fuel:Nat) (cs:List Value) (d:DataW H) (p:List MemPlace),PO P n t=some ks →
  DataW.trod enc P w base sp held fuel t cs=some (d,p)→(∀ y∈d.weights P t,y≤reachBytes)→∃ g,CellsK w O ks g cs
 | 0,_,_,_,_,_,_,h,_,_=>by simp [PO] at h
 | n+1,t,ks,fuel,cs,d,p,h,ht,hw=>by
  simp only [PO] at h;split at h
  ·rename_i hu;simp only [AC] at h;subst h;obtain ⟨b,rfl,_⟩:=DataW.trod_bool hu ht;exact ⟨[.bool b],by simp only [CellsK,Kd.Rel,IV.toBool,and_self]⟩
  ·rename_i k hu;simp only [AC] at h;subst h;obtain ⟨m,rfl,_,hm⟩:=DataW.trod_int hu ht;simp only [Lit.wf,AG,AP] at hm;exact ⟨[.int m],by simp only [CellsK,Kd.Rel,IV.toInt,BY,vba]; exact hm⟩
  ·rename_i hu;simp only [AC] at h;subst h;obtain ⟨s,rfl,hd,hs⟩:=DataW.trod_string hu ht;simp only [AS] at hd;refine ⟨[.str s],?_⟩;simp only [CellsK,Kd.Rel,IV.toStr,BY,vba];rw [hd.1] at hw
   have:=hw s.data.toList.length (by simp [vbr])
   have e:s.data.toList.length=s.size:=by rw [CP]; rfl
   rw [e] at this;unfold reachBytes at this;unfold strMax;omega
  ·rename_i e hu;split at h
   case h_2=>cases h
   rename_i k1 hk1;split at h
   case h_2=>cases h
   rename_i hc;simp only [AC] at h;subst h;simp only [AG,vaT] at hc;obtain ⟨hb,hce,hk0,hag⟩:=hc;have hb:=AN hb;have hce:=vat hce;have hk0:=AN hk0;rcases DataW.trod_slice hu ht with ⟨rfl,_⟩ | ⟨a,len,cap,elems,rest,m,_,rfl,hx,_,hlc,hcap,hlen,hel,_⟩
   ·refine ⟨[.list []],?_⟩;simp only [CellsK,Kd.Rel,IV.toList,BY];exact ⟨none,0,rfl,AT _,B2 _,B2 _,fun i y hi=>by simp at hi⟩
   ·simp only [AS] at hx;obtain ⟨rfl,_⟩:=hx;simp only [vbr,hu,AX,AV] at hw;have hsz:len≤strMax:=by
     have:=hw _ (.inl rfl)
     rw [B9,hlen] at this;have h1:len*1≤(len+(rest.map (·.1)).length)*P.bytesOf e:=Nat.mul_le_mul (by omega) hb;unfold reachBytes at this;unfold strMax;omega
    have hex:∀ i,i < len→∃ g:LI,∃ ci,w.cells? base (a.add (i*k1.length)) k1.length=some ci∧CellsK w O k1 g ci:=by
     intro i hi;have h1:=hel i hi;have hi':i < elems.length:=by omega
     rw [A5 hi',hce] at h1;simp only [Option.bind_eq_some_iff] at h1;obtain ⟨ci,h2,h3⟩:=h1;obtain ⟨g,hg⟩:=dZ hO n e k1 m ci elems[i].1 elems[i].2 hk1 h3 (fun y hy=>hw y (.inr (.inl (n7 (vaM (vaa hi')) y hy))));exact ⟨g,ci,h2,hg⟩
    obtain ⟨L,hL,hLi⟩:=wA len hex;refine ⟨[.list (L.map fun g=>match R0 P e with | true=>IV.agg g | false=>J7 g 0)],?_⟩;simp only [CellsK,Kd.Rel,IV.toList,BY,B9,hL];refine ⟨some a,cap,rfl,hlc,hcap,hsz,fun i y hi=>?_⟩;rw [B8,C8] at hi;obtain ⟨g,hg,rfl⟩:=hi;obtain ⟨ci,hci,hgc⟩:=hLi i g hg;have hil:i < len:=by rw [← hL]; exact (BQ.1 hg).1
    have cellAt:∀ j k,k1[j]?=some k→∃ u,w.cell? ((a.add (i*k1.length)).add j)=some u∧Kd.Rel w O k (J7 g j) u:=by
     intro j k hk;obtain ⟨u,h1,h2⟩:=hgc.get j k hk;refine ⟨u,?_,h2⟩;have hj:j < k1.length:=(BQ.1 hk).1;unfold World.cells? at hci;split at hci
     ·obtain ⟨b,hb1,hb2⟩:=Lib.mapM_at hci j j (by simp [hj]);rw [h1] at hb1;simp only [AC] at hb1;rw [hb2,hb1]
     ·cases hci
    have hspot:a.spot=none∧a.block < w.heap.size:=by
     obtain ⟨g0,hg0⟩:∃ g0,L[0]?=some g0:=⟨L[0]'(by omega),A5 (by omega)⟩;obtain ⟨c0,hc0,hgc0⟩:=hLi 0 g0 hg0;obtain ⟨u,h1,_⟩:=hgc0.get 0 k1[0] (A5 (by omega));unfold World.cells? at hc0;split at hc0
     ·obtain ⟨b,_,hb2⟩:=Lib.mapM_at hc0 0 0 (List.getElem?_range (show 0 < k1.length by omega))
      have:=zfB hb2
      rw [Nat.zero_mul] at this;simpa [Addr.add] using this
     ·cases hc0
    obtain ⟨ab,ao,asp⟩:=a;obtain ⟨hs1,hs2⟩:=hspot;simp only at hs1 hs2;subst hs1;refine ⟨ab,ao,rfl,hO ab,hs2,?_⟩;rw [Kd.RelAll_iff];intro j k hk;obtain ⟨u,h1,h2⟩:=cellAt j k hk;rw [Lib.add_plain,Lib.add_plain] at h1;rw [BK];refine ⟨u,h1,?_⟩;cases hat:R0 P e with
    | true=>
     show Kd.Rel w O k (J7 g j) u;exact h2
    | false=>
     rw [hat] at hag;have h1l:k1.length=1:=vat (by simpa using hag);have hj:j < k1.length:=(BQ.1 hk).1
     have:j=0:=by omega
     subst this;exact h2
  ·rename_i fs hu;split at h
   case h_2=>cases h
   rename_i k1 hk1;split at h
   case h_2=>cases h
   rename_i hc;have hc:=vat hc;simp only [AC] at h;subst h;obtain ⟨xs,m,_,hx,hcl,hxl,hall⟩:=DataW.trod_struct hu ht;simp only [AS] at hx;obtain ⟨rfl,_⟩:=hx;simp only [vbr,hu] at hw;have key:=o0 (enc:=enc) (P:=P) (w:=w) (base:=base) (sp:=sp) (held:=held) (O:=O) (f:=PO P n) (n:=m) (cs:=cs) (fun t ks cs d p h1 h2 h3=>dZ hO n t ks m cs d p h1 h2 h3) (fs.toList.map fun f=>(f.type,f.offset)) 0 k1 xs hk1 (by simp [hxl]) (fun i t o hi=>by
     rw [B8,C8] at hi;obtain ⟨f,hf,he⟩:=hi;simp only [AS] at he;obtain ⟨rfl,rfl⟩:=he;exact hall i f (by simpa using hf)) (fun i t o x hi hx y hy=>by
     rw [B8,C8] at hi;obtain ⟨f,hf,he⟩:=hi;simp only [AS] at he;obtain ⟨rfl,rfl⟩:=he;exact hw y (n9 (i:=i) (by rw [B8,hf]; rfl) (by rw [B8,hx]; rfl) y hy))
   obtain ⟨g,hg⟩:=key;rw [B1,CW (by omega)] at hg;exact ⟨g,hg⟩
  ·rename_i m0 e hu;split at h
   case h_2=>cases h
   rename_i k1 hk1;split at h
   case h_2=>cases h
   rename_i hc;have hc:=vat hc;simp only [AC] at h;subst h;obtain ⟨xs,m,_,hx,hcl,hxl,hall⟩:=DataW.trod_array hu ht;simp only [AS] at hx;obtain ⟨rfl,_⟩:=hx;simp only [vbr,hu] at hw;have key:=o0 (enc:=enc) (P:=P) (w:=w) (base:=base) (sp:=sp) (held:=held) (O:=O) (f:=PO P n) (n:=m) (cs:=cs) (fun t ks cs d p h1 h2 h3=>dZ hO n t ks m cs d p h1 h2 h3) ((vaQ m0).map fun i=>(e,i*P.cellsOf e)) 0 k1 xs hk1 (by simp [hxl]) (fun i t o hi=>by
     rw [B8,C8] at hi;obtain ⟨f,hf,he⟩:=hi;simp only [AS] at he;obtain ⟨rfl,rfl⟩:=he;have hfi:=BQ.1 hf;obtain ⟨hl,he⟩:=hfi;rw [List.getElem_range] at he;subst he;exact hall i (by simpa using hl)) (fun i t o x hi hx y hy=>by
     rw [B8,C8] at hi;obtain ⟨f,hf,he⟩:=hi;simp only [AS] at he;obtain ⟨rfl,rfl⟩:=he;exact hw y (n7 (vaM (vah hx)) y hy))
   obtain ⟨g,hg⟩:=key;rw [B1,CW (by omega)] at hg;exact ⟨g,hg⟩
  ·cases h
end
open Go Go.Proofs Go.RowKit Go.ChangeShapes Go.WideShapes
def WA:Kd→IV→V
 | .int k,x=>.int k x.toInt
 | .bool,x=>.bool x.toBool
 | .str,x=>.str x.toStr
 | .list ag ks,x=>.list ag ks x.toList
theorem Jv {γ:Nat→Value} {o:Store} {w:World} {O:Nat→Prop} {k:Kd} {x:IV} {v:Value} (h:Kd.Rel w O k x v):VRel γ o w O (WA k x) v:=by
 cases k with
 | int k=>simpa only [WA,VRel,Kd.Rel] using h
 | bool=>simpa only [WA,VRel,Kd.Rel] using h
 | str=>simpa only [WA,VRel,Kd.Rel] using h
 | list ag ks=>
  simp only [WA,VRel];simpa only [Kd.Rel,IV.toList] using h
def d9:List Kd→LI→List V
 | k :: ks,x :: f=>WA k x :: d9 ks f
 | _,_=>[]
theorem Ka {γ:Nat→Value} {o:Store} {w:World} {O:Nat→Prop}:∀ {ks:List Kd} {f:LI} {cs:List Value},CellsK w O ks f cs→VRels γ o w O (d9 ks f) cs
 | [],[],[],_=>by simp only [d9,VRels]
 | _ :: _,_ :: _,_ :: _,h=>by
  simp only [CellsK] at h;simp only [d9,VRels];exact ⟨Jv h.1,Ka h.2⟩
 | [],_ :: _,_,h=>by simp [CellsK] at h
 | [],[],_ :: _,h=>by simp [CellsK] at h
 | _ :: _,[],_,h=>by simp [CellsK] at h
 | _ :: _,_ :: _,[],h=>by simp [CellsK] at h
theorem CellsK.len {w:World} {O:Nat→Prop}:∀ {ks:List Kd} {f:LI} {cs:List Value},CellsK w O ks f cs→f.length=ks.length
 | [],[],[],_=>rfl
 | _ :: _,_ :: _,_ :: _,h=>by
  simp only [CellsK] at h;simp only [List.length_cons,h.2.len]
 | [],_ :: _,_,h=>by simp [CellsK] at h
 | [],[],_ :: _,h=>by simp [CellsK] at h
 | _ :: _,[],_,h=>by simp [CellsK] at h
 | _ :: _,_ :: _,[],h=>by simp [CellsK] at h
section
variable {H:Type} {enc:TypeId × Value→H} {P:Program} {W:World} {base b0:Nat} {sp:Nat→Bool} {held:Bool}
theorem sQ {n:Nat} {t:TypeId} {ks:List Kd} {v:Value} {d:DataW H} {p:List MemPlace} (hk:PO P n t=some ks) (hu:R0 P t=true) (hval:Value.okWide P W .any base t v)
  (h:DataW.Trod enc P W b0 sp held t v d p) (hw:∀ y∈d.weights P t,y≤reachBytes):∃ g:LI,g.length=ks.length∧VRel γ0 [] W O0 (.agg (d9 ks g)) v:=by
 obtain ⟨cs,rfl⟩:∃ cs,v = .agg cs:=by
  unfold R0 at hu;unfold Value.okWide at hval;split at hu
  ·rename_i hh; rw [hh] at hval; exact hval.imp (fun _ h=>h.1)
  ·rename_i hh; rw [hh] at hval; exact hval.imp (fun _ h=>h.1)
  ·cases hu
 obtain ⟨fuel,hf⟩:=h;obtain ⟨g,hg⟩:=dZ (O:=O0) sB n t ks fuel _ d p hk hf hw;refine ⟨g,hg.len,?_⟩;simp only [VRel];exact ⟨cs,rfl,Ka hg⟩
theorem R3 {n:Nat} {t:TypeId} {k:Kd} {v:Value} {d:DataW H} {p:List MemPlace} (hk:PO P n t=some [k]) (hu:R0 P t=false) (hval:Value.okWide P W .any base t v)
  (h:DataW.Trod enc P W b0 sp held t v d p) (hw:∀ y∈d.weights P t,y≤reachBytes):∃ x:IV,VRel γ0 [] W O0 (WA k x) v:=by
 obtain ⟨fuel,hf⟩:=h;obtain ⟨g,hg⟩:=dZ (O:=O0) sB n t [k] fuel _ d p hk hf hw;have hc:v.cells.toList=[v]:=by
  cases v with
  | agg cs=>
   exfalso;unfold R0 at hu;unfold Value.okWide at hval;split at hu
   ·cases hu
   ·cases hu
   ·rename_i h1 h2;split at hval
    ·rename_i hh; exact h1 _ hh
    ·rename_i hh; exact h2 _ _ hh
    ·unfold Cell.okWide Cell.ok at hval;split at hval <;> first | (split at hval <;> simp_all) | simp_all
  | _=>rfl
 rw [hc] at hg
 match g,hg with
 | [x],hg=>
  simp only [CellsK,and_true] at hg;exact ⟨x,Jv hg⟩
theorem Jr (hl:laidOutB P=true) {W':World} (hb:Below W.heap.size W W'):∀ {ts:List TypeId} {vs:List Value} {ds:List (DataW H)} {ps:List MemPlace},DataW.TrodAll enc P W 0 (fun _=>true) true ts vs ds ps →
  (∀ t∈ts,P.readableRec t=true∧t < P.types.size)→(∀ x∈ps,x.block < W.heap.size)→DataW.TrodAll enc P W' 0 (fun b=>decide (b < W.heap.size)) true ts vs ds ps
 | [],vs,ds,ps,h,_,_=>by
  obtain ⟨rfl,rfl,rfl⟩:=trodAll_nil h;rfl
 | t :: ts,vs,ds,ps,h,ht,hp=>by
  obtain ⟨v,vs1,d,ds1,a,b,rfl,rfl,rfl,h1,h2⟩:=trodAll_cons h;have hh:=ht t (List.mem_cons_self ..);exact ⟨a,b,Below.trod hl hh.1 hh.2 h1 hb (fun x hx=>hp x (List.mem_append.2 (.inl hx))),Jr hl hb h2 (fun t' h'=>ht t' (List.mem_cons_of_mem _ h')) (fun x hx=>hp x (List.mem_append.2 (.inr hx))),rfl⟩
end
theorem Es:ownKnob Tryz.prog.godebug=none:=by kernel_rfl
theorem Er:laidOutB Tryz.prog=true:=by kernel_rfl
theorem zE {os:Os} (started:os.Started) {H:Type} {enc:TypeId × Value→H} {spec:ChangeSpec} {f:Nat} {fn:Func} {sp:DK} {laid:List (String × DataW Unit)} (hS:DO PR B0 f sp) (hf:Tryz.prog.funcs[f]?=some fn)
  (hn:(fn.name == "runtime.NumGoroutine")=false) (hb:fn.body.isNone=false) (hini:Tryz.prog.inits.idxOf? f=none) (hres:fn.resultTypes = #[4]) (hvars:spec.vars=[])
  (hspec:∀ (ds:List (DataW H)),ds.length=fn.params.toList.length→spec.fn H ds={ results:=[.lit (.bool true)],args:=ds })
  (hpar:fn.params.toList.all (fun t=>Tryz.prog.readableRec t&&decide (t < Tryz.prog.types.size))=true)
  (hglob:∀ W:World,laidMetH Tryz.prog laid W→W.ShapedOpen Tryz.prog→Glob B0 W)
  (witness:∃ (w:World) (tape:Tape) (i:Input),w.os=os∧(w.forCall tape i).Shaped Tryz.prog∧i.vars=[]∧Input.okWide Tryz.prog (w.forCall tape i) .any w.heap.size f i ∧
   (OpenSpec.ofChange spec).preRow enc Tryz.prog fn [] false laid (w.forCall tape i).memory i.args∧({}:Assume).holds Tryz.prog (lone (Frame.enter Tryz.prog f i.args .normal) [] (w.forCall tape i)))
  (harg:∀ (W:World) (base:Nat) (vs:List Value) (ds:List (DataW H)) (p:List MemPlace),DataW.TrodAll enc Tryz.prog W 0 (fun _=>true) true fn.params.toList vs ds p →
   (∀ (j:Nat) t v,fn.params.toList[j]?=some t→vs[j]?=some v→Value.okWide Tryz.prog W .any base t v) →
   (∀ (j:Nat) t d,fn.params.toList[j]?=some t→ds[j]?=some d→∀ y∈d.weights Tryz.prog t,y≤reachBytes) →
   ∃ l:List V,(sp l).get=some (.bool true,[])∧FD l=none∧VRels γ0 [] W O0 (l.map D8) vs) :
  ReturnsInHanded {} Tryz.checked os f .any ((OpenSpec.ofChange spec).preRow enc Tryz.prog fn [] false laid) (spec.post enc Tryz.prog fn false true false false):=by
 refine returnsInHanded_of_row (C:=Tryz.checked) (s:=OpenSpec.ofChange spec) (F:=fun _ _ _=>0) Es started hini hf witness ?_;intro W base args ds gs before hval hW _ _ hwt hL hsh _;have hW':=hW;obtain ⟨p,q,hA,hV,rfl,_,_⟩:=hW;have hvars':(OpenSpec.ofChange spec).vars=[]:=hvars;rw [hvars'] at hV;obtain ⟨rfl,rfl⟩:=trodVars_none hV;have hlen:ds.length=fn.params.toList.length:=by
  have:∀ {ts:List TypeId} {vs:List Value} {ds:List (DataW H)} {ps:List MemPlace},DataW.TrodAll enc Tryz.prog W 0 (fun _=>true) true ts vs ds ps→ds.length=ts.length:=by
   intro ts
   induction ts with
   | nil=>intro vs ds ps h; obtain ⟨_,rfl,_⟩:=trodAll_nil h; rfl
   | cons t ts ih=>
    intro vs ds ps h;obtain ⟨v,vs1,d,ds1,a,b,rfl,rfl,rfl,h1,h2⟩:=trodAll_cons h;simp only [List.length_cons,ih h2]
  exact this hA
 simp only [List.append_nil] at hW' hwt;obtain ⟨l,hl,hbor,hrel⟩:=harg W base args.toList ds p hA (fun j t v h1 h2=>hval j t v (by simpa using h1) (by simpa using h2)) (fun j t d h1 h2 y hy=>by
  have hm:=n9 (P:=Tryz.prog) (ts:=fn.params.toList++(OpenSpec.ofChange spec).bare.plain.varTypes Tryz.prog) (ds:=ds) (i:=j) (t:=t) (d:=d) (by
   rw [List.getElem?_append_left (by rw [← hlen]; exact (List.getElem?_eq_some_iff.1 h2).1)];exact h1) h2 y hy
  have:=List.all_eq_true.1 hwt y hm
  simpa using this)
 have hc:=Pn hS hf hn hb hl hbor (hglob W hL hsh) hrel;have ea:args.toList.toArray=args:=by simp
 rw [ea] at hc;refine hc.mono ?_;rintro e W' ⟨rfl,bel⟩;have hfn:spec.fn H (ds++[])={ results:=[.lit (.bool true)],args:=ds }:=by rw [List.append_nil]; exact hspec ds hlen
 have hlt:∀ x∈p,x.block < W.heap.size:=fun x hx=>hW'.lt x hx
 have post:spec.post enc Tryz.prog fn false true false false W args (.bool true) W':=by
  refine ⟨ds,[],p,[],p,[],hW',?_,?_,?_,bel.frame _,fun h=>by cases h⟩
  ·rw [hfn,hres];exact trodAll_mk1 (shut_bool Tryz.underlying4 _)
  ·rw [hfn];exact Jr Er bel hA (fun t ht=>by
    have:=List.all_eq_true.1 hpar t ht
    simpa using this) hlt
  ·rw [hvars,hfn];rfl
 exact ⟨_,rfl,post⟩
end Go.FM
namespace Go.Proofs.YtlolknmmmnbbgaaGreatDoor
open Go Go.ChangeShapes Go.WideShapes Go.ChangeAt Go.RowKit Go.FM
theorem Es:ownKnob Tryz.prog.godebug=none:=by kernel_rfl
theorem Er:laidOutB Tryz.prog=true:=by kernel_rfl
abbrev V3:List (String × DataW Unit):=Rows.topNarrowRow.laid
noncomputable def pU (os:Os):World:=
 let w0:=World.doorLaid Tryz.prog 72 os
 { w0 with heap:=w0.heap.modify 4 fun
  | .cells _ t frozen=>.cells (Lib.firstTab.map fun z=>Value.int .u8 z).toArray t frozen
  | o=>o }
theorem Eu (os:Os) (args:Array Value):laidMetH Tryz.prog V3 ((pU os).forCall (fun _ _=>0) ⟨#[],args,[]⟩).memory:=
 laidMetH_of_parts3 (fuel:=8) (laidMet_of_run' 8 (by kernel_rfl) (by kernel_rfl)) (by kernel_rfl) (by kernel_rfl)
theorem Et {W:World} (hL:laidMetH Tryz.prog V3 W) (hsh:W.ShapedOpen Tryz.prog):Glob B0 W:=by
 have hL':laidMet Tryz.prog V3 W:=by
  rw [MakeChecks.laidMetH_plain _ _ _ (by kernel_rfl)] at hL;exact hL
 exact Up hL' hsh (n1 := "*errors.errorString") (n2 := "*errors.errorString") (.tail _ (.tail _ (.head _))) (.tail _ (.tail _ (.tail _ (.tail _ (.head _))))) (.tail _ (.tail _ (.tail _ (.tail _ (.tail _ (.head _))))))
end Go.Proofs.YtlolknmmmnbbgaaGreatDoor
namespace Go.FM
open Go Go.Proofs
def eJ (N:Nat):Env:=DV [(7,LL),(9,ZQ),(6,T3),(11,T5),(8,UA),(10,UB),(5,UR)] [(12,⟨[12,13,15,18,19,20,21,22,23,24,25,79],[13,24,25],[]⟩)] 136 N
def bV (k:Int) (g:Nat→DG):DG:=cond (decide (k=ic 0)) (g 0) (cond (decide (k=ic 1)) (g 1) (cond (decide (k=ic 2)) (g 2) (cond (decide (k=ic 3)) (g 3) (cond (decide (k=ic 4)) (g 4) none))))
abbrev Km (m:Md) (c a1 a2:Int) (a3:Bool) (b1 b2:Int) (b3:Bool) (p:Pt) (i:Int) (b:Bx):St:=
 ⟨[(12,(.bool false)),(13,(.ptr 13 0 0)),(15,(.int .i64 c)),(18,(.int .i64 a1)),(19,(.int .i64 a2)),(20,(.bool a3)),(21,(.int .i64 b1)),(22,(.int .i64 b2)),(23,(.bool b3)),(24,(.ptr 24 0 0)),(25,(.ptr 25 0 0)),(79,(.int .i64 i))],
  [(13,(some (.box (Md.cs m)))),(24,(some (.box (Pt.cs p)))),(25,(some (.box (Bx.cs b))))]⟩
noncomputable abbrev Nm (N:Nat):Out→St→DG:=DI 0 (DJ (eJ N) (DD fL [1,1,1,1,1,1,1,1,1,1,1,1]) (DL (eJ N) none [(BV 12)] [[.bool]]))
noncomputable abbrev sA (N:Nat) (m:Md) (c a1 a2:Int) (a3:Bool) (b1 b2:Int) (b3:Bool) (p:Pt):DG:=
 DR (eJ N) (DD fL [1,1,1,1,1,1,1,1,1,1,1,0,1,0,0]) ⟨[12,13,15,18,19,20,21,22,23,24,25,79],[13,24,25],[]⟩ N (Km m c a1 a2 a3 b1 b2 b3 p 0 OG) (Nm N)
noncomputable def oH (N:Nat) (m:Md) (c:Int) (b part:Bx) (l:LI):DG:=
 cond (!(J6 b 0)&&(!(J6 b 1)&&(!(J6 b 2)&&!(J6 b 3))))
  (sA N m c (HJ m c b 5000) (HI m c b 5000) (KR m c b 5000) (HJ m c part 5000) (HI m c part 5000) (KR m c part 5000) (gU b l)) none
theorem zbg (N:Nat) (f:Ft) (l:LI) (x y z:Int) (l5:LI):DQ (eJ N) fL [.tmp 12] [[.bool]] [(Ft.V f),(.list false [.z] l),(.int .i64 x),(.int .i64 y),(.int .i64 z),(.list false [.z] l5)] =
 (cond (decide (0≤Md.d (Ft.M f))&&decide (Md.d (Ft.M f)≤4))
 (cond (decide (I4 0 (AA AB (Md.c (Ft.M f) - 1))=0)) none
 (cond (decide (I4 0 (AA AB (Md.d (Ft.M f) - 1))=0)) none
 (bV (DS y 0 (AA AB (Md.d (Ft.M f) - 1))) fun i=>bV (DS y 0 (AA AB (Md.d (Ft.M f) - 1))) fun j=>
 cond (decide (I4 ((IJ (Md.d (Ft.M f)) l).g i).lo ((IJ (Md.d (Ft.M f)) l).g j).hi=0)) none
 (bV (DS y 0 (AA AB (Md.d (Ft.M f) - 1))) fun n=>
 oH N (Ft.M f) (DS x 0 (AA AB (Md.c (Ft.M f) - 1))) (IJ (Md.d (Ft.M f)) l) ((IJ (Md.d (Ft.M f)) l).p ⟨DS z ((IJ (Md.d (Ft.M f)) l).g i).lo ((IJ (Md.d (Ft.M f)) l).g j).hi,((IJ (Md.d (Ft.M f)) l).g n).hi⟩ n) l5))))
 none):=by kernel_rfl
open Go
theorem Cf {b:Bx} {k:Nat} (hk:k < 5) {w:Int} (h:(b.g k).lo≤w) {p:Pt} {t:Int} (hh:(b.p ⟨w,(b.g k).hi⟩ k).has p t=true):b.has p t=true:=by
 rw [JL] at hh ⊢;intro j hj;have h1:=hh j hj;rw [JK b _ hk hj] at h1;by_cases e:j=k
 ·subst e;rw [BJ rfl,IL] at h1;rw [IL];exact ⟨by have:=h1.1; show _≤_; exact Int.le_trans h this,h1.2⟩
 ·rw [A2 e] at h1;exact h1
def KO (p:Pt):Bx:=⟨⟨p.p0,p.p0⟩,⟨p.p1,p.p1⟩,⟨p.p2,p.p2⟩,⟨p.p3,p.p3⟩,⟨0,0⟩⟩
theorem pB (p:Pt):∀ {i:Nat},i < 5→(KO p).g i=⟨co p 0 i,co p 0 i⟩
 | 0,_=>rfl
 | 1,_=>rfl
 | 2,_=>rfl
 | 3,_=>rfl
 | 4,_=>rfl
 | i+5,h=>by omega
theorem zdu (p:Pt):(KO p).pnt:=fun i hi=>by rw [pB p hi]
theorem Da {p p':Pt} {t:Int} (h:(KO p).has p' t=true):p'=p:=by
 rw [JL] at h;have h0:=h 0 (by omega);have h1:=h 1 (by omega);have h2:=h 2 (by omega);have h3:=h 3 (by omega);rw [pB p (by omega),IL] at h0 h1 h2 h3;have e0:p'.p0=p.p0:=vbv h0.2 h0.1;have e1:p'.p1=p.p1:=vbv h1.2 h1.1;have e2:p'.p2=p.p2:=vbv h2.2 h2.1;have e3:p'.p3=p.p3:=vbv h3.2 h3.1;obtain ⟨a,b,c,d⟩:=p;obtain ⟨a',b',c',d'⟩:=p';obtain rfl:a'=a:=e0;obtain rfl:b'=b:=e1;obtain rfl:c'=c:=e2;obtain rfl:d'=d:=e3;rfl
theorem SL {b:Bx} (hb:b.good) (l:LI) {i:Nat} (hi:i < 5):J6 b i=false∧(b.g i).lo≤LU b l i∧LU b l i≤(b.g i).hi:=by
 have h:=hb i hi;have e:max (b.g i).lo (b.g i).hi=(b.g i).hi:=by omega
 obtain ⟨w1,w2,w3⟩:=JG (n:=ED l (i:Int)) (lo:=(b.g i).lo) (hi:=(b.g i).hi) (by omega) (by omega) (by omega);unfold J6 LU;rw [e,w1];exact ⟨AL (by omega),w2,w3⟩
theorem Zl {b:Bx} (hb:b.good) (l:LI):(KO (gU b l)).good:=fun i hi=>by
 rw [pB _ hi]
 match i,hi with
 | 0,_=>have h:=hb 0 (by omega); have g:=(SL hb l (i:=0) (by omega)).2; exact ⟨by show _≤LU b l 0; omega,CF _,by show LU b l 0≤_; omega⟩
 | 1,_=>have h:=hb 1 (by omega); have g:=(SL hb l (i:=1) (by omega)).2; exact ⟨by show _≤LU b l 1; omega,CF _,by show LU b l 1≤_; omega⟩
 | 2,_=>have h:=hb 2 (by omega); have g:=(SL hb l (i:=2) (by omega)).2; exact ⟨by show _≤LU b l 2; omega,CF _,by show LU b l 2≤_; omega⟩
 | 3,_=>have h:=hb 3 (by omega); have g:=(SL hb l (i:=3) (by omega)).2; exact ⟨by show _≤LU b l 3; omega,CF _,by show LU b l 3≤_; omega⟩
 | 4,_=>exact ⟨by show (-2147483648:Int)≤0; omega,CF _,by show (0:Int)≤2147483647; omega⟩
 | i+5,h=>omega
theorem zdJ {m:Md} (hm:EQ m=true) {c:Int} (hc:GR m c=true) {p:Pt} (hg:(KO p).good) {z:Int} (hz:1≤z):KR m c (KO p) z=true∧HJ m c (KO p) z=D4 m c p∧HI m c (KO p) z=D4 m c p:=by
 have hs:=L6 hm hc hg.emp;have h1:=zdM hs hg.ok (zdu p) hz;obtain ⟨⟨p1,t1,a1,b1⟩,⟨p2,t2,a2,b2⟩⟩:=(jC hs hg.ok z).one h1;rw [Da a1] at b1;rw [Da a2] at b2;exact ⟨h1,b1,b2⟩
theorem zdL {m:Md} (hm:EQ m=true) {c:Int} (hc:GR m c=true) {b:Bx} (hb:b.good) {k:Nat} (hk:k < 5) {w:Int} (h1:(b.g k).lo≤w) (h2:w≤(b.g k).hi) (z:Int) (ho:KR m c (b.p ⟨w,(b.g k).hi⟩ k) z=true) :
  HJ m c b z≤HJ m c (b.p ⟨w,(b.g k).hi⟩ k) z∧HI m c (b.p ⟨w,(b.g k).hi⟩ k) z≤HI m c b z:=by
 have hk':=hb k hk;have hg:(b.p ⟨w,(b.g k).hi⟩ k).good:=Q9 hb (s:=⟨w,(b.g k).hi⟩) ⟨by show _≤w; omega,h2,hk'.2.2⟩ hk;obtain ⟨⟨p1,t1,a1,b1⟩,⟨p2,t2,a2,b2⟩⟩:=(jC (L6 hm hc hg.emp) hg.ok z).one ho;have hall:=(jC (L6 hm hc hb.emp) hb.ok z).all;rw [b1,b2];exact ⟨(hall p1 t1 (Cf hk h1 a1)).1,(hall p2 t2 (Cf hk h1 a2)).2⟩
open Go Go.Proofs
theorem zbC (b:Bx) (l:LI):DQ (Le 6) tV [.cell 4 40] [[.z,.z,.z,.z]] [b.V,.list false [.z] l] =
 cond (J6 b 0) none (cond (J6 b 1) none (cond (J6 b 2) none (cond (J6 b 3) none (some ((gU b l).V,[]))))):=by kernel_rfl
theorem zez:DO PR B0 9 ZQ:=by
 refine DX [(7,LL),(15,OC)] [(3,⟨[1,2,4,5,7],[2,4,5],[]⟩)] ZQ [[.z,.z,.z,.z]] Tryz.func9 Wb ⟨YD,jK,trivial⟩ ?_;intro vs r hwf h;unfold ZQ at h;split at h
 ·rename_i b l;replace h:=HK h;obtain ⟨b,rfl,h⟩:=h;cases hg:(!(J6 b 0)&&(!(J6 b 1)&&(!(J6 b 2)&&!(J6 b 3)))) with
  | false=>rw [hg] at h; simp [R.get] at h
  | true=>
  rw [hg,R.get_br,DB,R.get_ok] at h;refine ⟨6,(zbC b l).trans ?_⟩;simp only [AG,BW] at hg;rw [hg.1,hg.2.1,hg.2.2.1,hg.2.2.2];exact h
 ·simp [R.get] at h
open Go Go.Proofs
def iN (al e1 e2:Bool):DG:=cond al (cond e1 (cond e2 (some (.bool true,[])) (some (.bool false,[]))) (some (.bool false,[]))) (some (.bool false,[]))
theorem zcF (m:Md) (c a1 a2:Int) (a3:Bool) (b1 b2:Int) (b3:Bool) (p:Pt):sA 6 m c a1 a2 a3 b1 b2 b3 p =
 cond (!a3) (iN (KR m c (KO p) 5000) (HJ m c (KO p) 5000==D4 m c p) (HI m c (KO p) 5000==D4 m c p))
 (cond (!b3) (iN (KR m c (KO p) 5000) (HJ m c (KO p) 5000==D4 m c p) (HI m c (KO p) 5000==D4 m c p))
 (cond (decide (a1≤b1)) (cond (decide (b2≤a2)) (iN (KR m c (KO p) 5000) (HJ m c (KO p) 5000==D4 m c p) (HI m c (KO p) 5000==D4 m c p)) (some (.bool false,[]))) (some (.bool false,[])))):=by kernel_rfl
theorem mT (k:Nat) (hk:k < 3) (g:Nat→DG):bV (k:Int) g=g k:=by
 unfold bV
 match k,hk with
 | 0,_=>rfl
 | 1,_=>rfl
 | 2,_=>rfl
 | k+3,h=>omega
theorem zcE (f:Ft) (l l5:LI) {c:Int} (hc:0≤c∧c < f.M.c) {k:Nat} (hk:k < 5) {w:Int} (h1:((IJ f.M.d l).g k).lo≤w) (h2:w≤((IJ f.M.d l).g k).hi) :
  oH 6 f.M c (IJ f.M.d l) ((IJ f.M.d l).p ⟨w,((IJ f.M.d l).g k).hi⟩ k) l5=some (.bool true,[]):=by
 have hm:=kR f;have hg:=i8 (pN f.M.d l);generalize IJ f.M.d l=b at h1 h2 hg ⊢;have hcls:=U9 hc.1 hc.2;obtain ⟨e1,e2,e3⟩:=zdJ hm hcls (Zl hg l5) (z:=5000) (by omega);have hpart:=zdL hm hcls hg hk h1 h2 5000;unfold oH;rw [(SL hg l5 (i:=0) (by omega)).1,(SL hg l5 (i:=1) (by omega)).1,(SL hg l5 (i:=2) (by omega)).1,(SL hg l5 (i:=3) (by omega)).1];simp only [A9,BH,DB];rw [zcF,e1,e2,e3];unfold iN;simp only [vbC,DB];cases KR f.M c b 5000 with
 | false=>rfl
 | true=>
  cases ho:KR f.M c (b.p ⟨w,(b.g k).hi⟩ k) 5000 with
  | false=>rfl
  | true=>
   obtain ⟨g1,g2⟩:=hpart ho;rw [AF g1,AF g2];rfl
theorem zeE:DO PR B0 3 kS:=by
 refine DX [(7,LL),(9,ZQ),(6,T3),(11,T5),(8,UA),(10,UB),(5,UR)] [(12,⟨[12,13,15,18,19,20,21,22,23,24,25,79],[13,24,25],[]⟩)] kS [[.bool]] Tryz.func3 Wj ⟨YD,zez,Fk,Fm,Fw,Fy,Fe,trivial⟩ ?_;intro vs r hwf h;unfold kS at h;split at h
 ·rename_i f l x y z l5;replace h:=rT h;obtain ⟨f,rfl,h⟩:=h;rw [R.get_ok] at h;refine ⟨6,(zbg 6 f l x y z l5).trans ?_⟩;rw [← h];have hd:1≤f.M.d∧f.M.d≤3:=bQ f.d;have hc:1≤f.M.c∧f.M.c≤3:=fT f.c;obtain ⟨c1,c2,c3⟩:=JG (n:=x) (lo:=0) (hi:=f.M.c - 1) (by omega) (by omega) (by omega);obtain ⟨d1,d2,d3⟩:=JG (n:=y) (lo:=0) (hi:=f.M.d - 1) (by omega) (by omega) (by omega);have wc:AA AB (f.M.c - 1)=f.M.c - 1:=EA (by omega) (by omega);have wd:AA AB (f.M.d - 1)=f.M.d - 1:=EA (by omega) (by omega);rw [wc,wd,AF (show 0≤f.M.d by omega),AF (show f.M.d≤4 by omega),AL (show ¬ I4 0 (f.M.c - 1)=0 by omega),AL (show ¬ I4 0 (f.M.d - 1)=0 by omega)];simp only [BH,DB,DC];obtain ⟨k,hk⟩:∃ k:Nat,DS y 0 (f.M.d - 1)=(k:Int):=⟨(DS y 0 (f.M.d - 1)).toNat,by omega⟩;rw [hk] at d2 d3 ⊢;have hk3:k < 3:=by omega
  rw [mT k hk3,mT k hk3];have hg:=i8 (pN f.M.d l) k (by omega);obtain ⟨w1,w2,w3⟩:=JG (n:=z) (lo:=((IJ f.M.d l).g k).lo) (hi:=((IJ f.M.d l).g k).hi) hg.2.1 (by omega) (by omega);rw [AL (show ¬ I4 ((IJ f.M.d l).g k).lo ((IJ f.M.d l).g k).hi=0 by omega),DC,mT k hk3];exact zcE f l l5 ⟨c2,by omega⟩ (by omega) w2 w3
 ·simp [R.get] at h
end Go.FM
