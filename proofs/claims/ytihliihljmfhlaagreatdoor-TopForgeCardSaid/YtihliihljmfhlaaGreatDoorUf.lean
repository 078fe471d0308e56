/-
  A small machine that reckons what a call comes to; the functions of the program, one by one. (CELLS: a box parted at all of its cuts: each cell has no cut, A FOREST HAS FEW CELLS TO COUNT. No program in sight., WHAT IS BELIEVED OF ANY REPORT IS TRUE: of a forest and of q, and so on.)
-/
import Derived.Test.YtihliihljmfhlaaGreatDoorUe
import Derived.Lib.LaidU8
import Derived.OpenShut
import Derived.ProofKit
import Derived.LaidMore
import Derived.Test.YtihliihljmfhlaaGreatDoorTie
import Derived.Test.YtihliihljmfhlaaGreatDoorCards
import Derived.Deep.DeepWitnessRowRef
set_option linter.all false
set_option maxRecDepth 100000
open Array renaming length_toList→CQ,getElem?_eq_some_iff→C7
open Bool renaming and_eq_true→AI,not_true→A1,not_false→A6,true_and→BC,false_and→BM,and_self→BY,and_true→CJ,or_eq_true→vaz
open ByteArray renaming size→AG,size_append→A3
open Go.DataW renaming weights→vbq,weightsEach→vbD
open Go.Lib.laidMet renaming reads→vbo
open Go.ResultVar renaming tmp→CD
open Go.World renaming cell?→vaF
open Int renaming toNat→AD,toNat_natCast→BE,le_refl→DA
open List renaming length→AF,take→AK,drop→AO,mem_cons_self→AR,mem_cons→AS,length_append→AU,mem_append→AV,mem_cons_of_mem→AY,map_cons→AZ,getElem?_eq_getElem→A5,length_take→A7,length_nil→BB,take_length→BI,getElem?_eq_some_iff→BL,length_map→BQ,getElem?_eq_none→BU,mem_singleton→BX,drop_zero→BZ,getElem?_cons_zero→B2,getElem?_map→B9,mem_map→CN,all_eq_true→CS,take_of_length_le→CX,cons_append→C3,getElem_mem→C4,mem_of_getElem?→vab,nil_append→vac,mem_of_mem_take→vag,append_assoc→var,getElem?_append→vax,mem_of_mem_drop→vay,range→vaE,mem_map_of_mem→vaU,mem_range→va6,rel_of_pairwise_cons→vba
open List.Pairwise renaming of_cons→va9
open Nat renaming le_of_ble_eq_true→AM,le_refl→AW,zero_add→BJ,beq→BO,ble→B6,zero_le→B7,ble_eq_true_of_le→CP,le_trans→CW,sub_zero→vaj,eq_of_beq_eq_true→vap
open Option renaming map_eq_some_iff→DD,getD_some→van,getD→vav
open Option.some renaming injEq→AC,inj→B3
open Prod.mk renaming injEq→AQ
namespace Go.FM
open Go
theorem zN:∀ (l:List Int) (p:Int),(p :: l).Pairwise (·≤·)→(JX p l).Pairwise (· < ·)∧∀ y∈JX p l,p < y
 | [],p,_=>by simp [JX]
 | x :: r,p,h=>by
  have hpx:p≤x:=vba h (AR ..);have ih:=zN r x (va9 h);rw [JX];cases hx:x==p with
  | true=>
   have:x=p:=by simpa using hx
   subst this;exact ih
  | false=>
   have hne:x≠p:=by simpa using hx
   rw [DG];refine ⟨List.Pairwise.cons (fun y hy=>ih.2 y hy) ih.1,fun y hy=>?_⟩;rcases AS.1 hy with rfl | hy
   ·omega
   ·have:=ih.2 y hy
    omega
theorem Vo {l:List Int} (h:l.Pairwise (·≤·)):(I2 l).Pairwise (· < ·):=by
 cases l with
 | nil=>simp [I2]
 | cons x r=>
  rw [I2]
  have:=zN r x h
  exact List.Pairwise.cons (fun y hy=>this.2 y hy) this.1
theorem Af (m:Md) (q:Qy) (b:Bx) (i:Nat):(E2 m q b i).Pairwise (· < ·):=by
 unfold E2;cases decide (H6 q (i:Int) < 0) with
 | true=>simp
 | false=>
  rw [DG];unfold KY I7;exact (Vo (tE _)).filter _
theorem Vu {b:Bx} {j:Nat} (hj:j < 5) {a:Int} (h1:(b.g j).lo≤a) (h2:a < (b.g j).hi) {k:Nat} (hk:k < 5):(b.cutL (j:Int) a).g k=if k=j then ⟨(b.g j).lo,a⟩ else b.g k:=by
 unfold Bx.cutL;rw [BE,LE b _ hj hk];by_cases h:k=j
 ·rw [BR h,BR h];unfold Sp.cutL MQ;rw [show min (b.g j).hi a=a by omega,AL (show ¬ (b.g j).lo > a by omega),DG]
 ·rw [A9 h,A9 h]
theorem zZ {b:Bx} (hb:b.good) {j:Nat} (hj:j < 5) {a:Int} (h1:(b.g j).lo≤a) (h2:a < (b.g j).hi) {k:Nat} (hk:k < 5):(b.cutH (j:Int) a).g k=if k=j then ⟨a+1,(b.g j).hi⟩ else b.g k:=by
 have hg:=hb j hj;have e:FD (a+1)=a+1:=EI (by omega) (by omega);unfold Bx.cutH;rw [BE,LE b _ hj hk];by_cases h:k=j
 ·rw [BR h,BR h];unfold Sp.cutH;rw [AL (show ¬ a≥(b.g j).hi by omega),DG,e];unfold MQ;rw [show max (b.g j).lo (a+1)=a+1 by omega,AL (show ¬ a+1 > (b.g j).hi by omega),DG]
 ·rw [A9 h,A9 h]
theorem zY {j:Nat} (hj:j < 5):∀ (L:List Int) (c:Bx),c.good→L.Pairwise (· < ·)→(∀ a∈L,(c.g j).lo≤a∧a < (c.g j).hi)→∀ d∈NW j c L,
  d.good∧(∀ k,k < 5→k≠j→d.g k=c.g k)∧(c.g j).lo≤(d.g j).lo∧(d.g j).hi≤(c.g j).hi∧∀ a∈L,¬ ((d.g j).lo≤a∧a < (d.g j).hi)
 | [],c,hc,_,_,d,hd=>by
  obtain rfl:=BX.1 hd;exact ⟨hc,fun _ _ _=>rfl,DA _,DA _,fun a ha=>by cases ha⟩
 | a :: r,c,hc,hp,hin,d,hd=>by
  have ha:=hin a (AR ..);have hlt:∀ x∈r,a < x:=fun x hx=>vba hp hx
  rcases AS.1 hd with rfl | hd
  ·have e:=fun {k} hk=>Vu (b:=c) hj ha.1 ha.2 (k:=k) hk
   refine ⟨z7 hc hj ha.1 ha.2,fun k hk hne=>by rw [e hk,A9 hne],?_,?_,fun x hx=>?_⟩
   ·rw [e hj,BR rfl]; exact DA _
   ·rw [e hj,BR rfl]; show a≤_; omega
   ·rw [e hj,BR rfl];show ¬ (_∧x < a);rcases AS.1 hx with rfl | hx
    ·omega
    ·have:=hlt x hx; omega
  ·have e:=fun {k} hk=>zZ (b:=c) hc hj ha.1 ha.2 (k:=k) hk
   have ej:(c.cutH (j:Int) a).g j=⟨a+1,(c.g j).hi⟩:=by rw [e hj,BR rfl]
   obtain ⟨d1,d2,d3,d4,d5⟩:=zY hj r _ (n7 hc hj ha.1 ha.2) (va9 hp) (fun x hx=>by
    rw [ej];have h1:=hlt x hx;have h2:=hin x (AY _ hx);exact ⟨by show a+1≤x; omega,h2.2⟩) d hd
   rw [ej] at d3 d4;replace d3:a+1≤(d.g j).lo:=d3;replace d4:(d.g j).hi≤(c.g j).hi:=d4;refine ⟨d1,fun k hk hne=>by rw [d2 k hk hne,e hk,A9 hne],by omega,d4,fun x hx=>?_⟩;rcases AS.1 hx with rfl | hx
   ·omega
   ·exact d5 x hx
theorem zW {j:Nat} (hj:j < 5):∀ (L:List Int) (c:Bx),c.good→L.Pairwise (· < ·)→(∀ a∈L,(c.g j).lo≤a∧a < (c.g j).hi)→∀ (p:Pt) (t:Int),c.has p t=true→∃ d∈NW j c L,d.has p t=true
 | [],c,_,_,_,p,t,h=>⟨c,BX.2 rfl,h⟩
 | a :: r,c,hc,hp,hin,p,t,h=>by
  have ha:=hin a (AR ..);have hlt:∀ x∈r,a < x:=fun x hx=>vba hp hx
  have hg:=hc j hj;by_cases hle:co p t j≤a
  ·exact ⟨_,AR ..,(i8 hj).2 ⟨h,hle⟩⟩
  ·have ej:(c.cutH (j:Int) a).g j=⟨a+1,(c.g j).hi⟩:=by rw [zZ hc hj ha.1 ha.2 hj,BR rfl]
   obtain ⟨d,hd,hb⟩:=zW hj r _ (n7 hc hj ha.1 ha.2) (va9 hp) (fun x hx=>by
    rw [ej];have h1:=hlt x hx;have h2:=hin x (AY _ hx);exact ⟨by show a+1≤x; omega,h2.2⟩) p t ((i7 hc.ok hj (by omega)).2 ⟨h,by omega⟩)
   exact ⟨d,AY _ hd,hb⟩
structure CellAt (m:Md) (q:Qy) (b:Bx) (j:Nat) (c:Bx):Prop where
 good:c.good
 sub:∀ k,k < 5→(b.g k).lo≤(c.g k).lo∧(c.g k).hi≤(b.g k).hi
 rest:∀ k,k < 5→j≤k→c.g k=b.g k
 done:∀ k,k < j→E2 m q c k=[]
theorem iU {m:Md} {q:Qy} {b:Bx} (hb:b.good):∀ (j:Nat),j≤5→∀ c∈JV m q b j,CellAt m q b j c
 | 0,_,c,hc=>by
  obtain rfl:=BX.1 hc;exact ⟨hb,fun _ _=>⟨DA _,DA _⟩,fun _ _ _=>rfl,fun k hk=>by omega⟩
 | j+1,hj5,d,hd=>by
  have hj:j < 5:=by omega
  rw [JV] at hd;obtain ⟨c,hc,hd⟩:=List.mem_flatMap.1 hd;have h:=iU hb j (by omega) c hc;have hcj:c.g j=b.g j:=h.rest j hj (AW _);obtain ⟨d1,d2,d3,d4,d5⟩:=zY hj (E2 m q b j) c h.good (Af m q b j) (fun a ha=>by
   rw [hcj]; exact (dY.1 ha).2.2) d hd
  rw [hcj] at d3 d4;refine ⟨d1,fun k hk=>?_,fun k hk hjk=>?_,fun k hk=>?_⟩
  ·by_cases e:k=j
   ·subst e; exact ⟨d3,d4⟩
   ·rw [d2 k hk e]; exact h.sub k hk
  ·rw [d2 k hk (by omega)]; exact h.rest k hk (by omega)
  ·by_cases e:k=j
   ·subst e;cases hq:E2 m q d k with
    | nil=>rfl
    | cons a r=>
     exfalso;have ha:a∈E2 m q d k:=by rw [hq]; exact AR ..
     obtain ⟨f1,f2,f3,f4⟩:=dY.1 ha;exact d5 a (dY.2 ⟨f1,f2,by omega,by omega⟩) ⟨f3,f4⟩
   ·rw [Wc (m:=m) (q:=q) (d2 k (by omega) e)];exact h.done k (by omega)
theorem zC {m:Md} {q:Qy} {b:Bx} (hb:b.good) {p:Pt} {t:Int} (h:b.has p t=true):∀ (j:Nat),j≤5→∃ c∈JV m q b j,c.has p t=true
 | 0,_=>⟨b,BX.2 rfl,h⟩
 | j+1,hj5=>by
  have hj:j < 5:=by omega
  obtain ⟨c,hc,hcb⟩:=zC hb h j (by omega);have hk:=iU (m:=m) (q:=q) hb j (by omega) c hc;have hcj:c.g j=b.g j:=hk.rest j hj (AW _);obtain ⟨d,hd,hdb⟩:=zW hj (E2 m q b j) c hk.good (Af m q b j) (fun a ha=>by
   rw [hcj]; exact (dY.1 ha).2.2) p t hcb
  exact ⟨d,List.mem_flatMap.2 ⟨c,hc,hd⟩,hdb⟩
theorem Ve {m:Md} {q:Qy} {b c:Bx} (h:CellAt m q b 5 c) {p:Pt} {t:Int} (hc:c.has p t=true):b.has p t=true:=by
 rw [NS] at hc ⊢;intro i hi;have h1:=hc i hi;have h2:=h.sub i hi;rw [LX] at h1 ⊢;omega
theorem zch {m:Md} {q:Qy} (hr:FH m q=true) (h:∀ p t,(EV q).has p t=true→GJ m q p t=false):KX m q=true:=by
 unfold KX;rw [CS];intro c hc;have hcell:=iU (m:=m) (q:=q) (gN hr) 5 (AW _) c hc;rw [h c.low c.s4.hi (Ve hcell (YO c hcell.good.emp))];rfl
theorem zci {m:Md} {q:Qy} (hr:FH m q=true) (h:KX m q=true) {p:Pt} {t:Int} (hb:(EV q).has p t=true):GJ m q p t=false:=by
 obtain ⟨c,hc,hcb⟩:=zC (m:=m) (q:=q) (gN hr) hb 5 (AW _);have hcell:=iU (m:=m) (q:=q) (gN hr) 5 (AW _) c hc;have h1:=CS.1 h c hc;rcases Vc hr hcell.good.emp hcell.good.ok (fun i hi=>hcell.done i hi) with hcl | hbr
 ·exact zK hcell.good.ok hcl hcb
 ·rw [hbr] at h1; cases h1
theorem Hl {m:Md} {q:Qy} {v:Vd} (h:NB m q v=true):(v.kind=1→KX m q=true)∧(v.kind=2→KX m q=false):=by
 refine ⟨fun hk=>?_,fun hk=>?_⟩
 ·have hr:FH m q=true:=by
   unfold NB at h;exact (AI _ _ ▸ h:_∧_).1
  exact zch hr fun p t hh=>zgg h hk hh
 ·obtain ⟨hr,hh,hb⟩:=zgf h hk;cases hc:KX m q with
  | false=>rfl
  | true=>
   have:=zci hr hc hh
   rw [hb] at this;cases this
open Go
theorem zR {m:Md} {q:Qy} {b:Bx} {k:Nat} (h:∀ j,(E2 m q b j).length≤k):∀ j,F5 m q b j≤(k+1) ^ j
 | 0=>AW _
 | j+1=>by
  rw [F5,Nat.pow_succ];exact Nat.mul_le_mul (zR h j) (by have:=h j; omega)
theorem Bf (f:Ft) (q:Qy) (b:Bx):KW f.M q b=true:=by
 have h1:∀ j,(E2 f.M q b j).length≤60:=fun j=>CW (YW ..) (CW (r7 ..) (Bq f))
 have h2:=zR h1 5;unfold KW;rw [mV f,CP (CW h2 (by decide))];rfl
open Go
theorem jJ (m:Md) (q:Qy):0≤(N0 m q).bu∧(N0 m q).bu≤65536:=by
 show 0≤cond (HB m q (EV q) 1500) 0 (2*ic (F5 m q (EV q) 5))∧cond (HB m q (EV q) 1500) 0 (2*ic (F5 m q (EV q) 5))≤65536;cases h:HB m q (EV q) 1500 with
 | true=>exact ⟨DA _,by show (0:Int)≤65536; omega⟩
 | false=>
  unfold HB at h;have h:=BH h;rw [DG];simp only [ic] at h ⊢;omega
theorem Wy (f:Ft) (a:Ak):Sits f.M (N0 f.M (GY a f.M)):=(zhf f a (jJ _ _).1 (jJ _ _).2).1
theorem Ap {m:Md} (h:SX m=true) (a:Ak):(E6 (N0 m (GY a m)) m.d).size≤2000:=Tp h a (jJ _ _).1 (jJ _ _).2
theorem vP {m:Md} {d:Int}:∀ {vs:LI} {Q:List Qy},TT m vs (Q.map fun q=>IV.str (E6 q d))=true→vs.length=Q.length→∀ i (h1:i < vs.length) (h2:i < Q.length),SB m (E6 Q[i] d) (L0 vs[i])=true
 | [],_,_,_,i,h1,_=>absurd h1 (by simp)
 | v :: r,[],_,hl,_,_,_=>by simp at hl
 | v :: r,q :: Q,hb,hl,i,h1,h2=>by
  rw [AZ,TT,AI] at hb;cases i with
  | zero=>exact hb.1
  | succ i=>exact vP (vs:=r) (Q:=Q) hb.2 (by simpa using hl) i (by simpa using h1) (by simpa using h2)
theorem Tu {m:Md} {q:Qy} (hs:Sits m q) {v:Vd} (h:SB m (E6 q m.d) v=true):(v.kind==4)=false∧(v.kind=1→KX m q=true)∧(v.kind=2→KX m q=false):=by
 have ho:YH m (E6 q m.d)=true:=by
  unfold YH;rw [hs.ask,hs.qq,hs.dd,hs.right];simp
 unfold SB at h;rw [ho,DE,hs.qq] at h;cases h3:v.kind==3 with
 | true=>
  have e:v.kind=3:=by simpa using h3
  rw [e];exact ⟨rfl,fun h=>by omega,fun h=>by omega⟩
 | false=>
  rw [h3,DG] at h;cases h12:(v.kind==1||v.kind==2) with
  | false=>rw [h12,DG] at h; cases h
  | true=>
   rw [h12,DE,AI,AI] at h;have hp:=h.2.2;refine ⟨?_,(Hl hp).1,(Hl hp).2⟩;simp only [vaz,B8] at h12;rcases h12 with h | h <;> rw [h] <;> rfl
theorem zaa {m:Md} (hm:EP m=true) (hw:gY m) {Q:List Qy} (hs:∀ q∈Q,Sits m q) {r:BA} (h:UQ (H3 m) (J7 m.d EF Q) r=true) :
  ∃ vs,IY r=some vs∧vs.length=Q.length∧∀ i (h1:i < vs.length) (h2:i < Q.length),((L0 vs[i]).kind==4)=false∧((L0 vs[i]).kind=1→KX m Q[i]=true)∧((L0 vs[i]).kind=2→KX m Q[i]=false):=by
 obtain ⟨t1,t2⟩:=zi6 hm hw;unfold UQ at h;rw [t1,DE,t2,zgt] at h;cases ht:IY r with
 | none=>rw [ht] at h; cases h
 | some vs=>
  rw [ht] at h;replace h:(ic vs.length==ic (Q.map fun q=>IV.str (E6 q m.d)).length&&TT m vs (Q.map fun q=>IV.str (E6 q m.d)))=true:=h;rw [AI] at h;have hl:vs.length=Q.length:=by
   have h1:=h.1;rw [BQ] at h1;have h1:ic vs.length=ic Q.length:=by simpa using h1
   simp only [ic] at h1;omega
  exact ⟨vs,rfl,hl,fun i h1 h2=>Tu (hs _ (C4 h2)) (vP h.2 hl i h1 h2)⟩
theorem zjx {y:IV} (h:S7 Q1 (FS true y) 0):(L0 y).rng:=by
 simp only [S7,U9,FS] at h;obtain ⟨_,⟨_,h1⟩,h2,h3,h4,h5,h6,h7,_⟩:=h;refine { w0:=h2,w1:=h3,w2:=h4,w3:=h5,twin:=h6,spent:=h7,proof:=fun x hx=>?_ };obtain ⟨_,g1,g2,_⟩:=h1 x hx;exact ⟨g1,g2⟩
open Go Go.Proofs
def O7 (m:Md) (l:LI):List Qy:=l.map fun x=>N0 m (GY (NP x) m)
theorem zgq (m:Md) (x:IV) (r:LI):O7 m (x :: r)=N0 m (GY (NP x) m) :: O7 m r:=rfl
theorem zgr (f:Ft) (l:LI):∀ q∈O7 f.M l,Sits f.M q:=fun q h=>by
 obtain ⟨x,_,rfl⟩:=CN.1 h;exact Wy f (NP x)
theorem zgs {m:Md} (hm:SX m=true) (l:LI):∀ q∈O7 m l,(E6 q m.d).size≤2000:=fun q h=>by
 obtain ⟨x,_,rfl⟩:=CN.1 h;exact Ap hm (NP x)
abbrev eR:List Can:=[⟨(.tmp 14),57,39,true,W5⟩]
theorem Br (N:Nat) (f:Ft) (l vs:LI) (own:Bool) (r:BA) (T:BA→LI→DJ) (K:Out→St→DJ) (hx:∀ s x O,K (.exit 0) (RR f l vs own false s r O.length x O)=T s O) :
  ∀ (d i n:Nat) (s:BA) (O:LI),i+d=4→d < n→s.size≤2001*i→O.length=i →
   DT (G3 N) (DF IR [1,1,1,1,0,1,0,0]) ⟨[1,2,4,10,11,12,13,14,15],[11,57],eR⟩ n (RR f l vs own false s r O.length (i:Int) O) K =
    T (J7 f.M.d s (O7 f.M ((l.take 4).drop i))) (O++(O7 f.M ((l.take 4).drop i)).map Qy.I)
 | d,i,n+1,s,O,hd,hn,h8,hO=>by
  have hdone:∀ y,K (.exit 0) (RR f l vs own false s r O.length y O)=T (J7 f.M.d s (O7 f.M [])) (O++(O7 f.M []).map Qy.I):=fun y=>by
   rw [hx];simp [O7,J7]
  rw [DX,ziR];by_cases hi:i < l.length
  ·by_cases hk:i < 4
   ·obtain ⟨d,rfl⟩:∃ e,d=e+1:=⟨d - 1,by omega⟩;have hp:=Ap (mU f) (NP l[i]);rw [H0 hi,IH,IS hi,AE (show ((i:Nat):Int) < 4 by omega),mU,Bf,GQ (by omega)];rw [zi3 hi hk,zgq,J7,AZ (f:=Qy.I)];generalize N0 f.M (GY (NP l[i]) f.M)=q at hp ⊢;have g1:(s++E6 q f.M.d).size=s.size+(E6 q f.M.d).size:=A3;have e1:FC.size=1:=rfl;rw [AE (show (O.length+1)*136≤D6 by unfold D6; omega)];rw [AE (show s.size+(E6 q f.M.d).size≤strMax by unfold strMax; omega)];rw [AE (show (s++E6 q f.M.d).size+AG { data:=#[10] }≤strMax by rw [g1]; unfold strMax; show _+FC.size≤_; omega)];rw [BI];simp only [DE,CJ];have ih:=Br N f l vs own r T K hx d (i+1) n (s++E6 q f.M.d++FC) (O++[q.I]) (by omega) (by omega) (by rw [A3,A3]; omega) (by simp; omega);rw [AU,var] at ih;exact ih
   ·rw [H0 hi,AL (show ¬ ((i:Nat):Int) < 4 by omega),DE,DG,Nt (by omega)];exact hdone _
  ·rw [IT (by omega),DG,Nt (by omega)];exact hdone _
 | _,_,0,_,_,_,h,_,_=>by omega
theorem Wo {i:Nat} (h:i < 10):(I3 (i:Int)).size≤21:=by
 rw [Wn h];exact zcp i (by omega)
theorem zjw:(⟨4,[],0,0,0,0,0,0⟩:Vd).rng:=zjM.2
theorem Bs (N:Nat) (f:Ft) (vs:LI) (hv:∀ y∈vs,(L0 y).rng) (q:BA) (O:LI) (hO:O.length≤4) (Z:DJ) (K:Out→St→DJ) (hx:∀ s x,s.size≤16001000→K (.exit 2) (RS f vs false q s O.length (ic (O.length - 0)) x O)=Z) :
  ∀ (d i n:Nat) (s:BA),i+d=O.length→d < n→s.size≤4000050*i →
   DT (G3 N) (DF IR [1,1,1,1,1,0,1,0,1,1,0,0]) ⟨[2,10,11,12,13,14,67,68],[11,57],eR⟩ n (RS f vs false q s O.length (ic (O.length - 0)) (i:Int) O) K=Z
 | 0,i,n+1,s,hd,_,hs=>by
  rw [DX,Mh,AL (show ¬ ((i:Nat):Int) < ic (O.length - 0) by simp only [ic]; omega),DG];exact hx _ _ (by omega)
 | d+1,i,n+1,s,hd,hn,hs=>by
  have hdg:=Wo (show i < 10 by omega);have e1:FC.size=1:=rfl;have e2:L4.size=6:=rfl;have a1:(s++L4).size=s.size+6:=by rw [A3,e2]
  have a2:(s++L4++I3 (i:Int)).size=s.size+6+(I3 (i:Int)).size:=by rw [A3,a1]
  have a3:(s++L4++I3 (i:Int)++FC).size=s.size+6+(I3 (i:Int)).size+1:=by rw [A3,a2,e1]
  have b1:decide (s.size+AG { data:=#[113,117,101,114,121,32] }≤strMax)=true:=AE (by unfold strMax; show s.size+L4.size≤_; omega);have b2:decide ((s++{ data:=#[113,117,101,114,121,32] }).size+(I3 (i:Int)).size≤strMax)=true:=AE (by unfold strMax; show (s++L4).size+_≤_; omega);have b3:decide ((s++{ data:=#[113,117,101,114,121,32] }++I3 (i:Int)).size+AG { data:=#[10] }≤strMax)=true:=AE (by unfold strMax; show (s++L4++I3 (i:Int)).size+FC.size≤_; omega);have key:∀ v:Vd,v.rng→(GT v).size≤4000000∧decide ((s++{ data:=#[113,117,101,114,121,32] }++I3 (i:Int)++{ data:=#[10] }).size+(GT v).size≤strMax)=true ∧
    DT (G3 N) (DF IR [1,1,1,1,1,0,1,0,1,1,0,0]) ⟨[2,10,11,12,13,14,67,68],[11,57],eR⟩ n (RS f vs false q (s++{ data:=#[113,117,101,114,121,32] }++I3 (i:Int)++{ data:=#[10] }++GT v) O.length (ic (O.length - 0)) ((i+1:Nat):Int) O) K=Z:=fun v hr=>by
   have h1:=Hd hr;refine ⟨h1,AE (by unfold strMax; show (s++L4++I3 (i:Int)++FC).size+_≤_; omega),Bs N f vs hv q O hO Z K hx d (i+1) n _ (by omega) (by omega) ?_⟩;rw [A3];show (s++L4++I3 (i:Int)++FC).size+_≤_;omega
  rw [DX,Mh,AE (show ((i:Nat):Int) < ic (O.length - 0) by simp only [ic]; omega),DE,b1,b2,b3,GQ (by omega)];by_cases hi:i < vs.length
  ·have hr:=hv _ (C4 hi);rw [H0 hi,IH,IS hi];have hL:∀ x∈(vs[i].cell 1).toList,UZ x:=hr.proof;generalize hM:(vs[i].cell 1).toList=L at hL ⊢;have c1:(decide (0≤min (ic L.length) 30)&&decide (min (ic L.length) 30≤ic L.length))=true:=by
    rw [AE (by simp only [ic]; omega),AE (by omega)];rfl
   have c2:(AO 0 (AK (AD (min (ic L.length) 30)) L)).length≤30:=by
    rw [BZ,A7];omega
   have hC:∀ x∈AO 0 (AK (AD (min (ic L.length) 30)) L),UZ x:=fun x hx=>hL x (vag (vay hx))
   generalize AO 0 (AK (AD (min (ic L.length) 30)) L)=C at c2 hC ⊢;have hP:∀ x∈AO 0 (AK (0+C.length) (AK 0 []++C)),UZ x:=fun x hx=>by
    have:=vag (vay hx)
    rw [List.take_zero,vac] at this;exact hC x this
   generalize AO 0 (AK (0+C.length) (AK 0 []++C))=P at hP ⊢;obtain ⟨k1,k2,k3⟩:=key ⟨IV.toInt (IV.cell vs[i] 0),P,IV.toInt (IV.cell vs[i] 2),IV.toInt (IV.cell vs[i] 3),IV.toInt (IV.cell vs[i] 4),IV.toInt (IV.cell vs[i] 5),IV.toInt (IV.cell vs[i] 6),IV.toInt (IV.cell vs[i] 7)⟩
    { w0:=hr.w0,w1:=hr.w1,w2:=hr.w2,w3:=hr.w3,twin:=hr.twin,spent:=hr.spent,proof:=hP }
   rw [c1,AE (show (0+C.length)*24≤D6 by unfold D6; omega),AE (show (GT ⟨IV.toInt (IV.cell vs[i] 0),P,IV.toInt (IV.cell vs[i] 2),IV.toInt (IV.cell vs[i] 3),IV.toInt (IV.cell vs[i] 4),IV.toInt (IV.cell vs[i] 5),IV.toInt (IV.cell vs[i] 6),IV.toInt (IV.cell vs[i] 7)⟩).size≤strMax by unfold strMax; omega),k2];simp only [DE,BY];exact k3
  ·obtain ⟨k1,k2,k3⟩:=key ⟨4,[],0,0,0,0,0,0⟩ zjw;rw [IT (by omega),DG,k2];simp only [DE];exact k3
 | 0,_,0,_,_,h,_=>by omega
 | _+1,_,0,_,_,h,_=>by omega
theorem Bt (N:Nat) (f:Ft) (Q:List Qy) (vs:LI) (hl:vs.length=Q.length) (hQl:Q.length≤4)
  (hs:∀ i (h1:i < vs.length) (h2:i < Q.length),((L0 vs[i]).kind==4)=false∧((L0 vs[i]).kind=1→KX f.M Q[i]=true)∧((L0 vs[i]).kind=2→KX f.M Q[i]=false)) (K:Out→St→DJ)
  (hx:∀ x,K (.exit 4) (KT f false Q.length vs (ic vs.length) x (Q.map Qy.I))=some (.bool true,[])) :
  ∀ (d i n:Nat),i+d=Q.length→d < n →
   DT (G3 N) (DF IR [1,1,1,1,1,1,1,1,1,0,1,0,0]) ⟨[10,11,14,124,125,126],[11,57],eR⟩ n (KT f false Q.length vs (ic vs.length) (i:Int) (Q.map Qy.I)) K=some (.bool true,[])
 | 0,i,n+1,hd,_=>by
  rw [DX,Mi,IT (by omega),DG];exact hx _
 | d+1,i,n+1,hd,hn=>by
  have h2:i < Q.length:=by omega
  have h1:i < vs.length:=by omega
  have h3:i < (Q.map Qy.I).length:=by rw [BQ]; exact h2
  have hq:(Q.map Qy.I)[i]=(Q[i]).I:=by rw [List.getElem_map]
  obtain ⟨g1,g2,g3⟩:=hs i h1 h2;have ih:=Bt N f Q vs hl hQl hs K hx d (i+1) n (by omega) (by omega);rw [DX,Mi,H0 h1,IH,IS h1,BJ,IS h3,hq,zgx,vaj,AE (show ((i:Nat):Int) < ic Q.length by simp only [ic]; omega),Bf,GQ (by omega)];rw [show IV.toInt (IV.cell vs[i] 0)=(L0 vs[i]).kind from rfl,g1];generalize L0 vs[i]=v at g2 g3 ⊢;rw [AE (show (1500:Nat)≤65536 by omega)];simp only [BY,DE,DG];cases hov:HB f.M Q[i] (EV Q[i]) 1500 with
  | true=>
   simp only [A1,BM,DG];exact ih
  | false=>
   simp only [A6,BC,DE];cases hk1:v.kind==1 with
   | true=>
    have e:v.kind=1:=by simpa using hk1
    rw [g2 e,show (v.kind==2)=false by rw [e]; rfl];simp only [A1,DE,DG];exact ih
   | false=>
    simp only [DG];cases hk2:v.kind==2 with
    | true=>
     have e:v.kind=2:=by simpa using hk2
     rw [g3 e];simp only [DE,DG];exact ih
    | false=>
     simp only [DG];exact ih
 | 0,_,0,_,h=>by omega
 | _+1,_,0,_,h=>by omega
theorem Bu (f:Ft) (Q:List Qy) (hQ:∀ q∈Q,Sits f.M q) (hQl:Q.length≤4) (hsm:∀ q∈Q,(E6 q f.M.d).size≤2000) (s:BA) (hs:s.size≤16001000) :
  (cond (decide (AG (H3 (Ft.M f)) < 4294967281)&&(decide (AG (J7 f.M.d EF Q) < 4294967281)&&decide (AG s < 4294967281))) (cond (!UQ (H3 (Ft.M f)) (J7 f.M.d EF Q) s) (some ((.bool true),[])) (cond (decide (AG s < 4294967281)) (cond (Option.isSome (IY s)) (cond (ic (AF (vav (IY s) [])) != ic (Q.length - 0)) (some ((.bool false),[]))
   (DT (G3 6) (DF IR [1,1,1,1,1,1,1,1,1,0,1,0,0]) ⟨[10,11,14,124,125,126],[11,57],eR⟩ 6 (KT f false Q.length (vav (IY s) []) (ic (AF (vav (IY s) []))) 0 (Q.map Qy.I)) (DM 4 (DN (G3 6) (DF IR [1,1,1,1,1,1,1,1,1,1]) (DP (G3 6) none [(CD 10)] [[.bool]]))))) (some ((.bool false),[]))) none)) none)=some (.bool true,[]):=by
 have hM:=mV f;have hW:gY f.M:=zc8 _ _ _ _;have hps:=zge hM;have hqz:=Hw f.M.d Q EF hsm;have e0:EF.size=0:=rfl;rw [AE (show (H3 f.M).size < 4294967281 by omega),AE (show (J7 f.M.d EF Q).size < 4294967281 by omega),AE (show s.size < 4294967281 by omega)];simp only [BY,DE];cases hr:UQ (H3 f.M) (J7 f.M.d EF Q) s with
 | false=>rfl
 | true=>
  obtain ⟨vs,ht,hl,hall⟩:=zaa hM hW hQ hr;rw [ht];have hne:(ic (AF (vav (some vs) [])) != ic (Q.length - 0))=false:=by
   show (ic vs.length != ic (Q.length - 0))=false;rw [hl,vaj];simp
  rw [hne];simp only [A1,DG,Option.isSome_some,DE,van];exact Bt 6 f Q vs hl hQl hall _ (fun x=>Ye 6 f false Q.length vs (ic vs.length) x _) Q.length 0 6 (by omega) (by omega)
theorem zhN:DS PR B0 3 mW:=by
 refine D2 [(10,VT),(12,aR),(15,VW),(11,RZ),(14,bP),(8,bQ),(16,cC),(13,R8),(9,dH),(7,dI)] [(5,⟨[1,2,4,10,11,12,13,14,15],[11,57],[⟨.tmp 14,57,39,true,W5⟩]⟩),(13,⟨[2,10,11,12,13,14,67,68],[11,57],[⟨.tmp 14,57,39,true,W5⟩]⟩),(27,⟨[10,11,14,124,125,126],[11,57],[⟨.tmp 14,57,39,true,W5⟩]⟩)] mW [[.bool]] Tryz.func3 za1 ⟨Jt,zhn,Jw,sX,zhO,zhP,zh1,tD,zhi,zhj,trivial⟩ ?_;intro vs r hwf h;unfold mW at h;split at h
 ·rename_i f al vs r own;replace h:=Pe h;obtain ⟨f,rfl,h⟩:=h;rw [R.get_ok] at h;refine ⟨6,(zdU 6 f al vs r own).trans ?_⟩;rw [← h];obtain ⟨x1,x2,x3⟩:=zc7 r 120;have hv:∀ y∈vs,(L0 y).rng:=by
   have hb:=hwf (show K2 _ none from trivial);obtain ⟨_,_,hb,_⟩:=hb;simp only [QE,wfL] at hb;exact fun y hy=>zjx (hb.2 y hy)
  rw [show (120:Int)=((120:Nat):Int) from rfl,x2,DE];refine (Br 6 f al vs own _ _ _ (fun s x O=>Yc 6 f al vs own false s _ O.length x O) 4 0 6 EF [] rfl (by omega) (AW _) rfl).trans ?_;rw [BZ,vac];have hsit:=zgr f (al.take 4);have hsm:=zgs (mU f) (al.take 4);have hql:(O7 f.M (al.take 4)).length≤4:=by unfold O7; rw [BQ,A7]; omega
  generalize O7 f.M (al.take 4)=Q at hsit hsm hql ⊢;have hlen:(Q.map Qy.I).length=Q.length:=BQ ..
  rw [hlen];cases own with
  | false=>
   rw [DG];exact Bu f Q hsit hql hsm _ (by omega)
  | true=>
   rw [DE];have h2:=Bs 6 f vs hv (J7 f.M.d EF Q) (Q.map Qy.I) (by omega) (some (.bool true,[])) (DM 2 (DN (G3 6) (DF IR [1,1,1,1,1,1]) (DP (G3 6) none [(CD 10)] [[.bool]])))
    (fun s x hs=>by
     rw [hlen];exact (Yd 6 f vs false _ s Q.length (ic (Q.length - 0)) x _).trans (Bu f Q hsit hql hsm s hs)) Q.length 0 6 EF (by omega) (by omega) (B7 _)
   rw [hlen] at h2;exact h2
 ·simp [R.get] at h
open Go Go.Proofs Go.RowKit
theorem Cj {P:Program} {w:World} {name:String} {g:Nat} {cs:Array Value} (hn:P.globalNamed name=some g) (hv:w.var? P name=some cs):∃ T fr,w.heap[g]?=some (.cells cs T fr):=by
 unfold World.var? at hv;rw [hn] at hv;simp only [Option.bind_some] at hv;split at hv
 ·rename_i c T fr hh;simp only [AC] at hv;subst hv;exact ⟨T,fr,hh⟩
 ·cases hv
theorem Ax {w:World} {name:String} {g t:Nat} {ms:Array (String × TypeId)} {tn:String} {d:DataW Unit} (h:Lib.VarReads Tryz.prog w name (.iface tn d)) (hn:Tryz.prog.globalNamed name=some g)
  (ht:(Tryz.prog.globals[g]?).map (·.type)=some t) (hu:Tryz.prog.underlying t=some (.interface ms)):∃ c T fr te pe,w.heap[g]?=some (.cells c T fr)∧c[0]?=some (.iface te pe):=by
 obtain ⟨g',t',cs,fuel,p,h1,h2,h3,h4⟩:=h;obtain rfl:=B3 (hn.symm.trans h1);obtain rfl:=B3 (ht.symm.trans h2);obtain ⟨f',u,v,hcs,_,_⟩:=iface_of_trod hu h4;obtain ⟨T,fr,hh⟩:=Cj hn h3;refine ⟨cs,T,fr,u,v,hh,?_⟩
 have:cs = #[.iface u v]:=by
  apply Array.ext';rw [hcs]
 rw [this];rfl
theorem zae {W:World} {l:List (String × DataW Unit)} (hL:laidMet Tryz.prog l W) (hsh:W.ShapedOpen Tryz.prog)
  (hp:("internal/strconv.uint64pow10", Lib.tabData .u64 Lib.pow10Tab)∈l)
  {n1:String} {d1:DataW Unit} (h1:("strconv.ErrRange", .iface n1 d1)∈l)
  {n2:String} {d2:DataW Unit} (h2:("strconv.ErrSyntax", .iface n2 d2)∈l)
  : Glob B0 W:=by
 have hz:∀ g,g < 4→g < Tryz.prog.globals.size→g < W.heap.size:=fun g _ hg=>by
  have hb:((vaE Tryz.prog.globals.size).all fun g=>(((begin Tryz.prog (fun _ _=>0) default).world.heap[g]?).bind Obj.row?).isSome)=true:=by kernel_rfl
  have:=CS.1 hb g (va6.2 hg)
  obtain ⟨⟨z,t⟩,hz⟩:=Option.isSome_iff_exists.1 this;obtain ⟨cs,hh,_⟩:=hsh.1 g z t hg hz;exact (C7.1 hh).1
 have hsize:4≤W.heap.size:=by
  first
  | exact B7 _
  | (
    have:=hz (4 - 1) (by decide) (A0 (by kernel_rfl))
    omega)
 have low:∀ {g:Nat},g < 4→(fun b=>if b < B0.ng then W.heap[b]? else none) g=W.heap[g]?:=fun h=>BR (show _ < B0.ng from h)
 refine ⟨hsize,?_⟩;show GF _;constructor
 first | exact trivial | skip
 case gm=>
  obtain ⟨m,hm⟩:=cell_of_shapedOpen_int (P:=Tryz.prog) (g:=0) (t:=3) (zero:=#[.int .i64 0]) hsh (A0 (by kernel_rfl)) (by kernel_rfl) rfl (by kernel_rfl) (by kernel_rfl) Tryz.underlying3;simp only [vaF] at hm;split at hm
  ·rename_i c T fr' hh;exact ⟨c,T,fr',m,(low (by decide)).trans hh,hm⟩
  ·cases hm
 case gp=>
  have gp:Tryz.prog.globalNamed "internal/strconv.uint64pow10" = some 1:=by kernel_rfl
  obtain ⟨g',t',cp,fuel,p,e1,e2,e3,e4⟩:=vbo hL hp;obtain rfl:=B3 (gp.symm.trans e1);obtain ⟨T,fr',hh⟩:=Cj gp e3;refine ⟨T,fr',(low (by decide)).trans ?_⟩;rw [hh];have et:(Tryz.prog.globals[1]?).map (·.type)=some 268:=by kernel_rfl
  obtain rfl:=B3 (et.symm.trans e2)
  have:=Lib.cells_of_tab (e:=106) (n:=20) (by kernel_rfl) (by kernel_rfl) (by kernel_rfl) (by kernel_rfl) e4
  congr 1;congr 1;apply Array.ext';exact this
 case gs=>
  obtain ⟨cs,Ts,fs,tes,pes,hs1,hs2⟩:=Ax (g:=2) (vbo hL h2) (by kernel_rfl) (show _=some 149 by kernel_rfl) Tryz.underlying149;exact ⟨cs,Ts,fs,tes,pes,(low (by decide)).trans hs1,hs2⟩
 case gr=>
  obtain ⟨cr,Tr,fr,ter,per,hr1,hr2⟩:=Ax (g:=3) (vbo hL h1) (by kernel_rfl) (show _=some 149 by kernel_rfl) Tryz.underlying149;exact ⟨cr,Tr,fr,ter,per,(low (by decide)).trans hr1,hr2⟩
def X0:Zone:=⟨fun _=>False,fun _=>False⟩
def γ0:Nat→Value:=fun _=>.nilIface
abbrev O0:Nat→Prop:=DK X0 γ0 []
theorem uY (b:Nat):¬ O0 b:=by
 rintro (⟨n,ob,h,_⟩ | h)
 ·simp [DI,EQ] at h
 ·exact h
theorem Ih (W:World):Rel B0.base 0 W X0 γ0 ⟨[],[]⟩ JA W:=by
 have no:∀ n ob,DI ([]:Store) n≠some ob:=fun n ob h=>by simp [DI,EQ] at h
 refine ⟨rfl,rfl,fun i=>by simp only [St.get,EQ,VRel],fun n ob h=>absurd h (no n ob),fun b h=>?_,fun n m ob ob' b _ h=>absurd h (no n ob),Keep.refl _ _,fun b h=>?_,fun b h=>h.elim,fun p _ ob h=>absurd h (no _ ob)⟩
 ·obtain ⟨n,ob,h,_⟩:=h;exact absurd h (no n ob)
 ·obtain ⟨n,ob,h,_⟩:=h;exact absurd h (no n ob)
theorem Uw {f:Nat} {fn:Func} (hf:PR.funcs[f]?=some fn) (hn:(fn.name == "runtime.NumGoroutine")=false) (hb:fn.body.isNone=false) {xs:List Value} {w:World} {R:Ending→World→Prop} (h:Does PR f xs w R):Calls PR f xs.toArray w R:=by
 have:(callFunc f xs.toArray).run PR w = .ok (.enter f xs.toArray) w:=by
  unfold callFunc;have hn':¬ fn.name = "runtime.NumGoroutine":=by simpa using hn
  have hb':¬ fn.body=none:=fun h=>by rw [h] at hb; cases hb
  simp [hf,hn',hb']
 unfold Does at h;rw [this] at h;exact h
theorem Ux {f:Nat} {fn:Func} {sp:DR} (hS:DS PR B0 f sp) (hf:PR.funcs[f]?=some fn) (hn:(fn.name == "runtime.NumGoroutine")=false) (hb:fn.body.isNone=false) {vs:List V} {xs:List Value} {W:World}
  (hsp:(sp vs).get=some (.bool true,[])) (hbor:FI vs=none) (hG:Glob B0 W) (hV:VRels γ0 [] W O0 (vs.map EC) xs) :
  Calls PR f xs.toArray W fun e w'=>e = .returned (.bool true)∧Below W.heap.size W w':=by
 refine Uw hf hn hb ?_;have em:H1 vs=[]:=by unfold H1; rw [hbor]
 refine Does.mono (hS W X0 γ0 vs xs (.bool true) [] hsp hG (fun b h=>h.elim) (by rw [em]; exact Ih W) (by rw [em]; exact hV)) ?_;rintro e w' ⟨x,rfl,γ',hR,hx,_⟩;simp only [LV,EC,VRel] at hx;subst hx;exact ⟨rfl,hR.keep.os,hR.keep.tape,hR.keep.output,hR.keep.size,fun b hb=>hR.keep.block b hb (fun h=>h)⟩
open Go
def TS (P:Program) (e:TypeId):Bool:=match P.underlying e with | some (.struct _)=>true | some (.array _ _)=>true | _=>false
def Y7 (f:TypeId→Option (List Kd)) (cell:TypeId→Nat):Nat→List (TypeId × Nat)→Option (List Kd)
 | _,[]=>some []
 | off,(t,o) :: r=>match BO o off with
  | true=>match f t with
   | some ks=>match BO (cell t) ks.length with
    | true=>match Y7 f cell (off+ks.length) r with
     | some ks'=>some (ks++ks')
     | none=>none
    | false=>none
   | none=>none
  | false=>none
def Q2 (P:Program):Nat→TypeId→Option (List Kd)
 | 0,_=>none
 | n+1,t=>match P.underlying t with
  | some .bool=>some [.bool]
  | some (.int k)=>some [.int k]
  | some .string=>some [.str]
  | some (.slice e)=>match Q2 P n e with
   | some ks=>match B6 1 (P.bytesOf e)&&(BO (P.cellsOf e) ks.length&&(B6 1 ks.length&&(TS P e||BO ks.length 1))) with
    | true=>some [.list (TS P e) ks]
    | false=>none
   | none=>none
  | some (.struct fs)=>match Y7 (Q2 P n) P.cellsOf 0 (fs.toList.map fun f=>(f.type,f.offset)) with
   | some ks=>match BO (P.cellsOf t) ks.length with | true=>some ks | false=>none
   | none=>none
  | some (.array m e)=>match Y7 (Q2 P n) P.cellsOf 0 ((vaE m).map fun i=>(e,i*P.cellsOf e)) with
   | some ks=>match BO (P.cellsOf t) ks.length with | true=>some ks | false=>none
   | none=>none
  | _=>none
def CellsK (w:World) (O:Nat→Prop):List Kd→LI→List Value→Prop
 | [],[],[]=>True
 | k :: ks,x :: f,v :: cs=>Kd.Rel w O k x v∧CellsK w O ks f cs
 | _,_,_=>False
section
variable {w:World} {O:Nat→Prop}
theorem CellsK.append:∀ {ks:List Kd} {f:LI} {cs:List Value} {ks':List Kd} {f':LI} {cs':List Value},CellsK w O ks f cs→CellsK w O ks' f' cs'→CellsK w O (ks++ks') (f++f') (cs++cs')
 | [],[],[],_,_,_,_,h'=>h'
 | _ :: ks,_ :: f,_ :: cs,_,_,_,h,h'=>by
  simp only [CellsK] at h;simp only [C3,CellsK];exact ⟨h.1,h.2.append h'⟩
 | [],_ :: _,_,_,_,_,h,_=>by simp [CellsK] at h
 | [],[],_ :: _,_,_,_,h,_=>by simp [CellsK] at h
 | _ :: _,[],_,_,_,_,h,_=>by simp [CellsK] at h
 | _ :: _,_ :: _,[],_,_,_,h,_=>by simp [CellsK] at h
theorem CellsK.get:∀ {ks:List Kd} {f:LI} {cs:List Value},CellsK w O ks f cs→∀ (j:Nat) (k:Kd),ks[j]?=some k→∃ v,cs[j]?=some v∧Kd.Rel w O k (IL f j) v
 | [],_,_,_,j,k,h=>by simp at h
 | k :: ks,x :: f,v :: cs,h,j,k',hj=>by
  simp only [CellsK] at h;cases j with
  | zero=>
   simp only [B2,AC] at hj;subst hj;exact ⟨v,rfl,by simpa only [IL] using h.1⟩
  | succ j=>
   obtain ⟨u,h1,h2⟩:=h.2.get j k' (by simpa using hj);exact ⟨u,by simpa using h1,by simpa only [IL] using h2⟩
 | _ :: _,[],_,h,_,_,_=>by simp [CellsK] at h
 | _ :: _,_ :: _,[],h,_,_,_=>by simp [CellsK] at h
theorem zI {α:Type} {Q:Nat→α→Prop}:∀ n,(∀ i,i < n→∃ x,Q i x)→∃ L:List α,L.length=n∧∀ i x,L[i]?=some x→Q i x
 | 0,_=>⟨[],rfl,fun i x h=>by simp at h⟩
 | n+1,h=>by
  obtain ⟨L,hl,hL⟩:=zI n (fun i hi=>h i (by omega));obtain ⟨x,hx⟩:=h n (by omega);refine ⟨L++[x],by simp [hl],fun i y hy=>?_⟩;rw [vax] at hy;split at hy
  ·exact hL i y hy
  ·rename_i hi
   have:i - L.length=0:=by
    rcases Nat.eq_zero_or_pos (i - L.length) with e | e
    ·exact e
    ·rw [BU (by simp; omega)] at hy;cases hy
   rw [this] at hy;simp only [B2,AC] at hy;subst hy
   have:i=n:=by omega
   subst this;exact hx
end
theorem qG {H:Type} {P:Program}:∀ {ts:List TypeId} {ds:List (DataW H)} {i:Nat} {t:TypeId} {d:DataW H},ts[i]?=some t→ds[i]?=some d→∀ y∈d.weights P t,y∈vbD P ts ds
 | [],_,i,_,_,h,_,_,_=>by simp at h
 | _ :: _,[],i,_,_,_,h,_,_=>by simp at h
 | t0 :: ts,d0 :: ds,0,t,d,h,h',y,hy=>by
  simp only [B2,AC] at h h';subst h; subst h';simp only [vbD,AV];exact .inl hy
 | t0 :: ts,d0 :: ds,i+1,t,d,h,h',y,hy=>by
  simp only [vbD,AV];exact .inr (qG (by simpa using h) (by simpa using h') y hy)
theorem qF {H:Type} {P:Program} {e:TypeId}:∀ {ds:List (DataW H)} {d:DataW H},d∈ds→∀ y∈d.weights P e,y∈DataW.weightsAll P e ds
 | [],_,h,_,_=>by cases h
 | d0 :: ds,d,h,y,hy=>by
  simp only [DataW.weightsAll,AV];rcases AS.1 h with rfl | h
  ·exact .inl hy
  ·exact .inr (qF h y hy)
section
variable {H:Type} {enc:TypeId × Value→H} {P:Program} {w:World} {base:Nat} {sp:Nat→Bool} {held:Bool} {O:Nat→Prop}
theorem rK {f:TypeId→Option (List Kd)} {n:Nat} {cs:List Value}
  (ih:∀ (t:TypeId) (ks:List Kd) (cs:List Value) (d:DataW H) (p:List MemPlace),f t=some ks→DataW.trod enc P w base sp held n t cs=some (d,p)→(∀ y∈d.weights P t,y≤reachBytes)→∃ g,CellsK w O ks g cs) :
  ∀ (parts:List (TypeId × Nat)) (off:Nat) (ks:List Kd) (xs:List (DataW H × List MemPlace)),Y7 f P.cellsOf off parts=some ks→xs.length=parts.length →
   (∀ (i:Nat) (t:TypeId) (o:Nat),parts[i]?=some (t,o)→DataW.trod enc P w base sp held n t ((cs.drop o).take (P.cellsOf t))=xs[i]?) →
   (∀ (i:Nat) (t:TypeId) (o:Nat) (x:DataW H × List MemPlace),parts[i]?=some (t,o)→xs[i]?=some x→∀ y∈x.1.weights P t,y≤reachBytes)→∃ g,CellsK w O ks g ((cs.drop off).take ks.length)
 | [],off,ks,xs,h,_,_,_=>by
  simp only [Y7,AC] at h;subst h;exact ⟨[],by simp only [BB,List.take_zero,CellsK]⟩
 | (t,o) :: r,off,ks,[],h,hl,_,_=>by simp at hl
 | (t,o) :: r,off,ks,x :: xs,h,hl,ht,hw=>by
  simp only [Y7] at h;split at h
  case h_2=>cases h
  rename_i ho;obtain rfl:=vap ho;split at h
  case h_2=>cases h
  rename_i k1 hk1;split at h
  case h_2=>cases h
  rename_i hc;have hc:=vap hc;split at h
  case h_2=>cases h
  rename_i k2 hk2;simp only [AC] at h;subst h;have h0:=ht 0 t o rfl;simp only [B2] at h0;obtain ⟨d,p⟩:=x;obtain ⟨g1,hg1⟩:=ih t k1 _ d p hk1 h0 (hw 0 t o (d,p) rfl rfl);obtain ⟨g2,hg2⟩:=rK ih r (o+k1.length) k2 xs hk2 (by simpa using hl) (fun i t' o' hi=>by simpa using ht (i+1) t' o' (by simpa using hi)) (fun i t' o' x hi hx=>hw (i+1) t' o' x (by simpa using hi) (by simpa using hx));refine ⟨g1++g2,?_⟩;rw [AU,List.take_add,List.drop_drop];rw [hc] at hg1;exact hg1.append hg2
theorem ziL {a:Addr} {v:Value} (h:w.cell? a=some v):a.spot=none∧a.block < w.heap.size:=by
 unfold vaF at h;split at h
 ·rename_i c _ _ hc;split at h
  ·cases h
  ·rename_i hs;exact ⟨by simpa using hs,(C7.1 hc).1⟩
 ·cases h
theorem gS (hO:∀ b,¬ O b):∀ (n:Nat) (t:TypeId) (ks:List Kd) (fuel:Nat) (cs:List Value) (d:DataW H) (p:List MemPlace),Q2 P n t=some ks →
  DataW.trod enc P w base sp held fuel t cs=some (d,p)→(∀ y∈d.weights P t,y≤reachBytes)→∃ g,CellsK w O ks g cs
 | 0,_,_,_,_,_,_,h,_,_=>by simp [Q2] at h
 | n+1,t,ks,fuel,cs,d,p,h,ht,hw=>by
  simp only [Q2] at h;split at h
  ·rename_i hu;simp only [AC] at h;subst h;obtain ⟨b,rfl,_⟩:=DataW.trod_bool hu ht;exact ⟨[.bool b],by simp only [CellsK,Kd.Rel,IV.toBool,and_self]⟩
  ·rename_i k hu;simp only [AC] at h;subst h;obtain ⟨m,rfl,_,hm⟩:=DataW.trod_int hu ht;simp only [Lit.wf,AI,AP] at hm;exact ⟨[.int m],by simp only [CellsK,Kd.Rel,IV.toInt,B4,vaO]; exact hm⟩
  ·rename_i hu;simp only [AC] at h;subst h;obtain ⟨s,rfl,hd,hs⟩:=DataW.trod_string hu ht;simp only [AQ] at hd;refine ⟨[.str s],?_⟩;simp only [CellsK,Kd.Rel,IV.toStr,B4,vaO];rw [hd.1] at hw
   have:=hw s.data.toList.length (by simp [vbq])
   have e:s.data.toList.length=s.size:=by rw [CQ]; rfl
   rw [e] at this;unfold reachBytes at this;unfold strMax;omega
  ·rename_i e hu;split at h
   case h_2=>cases h
   rename_i k1 hk1;split at h
   case h_2=>cases h
   rename_i hc;simp only [AC] at h;subst h;simp only [AI,vaz] at hc;obtain ⟨hb,hce,hk0,hag⟩:=hc;have hb:=AM hb;have hce:=vap hce;have hk0:=AM hk0;rcases DataW.trod_slice hu ht with ⟨rfl,_⟩ | ⟨a,len,cap,elems,rest,m,_,rfl,hx,_,hlc,hcap,hlen,hel,_⟩
   ·refine ⟨[.list []],?_⟩;simp only [CellsK,Kd.Rel,IV.toList,B4];exact ⟨none,0,rfl,AW _,B7 _,B7 _,fun i y hi=>by simp at hi⟩
   ·simp only [AQ] at hx;obtain ⟨rfl,_⟩:=hx;simp only [vbq,hu,AS,AV] at hw;have hsz:len≤strMax:=by
     have:=hw _ (.inl rfl)
     rw [BQ,hlen] at this;have h1:len*1≤(len+(rest.map (·.1)).length)*P.bytesOf e:=Nat.mul_le_mul (by omega) hb;unfold reachBytes at this;unfold strMax;omega
    have hex:∀ i,i < len→∃ g:LI,∃ ci,w.cells? base (a.add (i*k1.length)) k1.length=some ci∧CellsK w O k1 g ci:=by
     intro i hi;have h1:=hel i hi;have hi':i < elems.length:=by omega
     rw [A5 hi',hce] at h1;simp only [Option.bind_eq_some_iff] at h1;obtain ⟨ci,h2,h3⟩:=h1;obtain ⟨g,hg⟩:=gS hO n e k1 m ci elems[i].1 elems[i].2 hk1 h3 (fun y hy=>hw y (.inr (.inl (qF (vaU (C4 hi')) y hy))));exact ⟨g,ci,h2,hg⟩
    obtain ⟨L,hL,hLi⟩:=zI len hex;refine ⟨[.list (L.map fun g=>match TS P e with | true=>IV.agg g | false=>IL g 0)],?_⟩;simp only [CellsK,Kd.Rel,IV.toList,B4,BQ,hL];refine ⟨some a,cap,rfl,hlc,hcap,hsz,fun i y hi=>?_⟩;rw [B9,DD] at hi;obtain ⟨g,hg,rfl⟩:=hi;obtain ⟨ci,hci,hgc⟩:=hLi i g hg;have hil:i < len:=by rw [← hL]; exact (BL.1 hg).1
    have cellAt:∀ j k,k1[j]?=some k→∃ u,w.cell? ((a.add (i*k1.length)).add j)=some u∧Kd.Rel w O k (IL g j) u:=by
     intro j k hk;obtain ⟨u,h1,h2⟩:=hgc.get j k hk;refine ⟨u,?_,h2⟩;have hj:j < k1.length:=(BL.1 hk).1;unfold World.cells? at hci;split at hci
     ·obtain ⟨b,hb1,hb2⟩:=Lib.mapM_at hci j j (by simp [hj]);rw [h1] at hb1;simp only [AC] at hb1;rw [hb2,hb1]
     ·cases hci
    have hspot:a.spot=none∧a.block < w.heap.size:=by
     obtain ⟨g0,hg0⟩:∃ g0,L[0]?=some g0:=⟨L[0]'(by omega),A5 (by omega)⟩;obtain ⟨c0,hc0,hgc0⟩:=hLi 0 g0 hg0;obtain ⟨u,h1,_⟩:=hgc0.get 0 k1[0] (A5 (by omega));unfold World.cells? at hc0;split at hc0
     ·obtain ⟨b,_,hb2⟩:=Lib.mapM_at hc0 0 0 (List.getElem?_range (show 0 < k1.length by omega))
      have:=ziL hb2
      rw [Nat.zero_mul] at this;simpa [Addr.add] using this
     ·cases hc0
    obtain ⟨ab,ao,asp⟩:=a;obtain ⟨hs1,hs2⟩:=hspot;simp only at hs1 hs2;subst hs1;refine ⟨ab,ao,rfl,hO ab,hs2,?_⟩;rw [Kd.RelAll_iff];intro j k hk;obtain ⟨u,h1,h2⟩:=cellAt j k hk;rw [Lib.add_plain,Lib.add_plain] at h1;rw [BJ];refine ⟨u,h1,?_⟩;cases hat:TS P e with
    | true=>
     show Kd.Rel w O k (IL g j) u;exact h2
    | false=>
     rw [hat] at hag;have h1l:k1.length=1:=vap (by simpa using hag);have hj:j < k1.length:=(BL.1 hk).1
     have:j=0:=by omega
     subst this;exact h2
  ·rename_i fs hu;split at h
   case h_2=>cases h
   rename_i k1 hk1;split at h
   case h_2=>cases h
   rename_i hc;have hc:=vap hc;simp only [AC] at h;subst h;obtain ⟨xs,m,_,hx,hcl,hxl,hall⟩:=DataW.trod_struct hu ht;simp only [AQ] at hx;obtain ⟨rfl,_⟩:=hx;simp only [vbq,hu] at hw;have key:=rK (enc:=enc) (P:=P) (w:=w) (base:=base) (sp:=sp) (held:=held) (O:=O) (f:=Q2 P n) (n:=m) (cs:=cs) (fun t ks cs d p h1 h2 h3=>gS hO n t ks m cs d p h1 h2 h3) (fs.toList.map fun f=>(f.type,f.offset)) 0 k1 xs hk1 (by simp [hxl]) (fun i t o hi=>by
     rw [B9,DD] at hi;obtain ⟨f,hf,he⟩:=hi;simp only [AQ] at he;obtain ⟨rfl,rfl⟩:=he;exact hall i f (by simpa using hf)) (fun i t o x hi hx y hy=>by
     rw [B9,DD] at hi;obtain ⟨f,hf,he⟩:=hi;simp only [AQ] at he;obtain ⟨rfl,rfl⟩:=he;exact hw y (qG (i:=i) (by rw [B9,hf]; rfl) (by rw [B9,hx]; rfl) y hy))
   obtain ⟨g,hg⟩:=key;rw [BZ,CX (by omega)] at hg;exact ⟨g,hg⟩
  ·rename_i m0 e hu;split at h
   case h_2=>cases h
   rename_i k1 hk1;split at h
   case h_2=>cases h
   rename_i hc;have hc:=vap hc;simp only [AC] at h;subst h;obtain ⟨xs,m,_,hx,hcl,hxl,hall⟩:=DataW.trod_array hu ht;simp only [AQ] at hx;obtain ⟨rfl,_⟩:=hx;simp only [vbq,hu] at hw;have key:=rK (enc:=enc) (P:=P) (w:=w) (base:=base) (sp:=sp) (held:=held) (O:=O) (f:=Q2 P n) (n:=m) (cs:=cs) (fun t ks cs d p h1 h2 h3=>gS hO n t ks m cs d p h1 h2 h3) ((vaE m0).map fun i=>(e,i*P.cellsOf e)) 0 k1 xs hk1 (by simp [hxl]) (fun i t o hi=>by
     rw [B9,DD] at hi;obtain ⟨f,hf,he⟩:=hi;simp only [AQ] at he;obtain ⟨rfl,rfl⟩:=he;have hfi:=BL.1 hf;obtain ⟨hl,he⟩:=hfi;rw [List.getElem_range] at he;subst he;exact hall i (by simpa using hl)) (fun i t o x hi hx y hy=>by
     rw [B9,DD] at hi;obtain ⟨f,hf,he⟩:=hi;simp only [AQ] at he;obtain ⟨rfl,rfl⟩:=he;exact hw y (qF (vaU (vab hx)) y hy))
   obtain ⟨g,hg⟩:=key;rw [BZ,CX (by omega)] at hg;exact ⟨g,hg⟩
  ·cases h
end
open Go Go.Proofs Go.RowKit Go.ChangeShapes Go.WideShapes
def XZ:Kd→IV→V
 | .int k,x=>.int k x.toInt
 | .bool,x=>.bool x.toBool
 | .str,x=>.str x.toStr
 | .list ag ks,x=>.list ag ks x.toList
theorem Ot {γ:Nat→Value} {o:Store} {w:World} {O:Nat→Prop} {k:Kd} {x:IV} {v:Value} (h:Kd.Rel w O k x v):VRel γ o w O (XZ k x) v:=by
 cases k with
 | int k=>simpa only [XZ,VRel,Kd.Rel] using h
 | bool=>simpa only [XZ,VRel,Kd.Rel] using h
 | str=>simpa only [XZ,VRel,Kd.Rel] using h
 | list ag ks=>
  simp only [XZ,VRel];simpa only [Kd.Rel,IV.toList] using h
def gW:List Kd→LI→List V
 | k :: ks,x :: f=>XZ k x :: gW ks f
 | _,_=>[]
theorem Oy {γ:Nat→Value} {o:Store} {w:World} {O:Nat→Prop}:∀ {ks:List Kd} {f:LI} {cs:List Value},CellsK w O ks f cs→VRels γ o w O (gW ks f) cs
 | [],[],[],_=>by simp only [gW,VRels]
 | _ :: _,_ :: _,_ :: _,h=>by
  simp only [CellsK] at h;simp only [gW,VRels];exact ⟨Ot h.1,Oy h.2⟩
 | [],_ :: _,_,h=>by simp [CellsK] at h
 | [],[],_ :: _,h=>by simp [CellsK] at h
 | _ :: _,[],_,h=>by simp [CellsK] at h
 | _ :: _,_ :: _,[],h=>by simp [CellsK] at h
theorem CellsK.len {w:World} {O:Nat→Prop}:∀ {ks:List Kd} {f:LI} {cs:List Value},CellsK w O ks f cs→f.length=ks.length
 | [],[],[],_=>rfl
 | _ :: _,_ :: _,_ :: _,h=>by
  simp only [CellsK] at h;simp only [List.length_cons,h.2.len]
 | [],_ :: _,_,h=>by simp [CellsK] at h
 | [],[],_ :: _,h=>by simp [CellsK] at h
 | _ :: _,[],_,h=>by simp [CellsK] at h
 | _ :: _,_ :: _,[],h=>by simp [CellsK] at h
section
variable {H:Type} {enc:TypeId × Value→H} {P:Program} {W:World} {base b0:Nat} {sp:Nat→Bool} {held:Bool}
theorem Tl {n:Nat} {t:TypeId} {ks:List Kd} {v:Value} {d:DataW H} {p:List MemPlace} (hk:Q2 P n t=some ks) (hu:TS P t=true) (hval:Value.okWide P W .any base t v)
  (h:DataW.Trod enc P W b0 sp held t v d p) (hw:∀ y∈d.weights P t,y≤reachBytes):∃ g:LI,g.length=ks.length∧VRel γ0 [] W O0 (.agg (gW ks g)) v:=by
 obtain ⟨cs,rfl⟩:∃ cs,v = .agg cs:=by
  unfold TS at hu;unfold Value.okWide at hval;split at hu
  ·rename_i hh; rw [hh] at hval; exact hval.imp (fun _ h=>h.1)
  ·rename_i hh; rw [hh] at hval; exact hval.imp (fun _ h=>h.1)
  ·cases hu
 obtain ⟨fuel,hf⟩:=h;obtain ⟨g,hg⟩:=gS (O:=O0) uY n t ks fuel _ d p hk hf hw;refine ⟨g,hg.len,?_⟩;simp only [VRel];exact ⟨cs,rfl,Oy hg⟩
theorem iN {n:Nat} {t:TypeId} {k:Kd} {v:Value} {d:DataW H} {p:List MemPlace} (hk:Q2 P n t=some [k]) (hu:TS P t=false) (hval:Value.okWide P W .any base t v)
  (h:DataW.Trod enc P W b0 sp held t v d p) (hw:∀ y∈d.weights P t,y≤reachBytes):∃ x:IV,VRel γ0 [] W O0 (XZ k x) v:=by
 obtain ⟨fuel,hf⟩:=h;obtain ⟨g,hg⟩:=gS (O:=O0) uY n t [k] fuel _ d p hk hf hw;have hc:v.cells.toList=[v]:=by
  cases v with
  | agg cs=>
   exfalso;unfold TS at hu;unfold Value.okWide at hval;split at hu
   ·cases hu
   ·cases hu
   ·rename_i h1 h2;split at hval
    ·rename_i hh; exact h1 _ hh
    ·rename_i hh; exact h2 _ _ hh
    ·unfold Cell.okWide Cell.ok at hval;split at hval <;> first | (split at hval <;> simp_all) | simp_all
  | _=>rfl
 rw [hc] at hg
 match g,hg with
 | [x],hg=>
  simp only [CellsK,and_true] at hg;exact ⟨x,Ot hg⟩
theorem Om (hl:laidOutB P=true) {W':World} (hb:Below W.heap.size W W'):∀ {ts:List TypeId} {vs:List Value} {ds:List (DataW H)} {ps:List MemPlace},DataW.TrodAll enc P W 0 (fun _=>true) true ts vs ds ps →
  (∀ t∈ts,P.readableRec t=true∧t < P.types.size)→(∀ x∈ps,x.block < W.heap.size)→DataW.TrodAll enc P W' 0 (fun b=>decide (b < W.heap.size)) true ts vs ds ps
 | [],vs,ds,ps,h,_,_=>by
  obtain ⟨rfl,rfl,rfl⟩:=trodAll_nil h;rfl
 | t :: ts,vs,ds,ps,h,ht,hp=>by
  obtain ⟨v,vs1,d,ds1,a,b,rfl,rfl,rfl,h1,h2⟩:=trodAll_cons h;have hh:=ht t (List.mem_cons_self ..);exact ⟨a,b,Below.trod hl hh.1 hh.2 h1 hb (fun x hx=>hp x (List.mem_append.2 (.inl hx))),Om hl hb h2 (fun t' h'=>ht t' (List.mem_cons_of_mem _ h')) (fun x hx=>hp x (List.mem_append.2 (.inr hx))),rfl⟩
end
theorem Jh:ownKnob Tryz.prog.godebug=none:=by kernel_rfl
theorem Jg:laidOutB Tryz.prog=true:=by kernel_rfl
theorem zcG {os:Os} (started:os.Started) {H:Type} {enc:TypeId × Value→H} {spec:ChangeSpec} {f:Nat} {fn:Func} {sp:DR} {laid:List (String × DataW Unit)} (hS:DS PR B0 f sp) (hf:Tryz.prog.funcs[f]?=some fn)
  (hn:(fn.name == "runtime.NumGoroutine")=false) (hb:fn.body.isNone=false) (hini:Tryz.prog.inits.idxOf? f=none) (hres:fn.resultTypes = #[4]) (hvars:spec.vars=[])
  (hspec:∀ (ds:List (DataW H)),ds.length=fn.params.toList.length→spec.fn H ds={ results:=[.lit (.bool true)],args:=ds })
  (hpar:fn.params.toList.all (fun t=>Tryz.prog.readableRec t&&decide (t < Tryz.prog.types.size))=true)
  (hglob:∀ W:World,laidMetH Tryz.prog laid W→W.ShapedOpen Tryz.prog→Glob B0 W)
  (witness:∃ (w:World) (tape:Tape) (i:Input),w.os=os∧(w.forCall tape i).Shaped Tryz.prog∧i.vars=[]∧Input.okWide Tryz.prog (w.forCall tape i) .any w.heap.size f i ∧
   (OpenSpec.ofChange spec).preRow enc Tryz.prog fn [] false laid (w.forCall tape i).memory i.args∧({}:Assume).holds Tryz.prog (lone (Frame.enter Tryz.prog f i.args .normal) [] (w.forCall tape i)))
  (harg:∀ (W:World) (base:Nat) (vs:List Value) (ds:List (DataW H)) (p:List MemPlace),DataW.TrodAll enc Tryz.prog W 0 (fun _=>true) true fn.params.toList vs ds p →
   (∀ (j:Nat) t v,fn.params.toList[j]?=some t→vs[j]?=some v→Value.okWide Tryz.prog W .any base t v) →
   (∀ (j:Nat) t d,fn.params.toList[j]?=some t→ds[j]?=some d→∀ y∈d.weights Tryz.prog t,y≤reachBytes) →
   ∃ l:List V,(sp l).get=some (.bool true,[])∧FI l=none∧VRels γ0 [] W O0 (l.map EC) vs) :
  ReturnsInHanded {} Tryz.checked os f .any ((OpenSpec.ofChange spec).preRow enc Tryz.prog fn [] false laid) (spec.post enc Tryz.prog fn false true false false):=by
 refine returnsInHanded_of_row (C:=Tryz.checked) (s:=OpenSpec.ofChange spec) (F:=fun _ _ _=>0) Jh started hini hf witness ?_;intro W base args ds gs before hval hW _ _ hwt hL hsh _;have hW':=hW;obtain ⟨p,q,hA,hV,rfl,_,_⟩:=hW;have hvars':(OpenSpec.ofChange spec).vars=[]:=hvars;rw [hvars'] at hV;obtain ⟨rfl,rfl⟩:=trodVars_none hV;have hlen:ds.length=fn.params.toList.length:=by
  have:∀ {ts:List TypeId} {vs:List Value} {ds:List (DataW H)} {ps:List MemPlace},DataW.TrodAll enc Tryz.prog W 0 (fun _=>true) true ts vs ds ps→ds.length=ts.length:=by
   intro ts
   induction ts with
   | nil=>intro vs ds ps h; obtain ⟨_,rfl,_⟩:=trodAll_nil h; rfl
   | cons t ts ih=>
    intro vs ds ps h;obtain ⟨v,vs1,d,ds1,a,b,rfl,rfl,rfl,h1,h2⟩:=trodAll_cons h;simp only [List.length_cons,ih h2]
  exact this hA
 simp only [List.append_nil] at hW' hwt;obtain ⟨l,hl,hbor,hrel⟩:=harg W base args.toList ds p hA (fun j t v h1 h2=>hval j t v (by simpa using h1) (by simpa using h2)) (fun j t d h1 h2 y hy=>by
  have hm:=qG (P:=Tryz.prog) (ts:=fn.params.toList++(OpenSpec.ofChange spec).bare.plain.varTypes Tryz.prog) (ds:=ds) (i:=j) (t:=t) (d:=d) (by
   rw [List.getElem?_append_left (by rw [← hlen]; exact (List.getElem?_eq_some_iff.1 h2).1)];exact h1) h2 y hy
  have:=List.all_eq_true.1 hwt y hm
  simpa using this)
 have hc:=Ux hS hf hn hb hl hbor (hglob W hL hsh) hrel;have ea:args.toList.toArray=args:=by simp
 rw [ea] at hc;refine hc.mono ?_;rintro e W' ⟨rfl,bel⟩;have hfn:spec.fn H (ds++[])={ results:=[.lit (.bool true)],args:=ds }:=by rw [List.append_nil]; exact hspec ds hlen
 have hlt:∀ x∈p,x.block < W.heap.size:=fun x hx=>hW'.lt x hx
 have post:spec.post enc Tryz.prog fn false true false false W args (.bool true) W':=by
  refine ⟨ds,[],p,[],p,[],hW',?_,?_,?_,bel.frame _,fun h=>by cases h⟩
  ·rw [hfn,hres];exact trodAll_mk1 (shut_bool Tryz.underlying4 _)
  ·rw [hfn];exact Om Jg bel hA (fun t ht=>by
    have:=List.all_eq_true.1 hpar t ht
    simpa using this) hlt
  ·rw [hvars,hfn];rfl
 exact ⟨_,rfl,post⟩
end Go.FM
namespace Go.Proofs.YtihliihljmfhlaaGreatDoor
open Go Go.ChangeShapes Go.WideShapes Go.ChangeAt Go.RowKit Go.FM
theorem Jh:ownKnob Tryz.prog.godebug=none:=by kernel_rfl
theorem Jg:laidOutB Tryz.prog=true:=by kernel_rfl
abbrev gC:List (String × DataW Unit):=Rows.textTellsRow.laid
noncomputable def Ji (os:Os):World:=
 let w0:=World.doorLaid Tryz.prog 72 os
 { w0 with heap:=w0.heap.modify 4 fun
  | .cells _ t frozen=>.cells (Lib.firstTab.map fun z=>Value.int .u8 z).toArray t frozen
  | o=>o }
theorem zhc (os:Os) (args:Array Value):laidMetH Tryz.prog gC ((Ji os).forCall (fun _ _=>0) ⟨#[],args,[]⟩).memory:=
 laidMetH_of_parts3 (fuel:=8) (laidMet_of_run' 8 (by kernel_rfl) (by kernel_rfl)) (by kernel_rfl) (by kernel_rfl)
theorem zhb {W:World} (hL:laidMetH Tryz.prog gC W) (hsh:W.ShapedOpen Tryz.prog):Glob B0 W:=by
 have hL':laidMet Tryz.prog gC W:=by
  rw [MakeChecks.laidMetH_plain _ _ _ (by kernel_rfl)] at hL;exact hL
 exact zae hL' hsh (n1 := "*errors.errorString") (n2 := "*errors.errorString") (.tail _ (.tail _ (.head _))) (.tail _ (.tail _ (.tail _ (.tail _ (.head _))))) (.tail _ (.tail _ (.tail _ (.tail _ (.tail _ (.head _))))))
end Go.Proofs.YtihliihljmfhlaaGreatDoor
