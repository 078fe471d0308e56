/-
  A small machine that reckons what a call comes to; the functions of the program, one by one. (THE NODES THAT copsekeep MAKES OF NUMBERS ARE A TREE'S: plai, A MODEL OF NUMBERS IS RIGHT: plain law (packing, trees, mode, WHAT cert's FUNCTIONS COME TO: specifications; of no program, and so on.)
-/
import Derived.Test.YtlolknmmmnbbgaaGreatDoorPc
set_option linter.all false
set_option maxRecDepth 100000
open Array renaming getElem?_eq_some_iff→C9,getElem?_toList→vau,getElem?_modify→vaW
open Bool renaming and_eq_true→AG,not_true→A1,not_false→A9,true_and→BG,and_self→BH,not_eq_true'→BW,false_and→BX,and_true→CR,or_eq_false_iff→C2,false_or→vav,and_false→vax,eq_iff_iff→vaC,or_eq_true→vaT
open Go.Addr.mk renaming injEq→C5
open Go.IntKind renaming wrap→AA,i64→AB
open Go.Lib renaming compactUpTo→vbl
open Go.ResultVar renaming tmp→BV,cell→vbf
open Go.Sort renaming ahead→vby
open Go.Value renaming ownBlock→B5
open Go.Value.slice renaming injEq→CD
open Go.World renaming cell?→vay
open Int renaming toNat→AD,toNat_natCast→BC,le_refl→CF,le_antisymm→vbv
open List renaming length→AE,getD→AI,take→AK,length_cons→AM,drop→AQ,length_append→AR,mem_cons_self→AU,mem_append→AV,mem_cons_of_mem→AW,mem_cons→AX,map_cons→AZ,map→A3,mem_singleton→A4,getElem?_eq_getElem→A5,length_nil→A6,drop_eq_getElem_cons→A7,length_take→A8,replicate→BB,take_length→BD,getD_eq_getElem?_getD→BO,getElem?_cons_zero→BP,getElem?_eq_some_iff→BQ,getElem?_eq_none→BU,drop_zero→B1,length_singleton→B3,map_nil→B6,getElem?_map→B8,length_map→B9,getElem?_take→CJ,all_eq_true→CN,take_of_length_le→CW,drop_length→CX,not_mem_nil→CY,drop_of_length_le→C4,length_drop→C7,getElem?_cons_succ→DA,getElem_mem→vaa,append_nil→vad,cons_append→vaf,getElem?_append→vag,mem_of_getElem?→vah,flatMap_cons→vam,mem_map→vao,length_set→vas,nil_append→vaE,append_assoc→vaG,range→vaQ,mem_of_mem_drop→vaX,mem_of_mem_take→vaY,getElem?_set_ne→va1,sum_cons→va2,getElem?_append_right→va9,filter_cons→vbc,mem_range→vbg,getElem?_append_left→vbo,eraseIdx_eq_take_drop_succ→vbG
open List.Perm renaming refl→vbF
open Nat renaming le_of_ble_eq_true→AN,le_refl→AT,zero_add→BK,beq→BM,blt→BN,ble→BS,zero_le→B2,le_trans→CE,ble_eq_true_of_le→CQ,add_zero→CZ,lt_or_ge→C1,min_eq_left→vaw,add_assoc→vaA,sub_zero→vaU,beq_refl→vbe,lt_succ_iff_lt_or_eq→vbn
open Option.some renaming injEq→AC,inj→CI
open Prod.mk renaming injEq→AS
namespace Go.FM
open Go
def PN (x:IV):Prop:=∃ v,-3000≤v∧v≤3000∧x=LB v
def SM (dim n:Int) (i:Nat) (x:IV):Prop:=∃ f a l,0≤f∧f < dim∧0≤a∧a≤9∧(i:Int) < l∧l+1 < n∧x=Q6 false 0 f a l (l+1)
def nm (x:IV) (j:Nat):Nat:=cond (x.cell 0).toBool 0 ((if (x.cell 4).toInt=(j:Int) then 1 else 0)+(if (x.cell 5).toInt=(j:Int) then 1 else 0))
def MM (l:LI) (j:Nat):Nat:=(l.map (nm · j)).sum
theorem iM {x:IV} (h:PN x) (j:Nat):nm x j=0:=by
 obtain ⟨v,_,_,rfl⟩:=h;rfl
theorem zcy (f a:Int) (n j:Nat):nm (Q6 false 0 f a (n:Int) ((n:Int)+1)) j=(if j=n then 1 else 0)+(if j=n+1 then 1 else 0):=by
 show (if (n:Int)=(j:Int) then 1 else 0)+(if (n:Int)+1=(j:Int) then 1 else 0)=_;have e1:((n:Int)=(j:Int))↔(j=n):=by omega
 have e2:((n:Int)+1=(j:Int))↔(j=n+1):=by omega
 simp only [e1,e2]
theorem zcx (l m:LI) (j:Nat):MM (l++m) j=MM l j+MM m j:=by simp [MM]
theorem Au:∀ {l:LI} {p:Nat} {x:IV} (y:IV) (j:Nat),l[p]?=some x→MM (l.set p y) j+nm x j=MM l j+nm y j
 | [],p,x,y,j,h=>by simp at h
 | z :: l,0,x,y,j,h=>by
  simp only [BP,AC] at h;subst h;simp only [List.set_cons_zero,MM,AZ,va2];omega
 | z :: l,p+1,x,y,j,h=>by
  have:=Au (l:=l) y j (by simpa using h)
  simp only [List.set_cons_succ,MM,AZ,va2] at this ⊢;omega
structure NsOK (dim:Int) (i:Nat) (s:Ns):Prop where
 len:s.nodes.length=2*i+1
 ll:s.leaves.length=i+1
 node:∀ (k:Nat) x,s.nodes[k]?=some x→PN x∨SM dim (2*(i:Int)+1) k x
 leaf:∀ y∈s.leaves,∃ p:Nat,y = .int (p:Int)∧∃ x,s.nodes[p]?=some x∧PN x
 dist:s.leaves.Nodup
 cnt:∀ j,MM s.nodes j=if 1≤j∧j < 2*i+1 then 1 else 0
theorem iW (l:LI) (i lo hi:Int) (h:lo≤hi) (h0 : -2000000000000000000≤lo) (h1:hi≤2000000000000000000):lo≤DS (ED l i) lo hi∧DS (ED l i) lo hi≤hi:=
 (JG h h0 h1).2
theorem cG (l:LI) (i:Int):PN (LB (DS (ED l i) (-3000) 3000)):=
 ⟨_,(iW l i (-3000) 3000 (by omega) (by omega) (by omega)).1,(iW l i (-3000) 3000 (by omega) (by omega) (by omega)).2,rfl⟩
theorem zcI (val:LI) (dim:Int):NsOK dim 0 ⟨[LB (DS (ED val 0) (-3000) 3000)],[.int 0]⟩ where
 len:=rfl
 ll:=rfl
 node k x h:=by
  cases k with
  | zero=>
   simp only [BP,AC] at h;subst h;exact .inl (cG val 0)
  | succ k=>simp at h
 leaf y hy:=by
  simp only [AX,CY,vak] at hy;exact ⟨0,hy,_,rfl,cG val 0⟩
 dist:=by simp
 cnt j:=by
  have:¬ (1≤j∧j < 2*0+1):=by omega
  rw [A2 this];show nm _ j+0=0;rw [iM (cG val 0)]
theorem zcC {l:LI} (h:l.Nodup) {k:Nat} {y:IV} (hk:l[k]?=some y):y ∉ l.take k++l.drop (k+1):=by
 intro hy;rw [← vbG,List.mem_eraseIdx_iff_getElem?] at hy;obtain ⟨i,hne,hi⟩:=hy;have h1:i < l.length:=(BQ.1 hi).1;have h2:k < l.length:=(BQ.1 hk).1
 have:l[i]=l[k]:=by
  rw [(BQ.1 hi).2,(BQ.1 hk).2]
 have hp:=List.pairwise_iff_getElem.1 h;rcases Nat.lt_trichotomy i k with hlt | heq | hlt
 ·exact hp i k h1 h2 hlt this
 ·exact hne heq
 ·exact hp k i h2 h1 hlt this.symm
theorem zcH {part byl atl val:LI} {dim:Int} (hd:1≤dim∧dim≤4) {i:Nat} (hi:i < 7) {s:Ns} (h:NsOK dim i s):NsOK dim (i+1) (JS part byl atl val dim i s):=by
 obtain ⟨k0,k1⟩:=(JG (n:=(part.getD i default).toInt) (lo:=0) (hi:=ic s.leaves.length - 1) (by simp only [ic]; have:=h.ll; omega) (by omega) (by simp only [ic]; have:=h.ll; omega)).2;have hk0:0≤HH part i s:=k0;have hk1:HH part i s≤ic s.leaves.length - 1:=k1;obtain ⟨k,hk⟩:∃ k:Nat,HH part i s=k:=⟨(HH part i s).toNat,by omega⟩;have hkl:k < s.leaves.length:=by simp only [ic] at hk1; omega
 have hky:s.leaves[k]?=some s.leaves[k]:=A5 hkl;obtain ⟨p,hp,x,hx,hlf⟩:=h.leaf _ (vaa hkl);have hat:(PZ part i s).toNat=p:=by
  unfold PZ;rw [hk,BC,BO,hky,hp];show ((p:Int)).toNat=p;omega
 have hpl:p < 2*i+1:=by rw [← h.len]; exact (BQ.1 hx).1
 have f1:=iW byl (i:Int) 0 (dim - 1) (by omega) (by omega) (by omega);have a1:=iW atl (i:Int) 0 9 (by omega) (by omega) (by omega);generalize hf:DS (ED byl (i:Int)) 0 (dim - 1)=f at f1;generalize ha:DS (ED atl (i:Int)) 0 9=a at a1;have el:ic s.nodes.length=2*(i:Int)+1:=by simp only [ic]; have:=h.len; omega
 have hs:JS part byl atl val dim i s=⟨s.nodes.set p (Q6 false 0 f a (2*(i:Int)+1) (2*(i:Int)+1+1))++[LB (DS (ED val (2*(i:Int)+1)) (-3000) 3000),LB (DS (ED val (2*(i:Int)+2)) (-3000) 3000)],
   s.leaves.take k++s.leaves.drop (k+1)++[.int (2*(i:Int)+1),.int (2*(i:Int)+1+1)]⟩:=by
  unfold JS;rw [hat,hk,BC,hf,ha,el]
 rw [hs];have L1:=cG val (2*(i:Int)+1);have L2:=cG val (2*(i:Int)+2);have hgrow:∀ (q:Nat) z,SM dim (2*(i:Int)+1) q z→SM dim (2*((i+1:Nat):Int)+1) q z:=fun q z hz=>by
  obtain ⟨f,a,l,h1,h2,h3,h4,h5,h6,h7⟩:=hz;exact ⟨f,a,l,h1,h2,h3,h4,h5,by omega,h7⟩
 have hlen:(s.nodes.set p (Q6 false 0 f a (2*(i:Int)+1) (2*(i:Int)+1+1))).length=2*i+1:=by rw [vas,h.len]
 have hnew:∀ (q:Nat) z,(s.nodes.set p (Q6 false 0 f a (2*(i:Int)+1) (2*(i:Int)+1+1))++[LB (DS (ED val (2*(i:Int)+1)) (-3000) 3000),LB (DS (ED val (2*(i:Int)+2)) (-3000) 3000)])[q]?=some z →
   (q≠p∧s.nodes[q]?=some z)∨(q=p∧z=Q6 false 0 f a (2*(i:Int)+1) (2*(i:Int)+1+1))∨PN z:=fun q z hz=>by
  by_cases hq:q < 2*i+1
  ·rw [vbo (by rw [hlen]; exact hq)] at hz;by_cases e:p=q
   ·subst e;rw [List.getElem?_set_self (by rw [h.len]; exact hpl)] at hz;exact .inr (.inl ⟨rfl,(CI hz).symm⟩)
   ·rw [va1 e] at hz;exact .inl ⟨fun e'=>e e'.symm,hz⟩
  ·rw [va9 (by rw [hlen]; omega),hlen] at hz;obtain ⟨r,hr⟩:∃ r,q - (2*i+1)=r:=⟨_,rfl⟩;rw [hr] at hz
   match r,hz with
   | 0,hz=>exact .inr (.inr (by simp at hz; subst hz; exact L1))
   | 1,hz=>exact .inr (.inr (by simp at hz; subst hz; exact L2))
   | r+2,hz=>simp at hz
 refine ⟨?_,?_,?_,?_,?_,?_⟩
 ·show (s.nodes.set p _++[_,_]).length=_;rw [AR,hlen];simp only [AM,A6];omega
 ·show (s.leaves.take k++s.leaves.drop (k+1)++[_,_]).length=_;simp only [AR,A8,C7,AM,A6]
  have:=h.ll
  omega
 ·intro q z hz;rcases hnew q z hz with ⟨_,hz⟩ | ⟨rfl,rfl⟩ | hz
  ·rcases h.node q z hz with h1 | h1
   ·exact .inl h1
   ·exact .inr (hgrow q z h1)
  ·exact .inr ⟨f,a,2*(i:Int)+1,f1.1,by omega,a1.1,a1.2,by omega,by omega,rfl⟩
  ·exact .inl hz
 ·intro y hy;rcases AV.1 hy with hy | hy
  ·have hne:y≠.int (p:Int):=fun e=>by
    have:=zcC h.dist hky
    rw [hp] at this;exact this (e ▸ hy)
   have hyl:y∈s.leaves:=by
    rcases AV.1 hy with hy | hy
    ·exact vaY hy
    ·exact vaX hy
   obtain ⟨q,hq,x',hx',hl'⟩:=h.leaf y hyl;have hqp:p≠q:=fun e=>by subst e; exact hne hq
   refine ⟨q,hq,x',?_,hl'⟩;have hql:q < 2*i+1:=by rw [← h.len]; exact (BQ.1 hx').1
   show (s.nodes.set p _++[_,_])[q]?=_;rw [vbo (by rw [hlen]; exact hql),va1 hqp,hx']
  ·simp only [AX,CY,vak] at hy;rcases hy with rfl | rfl
   ·refine ⟨2*i+1,by simp,LB (DS (ED val (2*(i:Int)+1)) (-3000) 3000),?_,L1⟩;show (s.nodes.set p _++[_,_])[2*i+1]?=_;rw [va9 (by rw [hlen]; omega),hlen]
    have:2*i+1 - (2*i+1)=0:=by omega
    rw [this];rfl
   ·refine ⟨2*i+1+1,by simp,LB (DS (ED val (2*(i:Int)+2)) (-3000) 3000),?_,L2⟩;show (s.nodes.set p _++[_,_])[2*i+1+1]?=_;rw [va9 (by rw [hlen]; omega),hlen]
    have:2*i+1+1 - (2*i+1)=1:=by omega
    rw [this];rfl
 ·show (s.leaves.take k++s.leaves.drop (k+1)++[_,_]).Nodup;have big:∀ y∈s.leaves,∀ n:Int,2*(i:Int)+1≤n→y≠.int n:=fun y hy n hn e=>by
   obtain ⟨q,hq,x',hx',_⟩:=h.leaf y hy;have hql:q < 2*i+1:=by rw [← h.len]; exact (BQ.1 hx').1
   rw [hq] at e;injection e with e
   omega
  have hsub:∀ y∈s.leaves.take k++s.leaves.drop (k+1),y∈s.leaves:=fun y hy=>by
   rcases AV.1 hy with hy | hy
   ·exact vaY hy
   ·exact vaX hy
  rw [List.nodup_append];refine ⟨?_,?_,?_⟩
  ·rw [← vbG];exact List.Nodup.sublist (List.eraseIdx_sublist ..) h.dist
  ·rw [List.nodup_cons];refine ⟨fun hm=>?_,by simp⟩;simp only [AX,CY,vak] at hm;injection hm with hm
   omega
  ·intro y hy z hz e;subst e;simp only [AX,CY,vak] at hz;rcases hz with hz | hz
   ·exact big y (hsub y hy) _ (by omega) hz
   ·exact big y (hsub y hy) _ (by omega) hz
 ·intro j;show MM (s.nodes.set p _++[_,_]) j=_;rw [zcx];have h1:=Au (Q6 false 0 f a (2*(i:Int)+1) (2*(i:Int)+1+1)) j hx;rw [iM hlf,h.cnt j] at h1;have h2:MM [LB (DS (ED val (2*(i:Int)+1)) (-3000) 3000),LB (DS (ED val (2*(i:Int)+2)) (-3000) 3000)] j=0:=by
   show nm _ j+(nm _ j+0)=0;rw [iM L1,iM L2]
  have h3:=zcy f a (2*i+1) j;have e:((2*i+1:Nat):Int)=2*(i:Int)+1:=by omega
  rw [e] at h3;rw [h3] at h1;rw [h2];by_cases c1:1≤j∧j < 2*i+1
  ·rw [BJ c1,A2 (by omega),A2 (by omega)] at h1;rw [BJ (by omega)];omega
  ·rw [A2 c1] at h1;by_cases c2:j=2*i+1
   ·rw [BJ c2,A2 (by omega)] at h1;rw [BJ (by omega)];omega
   ·by_cases c3:j=2*i+1+1
    ·rw [A2 c2,BJ c3] at h1;rw [BJ (by omega)];omega
    ·rw [A2 c2,A2 c3] at h1;rw [A2 (by omega)];omega
theorem Bg {part byl atl val:LI} {dim:Int} (hd:1≤dim∧dim≤4):∀ (d i:Nat) (s:Ns),i+d≤7→NsOK dim i s→NsOK dim (i+d) (XV part byl atl val dim d i s)
 | 0,i,s,_,h=>h
 | d+1,i,s,hi,h=>by
  have:=Bg (part:=part) (byl:=byl) (atl:=atl) (val:=val) hd d (i+1) _ (by omega) (zcH (part:=part) (byl:=byl) (atl:=atl) (val:=val) hd (by omega) h)
  rw [vaA,Nat.add_comm 1 d] at this;exact this
theorem Bh (part byl atl val:LI) {dim:Int} (hd:1≤dim∧dim≤4):∃ i,i≤7∧NsOK dim i (NZ part byl atl val dim):=by
 refine ⟨min part.length 7,by omega,?_⟩
 have:=Bg (part:=part) (byl:=byl) (atl:=atl) (val:=val) hd (min part.length 7) 0 _ (by omega) (zcI val dim)
 rw [BK] at this;exact this
open Go
theorem Nd.eq_of {x y:Nd} (h:x.eq y=true):x=y:=by
 obtain ⟨a1,a2,a3,a4,a5,a6⟩:=x;obtain ⟨b1,b2,b3,b4,b5,b6⟩:=y;simp only [Nd.eq,AG,CB,BY] at h;obtain ⟨rfl,rfl,rfl,rfl,rfl,rfl⟩:=h;rfl
theorem oG {w:Int} (h:GA w=true):II (DE w)=w∧NA (DE w)=true:=by
 have hn:DE w=VX w:=by unfold DE; rw [h]; rfl
 unfold GA at h;simp only [AG,BW,CB,BZ] at h;rw [hn];refine ⟨h.2,?_⟩;cases hr:NA (VX w) with
 | true=>rfl
 | false=>
  have:=h.2
  unfold II at this;rw [hr] at this;exact absurd this.symm h.1
def nN (i:Nat):Bool:=GA (HP true ((i:Int) - 3000) 0 0 0 0)&&(DE (HP true ((i:Int) - 3000) 0 0 0 0)).eq ⟨true,(i:Int) - 3000,0,0,0,0⟩
def iG:Nat→Bool
 | 0=>true
 | n+1=>nN n&&iG n
theorem zN:∀ {n i:Nat},iG n=true→i < n→nN i=true
 | n+1,i,h,hi=>by
  rw [iG,AG] at h;by_cases e:i=n
  ·subst e; exact h.1
  ·exact zN h.2 (by omega)
def mS (i:Nat):Bool:=GA (HP false 0 ((i % 4:Nat):Int) ((i / 4 % 10:Nat):Int) ((i / 40:Nat):Int) (((i / 40:Nat):Int)+1)) &&
 (DE (HP false 0 ((i % 4:Nat):Int) ((i / 4 % 10:Nat):Int) ((i / 40:Nat):Int) (((i / 40:Nat):Int)+1))).eq ⟨false,0,((i % 4:Nat):Int),((i / 4 % 10:Nat):Int),((i / 40:Nat):Int),((i / 40:Nat):Int)+1⟩
def gM:Nat→Bool
 | 0=>true
 | n+1=>(BN n 40||mS n)&&gM n
theorem yE:∀ {n i:Nat},gM n=true→i < n→40≤i→mS i=true
 | n+1,i,h,hi,h40=>by
  rw [gM,AG] at h;by_cases e:i=n
  ·subst e
   have:=h.1
   rw [vaT] at this;rcases this with h1 | h1
   ·have:i < 40:=AN h1
    omega
   ·exact h1
  ·exact yE h.2 (by omega) h40
theorem zaq:iG 6001=true:=by kernel_rfl
theorem Ui:gM 1200=true:=by kernel_rfl
theorem nJ {v:Int} (h0 : -3000≤v) (h1:v≤3000):GA (HP true v 0 0 0 0)=true∧DE (HP true v 0 0 0 0)=⟨true,v,0,0,0,0⟩:=by
 have h:=zN zaq (show (v+3000).toNat < 6001 by omega);have e:(((v+3000).toNat:Nat):Int) - 3000=v:=by omega
 unfold nN at h;rw [e,AG] at h;exact ⟨h.1,Nd.eq_of h.2⟩
theorem yI {f a l:Int} (hf:0≤f∧f < 4) (ha:0≤a∧a≤9) (hl:1≤l∧l≤28):GA (HP false 0 f a l (l+1))=true∧DE (HP false 0 f a l (l+1))=⟨false,0,f,a,l,l+1⟩:=by
 have h:=yE Ui (show l.toNat*40+a.toNat*4+f.toNat < 1200 by omega) (by omega);have e1:(((l.toNat*40+a.toNat*4+f.toNat) % 4:Nat):Int)=f:=by omega
 have e2:(((l.toNat*40+a.toNat*4+f.toNat) / 4 % 10:Nat):Int)=a:=by omega
 have e3:(((l.toNat*40+a.toNat*4+f.toNat) / 40:Nat):Int)=l:=by omega
 unfold mS at h;rw [e1,e2,e3,AG] at h;exact ⟨h.1,Nd.eq_of h.2⟩
theorem zgo {dim n:Int} (hd:dim≤4) (hn:n≤29) {i:Nat} {x:IV} (h:PN x∨SM dim n i x) (j:Nat):KH (DE (RA x).toInt) j=nm x j:=by
 rcases h with ⟨v,h0,h1,rfl⟩ | ⟨f,a,l,h0,h1,h2,h3,h4,h5,rfl⟩
 ·show KH (DE (HP true v 0 0 0 0)) j=_;rw [(nJ h0 h1).2];rfl
 ·show KH (DE (HP false 0 f a l (l+1))) j=_;rw [(yI ⟨h0,by omega⟩ ⟨h2,h3⟩ ⟨by omega,by omega⟩).2];rfl
theorem zgp {dim n:Int} (hd:dim≤4) (hn:n≤29) {i:Nat} {x:IV} (h:PN x∨SM dim n i x):(GA (RA x).toInt&&M4 dim n i (DE (RA x).toInt))=true:=by
 rcases h with ⟨v,h0,h1,rfl⟩ | ⟨f,a,l,h0,h1,h2,h3,h4,h5,rfl⟩
 ·show (GA (HP true v 0 0 0 0)&&M4 dim n i (DE (HP true v 0 0 0 0)))=true;rw [(nJ h0 h1).1,(nJ h0 h1).2];rfl
 ·show (GA (HP false 0 f a l (l+1))&&M4 dim n i (DE (HP false 0 f a l (l+1))))=true;have hw:=yI ⟨h0,by omega⟩ ⟨h2,h3⟩ (show 1≤l∧l≤28 by omega);rw [hw.1,hw.2];unfold M4;simp only [CG,AL (show ¬ f≥dim by omega),BZ.2 (show l≠l+1 by omega),AL (show ¬ min l (l+1)≤(i:Int) by omega),AL (show ¬ max l (l+1)≥n by omega)];rfl
theorem Bb {dim n:Int} (hd:dim≤4) (hn:n≤29):∀ {l:LI} {i:Nat},(∀ (k:Nat) x,l[k]?=some x→PN x∨SM dim n (i+k) x)→KI dim n i (l.map RA)=true
 | [],_,_=>rfl
 | x :: l,i,h=>by
  rw [AZ,KI,AG];refine ⟨zgp hd hn (h 0 x rfl),Bb hd hn (i:=i+1) fun k y hk=>?_⟩
  have:=h (k+1) y (by simpa using hk)
  rwa [show i+(k+1)=i+1+k by omega] at this
theorem Ap {dim n:Int} (hd:dim≤4) (hn:n≤29) (j:Nat):∀ {l:LI} {i:Nat},(∀ (k:Nat) x,l[k]?=some x→PN x∨SM dim n (i+k) x)→H2 (l.map RA) j=MM l j
 | [],_,_=>rfl
 | x :: l,i,h=>by
  have ih:=Ap hd hn j (l:=l) (i:=i+1) fun k y hk=>by
   have:=h (k+1) y (by simpa using hk)
   rwa [show i+(k+1)=i+1+k by omega] at this
  have h0:=zgo hd hn (h 0 x rfl) j;unfold H2 MM at ih ⊢;simp only [AZ,va2];rw [h0,ih]
theorem zcB (part byl atl val:LI) {dim:Int} (hd:1≤dim∧dim≤4):FY (MN part byl atl val dim) dim=true:=by
 obtain ⟨i,hi,h⟩:=Bh part byl atl val hd;have hlen:(MN part byl atl val dim).length=2*i+1:=by
  unfold MN;rw [B9,h.len]
 have hn:∀ (k:Nat) x,(NZ part byl atl val dim).nodes[k]?=some x→PN x∨SM dim (ic (MN part byl atl val dim).length) (0+k) x:=fun k x hk=>by
  have e:ic (MN part byl atl val dim).length=2*(i:Int)+1:=by simp only [ic]; omega
  rw [e,BK];exact h.node k x hk
 have hb:ic (MN part byl atl val dim).length≤29:=by simp only [ic]; omega
 unfold FY;rw [AG,AG,AG];refine ⟨⟨CQ (by omega),CQ (by omega)⟩,Bb hd.2 hb hn,?_⟩;unfold XY;rw [CN];intro j hj;have hj:=vbg.1 hj;rw [CB]
 have:=Ap hd.2 hb (j+1) hn
 have e:H2 (MN part byl atl val dim) (j+1)=MM (NZ part byl atl val dim).nodes (j+1):=this;rw [e,h.cnt,BJ (by omega)]
theorem bQ (d:Int):1≤M3 d∧M3 d≤3:=(JG (n:=d) (lo:=1) (hi:=3) (by omega) (by omega) (by omega)).2
theorem fT (d:Int):1≤J2 d∧J2 d≤3:=(JG (n:=d) (lo:=1) (hi:=3) (by omega) (by omega) (by omega)).2
def oB (d c:Int) (bias ts:LI):Md:=⟨M3 d,J2 c,QQ c bias 0,QQ c bias 1,QQ c bias 2,TB d c ts⟩
theorem k9 (c:Int) (bias:LI) (j:Int):H6 (J2 c) j (QQ c bias j)=true:=by
 unfold H6 QQ
 have:=(JG (n:=ED bias j) (lo := -500) (hi:=500) (by omega) (by omega) (by omega)).2
 rcases Int.lt_or_le j (J2 c) with h | h
 ·rw [AF h,AL (show ¬ j≥J2 c by omega)];simp only [CT,BX,A9,CR];unfold EY;rw [AF (by omega),AF (by omega)];rfl
 ·rw [AL (show ¬ j < J2 c by omega),AF (show j≥J2 c from h)];rfl
theorem zf8 (d c:Int) (t:IV):HW (M3 d) (J2 c) (YL d c t)=true:=by
 have hd:=bQ d;have hc:=fT c;have hk:=(JG (n:=(t.cell 0).toInt) (lo:=0) (hi:=J2 c - 1) (by omega) (by omega) (by omega)).2;show (!(decide (DS (t.cell 0).toInt 0 (J2 c - 1) < 0))&&(!(decide (DS (t.cell 0).toInt 0 (J2 c - 1)≥J2 c))&&FY (MN (t.cell 1).toList (t.cell 2).toList (t.cell 3).toList (t.cell 4).toList (M3 d)) (M3 d)))=true;rw [AL (by omega),AL (by omega),zcB _ _ _ _ ⟨hd.1,by omega⟩];rfl
theorem zga (d c:Int) (ts:LI):(TB d c ts).all (HW (M3 d) (J2 c))=true:=by
 rw [CN];intro t ht;unfold TB at ht;obtain ⟨u,_,rfl⟩:=vao.1 ht;exact zf8 d c u
theorem zf9 (d c:Int) (ts:LI):(TB d c ts).length≤4:=by
 unfold TB;rw [B9,A8];omega
theorem zaC {m:Md} (hd:1≤m.d∧m.d≤4) (hc:1≤m.c∧m.c≤3) (hl:m.ts.length≤8) (h0:H6 m.c 0 m.b0=true) (h1:H6 m.c 1 m.b1=true) (h2:H6 m.c 2 m.b2=true) (ht:m.ts.all (HW m.d m.c)=true):EQ m=true:=by
 unfold EQ;rw [AL (show ¬ m.d < 1 by omega),AL (show ¬ m.d > 4 by omega),AL (show ¬ m.c < 1 by omega),AL (show ¬ m.c > 3 by omega),CQ hl,h0,h1,h2,ht];rfl
theorem zaD (d c:Int) (bias ts:LI):EQ (oB d c bias ts)=true:=by
 have hd:=bQ d;have hc:=fT c;exact zaC (m:=oB d c bias ts) ⟨hd.1,by show M3 d≤4; omega⟩ hc (by have:=zf9 d c ts; show (TB d c ts).length≤8; omega) (k9 c bias 0) (k9 c bias 1) (k9 c bias 2) (zga d c ts)
open Go
abbrev ES:List Kd:=[.bool,.z,.z]
def H5 (x:IV):Bool:=(x.cell 0).toBool
def E8 (x:IV):Int:=(x.cell 1).toInt
def FR (x:IV):Int:=(x.cell 2).toInt
def qL (x y:IV):Bool:=H5 x==H5 y&&(E8 x==E8 y&&FR x==FR y)
def jV (x:IV):Bool:=!(H5 x&&!(E8 x==0&&FR x==0))&&(decide (0≤E8 x)&&decide (E8 x≤4))
def YJ (l:LI):Bool:=decide (1≤l.length)&&(decide (l.length≤65536)&&l.all jV)
def ZK:DK
 | [.list true [.bool,.z,.z] l]=>.ok (.bool (YJ l)) []
 | _=>.no
def L7:LI→LI→Bool
 | [],[]=>true
 | x :: l,y :: m=>qL x y&&L7 l m
 | _,_=>false
structure Vd where
 kind:Int
 proof:LI
 w0:Int
 w1:Int
 w2:Int
 w3:Int
 twin:Int
 spent:Int
def Vd.none:Vd:=⟨0,[],0,0,0,0,0,0⟩
def Vd.V (v:Vd):V:=.agg [.int .i64 v.kind,.list true ES v.proof,.int .i64 v.w0,.int .i64 v.w1,.int .i64 v.w2,.int .i64 v.w3,.int .i64 v.twin,.int .i64 v.spent]
def Vd.bare (v:Vd):Bool:=v.w0==0&&(v.w1==0&&(v.w2==0&&(v.w3==0&&v.twin==0)))
def Vd.right (v:Vd):Bool:=
 decide (0≤v.spent)&&(decide (v.spent≤65536) &&
  (v.kind==1&&(v.bare&&YJ v.proof)||(v.kind==2&&v.proof.isEmpty||(v.kind==3||v.kind==4)&&(v.bare&&v.proof.isEmpty))))
def ZI:DK
 | [.agg [.int .i64 k,.list true [.bool,.z,.z] p,.int .i64 a,.int .i64 b,.int .i64 c,.int .i64 d,.int .i64 t,.int .i64 s]]=>.ok (.bool (Vd.right ⟨k,p,a,b,c,d,t,s⟩)) []
 | _=>.no
def P2:BA→LI→BA
 | s,[]=>s
 | s,x :: l=>P2 (s.push 32++DP x.toInt) l
def GO (s w:BA) (l:LI):BA:=(P2 (s++w) l).push 10
def ZJ:DK
 | [.bor [.bld s],.str w,.list false [.z] l]=>.br (decide ((GO s w l).size≤strMax)) (.ok (.tup []) [[.bld (GO s w l)]]) .no
 | _=>.no
abbrev kE:BA:=⟨#[104,111,108,100,115]⟩
abbrev zgi:BA:=⟨#[102,97,105,108,115]⟩
abbrev zgl:BA:=⟨#[117,110,107,110,111,119,110]⟩
abbrev zgm:BA:=⟨#[119,114,111,110,103]⟩
abbrev rQ:BA:=⟨#[115,117,109]⟩
abbrev rL:BA:=⟨#[99,117,116]⟩
abbrev QB:BA:=⟨#[10]⟩
abbrev IB:BA:=⟨#[]⟩
def SW:BA→LI→BA
 | s,[]=>s
 | s,x :: l=>SW (cond (H5 x) (GO s rQ []) (GO s rL [.int (E8 x),.int (FR x)])) l
def MP (v:Vd):BA:=
 cond v.right
  (cond (v.kind==1) (SW (GO IB kE [.int v.spent,.int (ic v.proof.length)]) v.proof)
  (cond (v.kind==2) (GO IB zgi [.int v.spent,.int v.w0,.int v.w1,.int v.w2,.int v.w3,.int v.twin])
  (cond (v.kind==3) (GO IB zgl [.int v.spent])
  (GO IB zgm [.int v.spent]))))
  IB
def ZH:DK
 | [.agg [.int .i64 k,.list true [.bool,.z,.z] p,.int .i64 a,.int .i64 b,.int .i64 c,.int .i64 d,.int .i64 t,.int .i64 s]]=>
  .br (decide ((MP ⟨k,p,a,b,c,d,t,s⟩).size≤strMax)) (.ok (.str (MP ⟨k,p,a,b,c,d,t,s⟩)) []) .no
 | _=>.no
open Go
def Nd.cs (x:Nd):List FM.V:=[.bool x.lf,.int .i64 x.v,.int .i64 x.f,.int .i64 x.a,.int .i64 x.l,.int .i64 x.r]
def Nd.V (x:Nd):FM.V:=.agg x.cs
def Md.cs (m:Md):List FM.V:=[.int .i64 m.d,.int .i64 m.c,.int .i64 m.b0,.int .i64 m.b1,.int .i64 m.b2,.list true [.z,.list false [.int .u64]] m.ts]
def Md.V (m:Md):FM.V:=.agg m.cs
def Qy.cs (q:Qy):List FM.V:=[.int .i64 q.k,.int .i64 q.c,.int .i64 q.a0,.int .i64 q.b0,.int .i64 q.a1,.int .i64 q.b1,.int .i64 q.a2,.int .i64 q.b2,.int .i64 q.a3,.int .i64 q.b3,.int .i64 q.a4,.int .i64 q.b4,.int .i64 q.lo,.int .i64 q.hi,.int .i64 q.ft,.bool q.fl,.int .i64 q.bu]
def Vd.cs (v:Vd):List FM.V:=[.int .i64 v.kind,.list true [.bool,.z,.z] v.proof,.int .i64 v.w0,.int .i64 v.w1,.int .i64 v.w2,.int .i64 v.w3,.int .i64 v.twin,.int .i64 v.spent]
def Ak.cs (a:Ak):List FM.V:=[.int .i64 a.k,.int .i64 a.c,.int .i64 a.lo,.int .i64 a.size,.int .i64 a.ft,.int .i64 a.bu,.bool a.fl,.list false [.z] a.sp]
def Ak.V (a:Ak):FM.V:=.agg a.cs
structure Sp where
 lo:Int
 hi:Int
def Sp.cs (s:Sp):List FM.V:=[.int .i64 s.lo,.int .i64 s.hi]
def Sp.V (s:Sp):FM.V:=.agg s.cs
structure Bx where
 s0:Sp
 s1:Sp
 s2:Sp
 s3:Sp
 s4:Sp
def Bx.g (b:Bx):Nat→Sp
 | 0=>b.s0
 | 1=>b.s1
 | 2=>b.s2
 | 3=>b.s3
 | _=>b.s4
def Bx.p (b:Bx) (s:Sp):Nat→Bx
 | 0=>⟨s,b.s1,b.s2,b.s3,b.s4⟩
 | 1=>⟨b.s0,s,b.s2,b.s3,b.s4⟩
 | 2=>⟨b.s0,b.s1,s,b.s3,b.s4⟩
 | 3=>⟨b.s0,b.s1,b.s2,s,b.s4⟩
 | _=>⟨b.s0,b.s1,b.s2,b.s3,s⟩
def Bx.cs (b:Bx):List FM.V:=[.int .i64 b.s0.lo,.int .i64 b.s0.hi,.int .i64 b.s1.lo,.int .i64 b.s1.hi,.int .i64 b.s2.lo,.int .i64 b.s2.hi,.int .i64 b.s3.lo,.int .i64 b.s3.hi,.int .i64 b.s4.lo,.int .i64 b.s4.hi]
def Bx.V (b:Bx):FM.V:=.agg b.cs
structure Pt where
 p0:Int
 p1:Int
 p2:Int
 p3:Int
def Pt.cs (p:Pt):List FM.V:=[.int .i64 p.p0,.int .i64 p.p1,.int .i64 p.p2,.int .i64 p.p3]
def Pt.V (p:Pt):FM.V:=.agg p.cs
def Pt.g (p:Pt):Nat→Int
 | 0=>p.p0
 | 1=>p.p1
 | 2=>p.p2
 | _=>p.p3
def spOf?:List FM.V→Option Sp
 | [.int .i64 a,.int .i64 b]=>some ⟨a,b⟩
 | _=>none
def ptOf?:List FM.V→Option Pt
 | [.int .i64 a,.int .i64 b,.int .i64 c,.int .i64 d]=>some ⟨a,b,c,d⟩
 | _=>none
def bxOf?:List FM.V→Option Bx
 | [.int .i64 a0,.int .i64 b0,.int .i64 a1,.int .i64 b1,.int .i64 a2,.int .i64 b2,.int .i64 a3,.int .i64 b3,.int .i64 a4,.int .i64 b4]=>some ⟨⟨a0,b0⟩,⟨a1,b1⟩,⟨a2,b2⟩,⟨a3,b3⟩,⟨a4,b4⟩⟩
 | _=>none
def mdOf?:List FM.V→Option Md
 | [.int .i64 d,.int .i64 c,.int .i64 b0,.int .i64 b1,.int .i64 b2,.list true [.z,.list false [.int .u64]] ts]=>some ⟨d,c,b0,b1,b2,ts⟩
 | _=>none
def qyOf?:List FM.V→Option Qy
 | [.int .i64 k,.int .i64 c,.int .i64 a0,.int .i64 b0,.int .i64 a1,.int .i64 b1,.int .i64 a2,.int .i64 b2,.int .i64 a3,.int .i64 b3,.int .i64 a4,.int .i64 b4,.int .i64 lo,.int .i64 hi,.int .i64 ft,.bool fl,.int .i64 bu]=>
  some ⟨k,c,a0,b0,a1,b1,a2,b2,a3,b3,a4,b4,lo,hi,ft,fl,bu⟩
 | _=>none
def vdOf?:List FM.V→Option Vd
 | [.int .i64 k,.list true [.bool,.z,.z] p,.int .i64 a,.int .i64 b,.int .i64 c,.int .i64 d,.int .i64 t,.int .i64 s]=>some ⟨k,p,a,b,c,d,t,s⟩
 | _=>none
def RH {α:Type} (of:List FM.V→Option α) (v:FM.V) (k:α→R):R:=
 match v with
 | .agg l=>match of l with | some x=>k x | none=>.no
 | _=>.no
abbrev YR (v:FM.V) (k:Sp→R):R:=RH spOf? v k
abbrev TH (v:FM.V) (k:Pt→R):R:=RH ptOf? v k
abbrev HC (v:FM.V) (k:Bx→R):R:=RH bxOf? v k
abbrev ID (v:FM.V) (k:Md→R):R:=RH mdOf? v k
abbrev IO (v:FM.V) (k:Qy→R):R:=RH qyOf? v k
abbrev Kf (v:FM.V) (k:Vd→R):R:=RH vdOf? v k
theorem WI {α:Type} {of:List FM.V→Option α} {v:FM.V} {k:α→R} {z:FM.V × List (List FM.V)} (h:(RH of v k).get=some z):∃ l x,v = .agg l∧of l=some x∧(k x).get=some z:=by
 unfold RH at h;split at h
 ·rename_i l;split at h
  ·rename_i x hx;exact ⟨l,x,rfl,hx,h⟩
  ·simp [R.get] at h
 ·simp [R.get] at h
theorem eD {v:FM.V} {k:Sp→R} {z:FM.V × List (List FM.V)} (h:(YR v k).get=some z):∃ x:Sp,v=x.V∧(k x).get=some z:=by
 obtain ⟨l,x,rfl,hx,h⟩:=WI h;unfold spOf? at hx;split at hx
 ·simp only [AC] at hx;subst hx;exact ⟨_,rfl,h⟩
 ·cases hx
theorem WJ {v:FM.V} {k:Pt→R} {z:FM.V × List (List FM.V)} (h:(TH v k).get=some z):∃ x:Pt,v=x.V∧(k x).get=some z:=by
 obtain ⟨l,x,rfl,hx,h⟩:=WI h;unfold ptOf? at hx;split at hx
 ·simp only [AC] at hx;subst hx;exact ⟨_,rfl,h⟩
 ·cases hx
theorem HK {v:FM.V} {k:Bx→R} {z:FM.V × List (List FM.V)} (h:(HC v k).get=some z):∃ x:Bx,v=x.V∧(k x).get=some z:=by
 obtain ⟨l,x,rfl,hx,h⟩:=WI h;unfold bxOf? at hx;split at hx
 ·simp only [AC] at hx;subst hx;exact ⟨_,rfl,h⟩
 ·cases hx
theorem IN {v:FM.V} {k:Md→R} {z:FM.V × List (List FM.V)} (h:(ID v k).get=some z):∃ x:Md,v=x.V∧(k x).get=some z:=by
 obtain ⟨l,x,rfl,hx,h⟩:=WI h;unfold mdOf? at hx;split at hx
 ·simp only [AC] at hx;subst hx;exact ⟨_,rfl,h⟩
 ·cases hx
theorem I3 {v:FM.V} {k:Qy→R} {z:FM.V × List (List FM.V)} (h:(IO v k).get=some z):∃ x:Qy,v=x.V∧(k x).get=some z:=by
 obtain ⟨l,x,rfl,hx,h⟩:=WI h;unfold qyOf? at hx;split at hx
 ·simp only [AC] at hx;subst hx;exact ⟨_,rfl,h⟩
 ·cases hx
theorem zgn {v:FM.V} {k:Vd→R} {z:FM.V × List (List FM.V)} (h:(Kf v k).get=some z):∃ x:Vd,v=x.V∧(k x).get=some z:=by
 obtain ⟨l,x,rfl,hx,h⟩:=WI h;unfold vdOf? at hx;split at hx
 ·simp only [AC] at hx;subst hx;exact ⟨_,rfl,h⟩
 ·cases hx
def Sp.emp (s:Sp):Bool:=decide (s.lo > s.hi)
def Sp.has (s:Sp) (n:Int):Bool:=decide (s.lo≤n)&&decide (n≤s.hi)
def JV (lo hi:Int):Sp:=cond (decide (lo > hi)) ⟨1,0⟩ ⟨lo,hi⟩
def Sp.meet (a b:Sp):Sp:=JV (max a.lo b.lo) (min a.hi b.hi)
def Sp.cutL (s:Sp) (a:Int):Sp:=JV s.lo (min s.hi a)
def Sp.cutH (s:Sp) (a:Int):Sp:=cond (decide (a≥s.hi)) ⟨1,0⟩ (JV (max s.lo (FC (a+1))) s.hi)
def UI:DK
 | []=>.ok (.agg [.int .i64 1,.int .i64 0]) []
 | _=>.no
def UJ:DK
 | [.int .i64 lo,.int .i64 hi]=>.ok (JV lo hi).V []
 | _=>.no
def UG:DK
 | [s]=>YR s fun s=>.ok (.bool (s.emp)) []
 | _=>.no
def UH:DK
 | [s,.int .i64 n]=>YR s fun s=>.ok (.bool (s.has n)) []
 | _=>.no
def aW:DK
 | [a,b]=>YR a fun a=>YR b fun b=>.ok (a.meet b).V []
 | _=>.no
def eY:DK
 | [s,.int .i64 n]=>YR s fun s=>.ok (.tup [(s.cutL n).V,(s.cutH n).V]) []
 | _=>.no
def Bx.I (b:Bx):IV:=.agg [.int b.s0.lo,.int b.s0.hi,.int b.s1.lo,.int b.s1.hi,.int b.s2.lo,.int b.s2.hi,.int b.s3.lo,.int b.s3.hi,.int b.s4.lo,.int b.s4.hi]
abbrev cI (x:IV) (j:Nat):Int:=(x.cell j).toInt
def DN (x:IV):Bx:=⟨⟨cI x 0,cI x 1⟩,⟨cI x 2,cI x 3⟩,⟨cI x 4,cI x 5⟩,⟨cI x 6,cI x 7⟩,⟨cI x 8,cI x 9⟩⟩
abbrev EZ:List Kd:=[.z,.z,.z,.z,.z,.z,.z,.z,.z,.z]
def Bx.emp (b:Bx):Bool:=b.s0.emp||(b.s1.emp||(b.s2.emp||(b.s3.emp||b.s4.emp)))
def OG:Bx:=⟨⟨0,0⟩,⟨0,0⟩,⟨0,0⟩,⟨0,0⟩,⟨0,0⟩⟩
def GT (i:Int):Bool:=decide (0≤i)&&decide (i < 5)
def Bx.cutL (b:Bx) (i a:Int):Bx:=b.p ((b.g i.toNat).cutL a) i.toNat
def Bx.cutH (b:Bx) (i a:Int):Bx:=b.p ((b.g i.toNat).cutH a) i.toNat
def Bx.meet (a b:Bx):Bx:=⟨a.s0.meet b.s0,a.s1.meet b.s1,a.s2.meet b.s2,a.s3.meet b.s3,a.s4.meet b.s4⟩
def Pt.p (p:Pt) (x:Int):Nat→Pt
 | 0=>⟨x,p.p1,p.p2,p.p3⟩
 | 1=>⟨p.p0,x,p.p2,p.p3⟩
 | 2=>⟨p.p0,p.p1,x,p.p3⟩
 | _=>⟨p.p0,p.p1,p.p2,x⟩
def Bx.low (b:Bx):Pt:=⟨b.s0.lo,b.s1.lo,b.s2.lo,b.s3.lo⟩
def Bx.has (b:Bx) (p:Pt) (t:Int):Bool:=b.s0.has p.p0&&(b.s1.has p.p1&&(b.s2.has p.p2&&(b.s3.has p.p3&&b.s4.has t)))
def JH:DK
 | [b]=>HC b fun b=>.ok (.bool (b.emp)) []
 | _=>.no
def ZF:DK
 | [b]=>HC b fun b=>.ok b.low.V []
 | _=>.no
def ZE:DK
 | [b,p,.int .i64 t]=>HC b fun b=>TH p fun p=>.ok (.bool (b.has p t)) []
 | _=>.no
def OB:DK
 | [b,.int .i64 i,.int .i64 a]=>HC b fun b=>.br (GT i) (.ok (.tup [(b.cutL i a).V,(b.cutH i a).V]) []) .no
 | _=>.no
def ZG:DK
 | [a,b]=>HC a fun a=>HC b fun b=>.ok (a.meet b).V []
 | _=>.no
def H0 (l:LI) (p:Pt):Nat→Int→Int × Nd
 | 0,_=>(-1,Nd.zero)
 | n+1,a=>
  cond (decide (a≥ic l.length)) (-1,Nd.zero)
   (cond (!(GA (l.getD a.toNat default).toInt)) (-1,Nd.zero)
    (cond (DE (l.getD a.toNat default).toInt).lf (a,DE (l.getD a.toNat default).toInt)
     (cond (decide (p.g (DE (l.getD a.toNat default).toInt).f.toNat≤(DE (l.getD a.toNat default).toInt).a)) (H0 l p n (DE (l.getD a.toNat default).toInt).l) (H0 l p n (DE (l.getD a.toNat default).toInt).r))))
def Rl (l:LI) (p:Pt):Int:=(H0 l p 31 0).1
def gD (l:LI) (p:Pt):Nd:=(H0 l p 31 0).2
def a8:DK
 | [.list false [.int .u64] l,p]=>TH p fun p=>.ok (.tup [.int .i64 (Rl l p),(gD l p).V]) []
 | _=>.no
def GC (l:LI) (p:Pt):Int:=(gD l p).v
def a7:DK
 | [.list false [.int .u64] l,p]=>TH p fun p=>.ok (.int .i64 (GC l p)) []
 | _=>.no
def G0 (m:Md) (c:Int):Int:=cond (c==0) m.b0 (cond (c==1) m.b1 m.b2)
abbrev JW (t:IV):Int:=cI t 0
abbrev EJ (t:IV):LI:=(t.cell 1).toList
def G1 (c:Int) (p:Pt):LI→Int→Int
 | [],s=>s
 | t :: r,s=>G1 c p r (cond (JW t==c) (s+GC (EJ t) p) s)
def GR (m:Md) (c:Int):Bool:=decide (0≤c)&&decide (c < m.c)
def aF:DK
 | [m,.int .i64 k,p]=>ID m fun m=>TH p fun p=>.br (EQ m&&GR m k) (.ok (.int .i64 (G1 k p m.ts (G0 m k))) []) .no
 | _=>.no
def D4 (m:Md) (k:Int) (p:Pt):Int:=cond (EQ m&&GR m k) (G1 k p m.ts (G0 m k)) 0
def UB:DK
 | [m,.int .i64 k,p]=>ID m fun m=>TH p fun p=>.ok (.int .i64 (D4 m k p)) []
 | _=>.no
def VG (x:Int):List Int→List Int
 | []=>[x]
 | y :: r=>cond (decide (x≤y)) (x :: y :: r) (y :: VG x r)
def KC:List Int→List Int
 | []=>[]
 | x :: r=>VG x (KC r)
def JN:Int→List Int→List Int
 | _,[]=>[]
 | p,x :: r=>cond (x==p) (JN x r) (x :: JN x r)
def IE:List Int→List Int
 | []=>[]
 | x :: r=>x :: JN x r
def IA (f:Int) (w:IV):List Int:=cond (!(DE w.toInt).lf&&(DE w.toInt).f==f) [(DE w.toInt).a] []
def HV (ts:LI) (f:Int):List Int:=ts.flatMap fun t=>(EJ t).flatMap (IA f)
def IM (ts:LI) (f:Int):List Int:=IE (KC (HV ts f))
def iZ (l:List Int):LI:=l.map IV.int
def aE:DK
 | [m,.int .i64 f]=>ID m fun m=>.br (EQ m) (.ok (.vec 3 false [.z] (iZ (IM m.ts f))) []) .no
 | _=>.no
def gY:Ip:=⟨3,false,fun rs l=>match rs with
 | []=>some (iZ (KC (l.map IV.toInt)))
 | _=>none⟩
def gW:Ip:=⟨3,true,fun rs l=>match rs with
 | []=>some (iZ (IE (l.map IV.toInt)))
 | _=>none⟩
def JA (a b:Int) (l:List Int):List Int:=l.filter fun t=>!(decide (t < a)||decide (t≥b))
def gX:Ip:=⟨3,true,fun rs l=>match rs with
 | [.clo f [.bor [.int .i64 a,.int .i64 b]]]=>cond (BM f 99) (some (iZ (JA a b (l.map IV.toInt)))) none
 | _=>none⟩
def Qy.bx (q:Qy):Bx:=⟨⟨q.a0,q.b0⟩,⟨q.a1,q.b1⟩,⟨q.a2,q.b2⟩,⟨q.a3,q.b3⟩,⟨q.a4,q.b4⟩⟩
def HR (d i:Int) (s:Sp):Bool:=!(decide (i≥d)&&!((s.lo==0)&&(s.hi==0)))&&(!s.emp&&(EY s.lo&&EY s.hi))
def N1 (b:Bx) (d:Int):Bool:=HR d 0 b.s0&&(HR d 1 b.s1&&(HR d 2 b.s2&&(HR d 3 b.s3&&HR d 4 b.s4)))
def aP:DK
 | [b,.int .i64 d]=>HC b fun b=>.ok (.bool (N1 b d)) []
 | _=>.no
def PP (m:Md) (q:Qy):Bool:=
 cond (q.k==1) (decide (q.lo≤q.hi)&&((q.ft==0)&&!q.fl))
  (cond (q.k==2) (decide (m.c≥2)&&((q.lo==0)&&((q.hi==0)&&((q.ft==0)&&!q.fl))))
   (cond (q.k==3) (decide (q.ft≥0)&&(decide (q.ft < m.d)&&((q.lo==0)&&(q.hi==0)))) false))
def EU (m:Md) (q:Qy):Bool:=EQ m&&(decide (q.c≥0)&&(decide (q.c < m.c)&&(decide (q.bu≥0)&&(decide (q.bu≤65536)&&(N1 q.bx m.d&&PP m q)))))
def GM (q:Qy):Bool:=(q.k==3)&&(decide (q.ft≥0)&&decide (q.ft < 4))
def EE (q:Qy):Bx:=q.bx.p (cond (GM q) (q.bx.g q.ft.toNat) ⟨0,0⟩) 4
def IK (q:Qy) (p:Pt) (t:Int):Pt:=cond (GM q) (p.p t q.ft.toNat) p
def VT (m:Md) (q:Qy) (p:Pt) (own:Int):Bool:=(vaQ m.c.toNat).any fun c=>!((c:Int)==q.c)&&decide (D4 m (c:Int) p≥own)
def FO (m:Md) (q:Qy) (p:Pt) (t:Int):Bool:=
 EU m q &&
  cond (q.k==1) (!(Sp.has ⟨q.lo,q.hi⟩ (D4 m q.c p)))
   (cond (q.k==2) (VT m q p (D4 m q.c p))
    (cond (decide (p.g q.ft.toNat≥t)) false
     (cond q.fl (decide (D4 m q.c (IK q p t) > D4 m q.c p)) (decide (D4 m q.c (IK q p t) < D4 m q.c p)))))
def H1 (n:Nd) (i:Nat) (own:LI):LI:=
 cond n.lf own ((own.set n.l.toNat ((DN (own.getD i default)).cutL n.f n.a).I).set n.r.toNat ((DN (own.getD i default)).cutH n.f n.a).I)
def ST (b:Bx) (v:Int):IV:=.agg [.int b.s0.lo,.int b.s0.hi,.int b.s1.lo,.int b.s1.hi,.int b.s2.lo,.int b.s2.hi,.int b.s3.lo,.int b.s3.hi,.int b.s4.lo,.int b.s4.hi,.int v]
abbrev FF (x:IV):Int:=cI x 10
abbrev D9:List Kd:=[.z,.z,.z,.z,.z,.z,.z,.z,.z,.z,.z]
def KG:LI→Nat→LI→LI→LI
 | [],_,_,out=>out
 | w :: r,i,own,out=>KG r (i+1) (H1 (DE w.toInt) i own) (cond ((DE w.toInt).lf&&!(DN (own.getD i default)).emp) (out++[ST (DN (own.getD i default)) (DE w.toInt).v]) out)
def F9 (l:LI) (b:Bx):LI:=cond (FY l 4&&!b.emp) (KG l 0 ((BB l.length OG.I).set 0 b.I) []) []
def T9:DK
 | [.list false [.int .u64] l,b]=>HC b fun b=>.ok (.list true D9 (F9 l b)) []
 | _=>.no
def ML:LI→Int→Int
 | [],a=>a
 | x :: r,a=>ML r (min a (FF x))
def MJ:LI→Int→Int
 | [],a=>a
 | x :: r,a=>MJ r (max a (FF x))
def KN (ps:LI):Int:=ML ps (FF (ps.getD 0 default))
def KM (ps:LI):Int:=MJ ps (FF (ps.getD 0 default))
def V5 (l:LI) (b:Bx):Bool:=!((F9 l b).isEmpty)
def GY (l:LI) (b:Bx):Int:=cond (V5 l b) (KN (F9 l b)) 0
def GW (l:LI) (b:Bx):Int:=cond (V5 l b) (KM (F9 l b)) 0
def ZD:DK
 | [.list false [.int .u64] l,b]=>HC b fun b=>.ok (.tup [.int .i64 (GY l b),.int .i64 (GW l b),.bool (V5 l b)]) []
 | _=>.no
def F7 (h:LI→Int) (c:Int):LI→Int→Int
 | [],s=>s
 | t :: r,s=>F7 h c r (cond (JW t==c) (s+h (EJ t)) s)
def E9 (m:Md) (c:Int) (b:Bx):Bool:=EQ m&&(GR m c&&!b.emp)
def DZ (m:Md) (c:Int) (b:Bx):Int:=cond (E9 m c b) (F7 (fun l=>GY l b) c m.ts (G0 m c)) 0
def DW (m:Md) (c:Int) (b:Bx):Int:=cond (E9 m c b) (F7 (fun l=>GW l b) c m.ts (G0 m c)) 0
def MW:DK
 | [m,.int .i64 k,b]=>ID m fun m=>HC b fun b=>.ok (.tup [.int .i64 (DZ m k b),.int .i64 (DW m k b),.bool (E9 m k b)]) []
 | _=>.no
def PW (m:Md) (c lo:Int) (b:Bx):Nat→Int→Int→Bool→Int
 | 0,_,a,_=>a
 | n+1,i,a,z=>cond (i==c) (PW m c lo b n (i+1) a z)
  (cond (!z||decide (lo - DW m i b < a)) (PW m c lo b n (i+1) (lo - DW m i b) true) (PW m c lo b n (i+1) a z))
def LW (m:Md) (c:Int) (b:Bx):Bool:=E9 m c b&&decide (m.c≥2)
def Q4 (m:Md) (c:Int) (b:Bx):Int:=cond (LW m c b) (PW m c (DZ m c b) b m.c.toNat 0 0 false) 0
def ZC:DK
 | [m,.int .i64 k,b]=>ID m fun m=>HC b fun b=>.ok (.tup [.int .i64 (Q4 m k b),.bool (LW m k b)]) []
 | _=>.no
def I8 (q:Qy) (b:Bx):Bx:=cond (GM q) (b.p ⟨0,0⟩ 4) b
def JE (q:Qy) (b:Bx):Bx:=cond (GM q) ((b.p b.s4 q.ft.toNat).p ⟨0,0⟩ 4) b
def MO (q:Qy) (b:Bx):Bool:=GM q&&(!b.emp&&decide ((b.g q.ft.toNat).lo < b.s4.hi))
def JM (m:Md) (q:Qy) (b:Bx):Bool:=GM q&&(E9 m q.c (I8 q b)&&E9 m q.c (JE q b))
def OI (m:Md) (q:Qy) (b:Bx):Int:=cond (JM m q b) (DZ m q.c (JE q b) - DW m q.c (I8 q b)) 0
def OH (m:Md) (q:Qy) (b:Bx):Int:=cond (JM m q b) (DW m q.c (JE q b) - DZ m q.c (I8 q b)) 0
def FS (m:Md) (q:Qy) (b:Bx):Bool:=
 EU m q &&
  cond b.emp true
   (cond (q.k==1) (E9 m q.c b&&(decide (q.lo≤DZ m q.c b)&&decide (DW m q.c b≤q.hi)))
    (cond (q.k==2) (LW m q.c b&&decide (Q4 m q.c b > 0))
     (cond (!(MO q b)) true
      (cond q.fl (JM m q b&&decide (OH m q b≤0)) (JM m q b&&decide (OI m q b≥0))))))
def HU (q:Qy) (i:Int):Int:=cond (decide (i≥0)&&decide (i < 4)) i (cond ((i==4)&&(q.k==3)) q.ft (-1))
def D6 (m:Md) (q:Qy) (b:Bx) (i:Nat):List Int:=
 cond (decide (HU q (i:Int) < 0)) [] (JA (b.g i).lo (b.g i).hi (IM m.ts (HU q (i:Int))))
def KS (m:Md) (q:Qy) (b:Bx):Nat→Nat→Option (Int × Int)
 | 0,_=>none
 | n+1,i=>cond (decide ((D6 m q b i).length > 0)) (some ((i:Int),(D6 m q b i).getD (((D6 m q b i).length - 1) / 2) 0)) (KS m q b n (i+1))
def EO (m:Md) (q:Qy) (b:Bx):Option (Int × Int):=KS m q b 5 0
def aO:DK
 | [m,q]=>ID m fun m=>IO q fun q=>.ok (.bool (PP m q)) []
 | _=>.no
def MX:DK
 | [m,q]=>ID m fun m=>IO q fun q=>.ok (.bool (EU m q)) []
 | _=>.no
def UF:DK
 | [q]=>IO q fun q=>.ok (.bool (GM q)) []
 | _=>.no
def OD:DK
 | [q]=>IO q fun q=>.ok (.bool (GM q)) []
 | _=>.no
def QM:DK
 | [q]=>IO q fun q=>.ok (EE q).V []
 | _=>.no
def aN:DK
 | [q,p,.int .i64 t]=>IO q fun q=>TH p fun p=>.ok (IK q p t).V []
 | _=>.no
def UE:DK
 | [m,q,p,.int .i64 t]=>ID m fun m=>IO q fun q=>TH p fun p=>.ok (.bool (FO m q p t)) []
 | _=>.no
def ZX:DK
 | [q,b]=>IO q fun q=>HC b fun b=>.ok (I8 q b).V []
 | _=>.no
def ZZ:DK
 | [q,b]=>IO q fun q=>HC b fun b=>.ok (JE q b).V []
 | _=>.no
def ZY:DK
 | [q,b]=>IO q fun q=>HC b fun b=>.ok (.bool (MO q b)) []
 | _=>.no
def ZW:DK
 | [m,q,b]=>ID m fun m=>IO q fun q=>HC b fun b=>.ok (.tup [.int .i64 (OI m q b),.int .i64 (OH m q b),.bool (JM m q b)]) []
 | _=>.no
def Z4:DK
 | [m,q,b]=>ID m fun m=>IO q fun q=>HC b fun b=>.ok (.bool (FS m q b)) []
 | _=>.no
def Z5:DK
 | [b]=>HC b fun b=>.ok (.tup [b.low.V,.int .i64 b.s4.hi]) []
 | _=>.no
def Z8:DK
 | [q,.int .i64 i]=>IO q fun q=>.ok (.int .i64 (HU q i)) []
 | _=>.no
def T8:DK
 | [m,q,b,.int .i64 i]=>ID m fun m=>IO q fun q=>HC b fun b=>.br (EQ m&&GT i) (.ok (.list false [.z] (iZ (D6 m q b i.toNat))) []) .no
 | _=>.no
def JF (o:Option (Int × Int)):Int:=match o with | none=>0 | some (i,_)=>i
def HQ (o:Option (Int × Int)):Int:=match o with | none=>0 | some (_,a)=>a
def Z6:DK
 | [m,q,b]=>ID m fun m=>IO q fun q=>HC b fun b=>.br (EQ m) (.ok (.tup [.int .i64 (JF (EO m q b)),.int .i64 (HQ (EO m q b)),.bool (EO m q b).isSome]) []) .no
 | _=>.no
structure Sr where
 left:LI
 proof:LI
 v:Vd
 spent:Int
def MS (s:Bool) (p a:Int):IV:=.agg [.bool s,.int p,.int a]
def DM (l:LI):Bx:=DN (l.getD (l.length - 1) default)
def FB (l:LI):LI:=l.take (l.length - 1)
def FE (m:Md) (q:Qy) (s:Sr):Sr:=
 cond (FS m q (DM s.left)) ⟨FB s.left,s.proof++[MS true 0 0],cond (ic (s.left.length - 1)==0) ⟨1,s.proof++[MS true 0 0],0,0,0,0,0,0⟩ s.v,s.spent+1⟩
  (cond (FO m q (DM s.left).low (DM s.left).s4.hi) ⟨FB s.left,s.proof,⟨2,[],(DM s.left).s0.lo,(DM s.left).s1.lo,(DM s.left).s2.lo,(DM s.left).s3.lo,(DM s.left).s4.hi,0⟩,s.spent+1⟩
   (cond (EO m q (DM s.left)).isSome
    ⟨FB s.left++[((DM s.left).cutH (JF (EO m q (DM s.left))) (HQ (EO m q (DM s.left)))).I,((DM s.left).cutL (JF (EO m q (DM s.left))) (HQ (EO m q (DM s.left)))).I],
     s.proof++[MS false (JF (EO m q (DM s.left))) (HQ (EO m q (DM s.left)))],s.v,s.spent+1⟩
    ⟨FB s.left,s.proof,⟨3,[],0,0,0,0,0,0⟩,s.spent+1⟩))
def H7 (q:Qy) (s:Sr):Bool:=!(s.v.kind==0)||decide (s.spent≥q.bu)
def L0 (m:Md) (q:Qy):Nat→Sr→Sr
 | 0,s=>s
 | n+1,s=>cond (H7 q s) s (L0 m q n (FE m q s))
def XU (m:Md) (q:Qy):Sr:=cond (EU m q) ⟨[(EE q).I],[],Vd.none,0⟩ ⟨[],[],⟨4,[],0,0,0,0,0,0⟩,0⟩
def KU (s:Sr):Vd:=⟨cond (s.v.kind==0) 3 s.v.kind,s.v.proof,s.v.w0,s.v.w1,s.v.w2,s.v.w3,s.v.twin,s.spent⟩
def FU (m:Md) (q:Qy):Vd:=KU (L0 m q (q.bu.toNat+1) (XU m q))
def FI (m:Md) (q:Qy) (r:List FM.V):List FM.V:=m.cs++(q.cs++r)
def seOf? (l:List FM.V):Option (Md × Qy × List FM.V):=
 match mdOf? (l.take 6),qyOf? ((l.drop 6).take 17) with
 | some m,some q=>some (m,q,(l.drop 6).drop 17)
 | _,_=>none
abbrev nI (l:LI):FM.V:=.vec 34 true EZ l
abbrev zae (l:LI):FM.V:=.vec 126 true ES l
abbrev gK (l:LI):FM.V:=.list true ES l
def YM (v:Vd) (vp:FM.V) (sp:Int):List FM.V:=[.int .i64 v.kind,vp,.int .i64 v.w0,.int .i64 v.w1,.int .i64 v.w2,.int .i64 v.w3,.int .i64 v.twin,.int .i64 v.spent,.int .i64 sp]
def N3 (t:Nat) (m:Md) (q:Qy) (s:Sr):List FM.V:=
 FI m q (match t with
  | 0=>nI s.left :: zae s.proof :: YM s.v .zs s.spent
  | 1=>nI s.left :: .zs :: YM s.v .zs s.spent
  | 2=>nI s.left :: gK s.proof :: YM s.v (gK s.v.proof) s.spent
  | _=>.zs :: .zs :: YM s.v .zs s.spent)
def srT?:List FM.V→Option (Nat × Sr)
 | [.vec 34 true [.z,.z,.z,.z,.z,.z,.z,.z,.z,.z] l,.vec 126 true [.bool,.z,.z] p,.int .i64 k,.zs,.int .i64 a,.int .i64 b,.int .i64 c,.int .i64 d,.int .i64 t,.int .i64 vs,.int .i64 sp]=>some (0,⟨l,p,⟨k,[],a,b,c,d,t,vs⟩,sp⟩)
 | [.vec 34 true [.z,.z,.z,.z,.z,.z,.z,.z,.z,.z] l,.zs,.int .i64 k,.zs,.int .i64 a,.int .i64 b,.int .i64 c,.int .i64 d,.int .i64 t,.int .i64 vs,.int .i64 sp]=>some (1,⟨l,[],⟨k,[],a,b,c,d,t,vs⟩,sp⟩)
 | [.vec 34 true [.z,.z,.z,.z,.z,.z,.z,.z,.z,.z] l,.list true [.bool,.z,.z] p,.int .i64 k,.list true [.bool,.z,.z] vp,.int .i64 a,.int .i64 b,.int .i64 c,.int .i64 d,.int .i64 t,.int .i64 vs,.int .i64 sp]=>some (2,⟨l,p,⟨k,vp,a,b,c,d,t,vs⟩,sp⟩)
 | [.zs,.zs,.int .i64 k,.zs,.int .i64 a,.int .i64 b,.int .i64 c,.int .i64 d,.int .i64 t,.int .i64 vs,.int .i64 sp]=>some (3,⟨[],[],⟨k,[],a,b,c,d,t,vs⟩,sp⟩)
 | _=>none
def kH (v:FM.V) (k:Nat→Md→Qy→Sr→R):R:=
 match v with
 | .bor l=>match seOf? l with
  | some (m,q,r)=>match srT? r with
   | some (t,s)=>k t m q s
   | none=>.no
  | none=>.no
 | _=>.no
def jW (m:Md) (q:Qy) (t:Nat) (s:Sr):Nat:=
 cond (FS m q (DM s.left)) (cond (ic (s.left.length - 1)==0) 2 0)
  (cond (FO m q (DM s.left).low (DM s.left).s4.hi) t (cond (EO m q (DM s.left)).isSome 0 t))
def aQ:DK
 | [m,q]=>ID m fun m=>IO q fun q=>.br (EU m q) (.ok (.bor (N3 1 m q ⟨[(EE q).I],[],Vd.none,0⟩)) []) (.ok (.bor (N3 3 m q ⟨[],[],⟨4,[],0,0,0,0,0,0⟩,0⟩)) [])
 | _=>.no
def aR:DK
 | [x]=>kH x fun t m q s=>
  .br (H7 q s) (.ok (.bool false) [N3 t m q s])
   (.br (BS t 1&&(EU m q&&(decide (0≤s.spent)&&(BN 0 s.left.length&&(BS s.left.length 100000&&BS s.proof.length 100000)))))
    (.br (FS m q (DM s.left)) (.br (ic (s.left.length - 1)==0) (.ok (.bool true) [N3 2 m q (FE m q s)]) (.ok (.bool true) [N3 0 m q (FE m q s)]))
     (.br (FO m q (DM s.left).low (DM s.left).s4.hi) (.ok (.bool true) [N3 t m q (FE m q s)])
      (.br (EO m q (DM s.left)).isSome (.ok (.bool true) [N3 0 m q (FE m q s)]) (.ok (.bool true) [N3 t m q (FE m q s)])))) .no)
 | _=>.no
def aS:DK
 | [x]=>kH x fun t m q s=>.br (BS s.v.proof.length 100000) (.ok (KU s).V [N3 t m q s]) .no
 | _=>.no
def QN:DK
 | [m,q]=>ID m fun m=>IO q fun q=>.ok (FU m q).V []
 | _=>.no
def eU:DK
 | [.list true [.bool,.z,.z] l]=>.br (BS l.length 100000) (.ok (.vec 126 true ES l) []) .no
 | _=>.no
open Go Go.Proofs
def Na (N:Nat):Env:=DV [] [] 2 N
theorem zcj (N:Nat):DQ (Na N) vJ [.cell 0 32] [[.z,.z]] []=(some ((.agg [.i 1,.i 0]),[])):=by kernel_rfl
def Nb (N:Nat):Env:=DV [(143,UI)] [] 12 N
theorem zck (N:Nat) (lo hi:Int):DQ (Nb N) vK [.cell 4 32] [[.z,.z]] [.i lo,.i hi]=(cond (decide (lo > hi)) (some ((.agg [.i 1,.i 0]),[])) (some ((.agg [.i lo,.i hi]),[]))):=by kernel_rfl
def Mx (N:Nat):Env:=DV [] [] 8 N
theorem zcg (N:Nat) (s:Sp):DQ (Mx N) vG [.tmp 2] [[.bool]] [(Sp.V s)]=(some ((.bool (decide (Sp.lo s > Sp.hi s))),[])):=by kernel_rfl
def My (N:Nat):Env:=DV [] [] 15 N
theorem zch (N:Nat) (s:Sp) (n:Int):DQ (My N) vH [.tmp 4] [[.bool]] [(Sp.V s),.i n]=(cond (decide (Sp.lo s≤n)) (some ((.bool (decide (n≤Sp.hi s))),[])) (some ((.bool false),[]))):=by kernel_rfl
def Mw (N:Nat):Env:=DV [(143,UI),(142,UJ)] [] 29 N
theorem zcf (N:Nat) (s:Sp) (atv:Int):DQ (Mw N) vF [.cell 4 32,.cell 5 32] [[.z,.z],[.z,.z]] [(Sp.V s),.i atv]=(cond (decide (atv≥Sp.hi s)) (some ((.tup [(Sp.V (JV (Sp.lo s) (min (Sp.hi s) atv))),.agg [.i 1,.i 0]]),[])) (some ((.tup [(Sp.V (JV (Sp.lo s) (min (Sp.hi s) atv))),(Sp.V (JV (max (Sp.lo s) (AA AB (atv+1))) (Sp.hi s)))]),[]))):=by kernel_rfl
def JZ (N:Nat):Env:=DV [(55,LN)] [(3,⟨[0,3,4,5,6,9],[3,5],[]⟩)] 46 N
abbrev LK (p:Pt) (l0:LI) (x4 x6 x9:Int) (u00:Bool) (u01 u02 u03 u04 u05:Int):St:=⟨[(0,(.list false [.int .u64] l0)),(3,(.ptr 3 0 0)),(4,(.i x4)),(5,(.ptr 5 0 0)),(6,(.i x6)),(9,(.i x9))],[(3,(some (.box (Pt.cs p)))),(5,(some (.box [.bool u00,.i u01,.i u02,.i u03,.i u04,.i u05])))]⟩
theorem zcw (N:Nat) (l:LI) (p:Pt):DQ (JZ N) M2 [.tmp 4,.cell 5 82] [[.z],[.bool,.z,.z,.z,.z,.z]] [.list false [.int .u64] l,(Pt.V p)]=(DR (JZ N) (DD M2 [1,1,0,1,0,0]) ⟨[0,3,4,5,6,9],[3,5],[]⟩ N (LK p l 0 0 0 false 0 0 0 0 0) (DI 0 (DJ (JZ N) (DD M2 [1,1,1]) (DL (JZ N) none [.tmp 4,.cell 5 82] [[.z],[.bool,.z,.z,.z,.z,.z]])))):=by kernel_rfl
theorem It (N:Nat) (p:Pt) (l0:LI) (x4 x6 x9:Int) (u00:Bool) (u01 u02 u03 u04 u05:Int) (again:St→DG) (k:Out→St→DG):E4 (JZ N) (DD M2 [1,1,0,1,0,0]) (LK p l0 x4 x6 x9 u00 u01 u02 u03 u04 u05) (EH again ⟨[0,3,4,5,6,9],[3,5],[]⟩ k)=(cond (decide (x9 < 31)) (cond (decide (x6≥ic (AE l0))) (k (.exit 0) (LK p l0 x4 x6 x9 u00 u01 u02 u03 u04 u05)) (cond (decide (0≤x6)&&decide (x6 < ic (AE l0))) (cond (!GA (IV.toInt (AI l0 (AD x6) default))) (k .ret (LK p l0 (-1) x6 x9 false 0 0 0 0 0)) (cond (Nd.lf (DE (IV.toInt (AI l0 (AD x6) default)))) (k .ret ⟨[(0,(.list false [.int .u64] l0)),(3,(.ptr 3 0 0)),(4,(.i x6)),(5,(.ptr 5 0 0)),(6,(.i x6)),(9,(.i x9))],[(3,(some (.box (Pt.cs p)))),(5,(some (.box (Nd.cs (DE (IV.toInt (AI l0 (AD x6) default)))))))]⟩) (cond (decide (Nd.f (DE (IV.toInt (AI l0 (AD x6) default)))=ic 0)) (cond (decide (Pt.p0 p≤Nd.a (DE (IV.toInt (AI l0 (AD x6) default))))) (again (LK p l0 x4 (Nd.l (DE (IV.toInt (AI l0 (AD x6) default)))) (AA AB (x9+1)) u00 u01 u02 u03 u04 u05)) (again (LK p l0 x4 (Nd.r (DE (IV.toInt (AI l0 (AD x6) default)))) (AA AB (x9+1)) u00 u01 u02 u03 u04 u05))) (cond (decide (Nd.f (DE (IV.toInt (AI l0 (AD x6) default)))=ic 1)) (cond (decide (Pt.p1 p≤Nd.a (DE (IV.toInt (AI l0 (AD x6) default))))) (again (LK p l0 x4 (Nd.l (DE (IV.toInt (AI l0 (AD x6) default)))) (AA AB (x9+1)) u00 u01 u02 u03 u04 u05)) (again (LK p l0 x4 (Nd.r (DE (IV.toInt (AI l0 (AD x6) default)))) (AA AB (x9+1)) u00 u01 u02 u03 u04 u05))) (cond (decide (Nd.f (DE (IV.toInt (AI l0 (AD x6) default)))=ic 2)) (cond (decide (Pt.p2 p≤Nd.a (DE (IV.toInt (AI l0 (AD x6) default))))) (again (LK p l0 x4 (Nd.l (DE (IV.toInt (AI l0 (AD x6) default)))) (AA AB (x9+1)) u00 u01 u02 u03 u04 u05)) (again (LK p l0 x4 (Nd.r (DE (IV.toInt (AI l0 (AD x6) default)))) (AA AB (x9+1)) u00 u01 u02 u03 u04 u05))) (cond (decide (Nd.f (DE (IV.toInt (AI l0 (AD x6) default)))=ic 3)) (cond (decide (Pt.p3 p≤Nd.a (DE (IV.toInt (AI l0 (AD x6) default))))) (again (LK p l0 x4 (Nd.l (DE (IV.toInt (AI l0 (AD x6) default)))) (AA AB (x9+1)) u00 u01 u02 u03 u04 u05)) (again (LK p l0 x4 (Nd.r (DE (IV.toInt (AI l0 (AD x6) default)))) (AA AB (x9+1)) u00 u01 u02 u03 u04 u05))) none)))))) none)) (k (.exit 0) (LK p l0 x4 x6 x9 u00 u01 u02 u03 u04 u05))):=by kernel_rfl
theorem xW (N:Nat) (p:Pt) (l0:LI) (x4 x6 x9:Int) (u00:Bool) (u01 u02 u03 u04 u05:Int):(DI 0 (DJ (JZ N) (DD M2 [1,1,1]) (DL (JZ N) none [.tmp 4,.cell 5 82] [[.z],[.bool,.z,.z,.z,.z,.z]]))) (.exit 0) (LK p l0 x4 x6 x9 u00 u01 u02 u03 u04 u05)=(some ((.tup [.i (-1),.agg [.bool false,.i 0,.i 0,.i 0,.i 0,.i 0]]),[])):=by kernel_rfl
theorem Ub (N:Nat) (p:Pt) (l0:LI) (x4 x6 x9:Int) (u00:Bool) (u01 u02 u03 u04 u05:Int):(DI 0 (DJ (JZ N) (DD M2 [1,1,1]) (DL (JZ N) none [.tmp 4,.cell 5 82] [[.z],[.bool,.z,.z,.z,.z,.z]]))) .ret (LK p l0 x4 x6 x9 u00 u01 u02 u03 u04 u05)=(some ((.tup [.i x4,.agg [.bool u00,.i u01,.i u02,.i u03,.i u04,.i u05]]),[])):=by kernel_rfl
def Nl (N:Nat):Env:=DV [(67,a8)] [] 15 N
theorem zcv (N:Nat) (l:LI) (p:Pt):DQ (Nl N) vS [.tmp 4] [[.z]] [.list false [.int .u64] l,(Pt.V p)]=(some ((.i (Nd.v (gD l p))),[])):=by kernel_rfl
def KX (N:Nat):Env:=DV [(40,a7)] [(3,⟨[1,5,6,7,15,16,17],[5],[]⟩)] 33 N
abbrev RM (p:Pt) (x1 x6 x7:Int) (l15:LI) (x16 x17:Int):St:=⟨[(1,(.i x1)),(5,(.ptr 5 0 0)),(6,(.i x6)),(7,(.i x7)),(15,(.list true K9 l15)),(16,(.i x16)),(17,(.i x17))],[(5,(some (.box (Pt.cs p))))]⟩
theorem zbO (N:Nat) (m:Md) (u00:Int) (p:Pt):DQ (KX N) NR [.tmp 6] [[.z]] [(Md.V m),.i u00,(Pt.V p)]=(cond (decide (u00=ic 0)) (DR (KX N) (DD NR [1,1,0,1,0,0]) ⟨[1,5,6,7,15,16,17],[5],[]⟩ N (RM p u00 0 (Md.b0 m) (Md.ts m) (ic (AE (Md.ts m))) 0) (DI 0 (DJ (KX N) (DD NR [1,1,1]) (DL (KX N) none [.tmp 6] [[.z]])))) (cond (decide (u00=ic 1)) (DR (KX N) (DD NR [1,1,0,1,0,0]) ⟨[1,5,6,7,15,16,17],[5],[]⟩ N (RM p u00 0 (Md.b1 m) (Md.ts m) (ic (AE (Md.ts m))) 0) (DI 0 (DJ (KX N) (DD NR [1,1,1]) (DL (KX N) none [.tmp 6] [[.z]])))) (cond (decide (u00=ic 2)) (DR (KX N) (DD NR [1,1,0,1,0,0]) ⟨[1,5,6,7,15,16,17],[5],[]⟩ N (RM p u00 0 (Md.b2 m) (Md.ts m) (ic (AE (Md.ts m))) 0) (DI 0 (DJ (KX N) (DD NR [1,1,1]) (DL (KX N) none [.tmp 6] [[.z]])))) none))):=by kernel_rfl
theorem Ie (N:Nat) (p:Pt) (x1 x6 x7:Int) (l15:LI) (x16 x17:Int) (again:St→DG) (k:Out→St→DG):E4 (KX N) (DD NR [1,1,0,1,0,0]) (RM p x1 x6 x7 l15 x16 x17) (EH again ⟨[1,5,6,7,15,16,17],[5],[]⟩ k)=(cond (decide (x17 < x16)) (cond (decide (0≤x17)&&decide (x17 < ic (AE l15))) (cond (IV.toInt (IV.cell (AI l15 (AD x17) default) 0)==x1) (again (RM p x1 x6 (AA AB (x7+GC (IV.toList (IV.cell (AI l15 (AD x17) default) 1)) p)) l15 x16 (AA AB (x17+1)))) (again (RM p x1 x6 x7 l15 x16 (AA AB (x17+1))))) none) (k (.exit 0) (RM p x1 x6 x7 l15 x16 x17))):=by kernel_rfl
theorem Te (N:Nat) (p:Pt) (x1 x6 x7:Int) (l15:LI) (x16 x17:Int):(DI 0 (DJ (KX N) (DD NR [1,1,1]) (DL (KX N) none [.tmp 6] [[.z]]))) (.exit 0) (RM p x1 x6 x7 l15 x16 x17)=(some ((.i x7),[])):=by kernel_rfl
def Mf (N:Nat):Env:=DV [(20,LM),(21,aF)] [] 24 N
theorem zbK (N:Nat) (m:Md) (u00:Int) (p:Pt):DQ (Mf N) uR [.tmp 6] [[.z]] [(Md.V m),.i u00,(Pt.V p)]=(cond (!EQ m) (some ((.i 0),[])) (cond (decide (u00 < 0)) (some ((.i 0),[])) (cond (decide (u00≥Md.c m)) (some ((.i 0),[])) (cond (EQ m&&GR m u00) (some ((.i (G1 u00 p (Md.ts m) (G0 m u00))),[])) none)))):=by kernel_rfl
def Ky (N:Nat):Env:=DV [(63,UG)] [(2,⟨[2,5,6],[],[]⟩)] 12 N
def La (N:Nat):Env:=DV [] [(3,⟨[1,2,3,5],[1,2,3],[]⟩)] 16 N
open Go Go.Proofs
def MV (N:Nat):Env:=iL [(20,LM),(55,LN)] [(138,gW),(137,gY)] [(5,⟨[1,4,5,16,17,18],[500],[⟨.tmp 5,500,3,false,[.z]⟩]⟩),(8,⟨[1,4,5,16,17,18,23,24,25],[500],[⟨.tmp 5,500,3,false,[.z]⟩]⟩)] 54 N
abbrev YZ (x1:Int) (n5:Nat) (l16:LI) (x17 x18:Int) (u00:LI):St:=⟨[(1,(.i x1)),(4,.zs),(5,(.row 500 0 n5)),(16,(.list true K9 l16)),(17,(.i x17)),(18,(.i x18))],[(500,(some (.row true 3 false [.z] u00)))]⟩
abbrev TQ (x1:Int) (n5:Nat) (l16:LI) (x17 x18:Int) (l23:LI) (x24 x25:Int) (u00:LI):St:=⟨[(1,(.i x1)),(4,.zs),(5,(.row 500 0 n5)),(16,(.list true K9 l16)),(17,(.i x17)),(18,(.i x18)),(23,(.list false [.int .u64] l23)),(24,(.i x24)),(25,(.i x25))],[(500,(some (.row true 3 false [.z] u00)))]⟩
theorem zbN (N:Nat) (m:Md) (u00:Int):DQ (MV N) NQ [.tmp 4] [] [(Md.V m),.i u00]=(cond (!EQ m) (some (.any,[])) (DR (MV N) (DD NQ [1,1,1,0,1,0,0]) ⟨[1,4,5,16,17,18],[500],[⟨(.tmp 5),500,3,false,[.z]⟩]⟩ N (YZ u00 0 (Md.ts m) (ic (AE (Md.ts m))) 0 []) (DI 0 (DJ (MV N) (DD NQ [1,1,1,1]) (DL (MV N) none [.tmp 4] []))))):=by kernel_rfl
theorem Ic (N:Nat) (x1:Int) (n5:Nat) (l16:LI) (x17 x18:Int) (u00:LI) (again:St→DG) (k:Out→St→DG):E4 (MV N) (DD NQ [1,1,1,0,1,0,0]) (YZ x1 n5 l16 x17 x18 u00) (EH again ⟨[1,4,5,16,17,18],[500],[⟨(.tmp 5),500,3,false,[.z]⟩]⟩ k)=(cond (decide (x18 < x17)) (cond (decide (0≤x18)&&decide (x18 < ic (AE l16))) (DR (MV N) (DD NQ [1,1,1,0,1,0,0,1,1,0,0,1,1,0,0]) ⟨[1,4,5,16,17,18,23,24,25],[500],[⟨(.tmp 5),500,3,false,[.z]⟩]⟩ N (TQ x1 n5 l16 x17 x18 (IV.toList (IV.cell (AI l16 (AD x18) default) 1)) (ic (AE (IV.toList (IV.cell (AI l16 (AD x18) default) 1)))) 0 u00) (DI 2 (DI 1 (DJ (MV N) (DD NQ [1,1,1,0,1,0,0,1,1,1]) (EH again ⟨[1,4,5,16,17,18],[500],[⟨(.tmp 5),500,3,false,[.z]⟩]⟩ k))))) none) (k (.exit 0) (YZ x1 n5 l16 x17 x18 u00))):=by kernel_rfl
theorem Id (N:Nat) (x1:Int) (n5:Nat) (l16:LI) (x17 x18:Int) (l23:LI) (x24 x25:Int) (u00:LI) (again:St→DG) (k:Out→St→DG):E4 (MV N) (DD NQ [1,1,1,0,1,0,0,1,1,0,0,1,1,0,0]) (TQ x1 n5 l16 x17 x18 l23 x24 x25 u00) (EH again ⟨[1,4,5,16,17,18,23,24,25],[500],[⟨(.tmp 5),500,3,false,[.z]⟩]⟩ k)=(cond (decide (x25 < x24)) (cond (decide (0≤x25)&&decide (x25 < ic (AE l23))) (cond (!Nd.lf (DE (IV.toInt (AI l23 (AD x25) default)))) (cond (Nd.f (DE (IV.toInt (AI l23 (AD x25) default)))==x1) (cond (decide ((n5+1)*8≤D1)) (again (TQ x1 (n5+1) l16 x17 x18 l23 x24 (AA AB (x25+1)) (AK n5 u00++[IV.int (Nd.a (DE (IV.toInt (AI l23 (AD x25) default))))]))) none) (again (TQ x1 n5 l16 x17 x18 l23 x24 (AA AB (x25+1)) u00))) (again (TQ x1 n5 l16 x17 x18 l23 x24 (AA AB (x25+1)) u00))) none) (k (.exit 2) (TQ x1 n5 l16 x17 x18 l23 x24 x25 u00))):=by kernel_rfl
theorem Tc (N:Nat) (x1:Int) (n5:Nat) (l16:LI) (x17 x18:Int) (u00:LI):(DI 0 (DJ (MV N) (DD NQ [1,1,1,1]) (DL (MV N) none [.tmp 4] []))) (.exit 0) (YZ x1 n5 l16 x17 x18 u00)=(cond (BM n5 (AE u00)) (cond (BM (AE (iZ (KC (A3 IV.toInt u00)))) (AE u00)) (cond (BM n5 (AE (iZ (KC (A3 IV.toInt u00))))) (cond (BS (AE (iZ (IE (A3 IV.toInt (iZ (KC (A3 IV.toInt u00))))))) (AE (iZ (KC (A3 IV.toInt u00))))) (some ((.vec 3 false [.z] (AK (AE (iZ (IE (A3 IV.toInt (iZ (KC (A3 IV.toInt u00))))))) (iZ (IE (A3 IV.toInt (iZ (KC (A3 IV.toInt u00)))))))),[])) none) none) none) none):=by kernel_rfl
theorem Td (N:Nat) (again:St→DG) (k:Out→St→DG) (x1:Int) (n5:Nat) (l16:LI) (x17 x18:Int) (l23:LI) (x24 x25:Int) (u00:LI):(DI 2 (DI 1 (DJ (MV N) (DD NQ [1,1,1,0,1,0,0,1,1,1]) (EH again ⟨[1,4,5,16,17,18],[500],[⟨(.tmp 5),500,3,false,[.z]⟩]⟩ k)))) (.exit 2) (TQ x1 n5 l16 x17 x18 l23 x24 x25 u00)=(again (YZ x1 n5 l16 x17 (AA AB (x18+1)) u00)):=by kernel_rfl
def Mb (N:Nat):Env:=DV [] [] 23 N
theorem zbA (N:Nat) (q:Qy) (u00:Int):DQ (Mb N) uO [.tmp 4] [[.z]] [(Qy.V q),.i u00]=(cond (decide (u00≥0)) (cond (decide (u00 < 4)) (some ((.i u00),[])) (cond (u00==4) (cond (Qy.k q==3) (some ((.i (Qy.ft q)),[])) (some ((.i (-1)),[]))) (some ((.i (-1)),[])))) (cond (u00==4) (cond (Qy.k q==3) (some ((.i (Qy.ft q)),[])) (some ((.i (-1)),[]))) (some ((.i (-1)),[])))):=by kernel_rfl
def r9 (N:Nat):Env:=iL [(96,Z8),(98,aE)] [(97,gX)] [] 24 N
def Mr (N:Nat):Env:=DV [] [] 71 N
theorem zb2 (N:Nat) (m:Md) (a1:Qy):DQ (Mr N) vA [.tmp 4] [[.bool]] [(Md.V m),(Qy.V a1)]=(cond (Qy.k a1==1) (cond (decide (Qy.lo a1≤Qy.hi a1)) (cond (Qy.ft a1==0) (some ((.bool (!Qy.fl a1)),[])) (some ((.bool false),[]))) (some ((.bool false),[]))) (cond (Qy.k a1==2) (cond (decide (Md.c m≥2)) (cond (Qy.lo a1==0) (cond (Qy.hi a1==0) (cond (Qy.ft a1==0) (some ((.bool (!Qy.fl a1)),[])) (some ((.bool false),[]))) (some ((.bool false),[]))) (some ((.bool false),[]))) (some ((.bool false),[]))) (cond (Qy.k a1==3) (cond (decide (Qy.ft a1≥0)) (cond (decide (Qy.ft a1 < Md.d m)) (cond (Qy.lo a1==0) (some ((.bool (Qy.hi a1==0)),[])) (some ((.bool false),[]))) (some ((.bool false),[]))) (some ((.bool false),[]))) (some ((.bool false),[]))))):=by kernel_rfl
def Mo (N:Nat):Env:=DV [(20,LM),(69,aO),(68,aP)] [] 41 N
theorem zbZ (N:Nat) (m:Md) (q:Qy):DQ (Mo N) u6 [.tmp 4] [[.bool]] [(Md.V m),(Qy.V q)]=(cond (EQ m) (cond (decide (Qy.c q≥0)) (cond (decide (Qy.c q < Md.c m)) (cond (decide (Qy.bu q≥0)) (cond (decide (Qy.bu q≤65536)) (cond (N1 {s0:={lo:=Qy.a0 q,hi:=Qy.b0 q},s1:={lo:=Qy.a1 q,hi:=Qy.b1 q},s2:={lo:=Qy.a2 q,hi:=Qy.b2 q},s3:={lo:=Qy.a3 q,hi:=Qy.b3 q},s4:={lo:=Qy.a4 q,hi:=Qy.b4 q}} (Md.d m)) (some ((.bool (PP m q)),[])) (some ((.bool false),[]))) (some ((.bool false),[]))) (some ((.bool false),[]))) (some ((.bool false),[]))) (some ((.bool false),[]))) (some ((.bool false),[]))):=by kernel_rfl
def Ms (N:Nat):Env:=DV [] [] 16 N
theorem zb3 (N:Nat) (q:Qy):DQ (Ms N) vB [.tmp 2] [[.bool]] [(Qy.V q)]=(cond (Qy.k q==3) (cond (decide (Qy.ft q≥0)) (some ((.bool (decide (Qy.ft q < 4))),[])) (some ((.bool false),[]))) (some ((.bool false),[]))):=by kernel_rfl
def Mq (N:Nat):Env:=DV [(57,UF)] [] 16 N
theorem zb1 (N:Nat) (q:Qy):DQ (Mq N) u9 [.cell 2 34] [[.z,.z,.z,.z,.z,.z,.z,.z,.z,.z]] [(Qy.V q)]=(cond (GM q) (cond (decide (Qy.ft q=ic 0)) (some ((.agg [.i (Qy.a0 q),.i (Qy.b0 q),.i (Qy.a1 q),.i (Qy.b1 q),.i (Qy.a2 q),.i (Qy.b2 q),.i (Qy.a3 q),.i (Qy.b3 q),.i (Qy.a0 q),.i (Qy.b0 q)]),[])) (cond (decide (Qy.ft q=ic 1)) (some ((.agg [.i (Qy.a0 q),.i (Qy.b0 q),.i (Qy.a1 q),.i (Qy.b1 q),.i (Qy.a2 q),.i (Qy.b2 q),.i (Qy.a3 q),.i (Qy.b3 q),.i (Qy.a1 q),.i (Qy.b1 q)]),[])) (cond (decide (Qy.ft q=ic 2)) (some ((.agg [.i (Qy.a0 q),.i (Qy.b0 q),.i (Qy.a1 q),.i (Qy.b1 q),.i (Qy.a2 q),.i (Qy.b2 q),.i (Qy.a3 q),.i (Qy.b3 q),.i (Qy.a2 q),.i (Qy.b2 q)]),[])) (cond (decide (Qy.ft q=ic 3)) (some ((.agg [.i (Qy.a0 q),.i (Qy.b0 q),.i (Qy.a1 q),.i (Qy.b1 q),.i (Qy.a2 q),.i (Qy.b2 q),.i (Qy.a3 q),.i (Qy.b3 q),.i (Qy.a3 q),.i (Qy.b3 q)]),[])) (cond (decide (Qy.ft q=ic 4)) (some ((.agg [.i (Qy.a0 q),.i (Qy.b0 q),.i (Qy.a1 q),.i (Qy.b1 q),.i (Qy.a2 q),.i (Qy.b2 q),.i (Qy.a3 q),.i (Qy.b3 q),.i 0,.i 0]),[])) none))))) (some ((.agg [.i (Qy.a0 q),.i (Qy.b0 q),.i (Qy.a1 q),.i (Qy.b1 q),.i (Qy.a2 q),.i (Qy.b2 q),.i (Qy.a3 q),.i (Qy.b3 q),.i 0,.i 0]),[]))):=by kernel_rfl
def Mp (N:Nat):Env:=DV [(57,UF)] [] 14 N
theorem zb0 (N:Nat) (q:Qy) (p:Pt) (twin:Int):DQ (Mp N) u7 [.cell 6 40] [[.z,.z,.z,.z]] [(Qy.V q),(Pt.V p),.i twin]=(cond (GM q) (cond (decide (Qy.ft q=ic 0)) (some ((.agg [.i twin,.i (Pt.p1 p),.i (Pt.p2 p),.i (Pt.p3 p)]),[])) (cond (decide (Qy.ft q=ic 1)) (some ((.agg [.i (Pt.p0 p),.i twin,.i (Pt.p2 p),.i (Pt.p3 p)]),[])) (cond (decide (Qy.ft q=ic 2)) (some ((.agg [.i (Pt.p0 p),.i (Pt.p1 p),.i twin,.i (Pt.p3 p)]),[])) (cond (decide (Qy.ft q=ic 3)) (some ((.agg [.i (Pt.p0 p),.i (Pt.p1 p),.i (Pt.p2 p),.i twin]),[])) none)))) (some ((Pt.V p),[]))):=by kernel_rfl
def KY (N:Nat):Env:=DV [(10,UB),(41,MX),(73,aN),(72,UH)] [(9,⟨[4,5,6,8,9,36,37],[4,5,6],[]⟩)] 75 N
abbrev RN (m:Md) (a1:Qy) (a2:Pt) (b8:Bool) (x9 x36 x37:Int):St:=⟨[(4,(.ptr 4 0 0)),(5,(.ptr 5 0 0)),(6,(.ptr 6 0 0)),(8,(.bool b8)),(9,(.i x9)),(36,(.i x36)),(37,(.i x37))],[(4,(some (.box (Md.cs m)))),(5,(some (.box (Qy.cs a1)))),(6,(some (.box (Pt.cs a2))))]⟩
theorem zbY (N:Nat) (m:Md) (a1:Qy) (a2:Pt) (a3:Int):DQ (KY N) M1 [.tmp 8] [[.bool]] [(Md.V m),(Qy.V a1),(Pt.V a2),.i a3]=(cond (!EU m a1) (some ((.bool false),[])) (cond (Qy.k a1==1) (some ((.bool (!Sp.has {lo:=Qy.lo a1,hi:=Qy.hi a1} (D4 m (Qy.c a1) a2))),[])) (cond (Qy.k a1==2) (DR (KY N) (DD M1 [1,1,1,0,1,0,1,1,1,0,0,1,0,0]) ⟨[4,5,6,8,9,36,37],[4,5,6],[]⟩ N (RN m a1 a2 false (D4 m (Qy.c a1) a2) (Md.c m) 0) (DI 1 (DJ (KY N) (DD M1 [1,1,1,0,1,0,1,1,1,0,1]) (DI 0 (DJ (KY N) (DD M1 [1,1,1,1]) (DL (KY N) none [.tmp 8] [[.bool]])))))) (cond (decide (Qy.ft a1=ic 0)) (cond (decide (Pt.p0 a2≥a3)) (some ((.bool false),[])) (cond (Qy.fl a1) (some ((.bool (decide (D4 m (Qy.c a1) (IK a1 a2 a3) > D4 m (Qy.c a1) a2))),[])) (some ((.bool (decide (D4 m (Qy.c a1) (IK a1 a2 a3) < D4 m (Qy.c a1) a2))),[])))) (cond (decide (Qy.ft a1=ic 1)) (cond (decide (Pt.p1 a2≥a3)) (some ((.bool false),[])) (cond (Qy.fl a1) (some ((.bool (decide (D4 m (Qy.c a1) (IK a1 a2 a3) > D4 m (Qy.c a1) a2))),[])) (some ((.bool (decide (D4 m (Qy.c a1) (IK a1 a2 a3) < D4 m (Qy.c a1) a2))),[])))) (cond (decide (Qy.ft a1=ic 2)) (cond (decide (Pt.p2 a2≥a3)) (some ((.bool false),[])) (cond (Qy.fl a1) (some ((.bool (decide (D4 m (Qy.c a1) (IK a1 a2 a3) > D4 m (Qy.c a1) a2))),[])) (some ((.bool (decide (D4 m (Qy.c a1) (IK a1 a2 a3) < D4 m (Qy.c a1) a2))),[])))) (cond (decide (Qy.ft a1=ic 3)) (cond (decide (Pt.p3 a2≥a3)) (some ((.bool false),[])) (cond (Qy.fl a1) (some ((.bool (decide (D4 m (Qy.c a1) (IK a1 a2 a3) > D4 m (Qy.c a1) a2))),[])) (some ((.bool (decide (D4 m (Qy.c a1) (IK a1 a2 a3) < D4 m (Qy.c a1) a2))),[])))) none))))))):=by kernel_rfl
theorem Ii (N:Nat) (m:Md) (a1:Qy) (a2:Pt) (b8:Bool) (x9 x36 x37:Int) (again:St→DG) (k:Out→St→DG):E4 (KY N) (DD M1 [1,1,1,0,1,0,1,1,1,0,0,1,0,0]) (RN m a1 a2 b8 x9 x36 x37) (EH again ⟨[4,5,6,8,9,36,37],[4,5,6],[]⟩ k)=(cond (decide (x37 < x36)) (cond (x37 != Qy.c a1) (cond (decide (D4 m x37 a2≥x9)) (k .ret (RN m a1 a2 true x9 x36 x37)) (again (RN m a1 a2 b8 x9 x36 (AA AB (x37+1))))) (again (RN m a1 a2 b8 x9 x36 (AA AB (x37+1))))) (k (.exit 1) (RN m a1 a2 b8 x9 x36 x37))):=by kernel_rfl
theorem Ti (N:Nat) (m:Md) (a1:Qy) (a2:Pt) (b8:Bool) (x9 x36 x37:Int):(DI 1 (DJ (KY N) (DD M1 [1,1,1,0,1,0,1,1,1,0,1]) (DI 0 (DJ (KY N) (DD M1 [1,1,1,1]) (DL (KY N) none [.tmp 8] [[.bool]]))))) (.exit 1) (RN m a1 a2 b8 x9 x36 x37)=(some ((.bool false),[])):=by kernel_rfl
theorem Tj (N:Nat) (m:Md) (a1:Qy) (a2:Pt) (b8:Bool) (x9 x36 x37:Int):(DI 1 (DJ (KY N) (DD M1 [1,1,1,0,1,0,1,1,1,0,1]) (DI 0 (DJ (KY N) (DD M1 [1,1,1,1]) (DL (KY N) none [.tmp 8] [[.bool]]))))) .ret (RN m a1 a2 b8 x9 x36 x37)=(some ((.bool b8),[])):=by kernel_rfl
def Mt (N:Nat):Env:=DV [(36,QJ),(63,UG)] [(2,⟨[1,4,7,8],[],[]⟩)] 35 N
open Go Go.Proofs
def PA (N:Nat):Env:=DV [(61,OB),(31,JH),(55,LN),(39,UQ)] [(7,⟨[4,5,6,24,25,26],[20,500],[⟨.tmp 6,500,89,true,[.z,.z,.z,.z,.z,.z,.z,.z,.z,.z,.z]⟩]⟩)] 79 N
abbrev TO (n5 n6:Nat) (l24:LI) (x25 x26:Int) (lo20 u00:LI):St:=⟨[(4,.zs),(5,(.row 20 0 n5)),(6,(.row 500 0 n6)),(24,(.list false [.int .u64] l24)),(25,(.i x25)),(26,(.i x26))],[(20,(some (.row true 34 true EZ lo20))),(500,(some (.row true 89 true D9 u00)))]⟩
theorem zbF (N:Nat) (l:LI) (a1:Bx):DQ (PA N) SA [.tmp 4] [[.list true [.z,.z,.z,.z,.z,.z,.z,.z,.z,.z,.z]]] [.list false [.int .u64] l,(Bx.V a1)]=(cond (!FY l 4) (some ((.list true D9 []),[])) (cond (Bx.emp a1) (some ((.list true D9 []),[])) (cond (true&&(true&&decide (0≤ic (AE l)))&&(decide (ic (AE l)=ic (AE l))&&decide (ic (AE l)*ic 80≤ic D1))) (cond (decide (0≤0)&&decide (0 < ic (AD (ic (AE l)) - 0))) (DR (PA N) (DD SA [1,1,1,1,1,0,1,0,0]) ⟨[4,5,6,24,25,26],[20,500],[⟨(.tmp 6),500,89,true,D9⟩]⟩ N (TO (AD (ic (AE l))) 0 l (ic (AE l)) 0 (List.set (BB (AD (ic (AE l))) (IV.agg [IV.int 0,IV.int 0,IV.int 0,IV.int 0,IV.int 0,IV.int 0,IV.int 0,IV.int 0,IV.int 0,IV.int 0])) 0 (Bx.I a1)) []) (DI 0 (DJ (PA N) (DD SA [1,1,1,1,1,1]) (DL (PA N) none [.tmp 4] [[.list true D9]])))) none) none))):=by kernel_rfl
theorem Hy (N n5 n6:Nat) (l24:LI) (x25 x26:Int) (lo20 u00:LI) (again:St→DG) (k:Out→St→DG):E4 (PA N) (DD SA [1,1,1,1,1,0,1,0,0]) (TO n5 n6 l24 x25 x26 lo20 u00) (EH again ⟨[4,5,6,24,25,26],[20,500],[⟨(.tmp 6),500,89,true,D9⟩]⟩ k)=(cond (decide (x26 < x25)) (cond (decide (0≤x26)&&decide (x26 < ic (AE l24))) (cond (!Nd.lf (DE (IV.toInt (AI l24 (AD x26) default)))) (cond (decide (0≤x26)&&decide (x26 < ic (n5 - 0))) (cond (GT (Nd.f (DE (IV.toInt (AI l24 (AD x26) default))))) (cond (decide (0≤Nd.l (DE (IV.toInt (AI l24 (AD x26) default))))&&decide (Nd.l (DE (IV.toInt (AI l24 (AD x26) default))) < ic (n5 - 0))) (cond (decide (0≤Nd.r (DE (IV.toInt (AI l24 (AD x26) default))))&&decide (Nd.r (DE (IV.toInt (AI l24 (AD x26) default))) < ic (n5 - 0))) (again (TO n5 n6 l24 x25 (AA AB (x26+1)) (List.set (List.set lo20 (0+AD (Nd.l (DE (IV.toInt (AI l24 (AD x26) default))))) (Bx.I (Bx.cutL (DN (AI lo20 (0+AD x26) default)) (Nd.f (DE (IV.toInt (AI l24 (AD x26) default)))) (Nd.a (DE (IV.toInt (AI l24 (AD x26) default))))))) (0+AD (Nd.r (DE (IV.toInt (AI l24 (AD x26) default))))) (Bx.I (Bx.cutH (DN (AI lo20 (0+AD x26) default)) (Nd.f (DE (IV.toInt (AI l24 (AD x26) default)))) (Nd.a (DE (IV.toInt (AI l24 (AD x26) default))))))) u00)) none) none) none) none) (cond (decide (0≤x26)&&decide (x26 < ic (n5 - 0))) (cond (!Bx.emp (DN (AI lo20 (0+AD x26) default))) (cond (decide (0≤x26)&&decide (x26 < ic (n5 - 0))) (cond (decide ((n6+1)*88≤D1)) (again (TO n5 (n6+1) l24 x25 (AA AB (x26+1)) lo20 (AK n6 u00++[(ST (DN (AI lo20 (0+AD x26) default)) (Nd.v (DE (IV.toInt (AI l24 (AD x26) default)))))]))) none) none) (again (TO n5 n6 l24 x25 (AA AB (x26+1)) lo20 u00))) none)) none) (k (.exit 0) (TO n5 n6 l24 x25 x26 lo20 u00))):=by kernel_rfl
theorem Sv (N n5 n6:Nat) (l24:LI) (x25 x26:Int) (lo20 u00:LI):(DI 0 (DJ (PA N) (DD SA [1,1,1,1,1,1]) (DL (PA N) none [.tmp 4] [[.list true D9]]))) (.exit 0) (TO n5 n6 l24 x25 x26 lo20 u00)=(some ((.list true D9 (AQ 0 (AK n6 u00))),[])):=by kernel_rfl
def O8 (N:Nat):Env:=DV [(34,T9)] [(6,⟨[4,5,6,8,9,26,27,28],[],[]⟩)] 43 N
abbrev YW (x4 x5:Int) (b6:Bool) (x8 x9:Int) (l26:LI) (x27 x28:Int):St:=⟨[(4,(.i x4)),(5,(.i x5)),(6,(.bool b6)),(8,(.i x8)),(9,(.i x9)),(26,(.list true D9 l26)),(27,(.i x27)),(28,(.i x28))],[]⟩
theorem zaX (N:Nat) (l:LI) (b:Bx):DQ (O8 N) R7 [.tmp 4,.tmp 5,.tmp 6] [[.z],[.z],[.bool]] [.list false [.int .u64] l,(Bx.V b)]=(cond (ic (AE (F9 l b))==0) (some ((.tup [.i 0,.i 0,.bool false]),[])) (cond (decide (0≤0)&&decide (0 < ic (AE (F9 l b)))) (cond (decide (0≤0)&&decide (0 < ic (AE (F9 l b)))) (DR (O8 N) (DD R7 [1,1,1,1,0,1,0,0]) ⟨[4,5,6,8,9,26,27,28],[],[]⟩ N (YW 0 0 false (IV.toInt (IV.cell (AI (F9 l b) (AD 0) default) 10)) (IV.toInt (IV.cell (AI (F9 l b) (AD 0) default) 10)) (F9 l b) (ic (AE (F9 l b))) 0) (DI 0 (DJ (O8 N) (DD R7 [1,1,1,1,1]) (DL (O8 N) none [.tmp 4,.tmp 5,.tmp 6] [[.z],[.z],[.bool]])))) none) none)):=by kernel_rfl
theorem Hg (N:Nat) (x4 x5:Int) (b6:Bool) (x8 x9:Int) (l26:LI) (x27 x28:Int) (again:St→DG) (k:Out→St→DG):E4 (O8 N) (DD R7 [1,1,1,1,0,1,0,0]) (YW x4 x5 b6 x8 x9 l26 x27 x28) (EH again ⟨[4,5,6,8,9,26,27,28],[],[]⟩ k)=(cond (decide (x28 < x27)) (cond (decide (0≤x28)&&decide (x28 < ic (AE l26))) (again (YW x4 x5 b6 (min x8 (IV.toInt (IV.cell (AI l26 (AD x28) default) 10))) (max x9 (IV.toInt (IV.cell (AI l26 (AD x28) default) 10))) l26 x27 (AA AB (x28+1)))) none) (k (.exit 0) (YW x4 x5 b6 x8 x9 l26 x27 x28))):=by kernel_rfl
theorem Rv (N:Nat) (x4 x5:Int) (b6:Bool) (x8 x9:Int) (l26:LI) (x27 x28:Int):(DI 0 (DJ (O8 N) (DD R7 [1,1,1,1,1]) (DL (O8 N) none [.tmp 4,.tmp 5,.tmp 6] [[.z],[.z],[.bool]]))) (.exit 0) (YW x4 x5 b6 x8 x9 l26 x27 x28)=(some ((.tup [.i x8,.i x9,.bool true]),[])):=by kernel_rfl
def GE (N:Nat):Env:=DV [(32,ZD),(31,JH),(20,LM)] [(5,⟨[1,5,6,7,8,9,10,42,43,44],[5],[]⟩)] 69 N
abbrev L8 (a2:Bx) (x1 x6 x7:Int) (b8:Bool) (x9 x10:Int) (l42:LI) (x43 x44:Int):St:=⟨[(1,(.i x1)),(5,(.ptr 5 0 0)),(6,(.i x6)),(7,(.i x7)),(8,(.bool b8)),(9,(.i x9)),(10,(.i x10)),(42,(.list true K9 l42)),(43,(.i x43)),(44,(.i x44))],[(5,(some (.box (Bx.cs a2))))]⟩
theorem zaW (N:Nat) (m:Md) (a1:Int) (a2:Bx):DQ (GE N) HY [.tmp 6,.tmp 7,.tmp 8] [[.z],[.z],[.bool]] [(Md.V m),.i a1,(Bx.V a2)]=(cond (!EQ m) (some ((.tup [.i 0,.i 0,.bool false]),[])) (cond (decide (a1 < 0)) (some ((.tup [.i 0,.i 0,.bool false]),[])) (cond (decide (a1≥Md.c m)) (some ((.tup [.i 0,.i 0,.bool false]),[])) (cond (Bx.emp a2) (some ((.tup [.i 0,.i 0,.bool false]),[])) (cond (decide (a1=ic 0)) (cond (decide (a1=ic 0)) (DR (GE N) (DD HY [1,1,1,0,1,0,0]) ⟨[1,5,6,7,8,9,10,42,43,44],[5],[]⟩ N (L8 a2 a1 0 0 false (Md.b0 m) (Md.b0 m) (Md.ts m) (ic (AE (Md.ts m))) 0) (DI 0 (DJ (GE N) (DD HY [1,1,1,1]) (DL (GE N) none [.tmp 6,.tmp 7,.tmp 8] [[.z],[.z],[.bool]])))) (cond (decide (a1=ic 1)) (DR (GE N) (DD HY [1,1,1,0,1,0,0]) ⟨[1,5,6,7,8,9,10,42,43,44],[5],[]⟩ N (L8 a2 a1 0 0 false (Md.b0 m) (Md.b1 m) (Md.ts m) (ic (AE (Md.ts m))) 0) (DI 0 (DJ (GE N) (DD HY [1,1,1,1]) (DL (GE N) none [.tmp 6,.tmp 7,.tmp 8] [[.z],[.z],[.bool]])))) (cond (decide (a1=ic 2)) (DR (GE N) (DD HY [1,1,1,0,1,0,0]) ⟨[1,5,6,7,8,9,10,42,43,44],[5],[]⟩ N (L8 a2 a1 0 0 false (Md.b0 m) (Md.b2 m) (Md.ts m) (ic (AE (Md.ts m))) 0) (DI 0 (DJ (GE N) (DD HY [1,1,1,1]) (DL (GE N) none [.tmp 6,.tmp 7,.tmp 8] [[.z],[.z],[.bool]])))) none))) (cond (decide (a1=ic 1)) (cond (decide (a1=ic 0)) (DR (GE N) (DD HY [1,1,1,0,1,0,0]) ⟨[1,5,6,7,8,9,10,42,43,44],[5],[]⟩ N (L8 a2 a1 0 0 false (Md.b1 m) (Md.b0 m) (Md.ts m) (ic (AE (Md.ts m))) 0) (DI 0 (DJ (GE N) (DD HY [1,1,1,1]) (DL (GE N) none [.tmp 6,.tmp 7,.tmp 8] [[.z],[.z],[.bool]])))) (cond (decide (a1=ic 1)) (DR (GE N) (DD HY [1,1,1,0,1,0,0]) ⟨[1,5,6,7,8,9,10,42,43,44],[5],[]⟩ N (L8 a2 a1 0 0 false (Md.b1 m) (Md.b1 m) (Md.ts m) (ic (AE (Md.ts m))) 0) (DI 0 (DJ (GE N) (DD HY [1,1,1,1]) (DL (GE N) none [.tmp 6,.tmp 7,.tmp 8] [[.z],[.z],[.bool]])))) (cond (decide (a1=ic 2)) (DR (GE N) (DD HY [1,1,1,0,1,0,0]) ⟨[1,5,6,7,8,9,10,42,43,44],[5],[]⟩ N (L8 a2 a1 0 0 false (Md.b1 m) (Md.b2 m) (Md.ts m) (ic (AE (Md.ts m))) 0) (DI 0 (DJ (GE N) (DD HY [1,1,1,1]) (DL (GE N) none [.tmp 6,.tmp 7,.tmp 8] [[.z],[.z],[.bool]])))) none))) (cond (decide (a1=ic 2)) (cond (decide (a1=ic 0)) (DR (GE N) (DD HY [1,1,1,0,1,0,0]) ⟨[1,5,6,7,8,9,10,42,43,44],[5],[]⟩ N (L8 a2 a1 0 0 false (Md.b2 m) (Md.b0 m) (Md.ts m) (ic (AE (Md.ts m))) 0) (DI 0 (DJ (GE N) (DD HY [1,1,1,1]) (DL (GE N) none [.tmp 6,.tmp 7,.tmp 8] [[.z],[.z],[.bool]])))) (cond (decide (a1=ic 1)) (DR (GE N) (DD HY [1,1,1,0,1,0,0]) ⟨[1,5,6,7,8,9,10,42,43,44],[5],[]⟩ N (L8 a2 a1 0 0 false (Md.b2 m) (Md.b1 m) (Md.ts m) (ic (AE (Md.ts m))) 0) (DI 0 (DJ (GE N) (DD HY [1,1,1,1]) (DL (GE N) none [.tmp 6,.tmp 7,.tmp 8] [[.z],[.z],[.bool]])))) (cond (decide (a1=ic 2)) (DR (GE N) (DD HY [1,1,1,0,1,0,0]) ⟨[1,5,6,7,8,9,10,42,43,44],[5],[]⟩ N (L8 a2 a1 0 0 false (Md.b2 m) (Md.b2 m) (Md.ts m) (ic (AE (Md.ts m))) 0) (DI 0 (DJ (GE N) (DD HY [1,1,1,1]) (DL (GE N) none [.tmp 6,.tmp 7,.tmp 8] [[.z],[.z],[.bool]])))) none))) none))))))):=by kernel_rfl
theorem Hf (N:Nat) (a2:Bx) (x1 x6 x7:Int) (b8:Bool) (x9 x10:Int) (l42:LI) (x43 x44:Int) (again:St→DG) (k:Out→St→DG):E4 (GE N) (DD HY [1,1,1,0,1,0,0]) (L8 a2 x1 x6 x7 b8 x9 x10 l42 x43 x44) (EH again ⟨[1,5,6,7,8,9,10,42,43,44],[5],[]⟩ k)=(cond (decide (x44 < x43)) (cond (decide (0≤x44)&&decide (x44 < ic (AE l42))) (cond (IV.toInt (IV.cell (AI l42 (AD x44) default) 0) != x1) (again (L8 a2 x1 x6 x7 b8 x9 x10 l42 x43 (AA AB (x44+1)))) (again (L8 a2 x1 x6 x7 b8 (AA AB (x9+GY (IV.toList (IV.cell (AI l42 (AD x44) default) 1)) a2)) (AA AB (x10+GW (IV.toList (IV.cell (AI l42 (AD x44) default) 1)) a2)) l42 x43 (AA AB (x44+1))))) none) (k (.exit 0) (L8 a2 x1 x6 x7 b8 x9 x10 l42 x43 x44))):=by kernel_rfl
theorem Ru (N:Nat) (a2:Bx) (x1 x6 x7:Int) (b8:Bool) (x9 x10:Int) (l42:LI) (x43 x44:Int):(DI 0 (DJ (GE N) (DD HY [1,1,1,1]) (DL (GE N) none [.tmp 6,.tmp 7,.tmp 8] [[.z],[.z],[.bool]]))) (.exit 0) (L8 a2 x1 x6 x7 b8 x9 x10 l42 x43 x44)=(some ((.tup [.i x9,.i x10,.bool true]),[])):=by kernel_rfl
def O7 (N:Nat):Env:=DV [(14,MW)] [(6,⟨[1,3,5,6,7,8,11,12,33,34],[3,5],[]⟩)] 62 N
abbrev RJ (m:Md) (b:Bx) (x1 x6:Int) (b7:Bool) (x8 x11:Int) (b12:Bool) (x33 x34:Int):St:=⟨[(1,(.i x1)),(3,(.ptr 3 0 0)),(5,(.ptr 5 0 0)),(6,(.i x6)),(7,(.bool b7)),(8,(.i x8)),(11,(.i x11)),(12,(.bool b12)),(33,(.i x33)),(34,(.i x34))],[(3,(some (.box (Md.cs m)))),(5,(some (.box (Bx.cs b))))]⟩
theorem zaV (N:Nat) (m:Md) (u00:Int) (b:Bx):DQ (O7 N) R6 [.tmp 6,.tmp 7] [[.z],[.bool]] [(Md.V m),.i u00,(Bx.V b)]=(cond (!E9 m u00 b) (some ((.tup [.i 0,.bool false]),[])) (cond (decide (Md.c m < 2)) (some ((.tup [.i 0,.bool false]),[])) (DR (O7 N) (DD R6 [1,1,1,1,0,1,0,0]) ⟨[1,3,5,6,7,8,11,12,33,34],[3,5],[]⟩ N (RJ m b u00 0 false (DZ m u00 b) 0 false (Md.c m) 0) (DI 0 (DJ (O7 N) (DD R6 [1,1,1,1,1]) (DL (O7 N) none [.tmp 6,.tmp 7] [[.z],[.bool]])))))):=by kernel_rfl
theorem He (N:Nat) (m:Md) (b:Bx) (x1 x6:Int) (b7:Bool) (x8 x11:Int) (b12:Bool) (x33 x34:Int) (again:St→DG) (k:Out→St→DG):E4 (O7 N) (DD R6 [1,1,1,1,0,1,0,0]) (RJ m b x1 x6 b7 x8 x11 b12 x33 x34) (EH again ⟨[1,3,5,6,7,8,11,12,33,34],[3,5],[]⟩ k)=(cond (decide (x34 < x33)) (cond (x34==x1) (again (RJ m b x1 x6 b7 x8 x11 b12 x33 (AA AB (x34+1)))) (cond (!b12) (again (RJ m b x1 x6 b7 x8 (AA AB (x8 - DW m x34 b)) true x33 (AA AB (x34+1)))) (cond (decide (AA AB (x8 - DW m x34 b) < x11)) (again (RJ m b x1 x6 b7 x8 (AA AB (x8 - DW m x34 b)) true x33 (AA AB (x34+1)))) (again (RJ m b x1 x6 b7 x8 x11 b12 x33 (AA AB (x34+1))))))) (k (.exit 0) (RJ m b x1 x6 b7 x8 x11 b12 x33 x34))):=by kernel_rfl
theorem Rt (N:Nat) (m:Md) (b:Bx) (x1 x6:Int) (b7:Bool) (x8 x11:Int) (b12:Bool) (x33 x34:Int):(DI 0 (DJ (O7 N) (DD R6 [1,1,1,1,1]) (DL (O7 N) none [.tmp 6,.tmp 7] [[.z],[.bool]]))) (.exit 0) (RJ m b x1 x6 b7 x8 x11 b12 x33 x34)=(some ((.tup [.i x11,.bool true]),[])):=by kernel_rfl
def Ls (N:Nat):Env:=DV [] [] 16 N
theorem zbo (N:Nat) (q:Qy):DQ (Ls N) uF [.tmp 2] [[.bool]] [(Qy.V q)]=(cond (Qy.k q==3) (cond (decide (Qy.ft q≥0)) (some ((.bool (decide (Qy.ft q < 4))),[])) (some ((.bool false),[]))) (some ((.bool false),[]))):=by kernel_rfl
def Lo (N:Nat):Env:=DV [(139,OD)] [] 10 N
theorem zbl (N:Nat) (q:Qy) (b:Bx):DQ (Lo N) uC [.cell 4 34] [[.z,.z,.z,.z,.z,.z,.z,.z,.z,.z]] [(Qy.V q),(Bx.V b)]=(cond (GM q) (some ((.agg [.i (Sp.lo (Bx.s0 b)),.i (Sp.hi (Bx.s0 b)),.i (Sp.lo (Bx.s1 b)),.i (Sp.hi (Bx.s1 b)),.i (Sp.lo (Bx.s2 b)),.i (Sp.hi (Bx.s2 b)),.i (Sp.lo (Bx.s3 b)),.i (Sp.hi (Bx.s3 b)),.i 0,.i 0]),[])) (some ((Bx.V b),[]))):=by kernel_rfl
def Lr (N:Nat):Env:=DV [(139,OD)] [] 15 N
theorem zbn (N:Nat) (q:Qy) (b:Bx):DQ (Lr N) uE [.cell 4 34] [[.z,.z,.z,.z,.z,.z,.z,.z,.z,.z]] [(Qy.V q),(Bx.V b)]=(cond (GM q) (cond (decide (Qy.ft q=ic 0)) (some ((.agg [.i (Sp.lo (Bx.s4 b)),.i (Sp.hi (Bx.s4 b)),.i (Sp.lo (Bx.s1 b)),.i (Sp.hi (Bx.s1 b)),.i (Sp.lo (Bx.s2 b)),.i (Sp.hi (Bx.s2 b)),.i (Sp.lo (Bx.s3 b)),.i (Sp.hi (Bx.s3 b)),.i 0,.i 0]),[])) (cond (decide (Qy.ft q=ic 1)) (some ((.agg [.i (Sp.lo (Bx.s0 b)),.i (Sp.hi (Bx.s0 b)),.i (Sp.lo (Bx.s4 b)),.i (Sp.hi (Bx.s4 b)),.i (Sp.lo (Bx.s2 b)),.i (Sp.hi (Bx.s2 b)),.i (Sp.lo (Bx.s3 b)),.i (Sp.hi (Bx.s3 b)),.i 0,.i 0]),[])) (cond (decide (Qy.ft q=ic 2)) (some ((.agg [.i (Sp.lo (Bx.s0 b)),.i (Sp.hi (Bx.s0 b)),.i (Sp.lo (Bx.s1 b)),.i (Sp.hi (Bx.s1 b)),.i (Sp.lo (Bx.s4 b)),.i (Sp.hi (Bx.s4 b)),.i (Sp.lo (Bx.s3 b)),.i (Sp.hi (Bx.s3 b)),.i 0,.i 0]),[])) (cond (decide (Qy.ft q=ic 3)) (some ((.agg [.i (Sp.lo (Bx.s0 b)),.i (Sp.hi (Bx.s0 b)),.i (Sp.lo (Bx.s1 b)),.i (Sp.hi (Bx.s1 b)),.i (Sp.lo (Bx.s2 b)),.i (Sp.hi (Bx.s2 b)),.i (Sp.lo (Bx.s4 b)),.i (Sp.hi (Bx.s4 b)),.i 0,.i 0]),[])) (cond (decide (Qy.ft q=ic 4)) (some ((.agg [.i (Sp.lo (Bx.s0 b)),.i (Sp.hi (Bx.s0 b)),.i (Sp.lo (Bx.s1 b)),.i (Sp.hi (Bx.s1 b)),.i (Sp.lo (Bx.s2 b)),.i (Sp.hi (Bx.s2 b)),.i (Sp.lo (Bx.s3 b)),.i (Sp.hi (Bx.s3 b)),.i 0,.i 0]),[])) none))))) (some ((Bx.V b),[]))):=by kernel_rfl
def Lq (N:Nat):Env:=DV [(31,JH),(139,OD)] [] 23 N
theorem zbm (N:Nat) (q:Qy) (b:Bx):DQ (Lq N) uD [.tmp 4] [[.bool]] [(Qy.V q),(Bx.V b)]=(cond (GM q) (cond (!Bx.emp b) (cond (decide (Qy.ft q=ic 0)) (some ((.bool (decide (Sp.lo (Bx.s0 b) < Sp.hi (Bx.s4 b)))),[])) (cond (decide (Qy.ft q=ic 1)) (some ((.bool (decide (Sp.lo (Bx.s1 b) < Sp.hi (Bx.s4 b)))),[])) (cond (decide (Qy.ft q=ic 2)) (some ((.bool (decide (Sp.lo (Bx.s2 b) < Sp.hi (Bx.s4 b)))),[])) (cond (decide (Qy.ft q=ic 3)) (some ((.bool (decide (Sp.lo (Bx.s3 b) < Sp.hi (Bx.s4 b)))),[])) (cond (decide (Qy.ft q=ic 4)) (some ((.bool (decide (Sp.lo (Bx.s4 b) < Sp.hi (Bx.s4 b)))),[])) none))))) (some ((.bool false),[]))) (some ((.bool false),[]))):=by kernel_rfl
def Ln (N:Nat):Env:=DV [(14,MW),(140,ZX),(141,ZZ),(139,OD)] [] 54 N
theorem zbk (N:Nat) (m:Md) (q:Qy) (b:Bx):DQ (Ln N) uB [.tmp 6,.tmp 7,.tmp 8] [[.z],[.z],[.bool]] [(Md.V m),(Qy.V q),(Bx.V b)]=(cond (!GM q) (some ((.tup [.i 0,.i 0,.bool false]),[])) (cond (!E9 m (Qy.c q) (I8 q b)) (some ((.tup [.i 0,.i 0,.bool false]),[])) (cond (!E9 m (Qy.c q) (JE q b)) (some ((.tup [.i 0,.i 0,.bool false]),[])) (some ((.tup [.i (AA AB (DZ m (Qy.c q) (JE q b) - DW m (Qy.c q) (I8 q b))),.i (AA AB (DW m (Qy.c q) (JE q b) - DZ m (Qy.c q) (I8 q b))),.bool true]),[]))))):=by kernel_rfl
def Lz (N:Nat):Env:=DV [(100,ZC),(14,MW),(31,JH),(102,ZW),(101,ZY),(41,MX)] [] 86 N
theorem zbw (N:Nat) (m:Md) (a1:Qy) (a2:Bx):DQ (Lz N) uM [.tmp 6] [[.bool]] [(Md.V m),(Qy.V a1),(Bx.V a2)]=(cond (!EU m a1) (some ((.bool false),[])) (cond (Bx.emp a2) (some ((.bool true),[])) (cond (Qy.k a1==1) (cond (E9 m (Qy.c a1) a2) (cond (decide (Qy.lo a1≤DZ m (Qy.c a1) a2)) (some ((.bool (decide (DW m (Qy.c a1) a2≤Qy.hi a1))),[])) (some ((.bool false),[]))) (some ((.bool false),[]))) (cond (Qy.k a1==2) (cond (LW m (Qy.c a1) a2) (some ((.bool (decide (Q4 m (Qy.c a1) a2 > 0))),[])) (some ((.bool false),[]))) (cond (!MO a1 a2) (some ((.bool true),[])) (cond (Qy.fl a1) (cond (JM m a1 a2) (some ((.bool (decide (OH m a1 a2≤0))),[])) (some ((.bool false),[]))) (cond (JM m a1 a2) (some ((.bool (decide (OI m a1 a2≥0))),[])) (some ((.bool false),[]))))))))):=by kernel_rfl
def Ma (N:Nat):Env:=DV [(103,ZF)] [] 9 N
theorem zbx (N:Nat) (b:Bx):DQ (Ma N) uN [.cell 2 40,.tmp 3] [[.z,.z,.z,.z],[.z]] [(Bx.V b)]=(some ((.tup [(Pt.V (Bx.low b)),.i (Sp.hi (Bx.s4 b))]),[])):=by kernel_rfl
def NK (N:Nat):Env:=DV [(56,T8)] [(2,⟨[3,4,5,6,7,8,11],[3,4,5],[]⟩)] 31 N
abbrev TM (m:Md) (q:Qy) (b:Bx) (x6 x7:Int) (b8:Bool) (x11:Int):St:=⟨[(3,(.ptr 3 0 0)),(4,(.ptr 4 0 0)),(5,(.ptr 5 0 0)),(6,(.i x6)),(7,(.i x7)),(8,(.bool b8)),(11,(.i x11))],[(3,(some (.box (Md.cs m)))),(4,(some (.box (Qy.cs q)))),(5,(some (.box (Bx.cs b))))]⟩
theorem zby (N:Nat) (m:Md) (q:Qy) (b:Bx):DQ (NK N) QS [.tmp 6,.tmp 7,.tmp 8] [[.z],[.z],[.bool]] [(Md.V m),(Qy.V q),(Bx.V b)]=(DR (NK N) (DD QS [1,0,1,0,0]) ⟨[3,4,5,6,7,8,11],[3,4,5],[]⟩ N (TM m q b 0 0 false 0) (DI 0 (DJ (NK N) (DD QS [1,1]) (DL (NK N) none [.tmp 6,.tmp 7,.tmp 8] [[.z],[.z],[.bool]])))):=by kernel_rfl
theorem Hw (N:Nat) (m:Md) (q:Qy) (b:Bx) (x6 x7:Int) (b8:Bool) (x11:Int) (again:St→DG) (k:Out→St→DG):E4 (NK N) (DD QS [1,0,1,0,0]) (TM m q b x6 x7 b8 x11) (EH again ⟨[3,4,5,6,7,8,11],[3,4,5],[]⟩ k)=(cond (decide (x11 < 5)) (cond (EQ m&&GT x11) (cond (decide (ic (AE (iZ (D6 m q b (AD x11)))) > 0)) (cond (decide (0≤AA AB (Int.tdiv (AA AB (ic (AE (iZ (D6 m q b (AD x11)))) - 1)) 2))&&decide (AA AB (Int.tdiv (AA AB (ic (AE (iZ (D6 m q b (AD x11)))) - 1)) 2) < ic (AE (iZ (D6 m q b (AD x11)))))) (k .ret (TM m q b x11 (IV.toInt (AI (iZ (D6 m q b (AD x11))) (AD (AA AB (Int.tdiv (AA AB (ic (AE (iZ (D6 m q b (AD x11)))) - 1)) 2))) default)) true x11)) none) (again (TM m q b x6 x7 b8 (AA AB (x11+1))))) none) (k (.exit 0) (TM m q b x6 x7 b8 x11))):=by kernel_rfl
theorem Sq (N:Nat) (m:Md) (q:Qy) (b:Bx) (x6 x7:Int) (b8:Bool) (x11:Int):(DI 0 (DJ (NK N) (DD QS [1,1]) (DL (NK N) none [.tmp 6,.tmp 7,.tmp 8] [[.z],[.z],[.bool]]))) (.exit 0) (TM m q b x6 x7 b8 x11)=(some ((.tup [.i 0,.i 0,.bool false]),[])):=by kernel_rfl
theorem Ss (N:Nat) (m:Md) (q:Qy) (b:Bx) (x6 x7:Int) (b8:Bool) (x11:Int):(DI 0 (DJ (NK N) (DD QS [1,1]) (DL (NK N) none [.tmp 6,.tmp 7,.tmp 8] [[.z],[.z],[.bool]]))) .ret (TM m q b x6 x7 b8 x11)=(some ((.tup [.i x6,.i x7,.bool b8]),[])):=by kernel_rfl
open Go Go.Proofs
set_option maxRecDepth 100000
theorem yW {i:Int} (h:GT i=true):i=0∨i=1∨i=2∨i=3∨i=4:=by
 unfold GT at h;simp only [AG,AP] at h;omega
theorem Gf:DO PR B0 143 UI:=by
 refine DX [] [] UI [[.z,.z]] Tryz.func143 Ys trivial ?_;intro vs r hwf h;unfold UI at h;split at h
 ·rw [R.get_ok] at h;exact ⟨0,(zcj 0).trans h⟩
 ·simp [R.get] at h
theorem Gg:DO PR B0 142 UJ:=by
 refine DX [(143,UI)] [] UJ [[.z,.z]] Tryz.func142 Yt ⟨Gf,trivial⟩ ?_;intro vs r hwf h;unfold UJ at h;split at h
 ·rename_i lo hi;rw [R.get_ok] at h;refine ⟨0,?_⟩;rw [← h];refine (zck 0 lo hi).trans ?_;unfold JV;cases decide (lo > hi) <;> rfl
 ·simp [R.get] at h
theorem Gd:DO PR B0 63 UG:=by
 refine DX [] [] UG [[.bool]] Tryz.func63 Yp trivial ?_;intro vs r hwf h;unfold UG at h;split at h
 ·rename_i s;replace h:=eD h;obtain ⟨s,rfl,h⟩:=h;rw [R.get_ok] at h;exact ⟨0,(zcg 0 s).trans h⟩
 ·simp [R.get] at h
theorem Ge:DO PR B0 72 UH:=by
 refine DX [] [] UH [[.bool]] Tryz.func72 Yq trivial ?_;intro vs r hwf h;unfold UH at h;split at h
 ·rename_i s n;replace h:=eD h;obtain ⟨s,rfl,h⟩:=h;rw [R.get_ok] at h;refine ⟨0,?_⟩;rw [← h];refine (zch 0 s n).trans ?_;unfold Sp.has;cases decide (s.lo≤n) <;> rfl
 ·simp [R.get] at h
theorem zfm:DO PR B0 104 eY:=by
 refine DX [(143,UI),(142,UJ)] [] eY [[.z,.z],[.z,.z]] Tryz.func104 Yo ⟨Gf,Gg,trivial⟩ ?_;intro vs r hwf h;unfold eY at h;split at h
 ·rename_i s n;replace h:=eD h;obtain ⟨s,rfl,h⟩:=h;rw [R.get_ok] at h;refine ⟨0,?_⟩;rw [← h];refine (zcf 0 s n).trans ?_;unfold Sp.cutH;cases decide (n≥s.hi) <;> rfl
 ·simp [R.get] at h
theorem zdX (b:Bx):DQ (Ky 6) tP [.tmp 2] [[.bool]] [b.V] =
 cond b.s0.emp (some (.bool true,[])) (cond b.s1.emp (some (.bool true,[])) (cond b.s2.emp (some (.bool true,[])) (cond b.s3.emp (some (.bool true,[])) (cond b.s4.emp (some (.bool true,[])) (some (.bool false,[])))))):=by kernel_rfl
theorem S5:DO PR B0 31 JH:=by
 refine DX [(63,UG)] [(2,⟨[2,5,6],[],[]⟩)] JH [[.bool]] Tryz.func31 Vl ⟨Gd,trivial⟩ ?_;intro vs r hwf h;unfold JH at h;split at h
 ·rename_i b;replace h:=HK h;obtain ⟨b,rfl,h⟩:=h;rw [R.get_ok] at h;refine ⟨6,?_⟩;rw [← h];refine (zdX b).trans ?_;unfold Bx.emp;cases b.s0.emp <;> cases b.s1.emp <;> cases b.s2.emp <;> cases b.s3.emp <;> cases b.s4.emp <;> rfl
 ·simp [R.get] at h
theorem zdY (b:Bx):DQ (La 5) tR [.cell 2 40] [[.z,.z,.z,.z]] [b.V]=some (b.low.V,[]):=by kernel_rfl
theorem zen:DO PR B0 103 ZF:=by
 refine DX [] [(3,⟨[1,2,3,5],[1,2,3],[]⟩)] ZF [[.z,.z,.z,.z]] Tryz.func103 Vn trivial ?_;intro vs r hwf h;unfold ZF at h;split at h
 ·rename_i b;replace h:=HK h;obtain ⟨b,rfl,h⟩:=h;rw [R.get_ok] at h;exact ⟨5,(zdY b).trans h⟩
 ·simp [R.get] at h
theorem jJ:DO PR B0 61 OB:=by
 refine DX [(104,eY)] [] OB [[.z,.z,.z,.z,.z,.z,.z,.z,.z,.z],[.z,.z,.z,.z,.z,.z,.z,.z,.z,.z]] Tryz.func61 Vk ⟨zfm,trivial⟩ ?_;intro vs r hwf h;unfold OB at h;split at h
 ·rename_i b i a;replace h:=HK h;obtain ⟨b,rfl,h⟩:=h;cases hg:(GT i) with
  | false=>rw [hg] at h; simp [R.get] at h
  | true=>
  rw [hg,R.get_br,DB,R.get_ok] at h;refine ⟨0,?_⟩;rw [← h];rcases yW hg with rfl | rfl | rfl | rfl | rfl <;> kernel_rfl
 ·simp [R.get] at h
theorem Gc:DO PR B0 57 UF:=by
 refine DX [] [] UF [[.bool]] Tryz.func57 Yf trivial ?_;intro vs r hwf h;unfold UF at h;split at h
 ·rename_i q;replace h:=I3 h;obtain ⟨q,rfl,h⟩:=h;rw [R.get_ok] at h;refine ⟨0,?_⟩;rw [← h];refine (zb3 0 q).trans ?_;unfold GM;cases (q.k==3) <;> cases decide (q.ft≥0) <;> rfl
 ·simp [R.get] at h
theorem jL:DO PR B0 139 OD:=by
 refine DX [] [] OD [[.bool]] Tryz.func139 Wr trivial ?_;intro vs r hwf h;unfold OD at h;split at h
 ·rename_i q;replace h:=I3 h;obtain ⟨q,rfl,h⟩:=h;rw [R.get_ok] at h;refine ⟨0,?_⟩;rw [← h];refine (zbo 0 q).trans ?_;unfold GM;cases (q.k==3) <;> cases decide (q.ft≥0) <;> rfl
 ·simp [R.get] at h
theorem OU {q:Qy} (h:GM q=true):q.ft=0∨q.ft=1∨q.ft=2∨q.ft=3:=by
 unfold GM at h;simp only [AG,AP] at h;omega
theorem zeI:DO PR B0 140 ZX:=by
 refine DX [(139,OD)] [] ZX [[.z,.z,.z,.z,.z,.z,.z,.z,.z,.z]] Tryz.func140 Wo ⟨jL,trivial⟩ ?_;intro vs r hwf h;unfold ZX at h;split at h
 ·rename_i q b;replace h:=I3 h;obtain ⟨q,rfl,h⟩:=h;replace h:=HK h;obtain ⟨b,rfl,h⟩:=h;rw [R.get_ok] at h;refine ⟨0,?_⟩;rw [← h];refine (zbl 0 q b).trans ?_;unfold I8;cases GM q <;> rfl
 ·simp [R.get] at h
theorem zeK:DO PR B0 141 ZZ:=by
 refine DX [(139,OD)] [] ZZ [[.z,.z,.z,.z,.z,.z,.z,.z,.z,.z]] Tryz.func141 Wq ⟨jL,trivial⟩ ?_;intro vs r hwf h;unfold ZZ at h;split at h
 ·rename_i q b;replace h:=I3 h;obtain ⟨q,rfl,h⟩:=h;replace h:=HK h;obtain ⟨b,rfl,h⟩:=h;rw [R.get_ok] at h;refine ⟨0,?_⟩;rw [← h];refine (zbn 0 q b).trans ?_;unfold JE;cases hp:GM q with
  | false=>rfl
  | true=>rcases OU hp with e | e | e | e <;> rw [e] <;> rfl
 ·simp [R.get] at h
theorem zeJ:DO PR B0 101 ZY:=by
 refine DX [(31,JH),(139,OD)] [] ZY [[.bool]] Tryz.func101 Wp ⟨S5,jL,trivial⟩ ?_;intro vs r hwf h;unfold ZY at h;split at h
 ·rename_i q b;replace h:=I3 h;obtain ⟨q,rfl,h⟩:=h;replace h:=HK h;obtain ⟨b,rfl,h⟩:=h;rw [R.get_ok] at h;refine ⟨0,?_⟩;rw [← h];refine (zbm 0 q b).trans ?_;unfold MO;cases hp:GM q with
  | false=>rfl
  | true=>cases b.emp <;> rcases OU hp with e | e | e | e <;> rw [e] <;> rfl
 ·simp [R.get] at h
theorem qC:DO PR B0 27 QM:=by
 refine DX [(57,UF)] [] QM [[.z,.z,.z,.z,.z,.z,.z,.z,.z,.z]] Tryz.func27 Yd ⟨Gc,trivial⟩ ?_;intro vs r hwf h;unfold QM at h;split at h
 ·rename_i q;replace h:=I3 h;obtain ⟨q,rfl,h⟩:=h;rw [R.get_ok] at h;refine ⟨0,?_⟩;rw [← h];refine (zb1 0 q).trans ?_;unfold EE;cases hp:GM q with
  | false=>rfl
  | true=>rcases OU hp with e | e | e | e <;> rw [e] <;> rfl
 ·simp [R.get] at h
theorem zfb:DO PR B0 73 aN:=by
 refine DX [(57,UF)] [] aN [[.z,.z,.z,.z]] Tryz.func73 Yc ⟨Gc,trivial⟩ ?_;intro vs r hwf h;unfold aN at h;split at h
 ·rename_i q p t;replace h:=I3 h;obtain ⟨q,rfl,h⟩:=h;replace h:=WJ h;obtain ⟨p,rfl,h⟩:=h;rw [R.get_ok] at h;refine ⟨0,?_⟩;rw [← h];refine (zb0 0 q p t).trans ?_;unfold IK;cases hp:GM q with
  | false=>rfl
  | true=>rcases OU hp with e | e | e | e <;> rw [e] <;> rfl
 ·simp [R.get] at h
def VY (d i:Int) (s:Sp) (rest:DG):DG:=
 cond (decide (i≥d)) (cond (!((s.lo==0)&&((s.hi==0)&&true))) (some (.bool false,[])) (cond s.emp (some (.bool false,[])) (cond (!(EY s.lo)) (some (.bool false,[])) (cond (!(EY s.hi)) (some (.bool false,[])) rest))))
  (cond s.emp (some (.bool false,[])) (cond (!(EY s.lo)) (some (.bool false,[])) (cond (!(EY s.hi)) (some (.bool false,[])) rest)))
theorem dG (d i:Int) (s:Sp) (rest:DG):VY d i s rest=cond (HR d i s) rest (some (.bool false,[])):=by
 unfold VY HR;rw [CR];cases decide (i≥d) <;> cases ((s.lo==0)&&(s.hi==0)) <;> cases s.emp <;> cases EY s.lo <;> cases EY s.hi <;> rfl
theorem zd2 (b:Bx) (d:Int):DQ (Mt 6) vC [.tmp 4] [[.bool]] [b.V,.int .i64 d]=VY d 0 b.s0 (VY d 1 b.s1 (VY d 2 b.s2 (VY d 3 b.s3 (VY d 4 b.s4 (some (.bool true,[])))))):=by kernel_rfl
theorem zfd:DO PR B0 68 aP:=by
 refine DX [(36,QJ),(63,UG)] [(2,⟨[1,4,7,8],[],[]⟩)] aP [[.bool]] Tryz.func68 Yg ⟨p8,Gd,trivial⟩ ?_;intro vs r hwf h;unfold aP at h;split at h
 ·rename_i b d;replace h:=HK h;obtain ⟨b,rfl,h⟩:=h;rw [R.get_ok] at h;refine ⟨6,?_⟩;rw [← h];refine (zd2 b d).trans ?_;rw [dG,dG,dG,dG,dG];unfold N1;cases HR d 0 b.s0 <;> cases HR d 1 b.s1 <;> cases HR d 2 b.s2 <;> cases HR d 3 b.s3 <;> cases HR d 4 b.s4 <;> rfl
 ·simp [R.get] at h
theorem zfc:DO PR B0 69 aO:=by
 refine DX [] [] aO [[.bool]] Tryz.func69 Ye trivial ?_;intro vs r hwf h;unfold aO at h;split at h
 ·rename_i m q;replace h:=IN h;obtain ⟨m,rfl,h⟩:=h;replace h:=I3 h;obtain ⟨q,rfl,h⟩:=h;rw [R.get_ok] at h;refine ⟨0,?_⟩;rw [← h];refine (zb2 0 m q).trans ?_;unfold PP;cases (q.k==1) <;> cases (q.k==2) <;> cases (q.k==3) <;> cases decide (q.lo≤q.hi) <;> cases (q.ft==0) <;> cases decide (m.c≥2) <;> cases (q.lo==0) <;> cases (q.hi==0) <;> cases decide (q.ft≥0) <;> cases decide (q.ft < m.d) <;> rfl
 ·simp [R.get] at h
theorem dO:DO PR B0 41 MX:=by
 refine DX [(20,LM),(69,aO),(68,aP)] [] MX [[.bool]] Tryz.func41 Yb ⟨YE,zfc,zfd,trivial⟩ ?_;intro vs r hwf h;unfold MX at h;split at h
 ·rename_i m q;replace h:=IN h;obtain ⟨m,rfl,h⟩:=h;replace h:=I3 h;obtain ⟨q,rfl,h⟩:=h;rw [R.get_ok] at h;refine ⟨0,?_⟩;rw [← h];refine (zbZ 0 m q).trans ?_;unfold EU Qy.bx;generalize N1 _ _=rg;cases EQ m <;> cases decide (q.c≥0) <;> cases decide (q.c < m.c) <;> cases decide (q.bu≥0) <;> cases decide (q.bu≤65536) <;> cases rg <;> rfl
 ·simp [R.get] at h
theorem oF {w:Int} (hb:GA w=true) (hl:(DE w).lf=false):(0≤(DE w).f∧(DE w).f < 4)∧(1≤(DE w).l∧(DE w).l < 31)∧(1≤(DE w).r∧(DE w).r < 31)∧EY (DE w).a=true:=by
 have h:=(oG hb).2;unfold NA at h;rw [hl,DC] at h;unfold QV at h;simp only [AG,AP] at h;exact ⟨⟨h.2.1,h.2.2.1⟩,h.2.2.2.2.1,h.2.2.2.2.2,h.2.2.2.1⟩
theorem Ax (w:Int):EY (DE w).v=true:=by
 cases hb:GA w with
 | false=>
  have e:DE w=Nd.zero:=by unfold DE; rw [hb]; rfl
  rw [e];rfl
 | true=>
  have h:=(oG hb).2;unfold NA at h;cases hl:(DE w).lf with
  | true=>
   rw [hl,DB,AG] at h;exact h.2
  | false=>
   rw [hl,DC,AG,CB] at h;rw [h.1];rfl
abbrev rY (l:LI) (p:Pt) (a j:Int):St:=
 ⟨[(0,(.list false [(.int .u64)] l)),(3,(.ptr 3 0 0)),(4,(.int .i64 0)),(5,(.ptr 5 0 0)),(6,(.int .i64 a)),(9,(.int .i64 j))],[(3,(some (.box (Pt.cs p)))),(5,(some (.box [(.bool false),(.int .i64 0),(.int .i64 0),(.int .i64 0),(.int .i64 0),(.int .i64 0)])))]⟩
theorem mH (N:Nat) (l:LI) (p:Pt):∀ (m j n:Nat) (a:Int),0≤a→j+m=31→m < n →
  DR (JZ N) (DD M2 [1,1,0,1,0,0]) ⟨[0,3,4,5,6,9],[3,5],[]⟩ n (rY l p a (j:Int)) (DI 0 (DJ (JZ N) (DD M2 [1,1,1]) (DL (JZ N) none [(BV 4),(vbf 5 82)] [[.z],[.bool,.z,.z,.z,.z,.z]]))) =
   some (.tup [.int .i64 (H0 l p m a).1,(H0 l p m a).2.V],[])
 | m,j,0,a,_,_,h=>absurd h (by omega)
 | 0,j,n+1,a,ha,hd,_=>by
  have hj:j=31:=by omega
  subst hj;rw [DY,It,AL (show ¬ ((31:Nat):Int) < 31 by omega),DC];exact xW N p l _ _ _ _ _ _ _ _ _
 | m+1,j,n+1,a,ha,hd,hn=>by
  have ej:AA AB ((j:Int)+1)=((j+1:Nat):Int):=GV (by omega);rw [DY,It,AF (show (j:Int) < 31 by omega),DB,H0,ej];cases hge:decide (a≥ic l.length) with
  | true=>
   rw [DB,DB];exact xW N p l _ _ _ _ _ _ _ _ _
  | false=>
   have hge:=BE hge;rw [DC,DC,AF ha,AF (show a < ic l.length by omega),BH,DB];generalize (l.getD a.toNat default).toInt=w;cases hb:GA w with
   | false=>
    rw [A9,DB,DB];exact Ub N p l _ _ _ _ _ _ _ _ _
   | true=>
    rw [A1,DC,DC];cases hl:(DE w).lf with
    | true=>
     rw [DB,DB];rfl
    | false=>
     obtain ⟨⟨f0,f4⟩,⟨l1,l31⟩,⟨r1,r31⟩,_⟩:=oF hb hl;rw [DC,DC];have step:∀ c:Bool,(cond c (DR (JZ N) (DD M2 [1,1,0,1,0,0]) ⟨[0,3,4,5,6,9],[3,5],[]⟩ n (rY l p (DE w).l ((j+1:Nat):Int)) (DI 0 (DJ (JZ N) (DD M2 [1,1,1]) (DL (JZ N) none [(BV 4),(vbf 5 82)] [[.z],[.bool,.z,.z,.z,.z,.z]]))))
       (DR (JZ N) (DD M2 [1,1,0,1,0,0]) ⟨[0,3,4,5,6,9],[3,5],[]⟩ n (rY l p (DE w).r ((j+1:Nat):Int)) (DI 0 (DJ (JZ N) (DD M2 [1,1,1]) (DL (JZ N) none [(BV 4),(vbf 5 82)] [[.z],[.bool,.z,.z,.z,.z,.z]]))))) =
       some (.tup [.int .i64 (cond c (H0 l p m (DE w).l) (H0 l p m (DE w).r)).1,(cond c (H0 l p m (DE w).l) (H0 l p m (DE w).r)).2.V],[]):=fun c=>by
      cases c with
      | true=>exact mH N l p m (j+1) n (DE w).l (by omega) (by omega) (by omega)
      | false=>exact mH N l p m (j+1) n (DE w).r (by omega) (by omega) (by omega)
     obtain e | e | e | e:(DE w).f=0∨(DE w).f=1∨(DE w).f=2∨(DE w).f=3:=by omega
     all_goals
      rw [e];exact step _
theorem zfw:DO PR B0 67 a8:=by
 refine DX [(55,LN)] [(3,⟨[0,3,4,5,6,9],[3,5],[]⟩)] a8 [[.z],[.bool,.z,.z,.z,.z,.z]] Tryz.func67 Zf ⟨YF,trivial⟩ ?_;intro vs r hwf h;unfold a8 at h;split at h
 ·rename_i l p;replace h:=WJ h;obtain ⟨p,rfl,h⟩:=h;rw [R.get_ok] at h;refine ⟨32,?_⟩;rw [← h];exact (zcw 32 l p).trans (mH 32 l p 31 0 32 0 (by omega) rfl (by omega))
 ·simp [R.get] at h
theorem zfv:DO PR B0 40 a7:=by
 refine DX [(67,a8)] [] a7 [[.z]] Tryz.func40 Ze ⟨zfw,trivial⟩ ?_;intro vs r hwf h;unfold a7 at h;split at h
 ·rename_i l p;replace h:=WJ h;obtain ⟨p,rfl,h⟩:=h;rw [R.get_ok] at h;exact ⟨0,(zcv 0 l p).trans h⟩
 ·simp [R.get] at h
theorem J5 {n:Int} (h:EY n=true) : -2147483648≤n∧n≤2147483647:=by
 unfold EY at h;simpa only [AG,AP] using h
theorem mG (l:LI) (p:Pt):∀ (n:Nat) (a:Int),EY (H0 l p n a).2.v=true
 | 0,_=>rfl
 | n+1,a=>by
  rw [H0];cases decide (a≥ic l.length) with
  | true=>rfl
  | false=>
   rw [DC];generalize (l.getD a.toNat default).toInt=w;cases GA w with
   | false=>rfl
   | true=>
    rw [A1,DC];cases (DE w).lf with
    | true=>exact Ax w
    | false=>
     rw [DC];cases decide (p.g (DE w).f.toNat≤(DE w).a) with
     | true=>exact mG l p n _
     | false=>exact mG l p n _
theorem rH (l:LI) (p:Pt) : -2147483648≤GC l p∧GC l p≤2147483647:=J5 (mG l p 31 0)
theorem IY {m:Md} (h:EQ m=true):(1≤m.d∧m.d≤4)∧(1≤m.c∧m.c≤3)∧m.ts.length≤8∧(EY m.b0=true∧EY m.b1=true∧EY m.b2=true)∧m.ts.all (HW m.d m.c)=true:=by
 unfold EQ H6 at h;simp only [AG,BW,BL] at h;obtain ⟨⟨h1,h2,h3,h4,h5⟩,⟨h6,h7,h8⟩,h9⟩:=h;exact ⟨⟨by omega,by omega⟩,⟨by omega,by omega⟩,AN h5,⟨h6.1,h7.1,h8.1⟩,h9⟩
theorem wH {m:Md} {k:Int} (h:GR m k=true):0≤k∧k < m.c:=by
 unfold GR at h;simpa only [AG,AP] using h
theorem lQ {m:Md} {k:Int} (hm:EQ m=true) (h:GR m k=true):k=0∨k=1∨k=2:=by
 have:=wH h
 have:=(IY hm).2.1
 omega
theorem fI {m:Md} (hm:EQ m=true) (k:Int) : -2147483648≤G0 m k∧G0 m k≤2147483647:=by
 obtain ⟨h0,h1,h2⟩:=(IY hm).2.2.2.1;unfold G0;cases (k==0) with
 | true=>exact J5 h0
 | false=>
  cases (k==1) with
  | true=>exact J5 h1
  | false=>exact J5 h2
abbrev zgC (ts:LI) (p:Pt) (k s i:Int):St:=
 ⟨[(1,(.int .i64 k)),(5,(.ptr 5 0 0)),(6,(.int .i64 0)),(7,(.int .i64 s)),(15,(.list true [.z,(.list false [(.int .u64)])] ts)),(16,(.int .i64 (ic (AE ts)))),(17,(.int .i64 i))],[(5,(some (.box (Pt.cs p))))]⟩
theorem mN (N:Nat) (ts:LI) (p:Pt) (k:Int) (hts:ts.length≤8):∀ (m i n:Nat) (s:Int),i+m=ts.length→m < n → -2147483648*(i+1)≤s∧s≤2147483648*(i+1) →
  DR (KX N) (DD NR [1,1,0,1,0,0]) ⟨[1,5,6,7,15,16,17],[5],[]⟩ n (zgC ts p k s (i:Int)) (DI 0 (DJ (KX N) (DD NR [1,1,1]) (DL (KX N) none [(BV 6)] [[.z]]))) =
   some (.int .i64 (G1 k p (ts.drop i) s),[])
 | m,i,0,s,_,h,_=>absurd h (by omega)
 | 0,i,n+1,s,hd,_,_=>by
  have hi:i=ts.length:=by omega
  subst hi;rw [DY,Ie,IW (AT _),DC,CX];exact Te N p _ _ _ _ _ _
 | m+1,i,n+1,s,hd,hn,hs=>by
  have hi:i < ts.length:=by omega
  have ei:AA AB ((i:Int)+1)=((i+1:Nat):Int):=GV (by omega);rw [DY,Ie,ei,IG hi,DB,IF,BH,DB,I9 hi,A7 hi,G1];have hv:=rH (EJ ts[i]) p;cases hc:((ts[i].cell 0).toInt==k) with
  | true=>
   rw [DB,DB];have ew:AA AB (s+GC (EJ ts[i]) p)=s+GC (EJ ts[i]) p:=EA (by omega) (by omega);have ih:=mN N ts p k hts m (i+1) n (s+GC (EJ ts[i]) p) (by omega) (by omega) (by omega);rw [← ew] at ih;refine Eq.trans ih ?_;rw [ew]
  | false=>
   rw [DC,DC];exact mN N ts p k hts m (i+1) n s (by omega) (by omega) (by omega)
theorem ze3:DO PR B0 21 aF:=by
 refine DX [(40,a7)] [(3,⟨[1,5,6,7,15,16,17],[5],[]⟩)] aF [[.z]] Tryz.func21 Xq ⟨zfv,trivial⟩ ?_;intro vs r hwf h;unfold aF at h;split at h
 ·rename_i m k p;replace h:=IN h;obtain ⟨m,rfl,h⟩:=h;replace h:=WJ h;obtain ⟨p,rfl,h⟩:=h;cases hg:(EQ m&&GR m k) with
  | false=>rw [hg] at h; simp [R.get] at h
  | true=>
  rw [hg,R.get_br,DB,R.get_ok] at h;rw [AG] at hg;have hb:=fI hg.1 k;have run:=mN 10 m.ts p k (IY hg.1).2.2.1 m.ts.length 0 10 (G0 m k) (by omega) (by have:=(IY hg.1).2.2.1; omega) (by omega);refine ⟨10,?_⟩;rw [← h];refine (zbO 10 m k p).trans ?_;rcases lQ hg.1 hg.2 with rfl | rfl | rfl <;> exact run
 ·simp [R.get] at h
theorem Fy:DO PR B0 10 UB:=by
 refine DX [(20,LM),(21,aF)] [] UB [[.z]] Tryz.func10 Xm ⟨YE,ze3,trivial⟩ ?_;intro vs r hwf h;unfold UB at h;split at h
 ·rename_i m k p;replace h:=IN h;obtain ⟨m,rfl,h⟩:=h;replace h:=WJ h;obtain ⟨p,rfl,h⟩:=h;rw [R.get_ok] at h;refine ⟨0,?_⟩;rw [← h];refine (zbK 0 m k p).trans ?_;unfold D4 GR;cases EQ m with
  | false=>rfl
  | true=>
   cases h0:decide (k < 0) with
   | true=>rw [AL (show ¬ 0≤k by have:=AY h0; omega)]; rfl
   | false=>
    rw [AF (show 0≤k by have:=BE h0; omega)];cases h1:decide (k≥m.c) with
    | true=>rw [AL (show ¬ k < m.c by have:=AY h1; omega)]; rfl
    | false=>rw [AF (show k < m.c by have:=BE h1; omega)]; rfl
 ·simp [R.get] at h
abbrev zgv (m:Md) (q:Qy) (p:Pt) (own i:Int):St:=
 ⟨[(4,(.ptr 4 0 0)),(5,(.ptr 5 0 0)),(6,(.ptr 6 0 0)),(8,(.bool false)),(9,(.int .i64 own)),(36,(.int .i64 (Md.c m))),(37,(.int .i64 i))],[(4,(some (.box (Md.cs m)))),(5,(some (.box (Qy.cs q)))),(6,(some (.box (Pt.cs p))))]⟩
def bD (m:Md) (q:Qy) (p:Pt) (own:Int):Nat→Nat→Bool
 | 0,_=>false
 | d+1,i=>(!((i:Int)==q.c)&&decide (D4 m (i:Int) p≥own))||bD m q p own d (i+1)
theorem sI (m:Md) (q:Qy) (p:Pt) (own:Int):∀ d i,bD m q p own d i=(List.range' i d).any fun c=>!((c:Int)==q.c)&&decide (D4 m (c:Int) p≥own)
 | 0,_=>rfl
 | d+1,i=>by rw [bD,sI m q p own d (i+1),List.range'_succ,List.any_cons]
theorem tB (N:Nat) (m:Md) (q:Qy) (p:Pt) (own:Int) (hc:0≤m.c∧m.c≤3):∀ (d i n:Nat),((i+d:Nat):Int)=m.c→d < n →
  DR (KY N) (DD M1 [1,1,1,0,1,0,1,1,1,0,0,1,0,0]) ⟨[4,5,6,8,9,36,37],[4,5,6],[]⟩ n (zgv m q p own (i:Int)) (DI 1 (DJ (KY N) (DD M1 [1,1,1,0,1,0,1,1,1,0,1]) (DI 0 (DJ (KY N) (DD M1 [1,1,1,1]) (DL (KY N) none [(BV 8)] [[.bool]]))))) =
   some (.bool (bD m q p own d i),[])
 | d,i,0,_,h=>absurd h (by omega)
 | 0,i,n+1,hd,_=>by
  rw [DY,Ii,AL (show ¬ (i:Int) < m.c by omega),DC];exact Ti N m q p _ _ _ _
 | d+1,i,n+1,hd,hn=>by
  have ei:AA AB ((i:Int)+1)=((i+1:Nat):Int):=GV (by omega);rw [DY,Ii,ei,AF (show (i:Int) < m.c by omega),DB,bD];have ih:=tB N m q p own hc d (i+1) n (by omega) (by omega);have en:((i:Int) != q.c)=!((i:Int)==q.c):=rfl;rw [en];cases ((i:Int)==q.c) with
  | true=>exact ih
  | false=>
   rw [A9,DB,BG];cases decide (D4 m (i:Int) p≥own) with
   | true=>exact Tj N m q p _ _ _ _
   | false=>exact ih
theorem S2 {m:Md} {q:Qy} (h:EU m q=true):EQ m=true∧(0≤q.c∧q.c < m.c)∧(0≤q.bu∧q.bu≤65536)∧N1 q.bx m.d=true∧PP m q=true:=by
 unfold EU at h;simp only [AG,AP] at h;exact ⟨h.1,⟨h.2.1,h.2.2.1⟩,⟨h.2.2.2.1,h.2.2.2.2.1⟩,h.2.2.2.2.2.1,h.2.2.2.2.2.2⟩
theorem cE {m:Md} {q:Qy} (h:PP m q=true):(q.k=1∧q.lo≤q.hi∧q.ft=0∧q.fl=false)∨(q.k=2∧2≤m.c∧q.lo=0∧q.hi=0∧q.ft=0∧q.fl=false)∨(q.k=3∧(0≤q.ft∧q.ft < m.d)∧q.lo=0∧q.hi=0):=by
 unfold PP at h;cases h1:(q.k==1) with
 | true=>
  rw [h1,DB] at h;simp only [AG,AP,CB,BW] at h;exact .inl ⟨CB.1 h1,h⟩
 | false=>
  rw [h1,DC] at h;cases h2:(q.k==2) with
  | true=>
   rw [h2,DB] at h;simp only [AG,AP,CB,BW,ge_iff_le] at h;exact .inr (.inl ⟨CB.1 h2,h⟩)
  | false=>
   rw [h2,DC] at h;cases h3:(q.k==3) with
   | true=>
    rw [h3,DB] at h;simp only [AG,AP,CB,ge_iff_le] at h;exact .inr (.inr ⟨CB.1 h3,⟨h.1,h.2.1⟩,h.2.2⟩)
   | false=>rw [h3,DC] at h; cases h
theorem Gb:DO PR B0 45 UE:=by
 refine DX [(10,UB),(41,MX),(73,aN),(72,UH)] [(9,⟨[4,5,6,8,9,36,37],[4,5,6],[]⟩)] UE [[.bool]] Tryz.func45 Ya ⟨Fy,dO,zfb,Ge,trivial⟩ ?_;intro vs r hwf h;unfold UE at h;split at h
 ·rename_i m q p t;replace h:=IN h;obtain ⟨m,rfl,h⟩:=h;replace h:=I3 h;obtain ⟨q,rfl,h⟩:=h;replace h:=WJ h;obtain ⟨p,rfl,h⟩:=h;rw [R.get_ok] at h;refine ⟨10,?_⟩;rw [← h];refine (zbY 10 m q p t).trans ?_;unfold FO;cases hr:EU m q with
  | false=>rfl
  | true=>
   obtain ⟨hm,_,_,_,hk⟩:=S2 hr;have hmp:=IY hm;rw [A1,DC,BG];cases h1:(q.k==1) with
   | true=>rfl
   | false=>
    rw [DC,DC];cases h2:(q.k==2) with
    | true=>
     rw [DB,DB];refine (tB 10 m q p _ (by omega) m.c.toNat 0 10 (by omega) (by omega)).trans ?_;rw [sI,← List.range_eq_range'];rfl
    | false=>
     rw [DC,DC];rcases cE hk with ⟨e,_⟩ | ⟨e,_⟩ | ⟨_,⟨f0,fd⟩,_⟩
     ·rw [e] at h1; cases h1
     ·rw [e] at h2; cases h2
     ·have step:∀ x:Int,cond (decide (x≥t)) (some (V.bool false,[])) (cond q.fl (some (V.bool (decide (D4 m q.c (IK q p t) > D4 m q.c p)),[])) (some (V.bool (decide (D4 m q.c (IK q p t) < D4 m q.c p)),[]))) =
        some (V.bool (cond (decide (x≥t)) false (cond q.fl (decide (D4 m q.c (IK q p t) > D4 m q.c p)) (decide (D4 m q.c (IK q p t) < D4 m q.c p)))),([]:List (List V))):=fun x=>by
       cases decide (x≥t) with
       | true=>rfl
       | false=>cases q.fl <;> rfl
      obtain e | e | e | e:q.ft=0∨q.ft=1∨q.ft=2∨q.ft=3:=by omega
      all_goals
       rw [e];exact step _
 ·simp [R.get] at h
open Go Go.Proofs Go.RowKit Go.Sort
theorem m6 (x:Int):∀ l,(VG x l).Perm (x :: l)
 | []=>vbF _
 | y :: r=>by
  rw [VG];cases decide (x≤y) with
  | true=>exact vbF _
  | false=>exact ((m6 x r).cons y).trans (List.Perm.swap x y r)
theorem RD:∀ l,(KC l).Perm l
 | []=>vbF _
 | x :: r=>(m6 x (KC r)).trans ((RD r).cons x)
theorem yZ (x:Int):∀ {l:List Int},l.Pairwise (·≤·)→(VG x l).Pairwise (·≤·)
 | [],_=>by simp [VG]
 | y :: r,h=>by
  rw [VG];cases hd:decide (x≤y) with
  | true=>
   have hd:=AY hd;rw [DB];rw [List.pairwise_cons] at h ⊢;refine ⟨fun z hz=>?_,by rw [List.pairwise_cons]; exact h⟩;rcases AX.1 hz with rfl | hz
   ·exact hd
   ·exact Int.le_trans hd (h.1 z hz)
  | false=>
   have hd:=BE hd;rw [DC];rw [List.pairwise_cons] at h ⊢;refine ⟨fun z hz=>?_,yZ x h.2⟩;rcases AX.1 ((m6 x r).mem_iff.1 hz) with rfl | hz
   ·omega
   ·exact h.1 z hz
theorem qG:∀ l,(KC l).Pairwise (·≤·)
 | []=>List.Pairwise.nil
 | x :: r=>yZ x (qG r)
theorem zaA (l:List Int):(l.mergeSort fun x y=>decide (x≤y))=KC l:=by
 refine List.Perm.eq_of_pairwise (le:=(·≤·)) (fun a b _ _ h1 h2=>vbv h1 h2) ?_ (qG l) ((List.mergeSort_perm l _).trans (RD l).symm)
 have:=List.pairwise_mergeSort (le:=fun (x y:Int)=>decide (x≤y)) (fun a b c h1 h2=>AF (Int.le_trans (AY h1) (AY h2))) (fun a b=>by
  rcases Int.le_total a b with h | h
  ·rw [AF h]; rfl
  ·rw [AF h,Bool.or_true]) l
 exact this.imp fun h=>by simpa using h
theorem wK (x:Int):∀ (l:List Int) (p:Int),JN p (l++[x])=JN p l++cond ((l.getLast?.getD p)==x) [] [x]
 | [],p=>by
  show cond (x==p) (JN x []) (x :: JN x [])=_;rw [show ((([]:List Int).getLast?.getD p)==x)=(x==p) by show (p==x)=(x==p); rw [vaC,CB,CB]; exact eq_comm];cases (x==p) <;> rfl
 | y :: r,p=>by
  rw [vaf,JN,JN,wK x r y];have e:((y :: r).getLast?.getD p)=r.getLast?.getD y:=by
   cases r with
   | nil=>rfl
   | cons z r=>rw [List.getLast?_cons_cons,List.getLast?_eq_some_getLast (List.cons_ne_nil z r)]; rfl
  rw [e];cases (y==p) <;> rfl
theorem Qg (x:Int) (l:List Int):IE (l++[x])=IE l++cond (l.getLast?==some x) [] [x]:=by
 cases l with
 | nil=>rfl
 | cons y r=>
  rw [vaf,IE,IE,wK,vaf];congr 2
  have:((y :: r).getLast?==some x)=(r.getLast?.getD y==x):=by
   cases r with
   | nil=>show (some y==some x)=(y==x); rw [vaC]; simp
   | cons z r=>rw [List.getLast?_cons_cons,List.getLast?_eq_some_getLast (List.cons_ne_nil z r)]; rw [vaC]; simp
  rw [this]
theorem Qh (l:List Int):Lib.compact l=IE l:=by
 have key:∀ m,m≤l.length→vbl l.toArray m=IE (l.take m):=by
  intro m
  induction m with
  | zero=>intro _; rfl
  | succ m ih=>
   intro hm;have e1:vbl l.toArray (m+1)=vbl l.toArray m++cond (Lib.keeps l.toArray m) [l.toArray[m]!] []:=by
    unfold vbl;rw [List.range_succ,List.filter_append,List.map_append];congr 1;cases hk:Lib.keeps l.toArray m <;> simp [hk]
   have hml:m < l.length:=by omega
   have e2:l.toArray[m]! = l[m]:=by simp [hml]
   rw [e1,ih (by omega),List.take_succ_eq_append_getElem hml,Qg,e2];congr 1;cases m with
   | zero=>simp [Lib.keeps]
   | succ k=>
    have hk:k < l.length:=by omega
    have e3:(l.take (k+1)).getLast?=some l[k]:=by rw [List.getLast?_take]; simp [hk]
    rw [e3];have e4:l.toArray[k]! = l[k]:=by simp [hk]
    cases hq:Lib.keeps l.toArray (k+1) with
    | true=>
     have:¬ (l[k+1]=l[k]):=fun he=>by
      rw [Lib.keeps_neg (Nat.succ_pos k) (by show l.toArray[k+1]! = l.toArray[k]!; rw [e2,e4]; exact he)] at hq;cases hq
     rw [DB];rw [show (some l[k]==some l[k+1])=false by simp; exact fun h=>this h.symm];rfl
    | false=>
     have:l[k+1]=l[k]:=by
      by_cases he:l[k+1]=l[k]
      ·exact he
      ·rw [Lib.keeps_pos (by show l.toArray[k+1]!≠l.toArray[k]!; rw [e2,e4]; exact he)] at hq;cases hq
     rw [DC,this];rw [show (some l[k]==some l[k])=true by simp];rfl
 unfold Lib.compact;rw [key _ (AT _),BD]
theorem wI:∀ (l:List Int) (p:Int),(JN p l).length≤l.length
 | [],_=>AT _
 | x :: r,p=>by
  have:=wI r x
  rw [JN];cases (x==p)
  ·rw [DC,AM,AM]; omega
  ·rw [DB,AM]; omega
theorem fU (l:List Int):(IE l).length≤l.length:=by
 cases l with
 | nil=>exact AT _
 | cons x r=>rw [IE,AM,AM]; have:=wI r x; omega
theorem lR {p x:Int}:∀ {l:List Int},x∈JN p l→x∈l
 | [],h=>by cases h
 | y :: r,h=>by
  rw [JN] at h;cases hb:(y==p)
  ·rw [hb,DC] at h;rcases AX.1 h with h | h
   ·exact h ▸ AU ..
   ·exact AW _ (lR h)
  ·rw [hb,DB] at h;exact AW _ (lR h)
theorem wL {x:Int} {l:List Int} (h:x∈IE l):x∈l:=by
 cases l with
 | nil=>cases h
 | cons y r=>
  rcases AX.1 h with h | h
  ·exact h ▸ AU ..
  ·exact AW _ (lR h)
theorem NV (l:List Int):(iZ l).length=l.length:=B9 ..
theorem mY (l:List Int):(iZ l).map IV.toInt=l:=by
 unfold iZ;rw [List.map_map];exact List.map_id l
theorem lM (l:List Int):LR (iZ l)=l.map (Value.int .i64):=by
 unfold LR iZ;rw [List.map_map];rfl
theorem Pv (l:LI):LR l=(l.map IV.toInt).map (Value.int .i64):=by
 unfold LR;rw [List.map_map];rfl
abbrev IU:Int→Value:=Value.int .i64
theorem iS {w:World} {e g n cap:Nat} {zs:List Int} (h:w.ownsRow 0 e 1 (.slice (some ⟨g,0,none⟩) n cap) zs.length (zs.map IU)):n=zs.length∧n≤cap∧cap≤maxLen∧g < w.heap.size∧Holds IU w g 0 zs.toArray:=by
 rcases h.2 with ⟨h1,_⟩ | ⟨g',cap',cur,h1,_,h2,h3,h4,h5,h6⟩
 ·cases h1
 ·simp only [CD,AC,C5,BY] at h1;obtain ⟨rfl,rfl,rfl⟩:=h1;refine ⟨rfl,h3,h4,(C9.1 h2).1,fun j hj=>?_⟩;have hj':j < zs.length:=by simpa using hj
  rw [BK];constructor
  ·have hc:cur[j]?=some (IU zs[j]):=by
    have:(cur.toList.take (zs.length*1))[j]?=some (IU zs[j]):=by rw [h6]; simp [hj']
    rw [CJ,BJ (by omega)] at this;simpa using this
   simp only [vay,h2];simp [hc,hj']
  ·simp [World.frozen?,h2]
theorem Zj {w:World} {g:Nat} {cur:Array Value} {e:TypeId} {fr:Nat × Nat} (h:w.heap[g]?=some (.cells cur e fr)) (q:Nat) (os:Array Obj) (zs:List Int) :
  (grow (putRow IU (vby w q) g 0 zs.toArray) os).heap[g]?=some (.cells (putCells IU 0 zs.toArray cur) e fr):=by
 have hg:g < w.heap.size:=(C9.1 h).1;have h0:(putRow IU (vby w q) g 0 zs.toArray).heap[g]?=some (.cells (putCells IU 0 zs.toArray cur) e fr):=by
  unfold putRow mapBlock;simp [vaW,onCells,h]
 unfold grow;simp only;rw [Array.getElem?_append_left (by rw [size_putRow]; exact hg)];exact h0
theorem zdz {cur:Array Value} {zs:List Int} (h:zs.length≤cur.size):(putCells IU 0 zs.toArray cur).size=cur.size∧(putCells IU 0 zs.toArray cur).toList.take zs.length=zs.map IU:=by
 refine ⟨by simp [putCells],?_⟩;apply List.ext_getElem?;intro k;rw [CJ];by_cases hk:k < zs.length
 ·rw [BJ hk];have hc:k < cur.size:=by omega
  simp [putCells,hk,hc]
 ·rw [A2 hk];simp [hk]
theorem oX {w:World} {e g n cap:Nat} {zs:List Int} (h:w.ownsRow 0 e 1 (.slice (some ⟨g,0,none⟩) n cap) zs.length (zs.map IU)) (q:Nat) (os:Array Obj) (ys rest:List Int) (hl:(ys++rest).length=zs.length) :
  w.grownBy (grow (putRow IU (vby w q) g 0 (ys++rest).toArray) os) (some g) ∧
   (grow (putRow IU (vby w q) g 0 (ys++rest).toArray) os).ownsRow 0 e 1 (.slice (some ⟨g,0,none⟩) ys.length cap) ys.length (ys.map IU):=by
 have hh:=iS h;rcases h.2 with ⟨h1,_⟩ | ⟨g',cap',cur,h1,_,h2,h3,h4,h5,h6⟩
 ·cases h1
 ·simp only [CD,AC,C5,BY] at h1;obtain ⟨rfl,rfl,rfl⟩:=h1;rw [AR] at hl;have hcur:(ys++rest).length≤cur.size:=by rw [AR]; omega
  obtain ⟨p1,p2⟩:=zdz (zs:=ys++rest) hcur;refine ⟨⟨rfl,rfl,rfl,?_,fun k hk hne=>?_⟩,by simp,.inr ⟨g,cap,_,rfl,B2 _,Zj h2 q os _,by omega,h4,by rw [p1,h5],?_⟩⟩
  ·show w.heap.size≤((putRow IU (vby w q) g 0 (ys++rest).toArray).heap++os).size;rw [Array.size_append,size_putRow];exact Nat.le_add_right _ _
  ·have hne':g≠k:=fun e=>hne (by rw [e])
   unfold grow;simp only;rw [Array.getElem?_append_left (by rw [size_putRow]; exact hk)];unfold putRow mapBlock;simp [vaW,hne']
  ·rw [Nat.mul_one]
   have:=congrArg (AK ys.length) p2
   rw [List.take_take,vaw (by rw [AR]; omega),List.map_append,List.take_left' (by simp)] at this;exact this
theorem yP (w:World) (r:Option Nat):w.grownBy w r:=⟨rfl,rfl,rfl,AT _,fun _ _ _=>rfl⟩
theorem pR {l:LI} (h:∀ x∈l,AB.min≤x.toInt∧x.toInt≤AB.max) {ys:List Int} (hs:∀ y∈ys,y∈l.map IV.toInt):∀ x∈iZ ys,AB.min≤x.toInt∧x.toInt≤AB.max:=by
 intro x hx;obtain ⟨y,hy,rfl⟩:=vao.1 hx;obtain ⟨z,hz,hzy⟩:=vao.1 (hs y hy);show AB.min≤y∧y≤AB.max;rw [← hzy];exact h z hz
theorem oV {w:World} {e:Nat} {v:Value} {l:LI} (h:w.ownsRow 0 e 1 v l.length (LR l)):(v = .slice none 0 0∧l=[])∨∃ g cap,v = .slice (some ⟨g,0,none⟩) (l.map IV.toInt).length cap∧w.ownsRow 0 e 1 (.slice (some ⟨g,0,none⟩) (l.map IV.toInt).length cap) (l.map IV.toInt).length ((l.map IV.toInt).map IU):=by
 rcases h.2 with ⟨h1,h2⟩ | ⟨g,cap,cur,h1,_⟩
 ·exact .inl ⟨h1,List.length_eq_zero_iff.1 h2⟩
 ·rw [h1] at h;refine .inr ⟨g,cap,by rw [h1,B9],?_⟩;rw [B9,← Pv];exact h
theorem zeY:QI PR 137 gY:=by
 intro w v l l' rs ys hown hrng hlen hr hg;unfold gY at hg;simp only at hg;split at hg
 ·simp only [AC] at hg;subst hg;obtain rfl:ys=[]:=by
   cases ys with
   | nil=>rfl
   | cons y ys=>simp [SZ] at hr
  refine Does.of_calls Tryz.func137 (by kernel_rfl) (by kernel_rfl) ?_;have hmem:∀ y∈KC (l.map IV.toInt),y∈l.map IV.toInt:=fun y hy=>(RD _).mem_iff.1 hy
  rcases oV hown with ⟨rfl,rfl⟩ | ⟨g,cap,rfl,ho⟩
  ·refine (Tryz.slices_Sort_int_none none 0 w).mono ?_;rintro e w' ⟨rfl,rfl⟩;exact ⟨_,rfl,yP _ _,fun x hx=>(by cases hx),fun h=>(by cases h),fun _=>hown⟩
  ·obtain ⟨_,_,hcm,hgs,hH⟩:=iS ho;refine (Tryz.slices_Sort_int g 0 cap (l.map IV.toInt) w hH hgs (by rw [B9]; unfold strMax at hlen; omega)).mono ?_;rintro e w' ⟨rfl,q,os,rfl⟩;rw [zaA];have hl:(KC (l.map IV.toInt)++[]).length=(l.map IV.toInt).length:=by rw [vad]; exact (RD _).length_eq
   have hp:=oX ho q os (KC (l.map IV.toInt)) [] hl;rw [vad] at hp hl;refine ⟨_,rfl,hp.1,pR hrng hmem,fun h=>(by cases h),fun _=>?_⟩;rw [lM,NV,← hl];exact hp.2
 ·cases hg
theorem zeW:QI PR 138 gW:=by
 intro w v l l' rs ys hown hrng hlen hr hg;unfold gW at hg;simp only at hg;split at hg
 ·simp only [AC] at hg;subst hg;obtain rfl:ys=[]:=by
   cases ys with
   | nil=>rfl
   | cons y ys=>simp [SZ] at hr
  refine Does.of_calls Tryz.func138 (by kernel_rfl) (by kernel_rfl) ?_;rcases oV hown with ⟨rfl,rfl⟩ | ⟨g,cap,rfl,ho⟩
  ·refine (Tryz.slices_Compact_int_empty none 0 w).mono ?_;rintro e w' ⟨rfl,rfl⟩;exact ⟨_,rfl,yP _ _,fun x hx=>(by cases hx),fun _=>⟨hown,fun b hb=>(by simp [B5] at hb)⟩,fun h=>by cases h⟩
  ·obtain ⟨_,hnc,hcm,hgs,hH⟩:=iS ho;refine (Tryz.slices_Compact_int g 0 cap (l.map IV.toInt) w hH (by rw [B9]; unfold strMax at hlen; omega) hnc).mono ?_;rintro e w' ⟨rfl,q,rfl⟩;rw [Qh];have hlc:=fU (l.map IV.toInt);have hp:=oX ho q #[] (IE (l.map IV.toInt)) (BB ((l.map IV.toInt).length - (IE (l.map IV.toInt)).length) 0) (by rw [AR,List.length_replicate]; omega);rw [grow_empty] at hp;refine ⟨_,rfl,hp.1,pR hrng fun y hy=>wL hy,fun _=>⟨?_,fun b hb=>.inl hb⟩,fun h=>by cases h⟩;rw [lM,NV];exact hp.2
 ·cases hg
set_option maxHeartbeats 1000000 in
theorem w9 (a b x:Int) (B:Nat) (W:World) (ha:W.cell? ⟨B,0,none⟩=some (.int .i64 a)) (hb:W.cell? ⟨B,1,none⟩=some (.int .i64 b)) :
  FnGives Tryz.prog 99 #[.pointer (some ⟨B,0,none⟩)] #[.int .i64 x] (.bool (decide (x < a)||decide (x≥b))) W:=by
 show Calls Tryz.prog 99 #[.int .i64 x,.pointer (some ⟨B,0,none⟩)] W _
 go_enter Tryz.func99,Tryz.ntmps99
 go_wp2
 all_goals (go_ret; exact ⟨by simp_all,0,rfl⟩)
set_option maxHeartbeats 1000000 in
theorem Rb (fv:Value) (w:World):Calls Tryz.prog 97 #[.slice none 0 0,fv] w fun e w'=>e = .returned (.slice none 0 0)∧∃ q,w'=w.drewN q:=by
 go_enter Tryz.func97,Tryz.ntmps97
 go_wp2_with (go_at_call 136; refine (Tryz.slices_IndexFunc_empty (α:=Int) none 0 fv _).mono ?_; rintro e w' ⟨rfl,rfl⟩)
 go_ret
 exact ⟨rfl,0,rfl⟩
theorem zdl {w:World} {v:Value} {f:Nat} {a b:Int} {ys:List Value} (h:SZ w v [.clo f [.bor [.int .i64 a,.int .i64 b]]] ys):∃ B,ys=[.func (.func f) #[] #[.pointer (some ⟨B,0,none⟩)]]∧B < w.heap.size∧w.cell? ⟨B,0,none⟩=some (.int .i64 a)∧w.cell? ⟨B,1,none⟩=some (.int .i64 b)∧v.ownBlock≠some B:=by
 cases ys with
 | nil=>simp [SZ] at h
 | cons y r=>
  cases r with
  | cons _ _=>simp [SZ] at h
  | nil=>
   simp only [SZ] at h;obtain ⟨B,c,T,rfl,hh,hc,hne⟩:=h;refine ⟨B,rfl,(C9.1 hh).1,?_,?_,hne⟩
   ·simp only [vay,hh];rw [← vau,hc];rfl
   ·simp only [vay,hh];rw [← vau,hc];rfl
theorem zeX:QI PR 97 gX:=by
 intro w v l l' rs ys hown hrng hlen hr hg;unfold gX at hg;simp only at hg;split at hg
 ·rename_i f a b;cases hf:BM f 99 with
  | false=>rw [hf,DC] at hg; cases hg
  | true=>
   rw [hf,DB,AC] at hg;subst hg;obtain rfl:=FG.1 hf;obtain ⟨B,rfl,hBs,ha,hb,hne⟩:=zdl hr;have pe:JA a b (l.map IV.toInt)=(l.map IV.toInt).filter fun x=>!(decide (x < a)||decide (x≥b)):=rfl
   have eg:∀ args w,(callFunc 99 args).run Tryz.prog w = .ok (.enter 99 args) w:=enters_of Tryz.func99 (by kernel_rfl) rfl;have hp:PredAt Tryz.prog 99 #[.pointer (some ⟨B,0,none⟩)] IU (fun x=>decide (x < a)||decide (x≥b)) w:=
    fun W x hbw=>w9 a b x B W ((hbw.cell (p:=⟨B,0,none⟩) hBs).trans ha) ((hbw.cell (p:=⟨B,1,none⟩) hBs).trans hb)
   rcases oV hown with ⟨rfl,rfl⟩ | ⟨g,cap,rfl,ho⟩
   ·refine Does.of_calls Tryz.func97 (by kernel_rfl) (by kernel_rfl) ((Rb _ w).mono ?_);rintro e w' ⟨rfl,q,rfl⟩;exact ⟨_,rfl,⟨rfl,rfl,rfl,AT _,fun _ _ _=>rfl⟩,fun x hx=>(by cases hx),fun _=>⟨World.ownsRow_nil _ 0 _ _,fun b hb=>(by simp [B5] at hb)⟩,fun h=>by cases h⟩
   ·obtain ⟨_,hnc,hcm,hgs,hH⟩:=iS ho;have hBg:B≠g:=fun e=>hne (by rw [e]; rfl)
    have hpo:PredOver Tryz.prog 99 #[.pointer (some ⟨B,0,none⟩)] IU (fun x=>decide (x < a)||decide (x≥b)) g 0 (l.map IV.toInt).toArray.size w:=
     fun n os dk x _=>by
      have hcell:∀ o u,w.cell? ⟨B,o,none⟩=some u→(sortWorld IU w g 0 n dk os).cell? ⟨B,o,none⟩=some u:=fun o u hu=>by
       unfold sortWorld;rw [cell?_grow _ _ _ (by show B < (putRow _ _ _ _ _).heap.size; rw [size_putRow]; exact hBs),cell?_putRow_other _ _ g 0 _ _ (Or.inl hBg)];exact hu
      exact w9 a b x B _ (hcell 0 _ ha) (hcell 1 _ hb)
    refine Does.of_calls Tryz.func97 (by kernel_rfl) (by kernel_rfl) ?_;have hcall:=Tryz.slices_DeleteFunc IU (fun _=>rfl) (fun x=>decide (x < a)||decide (x≥b)) 99 #[.pointer (some ⟨B,0,none⟩)] eg 0 Tryz.zeroValue3 g 0 cap (l.map IV.toInt).toArray w hp hpo hH (by simp; unfold strMax at hlen; omega) (by simp; rw [B9] at hnc; exact hnc);have es:(l.map IV.toInt).toArray.size=(l.map IV.toInt).length:=by simp
    rw [es] at hcall;refine hcall.mono ?_;rintro e w' ⟨rfl,q,rfl⟩;have ef:(l.map IV.toInt).toArray.toList.filter (fun x=>!(decide (x < a)||decide (x≥b)))=JA a b (l.map IV.toInt):=rfl;rw [ef];have hlc:(JA a b (l.map IV.toInt)).length≤(l.map IV.toInt).length:=List.length_filter_le ..
    have hp2:=oX ho q #[] (JA a b (l.map IV.toInt)) (BB ((l.map IV.toInt).length - (JA a b (l.map IV.toInt)).length) 0) (by rw [AR,List.length_replicate]; omega);rw [grow_empty] at hp2;refine ⟨_,rfl,hp2.1,pR hrng fun y hy=>(List.mem_filter.1 hy).1,fun _=>⟨?_,fun b hb=>.inl hb⟩,fun h=>by cases h⟩;rw [lM,NV];exact hp2.2
 ·cases hg
open Go Go.Proofs
set_option maxRecDepth 100000
theorem Ay {dim n:Int}:∀ {l:LI} {i k:Nat} (hk:k < l.length),KI dim n i l=true→GA (l[k]).toInt=true∧M4 dim n (i+k) (DE (l[k]).toInt)=true
 | [],i,k,hk,_=>absurd hk (Nat.not_lt_zero k)
 | w :: r,i,0,hk,h=>by
  rw [KI] at h;simp only [AG] at h;exact h.1
 | w :: r,i,k+1,hk,h=>by
  rw [KI,AG] at h
  have:=Ay (k:=k) (by simpa using hk) h.2
  rw [show i+1+k=i+(k+1) by omega] at this;exact this
theorem j7 {l:LI} {dim:Int} (h:FY l dim=true):(1≤l.length∧l.length≤31)∧(∀ k (hk:k < l.length),GA (l[k]).toInt=true∧M4 dim (ic l.length) k (DE (l[k]).toInt)=true)∧XY l=true:=by
 unfold FY at h;simp only [AG] at h;refine ⟨⟨AN h.1.1,AN h.1.2⟩,fun k hk=>?_,h.2.2⟩
 have:=Ay hk h.2.1
 rwa [BK] at this
theorem Um {dim n:Int} {i:Nat} {x:Nd} (h:M4 dim n i x=true) (hl:x.lf=false):x.f < dim∧x.l≠x.r∧((i:Int) < x.l∧(i:Int) < x.r)∧(x.l < n∧x.r < n):=by
 unfold M4 at h;rw [hl,DC] at h;simp only [AG,BW,BL,BZ] at h;obtain ⟨h1,h2,h3,h4⟩:=h;exact ⟨by omega,h2,by omega,by omega⟩
theorem zf3 {l:LI} {d e:Int} (h:FY l d=true) (hde:d≤e):FY l e=true:=by
 have key:∀ (l:LI) (n:Int) (i:Nat),KI d n i l=true→KI e n i l=true:=by
  intro l n
  induction l with
  | nil=>intro _ _; rfl
  | cons w r ih=>
   intro i h;rw [KI] at h ⊢;simp only [AG] at h ⊢;refine ⟨⟨h.1.1,?_⟩,ih _ h.2⟩;have h2:=h.1.2;unfold M4 at h2 ⊢;cases hl:(DE w.toInt).lf with
   | true=>rfl
   | false=>
    rw [hl,DC] at h2;rw [DC];simp only [AG,BW,BL] at h2 ⊢;exact ⟨by omega,h2.2⟩
 unfold FY at h ⊢;simp only [AG] at h ⊢;exact ⟨h.1,key _ _ _ h.2.1,h.2.2⟩
abbrev Zz:KP:=⟨[4,5,6,24,25,26],[20,500],[⟨(.tmp 6),500,89,true,D9⟩]⟩
abbrev Kh (l:LI) (i:Int) (own out:LI):St:=
 ⟨[(4,.zs),(5,(.row 20 0 l.length)),(6,(.row 500 0 out.length)),(24,(.list false [(.int .u64)] l)),(25,(.int .i64 (ic (AE l)))),(26,(.int .i64 i))],[(20,(some (.row true 34 true EZ own))),(500,(some (.row true 89 true D9 out)))]⟩
theorem iC (N:Nat) (l:LI) (ht:FY l 4=true):∀ (m i n:Nat) (own out:LI),i+m=l.length→m < n→own.length=l.length→out.length≤i →
  DR (PA N) (DD SA [1,1,1,1,1,0,1,0,0]) Zz n (Kh l (i:Int) own out) (DI 0 (DJ (PA N) (DD SA [1,1,1,1,1,1]) (DL (PA N) none [(BV 4)] [[(.list true D9)]]))) =
   some (.list true D9 (KG (l.drop i) i own out),[])
 | m,i,0,_,_,_,h,_,_=>absurd h (by omega)
 | 0,i,n+1,own,out,hd,_,_,_=>by
  have hi:i=l.length:=by omega
  subst hi;rw [DY,Hy,IW (AT _),DC,Sv,CX,KG,B1,BD]
 | m+1,i,n+1,own,out,hd,hn,ho,hu=>by
  obtain ⟨⟨l1,l31⟩,hat,_⟩:=j7 ht;have hi:i < l.length:=by omega
  have ei:AA AB ((i:Int)+1)=((i+1:Nat):Int):=GV (by omega);obtain ⟨hb,hf⟩:=hat i hi;have io:decide ((i:Int) < ic (l.length - 0))=true:=IG hi;rw [DY,Hy,ei,IG hi,DB,IF,BH,DB,I9 hi,io,BH,BC,A7 hi,KG];simp only [BK];cases hl:(DE (l[i]).toInt).lf with
  | true=>
   rw [A1,DC,DB,DB,BG];have e1:H1 (DE (l[i]).toInt) i own=own:=by unfold H1; rw [hl,DB]
   rw [e1];cases (DN (own.getD i default)).emp with
   | true=>exact iC N l ht m (i+1) n own out (by omega) (by omega) ho (by omega)
   | false=>
    have ih:=iC N l ht m (i+1) n own (out++[ST (DN (own.getD i default)) (DE (l[i]).toInt).v]) (by omega) (by omega) ho (by rw [AR]; simp; omega);unfold Kh at ih;rw [AR,B3] at ih;rw [A9,DB,DB,AF (show (out.length+1)*88≤D1 by unfold D1; omega),DB,BD];exact ih
  | false=>
   obtain ⟨f4,_,_,⟨ln,rn⟩⟩:=Um hf hl;obtain ⟨⟨f0,_⟩,⟨a1,_⟩,⟨b1,_⟩,_⟩:=oF hb hl;have hp:GT (DE (l[i]).toInt).f=true:=by unfold GT; rw [AF f0,AF (by omega)]; rfl
   have el:(decide (0≤(DE (l[i]).toInt).l)&&decide ((DE (l[i]).toInt).l < ic (l.length - 0)))=true:=by rw [AF (by omega),AF (show (DE (l[i]).toInt).l < ic (l.length - 0) from ln)]; rfl
   have er:(decide (0≤(DE (l[i]).toInt).r)&&decide ((DE (l[i]).toInt).r < ic (l.length - 0)))=true:=by rw [AF (by omega),AF (show (DE (l[i]).toInt).r < ic (l.length - 0) from rn)]; rfl
   rw [A9,DB,DB,hp,DB,el,DB,er,DB,BX,DC];have e1:H1 (DE (l[i]).toInt) i own=(own.set (DE (l[i]).toInt).l.toNat ((DN (own.getD i default)).cutL (DE (l[i]).toInt).f (DE (l[i]).toInt).a).I).set (DE (l[i]).toInt).r.toNat ((DN (own.getD i default)).cutH (DE (l[i]).toInt).f (DE (l[i]).toInt).a).I:=by unfold H1; rw [hl,DC]
   rw [e1];exact iC N l ht m (i+1) n _ out (by omega) (by omega) (by rw [vas,vas]; exact ho) (by omega)
theorem Fv:DO PR B0 34 T9:=by
 refine DX [(61,OB),(31,JH),(55,LN),(39,UQ)] [(7,⟨[4,5,6,24,25,26],[20,500],[⟨.tmp 6,500,89,true,[.z,.z,.z,.z,.z,.z,.z,.z,.z,.z,.z]⟩]⟩)] T9 [[.list true [.z,.z,.z,.z,.z,.z,.z,.z,.z,.z,.z]]] Tryz.func34 Xh ⟨jJ,S5,YF,Gt,trivial⟩ ?_;intro vs r hwf h;unfold T9 at h;split at h
 ·rename_i l b;replace h:=HK h;obtain ⟨b,rfl,h⟩:=h;rw [R.get_ok] at h;refine ⟨40,?_⟩;rw [← h];refine (zbF 40 l b).trans ?_;unfold F9;cases ht:FY l 4 with
  | false=>rfl
  | true=>
   rw [A1,DC,BG];cases b.emp with
   | true=>rfl
   | false=>
    obtain ⟨⟨l1,l31⟩,_,_⟩:=j7 ht;have run:=iC 40 l ht l.length 0 40 ((BB l.length OG.I).set 0 b.I) [] (by omega) (by omega) (by simp) (B2 _);rw [DC,AF (show (0:Int)≤ic l.length by simp only [ic]; omega),AF (show ic l.length=ic l.length from rfl),AF (show ic l.length*ic 80≤ic D1 by unfold D1; simp only [ic]; omega),BH,BH,DB,
     AF (show 0≤0 from AT 0),AF (show (0:Int) < ic (AD (ic l.length) - 0) by simp only [ic]; omega),BH,DB]
    exact run
 ·simp [R.get] at h
abbrev zgA (l:LI) (lo hi i:Int):St:=⟨[(4,(.int .i64 0)),(5,(.int .i64 0)),(6,(.bool false)),(8,(.int .i64 lo)),(9,(.int .i64 hi)),(26,(.list true D9 l)),(27,(.int .i64 (ic (AE l)))),(28,(.int .i64 i))],[]⟩
theorem tA (N:Nat) (l:LI) (hl:l.length≤strMax):∀ (m i n:Nat) (lo hi:Int),i+m=l.length→m < n →
  DR (O8 N) (DD R7 [1,1,1,1,0,1,0,0]) ⟨[4,5,6,8,9,26,27,28],[],[]⟩ n (zgA l lo hi (i:Int)) (DI 0 (DJ (O8 N) (DD R7 [1,1,1,1,1]) (DL (O8 N) none [(BV 4),(BV 5),(BV 6)] [[.z],[.z],[.bool]]))) =
   some (.tup [.int .i64 (ML (l.drop i) lo),.int .i64 (MJ (l.drop i) hi),.bool true],[])
 | m,i,0,_,_,_,h=>absurd h (by omega)
 | 0,i,n+1,lo,hi,hd,_=>by
  have hi:i=l.length:=by omega
  subst hi;rw [DY,Hg,IW (AT _),DC,CX];exact Rv N _ _ _ _ _ l _ _
 | m+1,i,n+1,lo,hi,hd,hn=>by
  have hi:i < l.length:=by omega
  have mx:strMax=140737488355327:=rfl;have ei:AA AB ((i:Int)+1)=((i+1:Nat):Int):=GV (by omega);rw [DY,Hg,ei,IG hi,DB,IF,BH,DB,I9 hi,A7 hi,ML,MJ];exact tA N l hl m (i+1) n _ _ (by omega) (by omega)
theorem zV:∀ (l:LI) (i:Nat) (own out:LI),(KG l i own out).length≤out.length+l.length
 | [],_,_,out=>AT _
 | w :: r,i,own,out=>by
  rw [KG]
  have:=zV r (i+1) (H1 (DE w.toInt) i own) (cond ((DE w.toInt).lf&&!(DN (own.getD i default)).emp) (out++[ST (DN (own.getD i default)) (DE w.toInt).v]) out)
  refine CE this ?_;cases ((DE w.toInt).lf&&!(DN (own.getD i default)).emp) with
  | true=>rw [DB,AR,B3,AM]; omega
  | false=>rw [DC,AM]; omega
theorem zal (l:LI) (b:Bx):(F9 l b).length≤31:=by
 unfold F9;cases ht:FY l 4 with
 | false=>exact B2 _
 | true=>
  cases b.emp with
  | true=>exact B2 _
  | false=>
   have:=zV l 0 ((BB l.length OG.I).set 0 b.I) []
   have h2:=(j7 ht).1.2;simp only [A6,BK] at this;exact CE this h2
theorem zel:DO PR B0 32 ZD:=by
 refine DX [(34,T9)] [(6,⟨[4,5,6,8,9,26,27,28],[],[]⟩)] ZD [[.z],[.z],[.bool]] Tryz.func32 Vj ⟨Fv,trivial⟩ ?_;intro vs r hwf h;unfold ZD at h;split at h
 ·rename_i l b;replace h:=HK h;obtain ⟨b,rfl,h⟩:=h;rw [R.get_ok] at h;refine ⟨40,?_⟩;rw [← h];refine (zaX 40 l b).trans ?_;have h31:=zal l b;unfold GY GW V5 KN KM;generalize F9 l b=ps at h31 ⊢;cases ps with
  | nil=>rfl
  | cons x r=>
   have run:=tA 40 (x :: r) (CE h31 (by decide)) (x :: r).length 0 40 (FF x) (FF x) (by omega) (by omega);have e0:(ic (x :: r).length==0)=false:=by
    simp only [ic,AM,BZ];omega
   have e1:(decide (0≤0)&&decide (0 < ic (x :: r).length))=true:=by
    rw [AF (show 0≤0 from AT 0),AF (show 0 < ic (x :: r).length by simp only [ic,AM]; omega)];rfl
   rw [e0,DC,e1,DB,DB];exact run
 ·simp [R.get] at h
theorem zaB {l:LI}:∀ {a:Int},EY a=true→(∀ x∈l,EY (FF x)=true)→EY (ML l a)=true:=by
 induction l with
 | nil=>intro a h _; exact h
 | cons x r ih=>
  intro a h hx;rw [ML];refine ih ?_ fun y hy=>hx y (AW _ hy)
  have:=J5 h
  have:=J5 (hx x (AU ..))
  unfold EY;rw [AF (by omega),AF (by omega)];rfl
theorem zav {l:LI}:∀ {a:Int},EY a=true→(∀ x∈l,EY (FF x)=true)→EY (MJ l a)=true:=by
 induction l with
 | nil=>intro a h _; exact h
 | cons x r ih=>
  intro a h hx;rw [MJ];refine ih ?_ fun y hy=>hx y (AW _ hy)
  have:=J5 h
  have:=J5 (hx x (AU ..))
  unfold EY;rw [AF (by omega),AF (by omega)];rfl
theorem zU:∀ (l:LI) (i:Nat) (own out:LI),(∀ x∈out,EY (FF x)=true)→∀ x∈KG l i own out,EY (FF x)=true
 | [],_,_,_,h=>h
 | w :: r,i,own,out,h=>by
  rw [KG];refine zU r (i+1) _ _ ?_;cases ((DE w.toInt).lf&&!(DN (own.getD i default)).emp) with
  | true=>
   intro x hx;rcases AV.1 hx with hx | hx
   ·exact h x hx
   ·obtain rfl:=A4.1 hx;exact Ax _
  | false=>exact h
theorem zaj (l:LI) (b:Bx):∀ x∈F9 l b,EY (FF x)=true:=by
 unfold F9;cases (FY l 4&&!b.emp) with
 | true=>exact zU _ _ _ _ (fun x hx=>by cases hx)
 | false=>intro x hx; cases hx
theorem j3 (l:LI) (b:Bx):EY (GY l b)=true∧EY (GW l b)=true:=by
 unfold GY GW V5;have hf:=zaj l b;generalize F9 l b=ps at hf ⊢;cases ps with
 | nil=>exact ⟨rfl,rfl⟩
 | cons x r=>exact ⟨zaB (hf x (AU ..)) hf,zav (hf x (AU ..)) hf⟩
abbrev zgz (ts:LI) (b:Bx) (k lo hi i:Int):St:=⟨[(1,(.int .i64 k)),(5,(.ptr 5 0 0)),(6,(.int .i64 0)),(7,(.int .i64 0)),(8,(.bool false)),(9,(.int .i64 lo)),(10,(.int .i64 hi)),(42,(.list true K9 ts)),(43,(.int .i64 (ic (AE ts)))),(44,(.int .i64 i))],[(5,(some (.box (Bx.cs b))))]⟩
theorem qZ (N:Nat) (ts:LI) (b:Bx) (k:Int) (hts:ts.length≤8):∀ (m i n:Nat) (lo hi:Int),i+m=ts.length→m < n→(-2147483648*(i+1)≤lo∧lo≤2147483648*(i+1))→(-2147483648*(i+1)≤hi∧hi≤2147483648*(i+1)) →
  DR (GE N) (DD HY [1,1,1,0,1,0,0]) ⟨[1,5,6,7,8,9,10,42,43,44],[5],[]⟩ n (zgz ts b k lo hi (i:Int)) (DI 0 (DJ (GE N) (DD HY [1,1,1,1]) (DL (GE N) none [(BV 6),(BV 7),(BV 8)] [[.z],[.z],[.bool]]))) =
   some (.tup [.int .i64 (F7 (fun l=>GY l b) k (ts.drop i) lo),.int .i64 (F7 (fun l=>GW l b) k (ts.drop i) hi),.bool true],[])
 | m,i,0,_,_,_,h,_,_=>absurd h (by omega)
 | 0,i,n+1,lo,hi,hd,_,_,_=>by
  have hlt:i=ts.length:=by omega
  subst hlt;rw [DY,Hf,IW (AT _),DC,CX];exact Ru N b _ _ _ _ _ _ _ _ _
 | m+1,i,n+1,lo,hi,hd,hn,h1,h2=>by
  have hlt:i < ts.length:=by omega
  have ei:AA AB ((i:Int)+1)=((i+1:Nat):Int):=GV (by omega);rw [DY,Hf,ei,IG hlt,DB,IF,BH,DB,I9 hlt,A7 hlt,F7,F7];obtain ⟨q1,q2⟩:=j3 (EJ ts[i]) b;have q1:=J5 q1;have q2:=J5 q2;have en:((ts[i].cell 0).toInt != k)=!((ts[i].cell 0).toInt==k):=rfl;rw [en];cases ((ts[i].cell 0).toInt==k) with
  | true=>
   rw [A1,DC,DB,DB];have ew:AA AB (lo+GY (EJ ts[i]) b)=lo+GY (EJ ts[i]) b:=EA (by omega) (by omega);have ew2:AA AB (hi+GW (EJ ts[i]) b)=hi+GW (EJ ts[i]) b:=EA (by omega) (by omega);have ih:=qZ N ts b k hts m (i+1) n (lo+GY (EJ ts[i]) b) (hi+GW (EJ ts[i]) b) (by omega) (by omega) (by omega) (by omega);rw [← ew,← ew2] at ih;refine Eq.trans ih ?_;rw [ew,ew2]
  | false=>
   rw [A9,DB,DC,DC];exact qZ N ts b k hts m (i+1) n lo hi (by omega) (by omega) (by omega) (by omega)
theorem dN:DO PR B0 14 MW:=by
 refine DX [(32,ZD),(31,JH),(20,LM)] [(5,⟨[1,5,6,7,8,9,10,42,43,44],[5],[]⟩)] MW [[.z],[.z],[.bool]] Tryz.func14 Vi ⟨zel,S5,YE,trivial⟩ ?_;intro vs r hwf h;unfold MW at h;split at h
 ·rename_i m k b;replace h:=IN h;obtain ⟨m,rfl,h⟩:=h;replace h:=HK h;obtain ⟨b,rfl,h⟩:=h;rw [R.get_ok] at h;refine ⟨10,?_⟩;rw [← h];refine (zaW 10 m k b).trans ?_;unfold DZ DW E9;cases hm:EQ m with
  | false=>rfl
  | true=>
   rw [A1,DC];cases h0:decide (k < 0) with
   | true=>
    have:GR m k=false:=by unfold GR; rw [AL (show ¬ 0≤k by have:=AY h0; omega)]; rfl
    rw [this];rfl
   | false=>
    rw [DC];cases h1:decide (k≥m.c) with
    | true=>
     have:GR m k=false:=by unfold GR; rw [AL (show ¬ k < m.c by have:=AY h1; omega),vax]
     rw [this];rfl
    | false=>
     have hc:GR m k=true:=by unfold GR; rw [AF (show 0≤k by have:=BE h0; omega),AF (show k < m.c by have:=BE h1; omega)]; rfl
     rw [DC,hc];cases b.emp with
     | true=>rfl
     | false=>
      have hb:=fI hm k;have run:=qZ 10 m.ts b k (IY hm).2.2.1 m.ts.length 0 10 (G0 m k) (G0 m k) (by omega) (by have:=(IY hm).2.2.1; omega) (by omega) (by omega);rw [DC];rcases lQ hm hc with rfl | rfl | rfl <;> exact run
 ·simp [R.get] at h
theorem qX (g:LI→Int) (hg:∀ l,-2147483648≤g l∧g l≤2147483648) (k:Int):∀ (ts:LI) (s:Int) (n:Nat),(-2147483648*(n:Int)≤s∧s≤2147483648*(n:Int)) → -2147483648*((n+ts.length:Nat):Int)≤F7 g k ts s∧F7 g k ts s≤2147483648*((n+ts.length:Nat):Int)
 | [],s,n,h=>by
  rw [F7];simpa using h
 | t :: r,s,n,h=>by
  rw [F7];have h1:=hg (EJ t)
  have:=qX g hg k r (cond (JW t==k) (s+g (EJ t)) s) (n+1) (by cases (JW t==k) <;> simp only [CT,CG] <;> omega)
  rw [AM];rw [show n+1+r.length=n+(r.length+1) by omega] at this;exact this
theorem jE {m:Md} (k:Int) (b:Bx):(-34359738368≤DZ m k b∧DZ m k b≤34359738368)∧(-34359738368≤DW m k b∧DW m k b≤34359738368):=by
 unfold DZ DW;cases hs:E9 m k b with
 | false=>simp only [CG]; omega
 | true=>
  unfold E9 at hs;simp only [AG] at hs;have hb:=fI hs.1 k;have h8:=(IY hs.1).2.2.1;have h1:=qX (fun l=>GY l b) (fun l=>by have:=J5 (j3 l b).1; omega) k m.ts (G0 m k) 1 (by omega);have h2:=qX (fun l=>GW l b) (fun l=>by have:=J5 (j3 l b).2; omega) k m.ts (G0 m k) 1 (by omega);rw [DB,DB];omega
abbrev zgx (m:Md) (b:Bx) (k lo a:Int) (z:Bool) (i:Int):St:=⟨[(1,(.int .i64 k)),(3,(.ptr 3 0 0)),(5,(.ptr 5 0 0)),(6,(.int .i64 0)),(7,(.bool false)),(8,(.int .i64 lo)),(11,(.int .i64 a)),(12,(.bool z)),(33,(.int .i64 (Md.c m))),(34,(.int .i64 i))],[(3,(some (.box (Md.cs m)))),(5,(some (.box (Bx.cs b))))]⟩
theorem zZ (N:Nat) (m:Md) (b:Bx) (k:Int) (hc:0≤m.c∧m.c≤3) (lo:Int) (hlo : -34359738368≤lo∧lo≤34359738368):∀ (d i n:Nat) (a:Int) (z:Bool),((i+d:Nat):Int)=m.c→d < n →
  DR (O7 N) (DD R6 [1,1,1,1,0,1,0,0]) ⟨[1,3,5,6,7,8,11,12,33,34],[3,5],[]⟩ n (zgx m b k lo a z (i:Int)) (DI 0 (DJ (O7 N) (DD R6 [1,1,1,1,1]) (DL (O7 N) none [(BV 6),(BV 7)] [[.z],[.bool]]))) =
   some (.tup [.int .i64 (PW m k lo b d (i:Int) a z),.bool true],[])
 | d,i,0,_,_,_,h=>absurd h (by omega)
 | 0,i,n+1,a,z,hd,_=>by
  rw [DY,He,AL (show ¬ (i:Int) < m.c by omega),DC];exact Rt N m b _ _ _ _ _ _ _ _
 | d+1,i,n+1,a,z,hd,hn=>by
  have ei:AA AB ((i:Int)+1)=((i+1:Nat):Int):=GV (by omega);have hs:=(jE (m:=m) (i:Int) b).2;have ew:AA AB (lo - DW m (i:Int) b)=lo - DW m (i:Int) b:=EA (by omega) (by omega);have ec:(i:Int)+1=((i+1:Nat):Int):=by omega
  rw [DY,He,ei,ew,AF (show (i:Int) < m.c by omega),DB,PW,ec];have ih:=fun a z=>zZ N m b k hc lo hlo d (i+1) n a z (by omega) (by omega)
  cases ((i:Int)==k) with
  | true=>exact ih a z
  | false=>
   rw [DC,DC];cases z with
   | false=>exact ih _ true
   | true=>
    rw [A1,DC,vav];cases decide (lo - DW m (i:Int) b < a) with
    | true=>exact ih _ true
    | false=>exact ih a true
theorem zek:DO PR B0 100 ZC:=by
 refine DX [(14,MW)] [(6,⟨[1,3,5,6,7,8,11,12,33,34],[3,5],[]⟩)] ZC [[.z],[.bool]] Tryz.func100 Vh ⟨dN,trivial⟩ ?_;intro vs r hwf h;unfold ZC at h;split at h
 ·rename_i m k b;replace h:=IN h;obtain ⟨m,rfl,h⟩:=h;replace h:=HK h;obtain ⟨b,rfl,h⟩:=h;rw [R.get_ok] at h;refine ⟨10,?_⟩;rw [← h];refine (zaV 10 m k b).trans ?_;unfold Q4 LW;cases hs:E9 m k b with
  | false=>rfl
  | true=>
   have hm:EQ m=true:=by unfold E9 at hs; simp only [AG] at hs; exact hs.1
   have hc:=(IY hm).2.1;rw [A1,DC];cases h2:decide (m.c < 2) with
   | true=>rw [AL (show ¬ m.c≥2 by have:=AY h2; omega)]; rfl
   | false=>
    rw [AF (show m.c≥2 by have:=BE h2; omega),DC];exact zZ 10 m b k (by omega) (DZ m k b) (jE k b).1 m.c.toNat 0 10 0 false (by omega) (by omega)
 ·simp [R.get] at h
theorem zeH:DO PR B0 102 ZW:=by
 refine DX [(14,MW),(140,ZX),(141,ZZ),(139,OD)] [] ZW [[.z],[.z],[.bool]] Tryz.func102 Wn ⟨dN,zeI,zeK,jL,trivial⟩ ?_;intro vs r hwf h;unfold ZW at h;split at h
 ·rename_i m q b;replace h:=IN h;obtain ⟨m,rfl,h⟩:=h;replace h:=I3 h;obtain ⟨q,rfl,h⟩:=h;replace h:=HK h;obtain ⟨b,rfl,h⟩:=h;rw [R.get_ok] at h;refine ⟨0,?_⟩;rw [← h];refine (zbk 0 m q b).trans ?_;have h1:=jE (m:=m) q.c (I8 q b);have h2:=jE (m:=m) q.c (JE q b);rw [EA (n:=DZ m q.c (JE q b) - DW m q.c (I8 q b)) (by omega) (by omega),EA (n:=DW m q.c (JE q b) - DZ m q.c (I8 q b)) (by omega) (by omega)];unfold OI OH JM;cases GM q <;> cases E9 m q.c (I8 q b) <;> cases E9 m q.c (JE q b) <;> rfl
 ·simp [R.get] at h
theorem zeP:DO PR B0 58 Z4:=by
 refine DX [(100,ZC),(14,MW),(31,JH),(102,ZW),(101,ZY),(41,MX)] [] Z4 [[.bool]] Tryz.func58 Wz ⟨zek,dN,S5,zeH,zeJ,dO,trivial⟩ ?_;intro vs r hwf h;unfold Z4 at h;split at h
 ·rename_i m q b;replace h:=IN h;obtain ⟨m,rfl,h⟩:=h;replace h:=I3 h;obtain ⟨q,rfl,h⟩:=h;replace h:=HK h;obtain ⟨b,rfl,h⟩:=h;rw [R.get_ok] at h;refine ⟨0,?_⟩;rw [← h];refine (zbw 0 m q b).trans ?_;unfold FS;cases EU m q <;> cases b.emp <;> cases (q.k==1) <;> cases (q.k==2) <;> cases E9 m q.c b <;> cases decide (q.lo≤DZ m q.c b) <;> cases LW m q.c b <;> cases MO q b <;> cases q.fl <;> cases JM m q b <;> rfl
 ·simp [R.get] at h
theorem zeQ:DO PR B0 59 Z5:=by
 refine DX [(103,ZF)] [] Z5 [[.z,.z,.z,.z],[.z]] Tryz.func59 Xa ⟨zen,trivial⟩ ?_;intro vs r hwf h;unfold Z5 at h;split at h
 ·rename_i b;replace h:=HK h;obtain ⟨b,rfl,h⟩:=h;rw [R.get_ok] at h;exact ⟨0,(zbx 0 b).trans h⟩
 ·simp [R.get] at h
theorem zeT:DO PR B0 96 Z8:=by
 refine DX [] [] Z8 [[.z]] Tryz.func96 Xe trivial ?_;intro vs r hwf h;unfold Z8 at h;split at h
 ·rename_i q i;replace h:=I3 h;obtain ⟨q,rfl,h⟩:=h;rw [R.get_ok] at h;refine ⟨0,?_⟩;rw [← h];refine (zbA 0 q i).trans ?_;unfold HU;cases decide (i≥0) <;> cases decide (i < 4) <;> cases (i==4) <;> cases (q.k==3) <;> rfl
 ·simp [R.get] at h
def lY (m:Md) (f:Int) (s:Sp):DG:=
 cond (decide (f < 0)) (some (.list false [.z] [],[]))
  (cond (EQ m)
   (cond (BM (iZ (IM m.ts f)).length (iZ (IM m.ts f)).length)
    (cond (BS (iZ (JA s.lo s.hi ((iZ (IM m.ts f)).map IV.toInt))).length (iZ (IM m.ts f)).length)
     (some (.list false [.z] (AQ 0 (AK (iZ (JA s.lo s.hi ((iZ (IM m.ts f)).map IV.toInt))).length (iZ (JA s.lo s.hi ((iZ (IM m.ts f)).map IV.toInt))))),[])) none) none) none)
theorem Qm {m:Md} (hm:EQ m=true) (f:Int) (s:Sp):lY m f s=some (.list false [.z] (iZ (cond (decide (f < 0)) [] (JA s.lo s.hi (IM m.ts f)))),[]):=by
 unfold lY;cases decide (f < 0) with
 | true=>rfl
 | false=>
  rw [DC,hm,DB,vbe,DB,mY,DC];have hle:(iZ (JA s.lo s.hi (IM m.ts f))).length≤(iZ (IM m.ts f)).length:=by
   rw [NV,NV];exact List.length_filter_le ..
  rw [CQ hle,DB,B1,BD]
theorem zd1 (m:Md) (q:Qy) (b:Bx):∀ i:Nat,i < 5→DQ (r9 0) lH [.tmp 8] [[.list false [.z]]] [m.V,q.V,b.V,.int .i64 (i:Int)]=lY m (HU q (i:Int)) (b.g i)
 | 0,_=>by kernel_rfl
 | 1,_=>by kernel_rfl
 | 2,_=>by kernel_rfl
 | 3,_=>by kernel_rfl
 | 4,_=>by kernel_rfl
 | i+5,h=>absurd h (by omega)
abbrev zC:KP:=⟨[1,4,5,16,17,18],[500],[⟨(.tmp 5),500,3,false,[.z]⟩]⟩
abbrev zD:KP:=⟨[1,4,5,16,17,18,23,24,25],[500],[⟨(.tmp 5),500,3,false,[.z]⟩]⟩
abbrev kL (f:Int) (ts:LI) (i:Int) (W:LI) (j:Int) (O:LI):St:=
 ⟨[(1,(.int .i64 f)),(4,.zs),(5,(.row 500 0 O.length)),(16,(.list true K9 ts)),(17,(.int .i64 (ic ts.length))),(18,(.int .i64 i)),(23,(.list false [(.int .u64)] W)),(24,(.int .i64 (ic W.length))),(25,(.int .i64 j))],[(500,(some (.row true 3 false [.z] O)))]⟩
theorem j5 (N:Nat) (f:Int) (ts:LI) (i:Int) (W:LI) (hW:W.length≤31) (K:Out→St→DG):∀ (m j n:Nat) (O:LI),j+m=W.length→m < n→O.length+m≤1000 →
  DR (MV N) (DD NQ [1,1,1,0,1,0,0,1,1,0,0,1,1,0,0]) zD n (kL f ts i W (j:Int) O) K=K (.exit 2) (kL f ts i W (ic W.length) (O++iZ ((W.drop j).flatMap (IA f))))
 | m,j,0,_,_,h,_=>absurd h (by omega)
 | 0,j,n+1,O,hd,_,_=>by
  have hj:j=W.length:=by omega
  subst hj;rw [DY,Id,IW (AT _),DC,CX];show K (.exit 2) _=K (.exit 2) (kL f ts i W (ic W.length) (O++[]));rw [vad]
 | m+1,j,n+1,O,hd,hn,hO=>by
  have hj:j < W.length:=by omega
  have ej:AA AB ((j:Int)+1)=((j+1:Nat):Int):=GV (by omega);rw [DY,Id,ej,IG hj,DB,IF,BH,DB,I9 hj,A7 hj,vam];unfold IA;cases (DE (W[j]).toInt).lf with
  | true=>
   rw [A1,DC,BX,DC,vaE];exact j5 N f ts i W hW K m (j+1) n O (by omega) (by omega) (by omega)
  | false=>
   rw [A9,DB,BG];cases ((DE (W[j]).toInt).f==f) with
   | false=>
    rw [DC,DC,vaE];exact j5 N f ts i W hW K m (j+1) n O (by omega) (by omega) (by omega)
   | true=>
    rw [DB,DB,AF (show (O.length+1)*8≤D1 by unfold D1; omega),DB,BD];have ih:=j5 N f ts i W hW K m (j+1) n (O++[IV.int (DE (W[j]).toInt).a]) (by omega) (by omega) (by rw [AR,B3]; omega);rw [vaG] at ih;unfold kL at ih ⊢;rw [AR,B3] at ih;exact ih
abbrev rZ (f:Int) (ts:LI) (i:Int) (O:LI):St:=
 ⟨[(1,(.int .i64 f)),(4,.zs),(5,(.row 500 0 O.length)),(16,(.list true K9 ts)),(17,(.int .i64 (ic ts.length))),(18,(.int .i64 i))],[(500,(some (.row true 3 false [.z] O)))]⟩
theorem rA (f:Int):∀ W:LI,(W.flatMap (IA f)).length≤W.length
 | []=>AT _
 | w :: r=>by
  rw [vam,AR,AM]
  have:=rA f r
  unfold IA at this ⊢;cases (!(DE w.toInt).lf&&(DE w.toInt).f==f) <;> simp only [CT,CG,A6,B3] <;> omega
theorem Jk {d c:Int} {t:IV} (h:HW d c t=true):(0≤JW t∧JW t < c)∧FY (EJ t) d=true:=by
 unfold HW at h;simp only [AG,BW,BL] at h;exact ⟨⟨by show 0≤(t.cell 0).toInt; omega,by show (t.cell 0).toInt < c; omega⟩,h.2.2⟩
theorem Jl {d c:Int} {ts:LI} (h:ts.all (HW d c)=true) {t:IV} (ht:t∈ts):(EJ t).length≤31:=by
 have:=(Jk (CN.1 h t ht)).2
 exact (j7 this).1.2
theorem Jf (N:Nat) (hN:40≤N) (f:Int) (ts:LI) (hts:ts.length≤8) (hW:∀ t∈ts,(EJ t).length≤31) (K:Out→St→DG):∀ (m i n:Nat) (O:LI),i+m=ts.length→m < n→O.length≤31*i →
  DR (MV N) (DD NQ [1,1,1,0,1,0,0]) zC n (rZ f ts (i:Int) O) K=K (.exit 0) (rZ f ts (ic ts.length) (O++iZ (HV (ts.drop i) f)))
 | m,i,0,_,_,h,_=>absurd h (by omega)
 | 0,i,n+1,O,hd,_,_=>by
  have hi:i=ts.length:=by omega
  subst hi;rw [DY,Ic,IW (AT _),DC,CX];show K (.exit 0) _=K (.exit 0) (rZ f ts (ic ts.length) (O++[]));rw [vad]
 | m+1,i,n+1,O,hd,hn,hO=>by
  have hi:i < ts.length:=by omega
  have ei:AA AB ((i:Int)+1)=((i+1:Nat):Int):=GV (by omega);have hw:=hW ts[i] (vaa hi);have hl:=rA f (EJ ts[i]);rw [DY,Ic,IG hi,DB,IF,BH,DB,I9 hi,A7 hi];refine (j5 N f ts (i:Int) (EJ ts[i]) hw _ (EJ ts[i]).length 0 N O (by omega) (by omega) (by omega)).trans ?_;rw [Td,ei,B1];have ih:=Jf N hN f ts hts hW K m (i+1) n (O++iZ ((EJ ts[i]).flatMap (IA f))) (by omega) (by omega) (by rw [AR,NV]; omega);have e:HV (ts[i] :: ts.drop (i+1)) f=(EJ ts[i]).flatMap (IA f)++HV (ts.drop (i+1)) f:=by unfold HV; rw [vam]
  rw [e];have e2:iZ ((EJ ts[i]).flatMap (IA f)++HV (ts.drop (i+1)) f)=iZ ((EJ ts[i]).flatMap (IA f))++iZ (HV (ts.drop (i+1)) f):=by unfold iZ; rw [List.map_append]
  rw [e2,← vaG];exact ih
theorem ze2:DO PR B0 98 aE:=by
 refine Fx [(20,LM),(55,LN)] [(138,gW),(137,gY)] [(5,zC),(8,zD)] aE [] Tryz.func98 Xp ⟨YE,YF,trivial⟩ ⟨zeW,zeY,trivial⟩ ?_;intro vs r hwf h;unfold aE at h;split at h
 ·rename_i m f;replace h:=IN h;obtain ⟨m,rfl,h⟩:=h;cases hm:EQ m with
  | false=>rw [hm] at h; simp [R.get] at h
  | true=>
   rw [hm,R.get_br,DB,R.get_ok] at h;refine ⟨40,?_⟩;rw [← h];refine (zbN 40 m f).trans ?_;have hmp:=IY hm;rw [hm,A1,DC];refine (Jf 40 (by omega) f m.ts hmp.2.2.1 (fun t ht=>Jl hmp.2.2.2.2 ht) _ m.ts.length 0 40 [] (by omega) (by have:=hmp.2.2.1; omega) (B2 _)).trans ?_;rw [B1,vaE,Tc,vbe,DB,mY];have e1:(iZ (KC (HV m.ts f))).length=(iZ (HV m.ts f)).length:=by rw [NV,NV]; exact (RD _).length_eq
   have e2:(iZ (IE (KC (HV m.ts f)))).length≤(iZ (HV m.ts f)).length:=by rw [← e1,NV,NV]; exact fU _
   rw [e1,vbe,DB,DB,mY,CQ e2,DB,BD];rfl
 ·simp [R.get] at h
theorem Fu:DO PR B0 56 T8:=by
 refine Fx [(96,Z8),(98,aE)] [(97,gX)] [] T8 [[.list false [.z]]] Tryz.func56 Xd ⟨zeT,ze2,trivial⟩ ⟨zeX,trivial⟩ ?_;intro vs r hwf h;unfold T8 at h;split at h
 ·rename_i m q b i;replace h:=IN h;obtain ⟨m,rfl,h⟩:=h;replace h:=I3 h;obtain ⟨q,rfl,h⟩:=h;replace h:=HK h;obtain ⟨b,rfl,h⟩:=h;cases hg:(EQ m&&GT i) with
  | false=>rw [hg] at h; simp [R.get] at h
  | true=>
  rw [hg,R.get_br,DB,R.get_ok] at h;rw [AG] at hg;refine ⟨0,?_⟩;rw [← h];have key:∀ k:Nat,k < 5→DQ (r9 0) lH [.tmp 8] [[.list false [.z]]] [m.V,q.V,b.V,.int .i64 (k:Int)]=some (.list false [.z] (iZ (D6 m q b k)),[]):=fun k hk=>by
   rw [zd1 m q b k hk,Qm hg.1];rfl
  rcases yW hg.2 with rfl | rfl | rfl | rfl | rfl
  ·exact key 0 (by omega)
  ·exact key 1 (by omega)
  ·exact key 2 (by omega)
  ·exact key 3 (by omega)
  ·exact key 4 (by omega)
 ·simp [R.get] at h
abbrev zgy (m:Md) (q:Qy) (b:Bx) (i:Int):St:=⟨[(3,(.ptr 3 0 0)),(4,(.ptr 4 0 0)),(5,(.ptr 5 0 0)),(6,(.int .i64 0)),(7,(.int .i64 0)),(8,(.bool false)),(11,(.int .i64 i))],[(3,(some (.box (Md.cs m)))),(4,(some (.box (Qy.cs q)))),(5,(some (.box (Bx.cs b))))]⟩
theorem Qp {m:Md} (hm:EQ m=true) (q:Qy) (b:Bx) (i:Nat):(D6 m q b i).length≤248:=by
 have key:∀ (ts:LI) (f:Int),(∀ t∈ts,(EJ t).length≤31)→(HV ts f).length≤31*ts.length:=by
  intro ts f
  induction ts with
  | nil=>intro _; exact AT _
  | cons t r ih=>
   intro ht;have h1:=ih fun u hu=>ht u (AW _ hu)
   have h2:=rA f (EJ t);have h3:=ht t (AU ..);unfold HV at h1 ⊢;rw [vam,AR,AM];omega
 have hmp:=IY hm;have h1:=key m.ts (HU q (i:Int)) fun t ht=>Jl hmp.2.2.2.2 ht
 unfold D6;cases decide (HU q (i:Int) < 0) with
 | true=>exact B2 _
 | false=>
  rw [DC];have h2:(JA (b.g i).lo (b.g i).hi (IM m.ts (HU q (i:Int)))).length≤(IM m.ts (HU q (i:Int))).length:=List.length_filter_le ..
  have h3:(IM m.ts (HU q (i:Int))).length≤(HV m.ts (HU q (i:Int))).length:=by
   unfold IM;exact CE (fU _) (Nat.le_of_eq (RD _).length_eq)
  have:=hmp.2.2.1
  omega
theorem Gz (N:Nat) (m:Md) (hm:EQ m=true) (q:Qy) (b:Bx):∀ (d i n:Nat),i+d=5→d < n →
  DR (NK N) (DD QS [1,0,1,0,0]) ⟨[3,4,5,6,7,8,11],[3,4,5],[]⟩ n (zgy m q b (i:Int)) (DI 0 (DJ (NK N) (DD QS [1,1]) (DL (NK N) none [(BV 6),(BV 7),(BV 8)] [[.z],[.z],[.bool]]))) =
   some (.tup [.int .i64 (JF (KS m q b d i)),.int .i64 (HQ (KS m q b d i)),.bool (KS m q b d i).isSome],[])
 | d,i,0,_,h=>absurd h (by omega)
 | 0,i,n+1,hd,_=>by
  have hi:i=5:=by omega
  subst hi;rw [DY,Hw,AL (show ¬ ((5:Nat):Int) < 5 by omega),DC];exact Sq N m q b _ _ _ _
 | d+1,i,n+1,hd,hn=>by
  have hp:GT (i:Int)=true:=by unfold GT; rw [AF (show (0:Int)≤(i:Int) by omega),AF (show (i:Int) < 5 by omega)]; rfl
  have ei:AA AB ((i:Int)+1)=((i+1:Nat):Int):=GV (by omega);have hc:=Qp hm q b i;rw [DY,Hw,ei,AF (show (i:Int) < 5 by omega),DB,hm,hp,BH,DB,BC,KS,NV];generalize D6 m q b i=cs at hc ⊢;have ed:decide (ic cs.length > 0)=decide (cs.length > 0):=by rw [vaC]; simp
  rw [ed];cases hpos:decide (cs.length > 0) with
  | true=>
   have hpos:=AY hpos;have ew:AA AB (Int.tdiv (AA AB (ic cs.length - 1)) 2)=(((cs.length - 1) / 2:Nat):Int):=by
    have e1:AA AB (ic cs.length - 1)=((cs.length - 1:Nat):Int):=by rw [EA (by simp only [ic]; omega) (by simp only [ic]; omega)]; simp only [ic]; omega
    have e2:Int.tdiv ((cs.length - 1:Nat):Int) 2=(((cs.length - 1) / 2:Nat):Int):=by
     rw [Int.tdiv_eq_ediv_of_nonneg (by omega)];omega
    rw [e1,e2,EA (by omega) (by omega)]
   have hlt:(cs.length - 1) / 2 < cs.length:=by omega
   rw [DB,ew,IF,AF (show (((cs.length - 1) / 2:Nat):Int) < ic cs.length by simp only [ic]; omega),BH,DB,DB,BC];have eg:IV.toInt (AI (iZ cs) ((cs.length - 1) / 2) default)=cs.getD ((cs.length - 1) / 2) 0:=by
    unfold iZ;rw [BO,BO,B8,A5 hlt];rfl
   rw [eg];exact Ss N m q b _ _ _ _
  | false=>
   rw [DC,DC];exact Gz N m hm q b d (i+1) n (by omega) (by omega)
theorem zeR:DO PR B0 60 Z6:=by
 refine DX [(56,T8)] [(2,⟨[3,4,5,6,7,8,11],[3,4,5],[]⟩)] Z6 [[.z],[.z],[.bool]] Tryz.func60 Xb ⟨Fu,trivial⟩ ?_;intro vs r hwf h;unfold Z6 at h;split at h
 ·rename_i m q b;replace h:=IN h;obtain ⟨m,rfl,h⟩:=h;replace h:=I3 h;obtain ⟨q,rfl,h⟩:=h;replace h:=HK h;obtain ⟨b,rfl,h⟩:=h;cases hg:(EQ m) with
  | false=>rw [hg] at h; simp [R.get] at h
  | true=>
  rw [hg,R.get_br,DB,R.get_ok] at h;refine ⟨10,?_⟩;rw [← h];exact (zby 10 m q b).trans (Gz 10 m hg q b 5 0 10 rfl (by omega))
 ·simp [R.get] at h
open Go Go.Proofs
def Mu (N:Nat):Env:=DV [(41,MX),(27,QM)] [] 26 N
theorem zb4 (N:Nat) (m:Md) (q:Qy):DQ (Mu N) vD [.tmp 4] [[.list false []]] [(Md.V m),(Qy.V q)]=(cond (!EU m q) (some ((.bor (FI m q [.zs,.zs,.i 4,.zs,.i 0,.i 0,.i 0,.i 0,.i 0,.i 0,.i 0])),[])) (some ((.bor (FI m q [.vec 34 true EZ [(Bx.I (EE q))],.zs,.i 0,.zs,.i 0,.i 0,.i 0,.i 0,.i 0,.i 0,.i 0])),[]))):=by kernel_rfl
def eQ (N:Nat):Env:=DV [(62,eU)] [] 22 N
theorem zb8 (N:Nat) (m:Md) (q:Qy) (left u00:LI) (k w0 w1 w2 w3 tw vs sp:Int):DQ (eQ N) bK [.cell 2 51] [[.z,.list true [.bool,.z,.z],.z,.z,.z,.z,.z,.z]] [.bor (FI m q [.vec 34 true EZ left,.vec 126 true ES u00,.i k,.zs,.i w0,.i w1,.i w2,.i w3,.i tw,.i vs,.i sp])]=(cond (k==0) (some ((.agg [.i 3,.list true ES [],.i w0,.i w1,.i w2,.i w3,.i tw,.i sp]),[(FI m q [.vec 34 true EZ (AK (AE left) left),.vec 126 true ES (AK (AE u00) u00),.i k,.zs,.i w0,.i w1,.i w2,.i w3,.i tw,.i vs,.i sp])])) (some ((.agg [.i k,.list true ES [],.i w0,.i w1,.i w2,.i w3,.i tw,.i sp]),[(FI m q [.vec 34 true EZ (AK (AE left) left),.vec 126 true ES (AK (AE u00) u00),.i k,.zs,.i w0,.i w1,.i w2,.i w3,.i tw,.i vs,.i sp])]))):=by kernel_rfl
theorem zb9 (N:Nat) (m:Md) (q:Qy) (left:LI) (k w0 w1 w2 w3 tw vs sp:Int):DQ (eQ N) bK [.cell 2 51] [[.z,.list true [.bool,.z,.z],.z,.z,.z,.z,.z,.z]] [.bor (FI m q [.vec 34 true EZ left,.zs,.i k,.zs,.i w0,.i w1,.i w2,.i w3,.i tw,.i vs,.i sp])]=(cond (k==0) (some ((.agg [.i 3,.list true ES [],.i w0,.i w1,.i w2,.i w3,.i tw,.i sp]),[(FI m q [.vec 34 true EZ (AK (AE left) left),.zs,.i k,.zs,.i w0,.i w1,.i w2,.i w3,.i tw,.i vs,.i sp])])) (some ((.agg [.i k,.list true ES [],.i w0,.i w1,.i w2,.i w3,.i tw,.i sp]),[(FI m q [.vec 34 true EZ (AK (AE left) left),.zs,.i k,.zs,.i w0,.i w1,.i w2,.i w3,.i tw,.i vs,.i sp])]))):=by kernel_rfl
theorem zca (N:Nat) (m:Md) (q:Qy) (left u00 vp:LI) (k w0 w1 w2 w3 tw vs sp:Int):DQ (eQ N) bK [.cell 2 51] [[.z,.list true [.bool,.z,.z],.z,.z,.z,.z,.z,.z]] [.bor (FI m q [.vec 34 true EZ left,.list true ES u00,.i k,.list true ES vp,.i w0,.i w1,.i w2,.i w3,.i tw,.i vs,.i sp])]=(cond (k==0) (cond (BS (AE vp) 100000) (some ((.agg [.i 3,.list true ES (AQ 0 (AK (AE vp) vp)),.i w0,.i w1,.i w2,.i w3,.i tw,.i sp]),[(FI m q [.vec 34 true EZ (AK (AE left) left),.list true ES u00,.i k,.list true ES vp,.i w0,.i w1,.i w2,.i w3,.i tw,.i vs,.i sp])])) none) (cond (BS (AE vp) 100000) (some ((.agg [.i k,.list true ES (AQ 0 (AK (AE vp) vp)),.i w0,.i w1,.i w2,.i w3,.i tw,.i sp]),[(FI m q [.vec 34 true EZ (AK (AE left) left),.list true ES u00,.i k,.list true ES vp,.i w0,.i w1,.i w2,.i w3,.i tw,.i vs,.i sp])])) none)):=by kernel_rfl
theorem zcb (N:Nat) (m:Md) (q:Qy) (k w0 w1 w2 w3 tw vs sp:Int):DQ (eQ N) bK [.cell 2 51] [[.z,.list true [.bool,.z,.z],.z,.z,.z,.z,.z,.z]] [.bor (FI m q [.zs,.zs,.i k,.zs,.i w0,.i w1,.i w2,.i w3,.i tw,.i vs,.i sp])]=(cond (k==0) (some ((.agg [.i 3,.list true ES [],.i w0,.i w1,.i w2,.i w3,.i tw,.i sp]),[(FI m q [.zs,.zs,.i k,.zs,.i w0,.i w1,.i w2,.i w3,.i tw,.i vs,.i sp])])) (some ((.agg [.i k,.list true ES [],.i w0,.i w1,.i w2,.i w3,.i tw,.i sp]),[(FI m q [.zs,.zs,.i k,.zs,.i w0,.i w1,.i w2,.i w3,.i tw,.i vs,.i sp])]))):=by kernel_rfl
def eO (N:Nat):Env:=DV [(61,OB),(58,Z4),(59,Z5),(60,Z6),(45,UE)] [] 165 N
theorem Ar (N:Nat) (m:Md) (q:Qy) (left u00:LI) (k w0 w1 w2 w3 tw vs sp:Int):DQ (eO N) bJ [.tmp 2] [[.bool]] [.bor (FI m q [.vec 34 true EZ left,.vec 126 true ES u00,.i k,.zs,.i w0,.i w1,.i w2,.i w3,.i tw,.i vs,.i sp])]=(cond (k != 0) (some ((.bool false),[(FI m q [.vec 34 true EZ (AK (AE left) left),.vec 126 true ES (AK (AE u00) u00),.i k,.zs,.i w0,.i w1,.i w2,.i w3,.i tw,.i vs,.i sp])])) (cond (decide (sp≥Qy.bu q)) (some ((.bool false),[(FI m q [.vec 34 true EZ (AK (AE left) left),.vec 126 true ES (AK (AE u00) u00),.i k,.zs,.i w0,.i w1,.i w2,.i w3,.i tw,.i vs,.i sp])])) (cond (decide (0≤AA AB (ic (AE left - 0) - 1))&&decide (AA AB (ic (AE left - 0) - 1) < ic (AE left - 0))) (cond (decide (0≤AA AB (ic (AE left - 0) - 1))&&decide (AA AB (ic (AE left - 0) - 1)≤ic (AE left - 0))) (cond (FS m q (DN (AI left (0+AD (AA AB (ic (AE left - 0) - 1))) default))) (cond (decide ((AE u00+1)*24≤D1)) (cond (ic (0+AD (AA AB (ic (AE left - 0) - 1)) - 0)==0) (some ((.bool true),[(FI m q [.vec 34 true EZ (AK (0+AD (AA AB (ic (AE left - 0) - 1))) left),.list true ES (AQ 0 (AK (AE u00+1) (AK (AE u00) u00++[IV.agg [IV.bool true,IV.int 0,IV.int 0]]))),.i 1,.list true ES (AQ 0 (AK (AE u00+1) (AK (AE u00) u00++[IV.agg [IV.bool true,IV.int 0,IV.int 0]]))),.i 0,.i 0,.i 0,.i 0,.i 0,.i 0,.i (AA AB (sp+1))])])) (some ((.bool true),[(FI m q [.vec 34 true EZ (AK (0+AD (AA AB (ic (AE left - 0) - 1))) left),.vec 126 true ES (AK (AE u00+1) (AK (AE u00) u00++[IV.agg [IV.bool true,IV.int 0,IV.int 0]])),.i k,.zs,.i w0,.i w1,.i w2,.i w3,.i tw,.i vs,.i (AA AB (sp+1))])]))) none) (cond (FO m q (Bx.low (DN (AI left (0+AD (AA AB (ic (AE left - 0) - 1))) default))) (Sp.hi (Bx.s4 (DN (AI left (0+AD (AA AB (ic (AE left - 0) - 1))) default))))) (some ((.bool true),[(FI m q [.vec 34 true EZ (AK (0+AD (AA AB (ic (AE left - 0) - 1))) left),.vec 126 true ES (AK (AE u00) u00),.i 2,.zs,.i (Pt.p0 (Bx.low (DN (AI left (0+AD (AA AB (ic (AE left - 0) - 1))) default)))),.i (Pt.p1 (Bx.low (DN (AI left (0+AD (AA AB (ic (AE left - 0) - 1))) default)))),.i (Pt.p2 (Bx.low (DN (AI left (0+AD (AA AB (ic (AE left - 0) - 1))) default)))),.i (Pt.p3 (Bx.low (DN (AI left (0+AD (AA AB (ic (AE left - 0) - 1))) default)))),.i (Sp.hi (Bx.s4 (DN (AI left (0+AD (AA AB (ic (AE left - 0) - 1))) default)))),.i 0,.i (AA AB (sp+1))])])) (cond (EQ m) (cond (!Option.isSome (EO m q (DN (AI left (0+AD (AA AB (ic (AE left - 0) - 1))) default)))) (some ((.bool true),[(FI m q [.vec 34 true EZ (AK (0+AD (AA AB (ic (AE left - 0) - 1))) left),.vec 126 true ES (AK (AE u00) u00),.i 3,.zs,.i 0,.i 0,.i 0,.i 0,.i 0,.i 0,.i (AA AB (sp+1))])])) (cond (GT (JF (EO m q (DN (AI left (0+AD (AA AB (ic (AE left - 0) - 1))) default))))) (cond (decide ((0+AD (AA AB (ic (AE left - 0) - 1))+2)*80≤D1)) (cond (decide ((AE u00+1)*24≤D1)) (some ((.bool true),[(FI m q [.vec 34 true EZ (AK (0+AD (AA AB (ic (AE left - 0) - 1))+2) (AK (0+AD (AA AB (ic (AE left - 0) - 1))) left++[(Bx.I (Bx.cutH (DN (AI left (0+AD (AA AB (ic (AE left - 0) - 1))) default)) (JF (EO m q (DN (AI left (0+AD (AA AB (ic (AE left - 0) - 1))) default)))) (HQ (EO m q (DN (AI left (0+AD (AA AB (ic (AE left - 0) - 1))) default)))))),(Bx.I (Bx.cutL (DN (AI left (0+AD (AA AB (ic (AE left - 0) - 1))) default)) (JF (EO m q (DN (AI left (0+AD (AA AB (ic (AE left - 0) - 1))) default)))) (HQ (EO m q (DN (AI left (0+AD (AA AB (ic (AE left - 0) - 1))) default))))))])),.vec 126 true ES (AK (AE u00+1) (AK (AE u00) u00++[IV.agg [IV.bool false,IV.int (JF (EO m q (DN (AI left (0+AD (AA AB (ic (AE left - 0) - 1))) default)))),IV.int (HQ (EO m q (DN (AI left (0+AD (AA AB (ic (AE left - 0) - 1))) default))))]])),.i k,.zs,.i w0,.i w1,.i w2,.i w3,.i tw,.i vs,.i (AA AB (sp+1))])])) none) none) none)) none))) none) none))):=by kernel_rfl
theorem As (N:Nat) (m:Md) (q:Qy) (left:LI) (k w0 w1 w2 w3 tw vs sp:Int):DQ (eO N) bJ [.tmp 2] [[.bool]] [.bor (FI m q [.vec 34 true EZ left,.zs,.i k,.zs,.i w0,.i w1,.i w2,.i w3,.i tw,.i vs,.i sp])]=(cond (k != 0) (some ((.bool false),[(FI m q [.vec 34 true EZ (AK (AE left) left),.zs,.i k,.zs,.i w0,.i w1,.i w2,.i w3,.i tw,.i vs,.i sp])])) (cond (decide (sp≥Qy.bu q)) (some ((.bool false),[(FI m q [.vec 34 true EZ (AK (AE left) left),.zs,.i k,.zs,.i w0,.i w1,.i w2,.i w3,.i tw,.i vs,.i sp])])) (cond (decide (0≤AA AB (ic (AE left - 0) - 1))&&decide (AA AB (ic (AE left - 0) - 1) < ic (AE left - 0))) (cond (decide (0≤AA AB (ic (AE left - 0) - 1))&&decide (AA AB (ic (AE left - 0) - 1)≤ic (AE left - 0))) (cond (FS m q (DN (AI left (0+AD (AA AB (ic (AE left - 0) - 1))) default))) (cond (ic (0+AD (AA AB (ic (AE left - 0) - 1)) - 0)==0) (some ((.bool true),[(FI m q [.vec 34 true EZ (AK (0+AD (AA AB (ic (AE left - 0) - 1))) left),.list true ES [(IV.agg [IV.bool true,IV.int 0,IV.int 0])],.i 1,.list true ES [(IV.agg [IV.bool true,IV.int 0,IV.int 0])],.i 0,.i 0,.i 0,.i 0,.i 0,.i 0,.i (AA AB (sp+1))])])) (some ((.bool true),[(FI m q [.vec 34 true EZ (AK (0+AD (AA AB (ic (AE left - 0) - 1))) left),.vec 126 true ES [(IV.agg [IV.bool true,IV.int 0,IV.int 0])],.i k,.zs,.i w0,.i w1,.i w2,.i w3,.i tw,.i vs,.i (AA AB (sp+1))])]))) (cond (FO m q (Bx.low (DN (AI left (0+AD (AA AB (ic (AE left - 0) - 1))) default))) (Sp.hi (Bx.s4 (DN (AI left (0+AD (AA AB (ic (AE left - 0) - 1))) default))))) (some ((.bool true),[(FI m q [.vec 34 true EZ (AK (0+AD (AA AB (ic (AE left - 0) - 1))) left),.zs,.i 2,.zs,.i (Pt.p0 (Bx.low (DN (AI left (0+AD (AA AB (ic (AE left - 0) - 1))) default)))),.i (Pt.p1 (Bx.low (DN (AI left (0+AD (AA AB (ic (AE left - 0) - 1))) default)))),.i (Pt.p2 (Bx.low (DN (AI left (0+AD (AA AB (ic (AE left - 0) - 1))) default)))),.i (Pt.p3 (Bx.low (DN (AI left (0+AD (AA AB (ic (AE left - 0) - 1))) default)))),.i (Sp.hi (Bx.s4 (DN (AI left (0+AD (AA AB (ic (AE left - 0) - 1))) default)))),.i 0,.i (AA AB (sp+1))])])) (cond (EQ m) (cond (!Option.isSome (EO m q (DN (AI left (0+AD (AA AB (ic (AE left - 0) - 1))) default)))) (some ((.bool true),[(FI m q [.vec 34 true EZ (AK (0+AD (AA AB (ic (AE left - 0) - 1))) left),.zs,.i 3,.zs,.i 0,.i 0,.i 0,.i 0,.i 0,.i 0,.i (AA AB (sp+1))])])) (cond (GT (JF (EO m q (DN (AI left (0+AD (AA AB (ic (AE left - 0) - 1))) default))))) (cond (decide ((0+AD (AA AB (ic (AE left - 0) - 1))+2)*80≤D1)) (some ((.bool true),[(FI m q [.vec 34 true EZ (AK (0+AD (AA AB (ic (AE left - 0) - 1))+2) (AK (0+AD (AA AB (ic (AE left - 0) - 1))) left++[(Bx.I (Bx.cutH (DN (AI left (0+AD (AA AB (ic (AE left - 0) - 1))) default)) (JF (EO m q (DN (AI left (0+AD (AA AB (ic (AE left - 0) - 1))) default)))) (HQ (EO m q (DN (AI left (0+AD (AA AB (ic (AE left - 0) - 1))) default)))))),(Bx.I (Bx.cutL (DN (AI left (0+AD (AA AB (ic (AE left - 0) - 1))) default)) (JF (EO m q (DN (AI left (0+AD (AA AB (ic (AE left - 0) - 1))) default)))) (HQ (EO m q (DN (AI left (0+AD (AA AB (ic (AE left - 0) - 1))) default))))))])),.vec 126 true ES [(IV.agg [IV.bool false,IV.int (JF (EO m q (DN (AI left (0+AD (AA AB (ic (AE left - 0) - 1))) default)))),IV.int (HQ (EO m q (DN (AI left (0+AD (AA AB (ic (AE left - 0) - 1))) default))))])],.i k,.zs,.i w0,.i w1,.i w2,.i w3,.i tw,.i vs,.i (AA AB (sp+1))])])) none) none)) none))) none) none))):=by kernel_rfl
theorem zb6 (N:Nat) (m:Md) (q:Qy) (left u00 vp:LI) (k w0 w1 w2 w3 tw vs sp:Int):DQ (eO N) bJ [.tmp 2] [[.bool]] [.bor (FI m q [.vec 34 true EZ left,.list true ES u00,.i k,.list true ES vp,.i w0,.i w1,.i w2,.i w3,.i tw,.i vs,.i sp])]=(cond (k != 0) (some ((.bool false),[(FI m q [.vec 34 true EZ (AK (AE left) left),.list true ES u00,.i k,.list true ES vp,.i w0,.i w1,.i w2,.i w3,.i tw,.i vs,.i sp])])) (cond (decide (sp≥Qy.bu q)) (some ((.bool false),[(FI m q [.vec 34 true EZ (AK (AE left) left),.list true ES u00,.i k,.list true ES vp,.i w0,.i w1,.i w2,.i w3,.i tw,.i vs,.i sp])])) (cond (decide (0≤AA AB (ic (AE left - 0) - 1))&&decide (AA AB (ic (AE left - 0) - 1) < ic (AE left - 0))) (cond (decide (0≤AA AB (ic (AE left - 0) - 1))&&decide (AA AB (ic (AE left - 0) - 1)≤ic (AE left - 0))) (cond (FS m q (DN (AI left (0+AD (AA AB (ic (AE left - 0) - 1))) default))) none (cond (FO m q (Bx.low (DN (AI left (0+AD (AA AB (ic (AE left - 0) - 1))) default))) (Sp.hi (Bx.s4 (DN (AI left (0+AD (AA AB (ic (AE left - 0) - 1))) default))))) (some ((.bool true),[(FI m q [.vec 34 true EZ (AK (0+AD (AA AB (ic (AE left - 0) - 1))) left),.list true ES u00,.i 2,.zs,.i (Pt.p0 (Bx.low (DN (AI left (0+AD (AA AB (ic (AE left - 0) - 1))) default)))),.i (Pt.p1 (Bx.low (DN (AI left (0+AD (AA AB (ic (AE left - 0) - 1))) default)))),.i (Pt.p2 (Bx.low (DN (AI left (0+AD (AA AB (ic (AE left - 0) - 1))) default)))),.i (Pt.p3 (Bx.low (DN (AI left (0+AD (AA AB (ic (AE left - 0) - 1))) default)))),.i (Sp.hi (Bx.s4 (DN (AI left (0+AD (AA AB (ic (AE left - 0) - 1))) default)))),.i 0,.i (AA AB (sp+1))])])) (cond (EQ m) (cond (!Option.isSome (EO m q (DN (AI left (0+AD (AA AB (ic (AE left - 0) - 1))) default)))) (some ((.bool true),[(FI m q [.vec 34 true EZ (AK (0+AD (AA AB (ic (AE left - 0) - 1))) left),.list true ES u00,.i 3,.zs,.i 0,.i 0,.i 0,.i 0,.i 0,.i 0,.i (AA AB (sp+1))])])) (cond (GT (JF (EO m q (DN (AI left (0+AD (AA AB (ic (AE left - 0) - 1))) default))))) (cond (decide ((0+AD (AA AB (ic (AE left - 0) - 1))+2)*80≤D1)) none none) none)) none))) none) none))):=by kernel_rfl
theorem zb7 (N:Nat) (m:Md) (q:Qy) (k w0 w1 w2 w3 tw vs sp:Int):DQ (eO N) bJ [.tmp 2] [[.bool]] [.bor (FI m q [.zs,.zs,.i k,.zs,.i w0,.i w1,.i w2,.i w3,.i tw,.i vs,.i sp])]=(cond (k != 0) (some ((.bool false),[(FI m q [.zs,.zs,.i k,.zs,.i w0,.i w1,.i w2,.i w3,.i tw,.i vs,.i sp])])) (cond (decide (sp≥Qy.bu q)) (some ((.bool false),[(FI m q [.zs,.zs,.i k,.zs,.i w0,.i w1,.i w2,.i w3,.i tw,.i vs,.i sp])])) none)):=by kernel_rfl
open Go Go.Proofs Go.RowKit Go.Sort Go.Lib
theorem zfH:(PR.info? 126).map (fun i=>(i.zero,i.size,i.bytes))=some (some (.agg #[.bool false,.int .i64 0,.int .i64 0]),3,24):=by kernel_rfl
set_option maxHeartbeats 4000000 in
theorem Qa (b:Addr) (n c:Nat) (news:List Value) (w:World) (hl:news.length=n*3) (hn:n≤maxLen) (hbig:n*24≤140737488355328)
  (hc:∀ j u,news[j]?=some u→w.cell? (b.add j)=some u) (h1:∀ u∈news,u.oneCell'=true) :
  Calls Tryz.prog 62 #[.slice (some b) n c] w fun e w'=>∃ v',e = .returned v'∧w'.ownsRow w.heap.size 126 3 v' n news∧Below w.heap.size w w':=by
 obtain ⟨i0,hi,hz0,hz1,hz2⟩:∃ i,PR.info? 126=some i∧i.zero=some (.agg #[.bool false,.int .i64 0,.int .i64 0])∧i.size=3∧i.bytes=24:=by
  have h:=zfH;rw [Option.map_eq_some_iff] at h;obtain ⟨i,hi,he⟩:=h;simp only [Prod.mk.injEq] at he;exact ⟨i,hi,he⟩
 have qS:∀ (w:World) (a:Option Addr) (n c n' c':Nat),(binOp .eql 49 (.slice a n c) (.slice none n' c')).run Tryz.prog w = .ok (.bool a.isNone) w:=fun w a n c n' c'=>Lib.run_eql_slice_nil w _ _ a n c n' c' Tryz.underlying49
 have A:Aside (∀ j u,news[j]?=some u→w.cell? (b.add j)=some u):=hc;clear hc
 go_enter Tryz.func62,Tryz.ntmps62
 go_wp2_with (at_builtin; refine wpList_append_own _ rfl _ _ 49 rfl w.heap.size 126 i0 (.agg #[.bool false,.int .i64 0,.int .i64 0]) 3 24 Tryz.underlying49 hi hz0 hz1 hz2 rfl (by decide) _ _ _ rfl (World.ownsRow_made w #[] 0 (Nat.le_refl _) (Nat.zero_le _) (by simp)) b n c news rfl ?qc1 ?qc2 ?qc3 ?qc4 ?qc5 ?qc6 ?_)
 case qc1=>exact hl
 case qc2=>
  intro j u hj;exact Lib.cell?_alloc_some _ (A.out j u hj)
 case qc3=>exact h1
 case qc4=>rw [Nat.zero_add]; exact hn
 case qc5=>rw [Nat.zero_add]; exact hbig
 case qc6=>simp
 intro v' w1 hown hgrow hnil
 go_wp2
 go_ret
 refine ⟨v',rfl,by simpa using hown,?_⟩;exact ((Below.refl _ w).alloc (Nat.le_refl _) _).grown hgrow (by simp) (by intro k hk; simp [Value.ownBlock] at hk; omega)
set_option maxHeartbeats 1000000 in
theorem Qb (n c:Nat) (w:World):Calls Tryz.prog 62 #[.slice none n c] w fun e w'=>e = .returned (.slice none 0 0)∧w'=w:=by
 have qS:∀ (w:World) (a:Option Addr) (n c n' c':Nat),(binOp .eql 49 (.slice a n c) (.slice none n' c')).run Tryz.prog w = .ok (.bool a.isNone) w:=fun w a n c n' c'=>Lib.run_eql_slice_nil w _ _ a n c n' c' Tryz.underlying49
 go_enter Tryz.func62,Tryz.ntmps62
 go_wp2
 go_ret
 exact ⟨rfl,rfl⟩
def N4 (y:IV):Nat→Value
 | 0=>.bool (H5 y)
 | 1=>.int .i64 (E8 y)
 | _=>.int .i64 (FR y)
def OZ (l:LI):List Value:=l.flatMap fun y=>[N4 y 0,N4 y 1,N4 y 2]
theorem qK:∀ l:LI,(OZ l).length=l.length*3
 | []=>rfl
 | y :: r=>by
  have:=qK r
  unfold OZ at this ⊢;rw [vam,AR,this,AM];simp;omega
theorem jQ:∀ (l:LI) (j:Nat) (u:Value),(OZ l)[j]?=some u→∃ i y k,j=i*3+k∧k < 3∧l[i]?=some y∧u=N4 y k
 | [],j,u,h=>by simp [OZ] at h
 | y :: r,j,u,h=>by
  have e:OZ (y :: r)=[N4 y 0,N4 y 1,N4 y 2]++OZ r:=by unfold OZ; rw [vam]
  rw [e] at h
  match j,h with
  | 0,h=>exact ⟨0,y,0,rfl,by omega,rfl,by simpa using h.symm⟩
  | 1,h=>exact ⟨0,y,1,rfl,by omega,rfl,by simpa using h.symm⟩
  | 2,h=>exact ⟨0,y,2,rfl,by omega,rfl,by simpa using h.symm⟩
  | j+3,h=>
   obtain ⟨i,z,k,rfl,hk,hi,hu⟩:=jQ r j u (by simpa using h);exact ⟨i+1,z,k,by omega,hk,by simpa using hi,hu⟩
theorem zfD (l:LI) (i:Nat) (y:IV) (hy:l[i]?=some y) (k:Nat) (hk:k < 3):(OZ l)[i*3+k]?=some (N4 y k):=by
 have hi:i < l.length:=(BQ.1 hy).1;have hlt:i*3+k < (OZ l).length:=by rw [qK]; omega
 obtain ⟨i',y',k',h1,h2,h3,h4⟩:=jQ l (i*3+k) _ (A5 hlt);obtain rfl:i'=i:=by omega
 obtain rfl:k'=k:=by omega
 rw [hy] at h3;simp only [AC] at h3;subst h3;rw [A5 hlt,h4]
theorem zfh:DO PR B0 62 eU:=by
 intro w X γ vs xs r out hsp hg hx hR hV;unfold eU at hsp;simp only at hsp;split at hsp
 ·rename_i l;cases hc:BS l.length 100000 with
  | false=>rw [hc] at hsp; simp [R.get] at hsp
  | true=>
   rw [hc] at hsp;have hc:=AN hc;simp only [R.get,AC,AS] at hsp;obtain ⟨rfl,rfl⟩:=hsp;obtain ⟨x0,rfl⟩:∃ x0,xs=[x0]:=by
    have:=hV.length
    simp at this
    match xs,this with
    | [a],_=>exact ⟨a,rfl⟩
   simp only [AZ,B6,D8,VRels,VRel,BY] at hV;simp only [Kd.Rel,IV.toList] at hV;obtain ⟨p,c,rfl,hc1,hc2,hc3,hcell⟩:=hV;have key:∀ i y,l[i]?=some y→∃ b o,p=some ⟨b,o,none⟩∧(∀ k,k < 3→w.cell? ⟨b,o+i*3+k,none⟩=some (N4 y k))∧(AB.min≤E8 y∧E8 y≤AB.max)∧(AB.min≤FR y∧FR y≤AB.max):=fun i y hy=>by
    obtain ⟨b,o,rfl,_,_,hr⟩:=hcell i y hy;simp only [Kd.RelAll,BY,AM,A6,BK,CZ] at hr;obtain ⟨⟨u0,a0,b0⟩,⟨u1,a1,b1⟩,⟨u2,a2,b2⟩⟩:=hr;simp only [Kd.Rel,FL] at b0 b1 b2;refine ⟨b,o,rfl,fun k hk=>?_,b1.2,b2.2⟩
    match k,hk with
    | 0,_=>rw [b0] at a0; exact a0
    | 1,_=>rw [b1.1] at a1; exact a1
    | 2,_=>rw [b2.1] at a2; exact a2
   have hel:∀ (w':World) (O:Nat→Prop) i y,l[i]?=some y→Kd.RelAll w' O ES (FL true y) 0 (fun j u=>(OZ l)[i*ES.length+j]?=some u):=fun w' O i y hy=>by
    obtain ⟨_,_,_,_,k1,k2⟩:=key i y hy;simp only [Kd.RelAll,AM,A6,BK,CZ,BY];have g:=zfD l i y hy;refine ⟨⟨_,g 0 (by omega),?_⟩,⟨_,g 1 (by omega),?_⟩,⟨_,g 2 (by omega),?_⟩⟩
    ·simp only [Kd.Rel,FL,N4,H5]
    ·simp only [Kd.Rel,FL,N4,E8]; exact ⟨trivial,k1⟩
    ·simp only [Kd.Rel,FL,N4,FR]; exact ⟨trivial,k2⟩
   refine Fq hR rfl (by decide) (by decide) hc3 (Does.of_calls Tryz.func62 (by kernel_rfl) (by kernel_rfl) ?_);cases p with
   | none=>
    have h0:l=[]:=by
     cases l with
     | nil=>rfl
     | cons y r=>
      obtain ⟨b,o,hp,_⟩:=key 0 y rfl;cases hp
    subst h0;refine (Qb _ c w).mono ?_;rintro e w' ⟨rfl,rfl⟩;exact ⟨_,[],rfl,Keep.refl _ _,⟨rfl,.inl ⟨rfl,rfl⟩⟩,hel _⟩
   | some a=>
    refine (Qa a l.length c (OZ l) w (qK l) (by unfold maxLen; omega) (by omega) (fun j u hj=>?_) (fun u hu=>?_)).mono ?_
    ·obtain ⟨i,y,k,rfl,hk,hi,rfl⟩:=jQ l j u hj;obtain ⟨b,o,hp,hu,_⟩:=key i y hi;simp only [AC] at hp;subst hp;rw [Addr.add_lit,← vaA];exact hu k hk
    ·obtain ⟨j,hj⟩:=List.getElem?_of_mem hu;obtain ⟨i,y,k,_,hk,_,rfl⟩:=jQ l j u hj
     match k,hk with
     | 0,_=>rfl
     | 1,_=>rfl
     | 2,_=>rfl
    ·rintro e w' ⟨v',rfl,hown,hw⟩;exact ⟨v',_,rfl,Keep.below hw,hown,hel _⟩
 ·simp [R.get] at hsp
open Go Go.Proofs
set_option maxRecDepth 100000
theorem zaw {l:List V} {m:Md} (h:mdOf? l=some m):l=m.cs:=by
 unfold mdOf? at h;split at h
 ·simp only [AC] at h;subst h;rfl
 ·cases h
theorem zdA {l:List V} {q:Qy} (h:qyOf? l=some q):l=q.cs:=by
 unfold qyOf? at h;split at h
 ·simp only [AC] at h;subst h;rfl
 ·cases h
theorem zd7 {l r:List V} {m:Md} {q:Qy} (h:seOf? l=some (m,q,r)):l=FI m q r:=by
 unfold seOf? at h;split at h
 ·rename_i m' q' h1 h2;simp only [AC,AS] at h;obtain ⟨rfl,rfl,rfl⟩:=h;unfold FI;rw [← zaw h1,← zdA h2,List.take_append_drop,List.take_append_drop]
 ·cases h
def Ha (t:Nat) (s:Sr):Prop:=t≤3∧(t=3→s.left=[])∧(t=1∨t=3→s.proof=[])∧(t≠2→s.v.proof=[])
theorem zfC {r:List V} {t:Nat} {s:Sr} (h:srT? r=some (t,s)) (m:Md) (q:Qy):FI m q r=N3 t m q s∧Ha t s:=by
 unfold srT? at h;split at h
 case h_5=>cases h
 all_goals
  simp only [AC,AS] at h;obtain ⟨rfl,rfl⟩:=h;refine ⟨rfl,by omega,?_,?_,?_⟩ <;> intro h <;> first | rfl | (exfalso; omega)
theorem Ke {v:V} {k:Nat→Md→Qy→Sr→R} {z:V × List (List V)} (h:(kH v k).get=some z):∃ t m q s,v = .bor (N3 t m q s)∧Ha t s∧(k t m q s).get=some z:=by
 unfold kH at h;split at h
 ·rename_i l;split at h
  ·rename_i m q r hl;split at h
   ·rename_i t s hr;obtain ⟨e,hw⟩:=zfC hr m q;exact ⟨t,m,q,s,by rw [zd7 hl,e],hw,h⟩
   ·simp [R.get] at h
  ·simp [R.get] at h
 ·simp [R.get] at h
theorem zfe:DO PR B0 28 aQ:=by
 refine DX [(41,MX),(27,QM)] [] aQ [[.list false []]] Tryz.func28 Yh ⟨dO,qC,trivial⟩ ?_;intro vs r hwf h;unfold aQ at h;split at h
 ·rename_i m q;replace h:=IN h;obtain ⟨m,rfl,h⟩:=h;replace h:=I3 h;obtain ⟨q,rfl,h⟩:=h;refine ⟨0,(zb4 0 m q).trans ?_⟩;cases hr:EU m q with
  | true=>rw [hr,R.get_br,DB,R.get_ok] at h; exact h
  | false=>rw [hr,R.get_br,DC,R.get_ok] at h; exact h
 ·simp [R.get] at h
theorem zfg:DO PR B0 30 aS:=by
 refine DX [(62,eU)] [] aS [[.z,.list true [.bool,.z,.z],.z,.z,.z,.z,.z,.z]] Tryz.func30 Yk ⟨zfh,trivial⟩ ?_;intro vs r hwf h;unfold aS at h;split at h
 ·replace h:=Ke h;obtain ⟨t,m,q,s,rfl,hw,h⟩:=h;cases hg:BS s.v.proof.length 100000 with
  | false=>rw [hg] at h; simp [R.get] at h
  | true=>
   rw [hg,R.get_br,DB,R.get_ok] at h;refine ⟨0,?_⟩;rw [← h];obtain ⟨left,proof,⟨k,vp,a,b,c,d,tw,vs⟩,sp⟩:=s;replace hg:BS vp.length 100000=true:=hg
   match t,hw with
   | 0,hw=>
    obtain rfl:vp=[]:=hw.2.2.2 (by omega);refine (zb8 0 m q left proof k a b c d tw vs sp).trans ?_;rw [BD,BD];unfold KU;cases (k==0) <;> rfl
   | 1,hw=>
    obtain rfl:vp=[]:=hw.2.2.2 (by omega);refine (zb9 0 m q left k a b c d tw vs sp).trans ?_;rw [BD];unfold KU;cases (k==0) <;> rfl
   | 2,_=>
    refine (zca 0 m q left proof vp k a b c d tw vs sp).trans ?_;rw [BD,hg,DB,DB,B1,BD];unfold KU;cases (k==0) <;> rfl
   | 3,hw=>
    obtain rfl:vp=[]:=hw.2.2.2 (by omega);refine (zcb 0 m q k a b c d tw vs sp).trans ?_;unfold KU;cases (k==0) <;> rfl
   | t+4,hw=>exact absurd hw.1 (by omega)
 ·simp [R.get] at h
theorem Gw (m:Md) (q:Qy) (b:Bx):∀ (d i:Nat),i+d=5→(KS m q b d i).isSome=true→GT (JF (KS m q b d i))=true
 | 0,i,_,h=>by rw [KS] at h; cases h
 | d+1,i,hd,h=>by
  rw [KS] at h ⊢;cases hc:decide ((D6 m q b i).length > 0) with
  | true=>
   rw [DB];show GT (i:Int)=true;unfold GT;rw [AF (show (0:Int)≤(i:Int) by omega),AF (show (i:Int) < 5 by omega)];rfl
  | false=>
   rw [hc,DC] at h;rw [DC];exact Gw m q b d (i+1) (by omega) h
theorem zff:DO PR B0 29 aR:=by
 refine DX [(61,OB),(58,Z4),(59,Z5),(60,Z6),(45,UE)] [] aR [[.bool]] Tryz.func29 Yj ⟨jJ,zeP,zeQ,zeR,Gb,trivial⟩ ?_;intro vs r hwf h;unfold aR at h;split at h
 ·replace h:=Ke h;obtain ⟨t,m,q,s,rfl,hw,h⟩:=h;refine ⟨0,?_⟩;obtain ⟨left,proof,⟨k,vp,a,b,c,d,tw,vs⟩,sp⟩:=s;cases ho:H7 q ⟨left,proof,⟨k,vp,a,b,c,d,tw,vs⟩,sp⟩ with
  | true=>
   rw [ho,R.get_br,DB,R.get_ok] at h;rw [← h];have hk:(k != 0)=true∨(k != 0)=false∧decide (sp≥q.bu)=true:=by
    unfold H7 at ho;have e:(k != 0)=!(k==0):=rfl;rw [e];cases hk:(k==0) with
    | false=>exact .inl rfl
    | true=>
     replace ho:(!(k==0)||decide (sp≥q.bu))=true:=ho;rw [hk,A1,vav] at ho;exact .inr ⟨rfl,ho⟩
   match t,hw with
   | 0,hw=>
    refine (Ar 0 m q left proof k a b c d tw vs sp).trans ?_;rcases hk with hk | ⟨hk,hs⟩
    ·rw [hk,DB,BD,BD]; rfl
    ·rw [hk,DC,hs,DB,BD,BD]; rfl
   | 1,hw=>
    refine (As 0 m q left k a b c d tw vs sp).trans ?_;rcases hk with hk | ⟨hk,hs⟩
    ·rw [hk,DB,BD]; rfl
    ·rw [hk,DC,hs,DB,BD]; rfl
   | 2,hw=>
    refine (zb6 0 m q left proof vp k a b c d tw vs sp).trans ?_;rcases hk with hk | ⟨hk,hs⟩
    ·rw [hk,DB,BD]; rfl
    ·rw [hk,DC,hs,DB,BD]; rfl
   | 3,hw=>
    refine (zb7 0 m q k a b c d tw vs sp).trans ?_;rcases hk with hk | ⟨hk,hs⟩
    ·rw [hk,DB]; rfl
    ·rw [hk,DC,hs,DB]; rfl
   | t+4,hw=>exact absurd hw.1 (by omega)
  | false=>
   rw [ho,R.get_br,DC] at h;unfold H7 at ho;replace ho:(!(k==0)||decide (sp≥q.bu))=false:=ho;rw [C2] at ho;have hk:(k != 0)=false:=ho.1;have hsp:decide (sp≥q.bu)=false:=ho.2;cases hg:(BS t 1&&(EU m q&&(decide (0≤sp)&&(BN 0 left.length&&(BS left.length 100000&&BS proof.length 100000))))) with
   | false=>
    replace h:(R.br (BS t 1&&(EU m q&&(decide (0≤sp)&&(BN 0 left.length&&(BS left.length 100000&&BS proof.length 100000))))) _ R.no).get=some r:=h;rw [hg] at h;simp [R.get] at h
   | true=>
    replace h:(R.br (BS t 1&&(EU m q&&(decide (0≤sp)&&(BN 0 left.length&&(BS left.length 100000&&BS proof.length 100000))))) _ R.no).get=some r:=h;rw [hg,R.get_br,DB] at h;have hst:some (.bool true,[N3 (jW m q t ⟨left,proof,⟨k,vp,a,b,c,d,tw,vs⟩,sp⟩) m q (FE m q ⟨left,proof,⟨k,vp,a,b,c,d,tw,vs⟩,sp⟩)])=some r:=by
     rw [← h];unfold jW;simp only [R.get_br,R.get_ok];cases FS m q (DM left) with
     | true=>cases (ic (left.length - 1)==0) <;> rfl
     | false=>
      cases FO m q (DM left).low (DM left).s4.hi with
      | true=>rfl
      | false=>cases (EO m q (DM left)).isSome <;> rfl
    rw [← hst];simp only [AG] at hg;obtain ⟨ht,hr,h0,hl,hl5,hp5⟩:=hg;obtain ⟨hm,_,⟨_,hbu⟩,_,_⟩:=S2 hr;have h0:=AY h0;have hs1:=BE hsp;have hl:0 < left.length:=AN hl;have hl5:=AN hl5;have hp5:=AN hp5;have esp:AA AB (sp+1)=sp+1:=EA (by omega) (by omega);have etop:AA AB (ic (left.length - 0) - 1)=((left.length - 1:Nat):Int):=by
     rw [EA (by simp only [ic]; omega) (by simp only [ic]; omega)];simp only [ic];omega
    have ed:(decide (0≤((left.length - 1:Nat):Int))&&decide (((left.length - 1:Nat):Int) < ic (left.length - 0)))=true:=by
     rw [AF (by omega),AF (by simp only [ic]; omega)];rfl
    have ee:(decide (0≤((left.length - 1:Nat):Int))&&decide (((left.length - 1:Nat):Int)≤ic (left.length - 0)))=true:=by
     rw [AF (by omega),AF (by simp only [ic]; omega)];rfl
    have epop:left.take (left.length - 1+2)=left.take (left.length - 1+2):=rfl;have hlen:(FB left).length=left.length - 1:=by unfold FB; rw [A8]; omega
    have htk:∀ (x y:IV),AK (left.length - 1+2) (AK (left.length - 1) left++[x,y])=FB left++[x,y]:=fun x y=>CW (by rw [AR]; unfold FB at hlen; rw [hlen]; simp)
    have hb80:decide ((left.length - 1+2)*80≤D1)=true:=AF (by unfold D1; omega);have hin:=Gw m q (DM left) 5 0 rfl;replace hin:(EO m q (DM left)).isSome=true→GT (JF (EO m q (DM left)))=true:=hin
    match t,ht,hw with
    | 0,_,_=>
     have hb24:decide ((proof.length+1)*24≤D1)=true:=AF (by unfold D1; omega);have htp:∀ x:IV,AK (proof.length+1) (proof++[x])=proof++[x]:=fun x=>CW (by rw [AR]; simp)
     refine (Ar 0 m q left proof k a b c d tw vs sp).trans ?_;rw [hk,DC,hsp,DC,etop,ed,DB,ee,DB,esp,BC];simp only [BK,vaU,BD];rw [hb24,hb80,hm];unfold FE jW;show cond (FS m q (DM left)) _ (cond (FO m q (DM left).low (DM left).s4.hi) _ _)=_;cases FS m q (DM left) with
     | true=>
      simp only [htp,B1];rw [DB,DB];show cond (ic (left.length - 1)==0) _ _=_;cases (ic (left.length - 1)==0) <;> rfl
     | false=>
      rw [DC];cases FO m q (DM left).low (DM left).s4.hi with
      | true=>rfl
      | false=>
       rw [DC,DB];show cond (!(EO m q (DM left)).isSome) _ (cond (GT (JF (EO m q (DM left)))) _ _)=_;cases hs:(EO m q (DM left)).isSome with
       | false=>rfl
       | true=>
        rw [A1,DC,hin hs,DB,DB,DB];simp only [htp,htk];rfl
    | 1,_,hw=>
     obtain rfl:proof=[]:=hw.2.2.1 (.inl rfl);refine (As 0 m q left k a b c d tw vs sp).trans ?_;rw [hk,DC,hsp,DC,etop,ed,DB,ee,DB,esp,BC];simp only [BK,vaU];rw [hb80,hm];unfold FE jW;show cond (FS m q (DM left)) _ (cond (FO m q (DM left).low (DM left).s4.hi) _ _)=_;cases FS m q (DM left) with
     | true=>
      rw [DB];show cond (ic (left.length - 1)==0) _ _=_;cases (ic (left.length - 1)==0) <;> rfl
     | false=>
      rw [DC];cases FO m q (DM left).low (DM left).s4.hi with
      | true=>rfl
      | false=>
       rw [DC,DB];show cond (!(EO m q (DM left)).isSome) _ (cond (GT (JF (EO m q (DM left)))) _ _)=_;cases hs:(EO m q (DM left)).isSome with
       | false=>rfl
       | true=>
        rw [A1,DC,hin hs,DB,DB];simp only [htk];rfl
    | t+2,ht,_=>exact absurd (AN ht) (by omega)
 ·simp [R.get] at h
open Go Go.Proofs
def RX (N:Nat):Env:=DV [(28,aQ),(29,aR),(30,aS)] [(2,⟨[4,5],[4,8,500,501],[⟨.cell 8 23,500,34,true,EZ⟩,⟨.cell 8 24,501,126,true,ES⟩]⟩)] 13 N
open Go Go.Proofs
set_option maxRecDepth 100000
abbrev cF:KP:=⟨[4,5],[4,8,500,501],[⟨.cell 8 23,500,34,true,EZ⟩,⟨.cell 8 24,501,126,true,ES⟩]⟩
def zdV (sh:Bool) (s:Sr):List V:=match sh with
 | false=>.row 500 0 s.left.length :: .row 501 0 s.proof.length :: YM s.v .zs s.spent
 | true=>.row 500 0 s.left.length :: gK s.proof :: YM s.v (gK s.v.proof) s.spent
def zdW (sh:Bool) (s:Sr):Option Ob:=match sh with
 | false=>some (.row true 126 true ES s.proof)
 | true=>none
def L5 (m:Md) (q:Qy) (sh:Bool) (s:Sr):St:=
 ⟨[(4,.ptr 4 0 0),(5,.ptr 8 0 0)],[(4,some (.box [.int .i64 0,.zs,.int .i64 0,.int .i64 0,.int .i64 0,.int .i64 0,.int .i64 0,.int .i64 0])),(8,some (.box (FI m q (zdV sh s)))),(500,some (.row true 34 true EZ s.left)),(501,zdW sh s)]⟩
def LH (s:Sr):Sr:=⟨s.left.take s.left.length,s.proof.take s.proof.length,⟨s.v.kind,[],s.v.w0,s.v.w1,s.v.w2,s.v.w3,s.v.twin,s.v.spent⟩,s.spent⟩
def dW (s:Sr):Sr:=⟨s.left.take s.left.length,s.proof,s.v,s.spent⟩
theorem dX {s:Sr} (h:s.v.proof=[]):LH s=s:=by
 obtain ⟨left,proof,⟨k,vp,a,b,c,d,tw,vs⟩,sp⟩:=s;obtain rfl:vp=[]:=h;unfold LH;simp only [BD]
theorem Ji (s:Sr):dW s=s:=by
 obtain ⟨left,proof,v,sp⟩:=s;unfold dW;simp only [BD]
def oM (m:Md) (q:Qy) (s:Sr):Bool:=EU m q&&(decide (0≤s.spent)&&(BN 0 s.left.length&&(BS s.left.length 100000&&BS s.proof.length 100000)))
noncomputable abbrev cB (N:Nat):Out→St→DG:=DI 0 (DJ (RX N) (DD SC [1,1,1]) (DL (RX N) none [.cell 4 51] [[.z,.list true ES,.z,.z,.z,.z,.z,.z]]))
theorem zb5 (N:Nat) (m:Md) (q:Qy):DQ (RX N) SC [.cell 4 51] [[.z,.list true [.bool,.z,.z],.z,.z,.z,.z,.z,.z]] [m.V,q.V] =
 cond (EU m q) (DR (RX N) (DD SC [1,1,0,0,0]) cF N (L5 m q false ⟨[(EE q).I],[],Vd.none,0⟩) (cB N))
 (DR (RX N) (DD SC [1,1,0,0,0]) cF N (L5 m q false ⟨[],[],⟨4,[],0,0,0,0,0,0⟩,0⟩) (cB N)):=by kernel_rfl
theorem qP (N:Nat) (m:Md) (q:Qy) (s:Sr) (again:St→DG) (k:Out→St→DG):E4 (RX N) (DD SC [1,1,0,0,0]) (L5 m q false s) (EH again cF k) =
 cond (H7 q (LH s)) (k (.exit 0) (L5 m q false (LH s)))
 (cond (oM m q (LH s))
 (cond (FS m q (DM (LH s).left)) (cond (ic ((LH s).left.length - 1)==0) (again (L5 m q true (FE m q (LH s)))) (again (L5 m q false (FE m q (LH s)))))
 (cond (FO m q (DM (LH s).left).low (DM (LH s).left).s4.hi) (again (L5 m q false (FE m q (LH s))))
 (cond (EO m q (DM (LH s).left)).isSome (again (L5 m q false (FE m q (LH s)))) (again (L5 m q false (FE m q (LH s))))))) none):=by kernel_rfl
theorem zfG (N:Nat) (m:Md) (q:Qy) (s:Sr) (again:St→DG) (k:Out→St→DG):E4 (RX N) (DD SC [1,1,0,0,0]) (L5 m q true s) (EH again cF k) =
 cond (H7 q (dW s)) (k (.exit 0) (L5 m q true (dW s))) none:=by kernel_rfl
theorem xV (N:Nat) (m:Md) (q:Qy) (s:Sr):cB N (.exit 0) (L5 m q false s)=some ((KU (LH s)).V,[]):=by kernel_rfl
theorem Tk (N:Nat) (m:Md) (q:Qy) (s:Sr):cB N (.exit 0) (L5 m q true s)=cond (BS s.v.proof.length 100000) (some ((KU (dW s)).V,[])) none:=by kernel_rfl
structure SrInv (q:Qy) (sh:Bool) (s:Sr):Prop where
 sp0:0≤s.spent
 sp1:s.spent≤max 0 q.bu
 left:(s.left.length:Int)≤s.spent+1
 proof:(s.proof.length:Int)≤s.spent
 vp:(s.v.proof.length:Int)≤s.spent
 own:sh=false→s.v.proof=[]
 open_:s.v.kind=0→0 < s.left.length
 shut:sh=true→s.v.kind≠0
theorem zdi (l:LI):(FB l).length=l.length - 1:=by
 unfold FB;rw [A8];omega
theorem SrInv.step {m:Md} {q:Qy} {s:Sr} (h:SrInv q false s) (ho:H7 q s=false) :
  SrInv q (FS m q (DM s.left)&&(ic (s.left.length - 1)==0)) (FE m q s)∧(FE m q s).spent=s.spent+1:=by
 unfold H7 at ho;rw [C2] at ho;have hk:s.v.kind=0:=by simpa using ho.1
 have hs:=BE ho.2;have h1:=h.sp0;have h2:=h.left;have h3:=h.proof;have h4:=h.vp;have h5:=h.own rfl;have h6:=h.open_ hk;have hp:=zdi s.left;have h5':s.v.proof.length=0:=by rw [h5]; rfl
 unfold FE;cases FS m q (DM s.left) with
 | true=>
  rw [DB];cases he:(ic (s.left.length - 1)==0) with
  | true=>
   refine ⟨⟨?_,?_,?_,?_,?_,fun h=>(by cases h),fun h=>(by cases h),fun _=>(show (1:Int)≠0 by decide)⟩,rfl⟩ <;> simp only [CT,AR,B3] <;> omega
  | false=>
   have hne:s.left.length - 1≠0:=by simpa [ic] using he
   refine ⟨⟨?_,?_,?_,?_,?_,fun _=>h5,fun _=>?_,fun h=>(by cases h)⟩,rfl⟩ <;> simp only [CG,AR,B3] <;> omega
 | false=>
  rw [DC,BX];cases FO m q (DM s.left).low (DM s.left).s4.hi with
  | true=>refine ⟨⟨?_,?_,?_,?_,?_,fun _=>rfl,fun h=>(by cases h),fun h=>(by cases h)⟩,rfl⟩ <;> simp only [CT,A6] <;> omega
  | false=>
   rw [DC];cases (EO m q (DM s.left)).isSome with
   | true=>refine ⟨⟨?_,?_,?_,?_,?_,fun _=>h5,fun _=>?_,fun h=>(by cases h)⟩,rfl⟩ <;> simp only [CT,AR,AM,A6] <;> omega
   | false=>refine ⟨⟨?_,?_,?_,?_,?_,fun _=>rfl,fun h=>(by cases h),fun h=>(by cases h)⟩,rfl⟩ <;> simp only [CG,A6] <;> omega
theorem zcK {m:Md} {q:Qy} {s:Sr} (hr:EU m q=true) (h:SrInv q false s) (hk:s.v.kind=0):oM m q s=true:=by
 have hb:=(S2 hr).2.2.1;have h1:=h.sp0;have h2:=h.left;have h3:=h.proof;have h6:=h.open_ hk;have h7:=h.sp1;unfold oM;rw [hr,AF h1,CQ (show s.left.length≤100000 by omega),CQ (show s.proof.length≤100000 by omega)]
 have:BN 0 s.left.length=true:=CQ h6
 rw [this];rfl
theorem Eh (N:Nat) (m:Md) (q:Qy) (hr:EU m q=true) (K:Out→St→DG):∀ (d n:Nat) (sh:Bool) (s:Sr),SrInv q sh s→q.bu < s.spent+d→d < n →
  ∃ sh',SrInv q sh' (L0 m q d s)∧DR (RX N) (DD SC [1,1,0,0,0]) cF n (L5 m q sh s) K=K (.exit 0) (L5 m q sh' (L0 m q d s))
 | d,0,sh,s,_,_,h=>absurd h (by omega)
 | 0,n+1,sh,s,hi,hd,_=>by
  have h1:=hi.sp1;have h2:=hi.sp0;have h3:=(S2 hr).2.2.1;omega
 | d+1,n+1,sh,s,hi,hd,hn=>by
  rw [L0];cases ho:H7 q s with
  | true=>
   rw [DB];refine ⟨sh,hi,?_⟩;cases sh with
   | false=>rw [DY,qP,dX (hi.own rfl),ho,DB]
   | true=>rw [DY,zfG,Ji,ho,DB]
  | false=>
   rw [DC];cases sh with
   | true=>
    unfold H7 at ho;rw [C2] at ho
    have:=hi.shut rfl
    simp at ho;exact absurd ho.1 this
   | false=>
    obtain ⟨hi',hs'⟩:=hi.step (m:=m) ho;have hk:s.v.kind=0:=by
     unfold H7 at ho;rw [C2] at ho;simpa using ho.1
    obtain ⟨sh',hi2,hrun⟩:=Eh N m q hr K d n _ (FE m q s) hi' (by rw [hs']; omega) (by omega);refine ⟨sh',hi2,?_⟩;rw [← hrun,DY,qP,dX (hi.own rfl),ho,DC,zcK hr hi hk,DB];cases FS m q (DM s.left) with
    | true=>
     rw [DB,BG];cases (ic (s.left.length - 1)==0) <;> rfl
    | false=>
     rw [DC,BX];cases FO m q (DM s.left).low (DM s.left).s4.hi with
     | true=>rfl
     | false=>cases (EO m q (DM s.left)).isSome <;> rfl
theorem zaF {m:Md} {q:Qy} (hr:EU m q=true):SrInv q false ⟨[(EE q).I],[],Vd.none,0⟩:=
 ⟨CF _,by have:=(S2 hr).2.2.1; show (0:Int)≤_; omega,by simp,by simp,by simp [Vd.none],fun _=>rfl,fun _=>by simp,fun h=>by cases h⟩
theorem qD:DO PR B0 13 QN:=by
 refine DX [(28,aQ),(29,aR),(30,aS)] [(2,⟨[4,5],[4,8,500,501],[⟨.cell 8 23,500,34,true,EZ⟩,⟨.cell 8 24,501,126,true,ES⟩]⟩)] QN [[.z,.list true [.bool,.z,.z],.z,.z,.z,.z,.z,.z]] Tryz.func13 Yi ⟨zfe,zff,zfg,trivial⟩ ?_;intro vs r hwf h;unfold QN at h;split at h
 ·rename_i m q;replace h:=IN h;obtain ⟨m,rfl,h⟩:=h;replace h:=I3 h;obtain ⟨q,rfl,h⟩:=h;rw [R.get_ok] at h;refine ⟨70000,?_⟩;rw [← h];refine (zb5 70000 m q).trans ?_;unfold FU XU;cases hr:EU m q with
  | true=>
   have hb:=(S2 hr).2.2.1;rw [DB,DB];obtain ⟨sh',hi,hrun⟩:=Eh 70000 m q hr (cB 70000) (q.bu.toNat+1) 70000 false _ (zaF hr) (by show q.bu < 0+_; omega) (by omega);rw [hrun];generalize L0 m q (q.bu.toNat+1) _=s at hi ⊢;cases sh' with
   | false=>rw [xV,dX (hi.own rfl)]
   | true=>
    have h1:=hi.vp;have h2:=hi.sp1;rw [Tk,Ji,CQ (show s.v.proof.length≤100000 by omega),DB]
  | false=>
   rw [DC,DC];have e:H7 q ⟨[],[],⟨4,[],0,0,0,0,0,0⟩,0⟩=true:=rfl;rw [DY,qP,dX rfl,e,DB,xV,dX rfl,L0,e,DB]
 ·simp [R.get] at h
open Go
def zfX:Md:=⟨1,1,3,0,0,[.agg [.int 0,.list [.int (HP false 0 0 5 1 2),.int (HP true 10 0 0 0 0),.int (HP true 20 0 0 0 0)]]]⟩
def ZR:DK
 | []=>.ok zfX.V []
 | _=>.no
def LU (b:Bx) (l:LI) (i:Nat):Int:=DS (ED l (i:Int)) (b.g i).lo (max (b.g i).lo (b.g i).hi)
def J6 (b:Bx) (i:Nat):Bool:=decide (I4 (b.g i).lo (max (b.g i).lo (b.g i).hi)=0)
def gU (b:Bx) (l:LI):Pt:=⟨LU b l 0,LU b l 1,LU b l 2,LU b l 3⟩
def ZQ:DK
 | [b,.list false [.z] l]=>HC b fun b=>.br (!(J6 b 0)&&(!(J6 b 1)&&(!(J6 b 2)&&!(J6 b 3)))) (.ok (gU b l).V []) .no
 | _=>.no
open Go
def VD (s:Sp):Bool:=decide (-2147483648≤s.lo)&&(decide (s.lo≤s.hi)&&decide (s.hi≤2147483647))
def FJ (b:Bx):Bool:=VD b.s0&&(VD b.s1&&(VD b.s2&&(VD b.s3&&VD b.s4)))
def ZM:DK
 | [.list false [.int .u64] l,b]=>HC b fun b=>.br (FY l 4&&FJ b) (.ok (.tup [.int .i64 (GY l b),.int .i64 (GW l b)]) []) .no
 | _=>.no
def ZL:DK
 | [m,.int .i64 k,b]=>ID m fun m=>HC b fun b=>.br (b.emp||FJ b) (.ok (.tup [.int .i64 (DZ m k b),.int .i64 (DW m k b)]) []) .no
 | _=>.no
def ZN:DK
 | [m,q,b]=>ID m fun m=>IO q fun q=>HC b fun b=>.br (EU m q&&(b.emp||FJ b)) (.ok (.bool (FS m q b)) []) .no
 | _=>.no
def NB (x:IV):Bool:=cond (H5 x) (E8 x==0&&FR x==0) (decide (0≤E8 x)&&decide (E8 x≤4))
def aM:DK
 | [.agg [.bool s,.int .i64 p,.int .i64 a]]=>.ok (.bool (NB (MS s p a))) []
 | _=>.no
def MG (st:Int × Int) (x:IV):Option (Int × Int):=
 cond (st.1==0||!(NB x)) none (cond (H5 x) (some (st.1 - 1,st.2)) (some (st.1+1,max st.2 (st.1+1))))
def JP:LI→Int × Int→Option (Int × Int)
 | [],st=>some st
 | x :: r,st=>match MG st x with
  | some st'=>JP r st'
  | none=>none
def JO (l:LI):Int:=cond (decide (ic l.length > 65536)) 0 (match JP l (1,1) with
 | some st=>cond (!(st.1==0)||decide (st.2 > 200)) 0 st.2
 | none=>0)
def aL:DK
 | [.list true [.bool,.z,.z] l]=>.ok (.int .i64 (JO l)) []
 | _=>.no
def aJ:DK
 | [.list true [.bool,.z,.z] l]=>.ok (.bool (decide (JO l > 0))) []
 | _=>.no
def MQ (st:LI × LI) (x:IV):Option (List IV × LI):=
 cond (H5 x) (some (FB st.1,st.2++[(DM st.1).I]))
  (cond (decide (FR x < ((DM st.1).g (E8 x).toNat).lo)||decide (FR x≥((DM st.1).g (E8 x).toNat).hi)) none
   (some (FB st.1++[((DM st.1).cutH (E8 x) (FR x)).I,((DM st.1).cutL (E8 x) (FR x)).I],st.2)))
def H9:LI→LI × LI→Option (List IV × LI)
 | [],st=>some st
 | x :: r,st=>match MQ st x with
  | some st'=>H9 r st'
  | none=>none
def JC (b:Bx) (l:LI):Option LI:=cond (decide (JO l > 0)) ((H9 l ([b.I],[])).map (·.2)) none
def aK:DK
 | [b,.list true [.bool,.z,.z] l]=>HC b fun b=>.br (JC b l).isSome (.ok (.tup [.list true EZ ((JC b l).getD []),.bool true]) []) (.ok (.tup [.list true EZ [],.bool false]) [])
 | _=>.no
def Vd.p (v:Vd):Pt:=⟨v.w0,v.w1,v.w2,v.w3⟩
def LX (m:Md) (q:Qy) (v:Vd):Bool:=
 EU m q&&cond (v.kind==1) (match JC (EE q) v.proof with
   | some l=>l.all fun x=>FS m q (DN x)
   | none=>false)
  (cond (v.kind==2) ((EE q).has v.p v.twin&&FO m q v.p v.twin) false)
def T2:DK
 | [m,q,v]=>ID m fun m=>IO q fun q=>Kf v fun v=>.ok (.bool (LX m q v)) []
 | _=>.no
open Go Go.Proofs
def Mn (N:Nat):Env:=DV [] [] 16 N
theorem zbW (N:Nat) (u01:Bool) (u00 s_At:Int):DQ (Mn N) uZ [.tmp 2] [[.bool]] [.agg [.bool u01,.i u00,.i s_At]]=(cond u01 (some ((.bool (u01==true&&(u00==0&&(s_At==0&&true)))),[])) (cond (decide (u00≥0)) (some ((.bool (decide (u00≤4))),[])) (some ((.bool false),[])))):=by kernel_rfl
def Mm (N:Nat):Env:=DV [(107,aL)] [] 6 N
theorem zbU (N:Nat) (l:LI):DQ (Mm N) uY [.tmp 2] [[.bool]] [.list true [.bool,.z,.z] l]=(some ((.bool (decide (JO l > 0))),[])):=by kernel_rfl
def Kz (N:Nat):Env:=DV [(72,UH)] [(2,⟨[2,3,6,9,10],[3],[]⟩)] 25 N
open Go Go.Proofs
def PB (N:Nat):Env:=DV [(145,aM)] [(5,⟨[2,3,4,10,11,12],[],[]⟩)] 40 N
abbrev QG (x2 x3 x4:Int) (l10:LI) (x11 x12:Int):St:=⟨[(2,(.i x2)),(3,(.i x3)),(4,(.i x4)),(10,(.list true ES l10)),(11,(.i x11)),(12,(.i x12))],[]⟩
theorem zbV (N:Nat) (l:LI):DQ (PB N) SB [.tmp 2] [[.z]] [.list true [.bool,.z,.z] l]=(cond (decide (ic (AE l) > 65536)) (some ((.i 0),[])) (DR (PB N) (DD SB [1,1,1,0,1,0,0]) ⟨[2,3,4,10,11,12],[],[]⟩ N (QG 0 1 1 l (ic (AE l)) 0) (DI 0 (DJ (PB N) (DD SB [1,1,1,1]) (DL (PB N) none [.tmp 2] [[.z]]))))):=by kernel_rfl
theorem Ig (N:Nat) (x2 x3 x4:Int) (l10:LI) (x11 x12:Int) (again:St→DG) (k:Out→St→DG):E4 (PB N) (DD SB [1,1,1,0,1,0,0]) (QG x2 x3 x4 l10 x11 x12) (EH again ⟨[2,3,4,10,11,12],[],[]⟩ k)=(cond (decide (x12 < x11)) (cond (decide (0≤x12)&&decide (x12 < ic (AE l10))) (cond (x3==0) (k .ret (QG 0 x3 x4 l10 x11 x12)) (cond (!NB (MS (IV.toBool (IV.cell (AI l10 (AD x12) default) 0)) (IV.toInt (IV.cell (AI l10 (AD x12) default) 1)) (IV.toInt (IV.cell (AI l10 (AD x12) default) 2)))) (k .ret (QG 0 x3 x4 l10 x11 x12)) (cond (IV.toBool (IV.cell (AI l10 (AD x12) default) 0)) (again (QG x2 (AA AB (x3 - 1)) x4 l10 x11 (AA AB (x12+1)))) (again (QG x2 (AA AB (x3+1)) (max x4 (AA AB (x3+1))) l10 x11 (AA AB (x12+1))))))) none) (k (.exit 0) (QG x2 x3 x4 l10 x11 x12))):=by kernel_rfl
theorem Tf (N:Nat) (x2 x3 x4:Int) (l10:LI) (x11 x12:Int):(DI 0 (DJ (PB N) (DD SB [1,1,1,1]) (DL (PB N) none [.tmp 2] [[.z]]))) (.exit 0) (QG x2 x3 x4 l10 x11 x12)=(cond (x3 != 0) (some ((.i 0),[])) (cond (decide (x4 > 200)) (some ((.i 0),[])) (some ((.i x4),[])))):=by kernel_rfl
theorem Tg (N:Nat) (x2 x3 x4:Int) (l10:LI) (x11 x12:Int):(DI 0 (DJ (PB N) (DD SB [1,1,1,1]) (DL (PB N) none [.tmp 2] [[.z]]))) .ret (QG x2 x3 x4 l10 x11 x12)=(some ((.i x2),[])):=by kernel_rfl
def GG (N:Nat):Env:=DV [(31,JH),(108,ZM),(20,LM)] [(5,⟨[1,5,6,7,8,9,40,41,42],[5],[]⟩)] 66 N
abbrev L9 (a2:Bx) (x1 x6 x7 x8 x9:Int) (l40:LI) (x41 x42:Int):St:=⟨[(1,(.i x1)),(5,(.ptr 5 0 0)),(6,(.i x6)),(7,(.i x7)),(8,(.i x8)),(9,(.i x9)),(40,(.list true K9 l40)),(41,(.i x41)),(42,(.i x42))],[(5,(some (.box (Bx.cs a2))))]⟩
theorem za3 (N:Nat) (m:Md) (a1:Int) (a2:Bx):DQ (GG N) HZ [.tmp 6,.tmp 7] [[.z],[.z]] [(Md.V m),.i a1,(Bx.V a2)]=(cond (!EQ m) (some ((.tup [.i 0,.i 0]),[])) (cond (decide (a1 < 0)) (some ((.tup [.i 0,.i 0]),[])) (cond (decide (a1≥Md.c m)) (some ((.tup [.i 0,.i 0]),[])) (cond (Bx.emp a2) (some ((.tup [.i 0,.i 0]),[])) (cond (decide (a1=ic 0)) (cond (decide (a1=ic 0)) (DR (GG N) (DD HZ [1,1,1,0,1,0,0]) ⟨[1,5,6,7,8,9,40,41,42],[5],[]⟩ N (L9 a2 a1 0 0 (Md.b0 m) (Md.b0 m) (Md.ts m) (ic (AE (Md.ts m))) 0) (DI 0 (DJ (GG N) (DD HZ [1,1,1,1]) (DL (GG N) none [.tmp 6,.tmp 7] [[.z],[.z]])))) (cond (decide (a1=ic 1)) (DR (GG N) (DD HZ [1,1,1,0,1,0,0]) ⟨[1,5,6,7,8,9,40,41,42],[5],[]⟩ N (L9 a2 a1 0 0 (Md.b0 m) (Md.b1 m) (Md.ts m) (ic (AE (Md.ts m))) 0) (DI 0 (DJ (GG N) (DD HZ [1,1,1,1]) (DL (GG N) none [.tmp 6,.tmp 7] [[.z],[.z]])))) (cond (decide (a1=ic 2)) (DR (GG N) (DD HZ [1,1,1,0,1,0,0]) ⟨[1,5,6,7,8,9,40,41,42],[5],[]⟩ N (L9 a2 a1 0 0 (Md.b0 m) (Md.b2 m) (Md.ts m) (ic (AE (Md.ts m))) 0) (DI 0 (DJ (GG N) (DD HZ [1,1,1,1]) (DL (GG N) none [.tmp 6,.tmp 7] [[.z],[.z]])))) none))) (cond (decide (a1=ic 1)) (cond (decide (a1=ic 0)) (DR (GG N) (DD HZ [1,1,1,0,1,0,0]) ⟨[1,5,6,7,8,9,40,41,42],[5],[]⟩ N (L9 a2 a1 0 0 (Md.b1 m) (Md.b0 m) (Md.ts m) (ic (AE (Md.ts m))) 0) (DI 0 (DJ (GG N) (DD HZ [1,1,1,1]) (DL (GG N) none [.tmp 6,.tmp 7] [[.z],[.z]])))) (cond (decide (a1=ic 1)) (DR (GG N) (DD HZ [1,1,1,0,1,0,0]) ⟨[1,5,6,7,8,9,40,41,42],[5],[]⟩ N (L9 a2 a1 0 0 (Md.b1 m) (Md.b1 m) (Md.ts m) (ic (AE (Md.ts m))) 0) (DI 0 (DJ (GG N) (DD HZ [1,1,1,1]) (DL (GG N) none [.tmp 6,.tmp 7] [[.z],[.z]])))) (cond (decide (a1=ic 2)) (DR (GG N) (DD HZ [1,1,1,0,1,0,0]) ⟨[1,5,6,7,8,9,40,41,42],[5],[]⟩ N (L9 a2 a1 0 0 (Md.b1 m) (Md.b2 m) (Md.ts m) (ic (AE (Md.ts m))) 0) (DI 0 (DJ (GG N) (DD HZ [1,1,1,1]) (DL (GG N) none [.tmp 6,.tmp 7] [[.z],[.z]])))) none))) (cond (decide (a1=ic 2)) (cond (decide (a1=ic 0)) (DR (GG N) (DD HZ [1,1,1,0,1,0,0]) ⟨[1,5,6,7,8,9,40,41,42],[5],[]⟩ N (L9 a2 a1 0 0 (Md.b2 m) (Md.b0 m) (Md.ts m) (ic (AE (Md.ts m))) 0) (DI 0 (DJ (GG N) (DD HZ [1,1,1,1]) (DL (GG N) none [.tmp 6,.tmp 7] [[.z],[.z]])))) (cond (decide (a1=ic 1)) (DR (GG N) (DD HZ [1,1,1,0,1,0,0]) ⟨[1,5,6,7,8,9,40,41,42],[5],[]⟩ N (L9 a2 a1 0 0 (Md.b2 m) (Md.b1 m) (Md.ts m) (ic (AE (Md.ts m))) 0) (DI 0 (DJ (GG N) (DD HZ [1,1,1,1]) (DL (GG N) none [.tmp 6,.tmp 7] [[.z],[.z]])))) (cond (decide (a1=ic 2)) (DR (GG N) (DD HZ [1,1,1,0,1,0,0]) ⟨[1,5,6,7,8,9,40,41,42],[5],[]⟩ N (L9 a2 a1 0 0 (Md.b2 m) (Md.b2 m) (Md.ts m) (ic (AE (Md.ts m))) 0) (DI 0 (DJ (GG N) (DD HZ [1,1,1,1]) (DL (GG N) none [.tmp 6,.tmp 7] [[.z],[.z]])))) none))) none))))))):=by kernel_rfl
theorem Hk (N:Nat) (a2:Bx) (x1 x6 x7 x8 x9:Int) (l40:LI) (x41 x42:Int) (again:St→DG) (k:Out→St→DG):E4 (GG N) (DD HZ [1,1,1,0,1,0,0]) (L9 a2 x1 x6 x7 x8 x9 l40 x41 x42) (EH again ⟨[1,5,6,7,8,9,40,41,42],[5],[]⟩ k)=(cond (decide (x42 < x41)) (cond (decide (0≤x42)&&decide (x42 < ic (AE l40))) (cond (IV.toInt (IV.cell (AI l40 (AD x42) default) 0)==x1) (cond (FY (IV.toList (IV.cell (AI l40 (AD x42) default) 1)) 4&&FJ a2) (again (L9 a2 x1 x6 x7 (AA AB (x8+GY (IV.toList (IV.cell (AI l40 (AD x42) default) 1)) a2)) (AA AB (x9+GW (IV.toList (IV.cell (AI l40 (AD x42) default) 1)) a2)) l40 x41 (AA AB (x42+1)))) none) (again (L9 a2 x1 x6 x7 x8 x9 l40 x41 (AA AB (x42+1))))) none) (k (.exit 0) (L9 a2 x1 x6 x7 x8 x9 l40 x41 x42))):=by kernel_rfl
theorem Sb (N:Nat) (a2:Bx) (x1 x6 x7 x8 x9:Int) (l40:LI) (x41 x42:Int):(DI 0 (DJ (GG N) (DD HZ [1,1,1,1]) (DL (GG N) none [.tmp 6,.tmp 7] [[.z],[.z]]))) (.exit 0) (L9 a2 x1 x6 x7 x8 x9 l40 x41 x42)=(some ((.tup [.i x8,.i x9]),[])):=by kernel_rfl
def KV (N:Nat):Env:=DV [(31,JH),(71,ZL)] [(9,⟨[3,4,5,6,7,42,43],[3,4,5],[]⟩)] 94 N
abbrev RL (m:Md) (a1:Qy) (a2:Bx) (b6:Bool) (x7 x42 x43:Int):St:=⟨[(3,(.ptr 3 0 0)),(4,(.ptr 4 0 0)),(5,(.ptr 5 0 0)),(6,(.bool b6)),(7,(.i x7)),(42,(.i x42)),(43,(.i x43))],[(3,(some (.box (Md.cs m)))),(4,(some (.box (Qy.cs a1)))),(5,(some (.box (Bx.cs a2))))]⟩
theorem za4 (N:Nat) (m:Md) (a1:Qy) (a2:Bx):DQ (KV N) M0 [.tmp 6] [[.bool]] [(Md.V m),(Qy.V a1),(Bx.V a2)]=(cond (Bx.emp a2) (some ((.bool true),[])) (cond (Bx.emp a2||FJ a2) (cond (Qy.k a1==1) (cond (decide (Qy.lo a1≤DZ m (Qy.c a1) a2)) (some ((.bool (decide (DW m (Qy.c a1) a2≤Qy.hi a1))),[])) (some ((.bool false),[]))) (cond (Qy.k a1==2) (DR (KV N) (DD M0 [1,1,1,0,1,0,1,1,1,0,0,1,0,0]) ⟨[3,4,5,6,7,42,43],[3,4,5],[]⟩ N (RL m a1 a2 false (DZ m (Qy.c a1) a2) (Md.c m) 0) (DI 1 (DJ (KV N) (DD M0 [1,1,1,0,1,0,1,1,1,0,1]) (DI 0 (DJ (KV N) (DD M0 [1,1,1,1]) (DL (KV N) none [.tmp 6] [[.bool]])))))) (cond (decide (Qy.ft a1=ic 0)) (cond (decide (Sp.lo (Bx.s0 a2)≥Sp.hi (Bx.s4 a2))) (some ((.bool true),[])) (cond (decide (Qy.ft a1=ic 0)) (cond (Bx.emp {a2 with s0:=(Bx.s4 a2)}||FJ {a2 with s0:=(Bx.s4 a2)}) (cond (Qy.fl a1) (some ((.bool (decide (DW m (Qy.c a1) {a2 with s0:=(Bx.s4 a2)}≤DZ m (Qy.c a1) a2))),[])) (some ((.bool (decide (DZ m (Qy.c a1) {a2 with s0:=(Bx.s4 a2)}≥DW m (Qy.c a1) a2))),[]))) none) (cond (decide (Qy.ft a1=ic 1)) (cond (Bx.emp {a2 with s1:=(Bx.s4 a2)}||FJ {a2 with s1:=(Bx.s4 a2)}) (cond (Qy.fl a1) (some ((.bool (decide (DW m (Qy.c a1) {a2 with s1:=(Bx.s4 a2)}≤DZ m (Qy.c a1) a2))),[])) (some ((.bool (decide (DZ m (Qy.c a1) {a2 with s1:=(Bx.s4 a2)}≥DW m (Qy.c a1) a2))),[]))) none) (cond (decide (Qy.ft a1=ic 2)) (cond (Bx.emp {a2 with s2:=(Bx.s4 a2)}||FJ {a2 with s2:=(Bx.s4 a2)}) (cond (Qy.fl a1) (some ((.bool (decide (DW m (Qy.c a1) {a2 with s2:=(Bx.s4 a2)}≤DZ m (Qy.c a1) a2))),[])) (some ((.bool (decide (DZ m (Qy.c a1) {a2 with s2:=(Bx.s4 a2)}≥DW m (Qy.c a1) a2))),[]))) none) (cond (decide (Qy.ft a1=ic 3)) (cond (Bx.emp {a2 with s3:=(Bx.s4 a2)}||FJ {a2 with s3:=(Bx.s4 a2)}) (cond (Qy.fl a1) (some ((.bool (decide (DW m (Qy.c a1) {a2 with s3:=(Bx.s4 a2)}≤DZ m (Qy.c a1) a2))),[])) (some ((.bool (decide (DZ m (Qy.c a1) {a2 with s3:=(Bx.s4 a2)}≥DW m (Qy.c a1) a2))),[]))) none) (cond (decide (Qy.ft a1=ic 4)) (cond (Bx.emp a2||FJ a2) (cond (Qy.fl a1) (some ((.bool (decide (DW m (Qy.c a1) a2≤DZ m (Qy.c a1) a2))),[])) (some ((.bool (decide (DZ m (Qy.c a1) a2≥DW m (Qy.c a1) a2))),[]))) none) none)))))) (cond (decide (Qy.ft a1=ic 1)) (cond (decide (Sp.lo (Bx.s1 a2)≥Sp.hi (Bx.s4 a2))) (some ((.bool true),[])) (cond (decide (Qy.ft a1=ic 0)) (cond (Bx.emp {a2 with s0:=(Bx.s4 a2)}||FJ {a2 with s0:=(Bx.s4 a2)}) (cond (Qy.fl a1) (some ((.bool (decide (DW m (Qy.c a1) {a2 with s0:=(Bx.s4 a2)}≤DZ m (Qy.c a1) a2))),[])) (some ((.bool (decide (DZ m (Qy.c a1) {a2 with s0:=(Bx.s4 a2)}≥DW m (Qy.c a1) a2))),[]))) none) (cond (decide (Qy.ft a1=ic 1)) (cond (Bx.emp {a2 with s1:=(Bx.s4 a2)}||FJ {a2 with s1:=(Bx.s4 a2)}) (cond (Qy.fl a1) (some ((.bool (decide (DW m (Qy.c a1) {a2 with s1:=(Bx.s4 a2)}≤DZ m (Qy.c a1) a2))),[])) (some ((.bool (decide (DZ m (Qy.c a1) {a2 with s1:=(Bx.s4 a2)}≥DW m (Qy.c a1) a2))),[]))) none) (cond (decide (Qy.ft a1=ic 2)) (cond (Bx.emp {a2 with s2:=(Bx.s4 a2)}||FJ {a2 with s2:=(Bx.s4 a2)}) (cond (Qy.fl a1) (some ((.bool (decide (DW m (Qy.c a1) {a2 with s2:=(Bx.s4 a2)}≤DZ m (Qy.c a1) a2))),[])) (some ((.bool (decide (DZ m (Qy.c a1) {a2 with s2:=(Bx.s4 a2)}≥DW m (Qy.c a1) a2))),[]))) none) (cond (decide (Qy.ft a1=ic 3)) (cond (Bx.emp {a2 with s3:=(Bx.s4 a2)}||FJ {a2 with s3:=(Bx.s4 a2)}) (cond (Qy.fl a1) (some ((.bool (decide (DW m (Qy.c a1) {a2 with s3:=(Bx.s4 a2)}≤DZ m (Qy.c a1) a2))),[])) (some ((.bool (decide (DZ m (Qy.c a1) {a2 with s3:=(Bx.s4 a2)}≥DW m (Qy.c a1) a2))),[]))) none) (cond (decide (Qy.ft a1=ic 4)) (cond (Bx.emp a2||FJ a2) (cond (Qy.fl a1) (some ((.bool (decide (DW m (Qy.c a1) a2≤DZ m (Qy.c a1) a2))),[])) (some ((.bool (decide (DZ m (Qy.c a1) a2≥DW m (Qy.c a1) a2))),[]))) none) none)))))) (cond (decide (Qy.ft a1=ic 2)) (cond (decide (Sp.lo (Bx.s2 a2)≥Sp.hi (Bx.s4 a2))) (some ((.bool true),[])) (cond (decide (Qy.ft a1=ic 0)) (cond (Bx.emp {a2 with s0:=(Bx.s4 a2)}||FJ {a2 with s0:=(Bx.s4 a2)}) (cond (Qy.fl a1) (some ((.bool (decide (DW m (Qy.c a1) {a2 with s0:=(Bx.s4 a2)}≤DZ m (Qy.c a1) a2))),[])) (some ((.bool (decide (DZ m (Qy.c a1) {a2 with s0:=(Bx.s4 a2)}≥DW m (Qy.c a1) a2))),[]))) none) (cond (decide (Qy.ft a1=ic 1)) (cond (Bx.emp {a2 with s1:=(Bx.s4 a2)}||FJ {a2 with s1:=(Bx.s4 a2)}) (cond (Qy.fl a1) (some ((.bool (decide (DW m (Qy.c a1) {a2 with s1:=(Bx.s4 a2)}≤DZ m (Qy.c a1) a2))),[])) (some ((.bool (decide (DZ m (Qy.c a1) {a2 with s1:=(Bx.s4 a2)}≥DW m (Qy.c a1) a2))),[]))) none) (cond (decide (Qy.ft a1=ic 2)) (cond (Bx.emp {a2 with s2:=(Bx.s4 a2)}||FJ {a2 with s2:=(Bx.s4 a2)}) (cond (Qy.fl a1) (some ((.bool (decide (DW m (Qy.c a1) {a2 with s2:=(Bx.s4 a2)}≤DZ m (Qy.c a1) a2))),[])) (some ((.bool (decide (DZ m (Qy.c a1) {a2 with s2:=(Bx.s4 a2)}≥DW m (Qy.c a1) a2))),[]))) none) (cond (decide (Qy.ft a1=ic 3)) (cond (Bx.emp {a2 with s3:=(Bx.s4 a2)}||FJ {a2 with s3:=(Bx.s4 a2)}) (cond (Qy.fl a1) (some ((.bool (decide (DW m (Qy.c a1) {a2 with s3:=(Bx.s4 a2)}≤DZ m (Qy.c a1) a2))),[])) (some ((.bool (decide (DZ m (Qy.c a1) {a2 with s3:=(Bx.s4 a2)}≥DW m (Qy.c a1) a2))),[]))) none) (cond (decide (Qy.ft a1=ic 4)) (cond (Bx.emp a2||FJ a2) (cond (Qy.fl a1) (some ((.bool (decide (DW m (Qy.c a1) a2≤DZ m (Qy.c a1) a2))),[])) (some ((.bool (decide (DZ m (Qy.c a1) a2≥DW m (Qy.c a1) a2))),[]))) none) none)))))) (cond (decide (Qy.ft a1=ic 3)) (cond (decide (Sp.lo (Bx.s3 a2)≥Sp.hi (Bx.s4 a2))) (some ((.bool true),[])) (cond (decide (Qy.ft a1=ic 0)) (cond (Bx.emp {a2 with s0:=(Bx.s4 a2)}||FJ {a2 with s0:=(Bx.s4 a2)}) (cond (Qy.fl a1) (some ((.bool (decide (DW m (Qy.c a1) {a2 with s0:=(Bx.s4 a2)}≤DZ m (Qy.c a1) a2))),[])) (some ((.bool (decide (DZ m (Qy.c a1) {a2 with s0:=(Bx.s4 a2)}≥DW m (Qy.c a1) a2))),[]))) none) (cond (decide (Qy.ft a1=ic 1)) (cond (Bx.emp {a2 with s1:=(Bx.s4 a2)}||FJ {a2 with s1:=(Bx.s4 a2)}) (cond (Qy.fl a1) (some ((.bool (decide (DW m (Qy.c a1) {a2 with s1:=(Bx.s4 a2)}≤DZ m (Qy.c a1) a2))),[])) (some ((.bool (decide (DZ m (Qy.c a1) {a2 with s1:=(Bx.s4 a2)}≥DW m (Qy.c a1) a2))),[]))) none) (cond (decide (Qy.ft a1=ic 2)) (cond (Bx.emp {a2 with s2:=(Bx.s4 a2)}||FJ {a2 with s2:=(Bx.s4 a2)}) (cond (Qy.fl a1) (some ((.bool (decide (DW m (Qy.c a1) {a2 with s2:=(Bx.s4 a2)}≤DZ m (Qy.c a1) a2))),[])) (some ((.bool (decide (DZ m (Qy.c a1) {a2 with s2:=(Bx.s4 a2)}≥DW m (Qy.c a1) a2))),[]))) none) (cond (decide (Qy.ft a1=ic 3)) (cond (Bx.emp {a2 with s3:=(Bx.s4 a2)}||FJ {a2 with s3:=(Bx.s4 a2)}) (cond (Qy.fl a1) (some ((.bool (decide (DW m (Qy.c a1) {a2 with s3:=(Bx.s4 a2)}≤DZ m (Qy.c a1) a2))),[])) (some ((.bool (decide (DZ m (Qy.c a1) {a2 with s3:=(Bx.s4 a2)}≥DW m (Qy.c a1) a2))),[]))) none) (cond (decide (Qy.ft a1=ic 4)) (cond (Bx.emp a2||FJ a2) (cond (Qy.fl a1) (some ((.bool (decide (DW m (Qy.c a1) a2≤DZ m (Qy.c a1) a2))),[])) (some ((.bool (decide (DZ m (Qy.c a1) a2≥DW m (Qy.c a1) a2))),[]))) none) none)))))) (cond (decide (Qy.ft a1=ic 4)) (cond (decide (Sp.lo (Bx.s4 a2)≥Sp.hi (Bx.s4 a2))) (some ((.bool true),[])) (cond (decide (Qy.ft a1=ic 0)) (cond (Bx.emp {a2 with s0:=(Bx.s4 a2)}||FJ {a2 with s0:=(Bx.s4 a2)}) (cond (Qy.fl a1) (some ((.bool (decide (DW m (Qy.c a1) {a2 with s0:=(Bx.s4 a2)}≤DZ m (Qy.c a1) a2))),[])) (some ((.bool (decide (DZ m (Qy.c a1) {a2 with s0:=(Bx.s4 a2)}≥DW m (Qy.c a1) a2))),[]))) none) (cond (decide (Qy.ft a1=ic 1)) (cond (Bx.emp {a2 with s1:=(Bx.s4 a2)}||FJ {a2 with s1:=(Bx.s4 a2)}) (cond (Qy.fl a1) (some ((.bool (decide (DW m (Qy.c a1) {a2 with s1:=(Bx.s4 a2)}≤DZ m (Qy.c a1) a2))),[])) (some ((.bool (decide (DZ m (Qy.c a1) {a2 with s1:=(Bx.s4 a2)}≥DW m (Qy.c a1) a2))),[]))) none) (cond (decide (Qy.ft a1=ic 2)) (cond (Bx.emp {a2 with s2:=(Bx.s4 a2)}||FJ {a2 with s2:=(Bx.s4 a2)}) (cond (Qy.fl a1) (some ((.bool (decide (DW m (Qy.c a1) {a2 with s2:=(Bx.s4 a2)}≤DZ m (Qy.c a1) a2))),[])) (some ((.bool (decide (DZ m (Qy.c a1) {a2 with s2:=(Bx.s4 a2)}≥DW m (Qy.c a1) a2))),[]))) none) (cond (decide (Qy.ft a1=ic 3)) (cond (Bx.emp {a2 with s3:=(Bx.s4 a2)}||FJ {a2 with s3:=(Bx.s4 a2)}) (cond (Qy.fl a1) (some ((.bool (decide (DW m (Qy.c a1) {a2 with s3:=(Bx.s4 a2)}≤DZ m (Qy.c a1) a2))),[])) (some ((.bool (decide (DZ m (Qy.c a1) {a2 with s3:=(Bx.s4 a2)}≥DW m (Qy.c a1) a2))),[]))) none) (cond (decide (Qy.ft a1=ic 4)) (cond (Bx.emp a2||FJ a2) (cond (Qy.fl a1) (some ((.bool (decide (DW m (Qy.c a1) a2≤DZ m (Qy.c a1) a2))),[])) (some ((.bool (decide (DZ m (Qy.c a1) a2≥DW m (Qy.c a1) a2))),[]))) none) none)))))) none))))))) none)):=by kernel_rfl
theorem Hl (N:Nat) (m:Md) (a1:Qy) (a2:Bx) (b6:Bool) (x7 x42 x43:Int) (again:St→DG) (k:Out→St→DG):E4 (KV N) (DD M0 [1,1,1,0,1,0,1,1,1,0,0,1,0,0]) (RL m a1 a2 b6 x7 x42 x43) (EH again ⟨[3,4,5,6,7,42,43],[3,4,5],[]⟩ k)=(cond (decide (x43 < x42)) (cond (Bx.emp a2||FJ a2) (cond (x43 != Qy.c a1) (cond (decide (DW m x43 a2≥x7)) (k .ret (RL m a1 a2 false x7 x42 x43)) (again (RL m a1 a2 b6 x7 x42 (AA AB (x43+1))))) (again (RL m a1 a2 b6 x7 x42 (AA AB (x43+1))))) none) (k (.exit 1) (RL m a1 a2 b6 x7 x42 x43))):=by kernel_rfl
theorem Sc (N:Nat) (m:Md) (a1:Qy) (a2:Bx) (b6:Bool) (x7 x42 x43:Int):(DI 1 (DJ (KV N) (DD M0 [1,1,1,0,1,0,1,1,1,0,1]) (DI 0 (DJ (KV N) (DD M0 [1,1,1,1]) (DL (KV N) none [.tmp 6] [[.bool]]))))) (.exit 1) (RL m a1 a2 b6 x7 x42 x43)=(some ((.bool true),[])):=by kernel_rfl
theorem Sd (N:Nat) (m:Md) (a1:Qy) (a2:Bx) (b6:Bool) (x7 x42 x43:Int):(DI 1 (DJ (KV N) (DD M0 [1,1,1,0,1,0,1,1,1,0,1]) (DI 0 (DJ (KV N) (DD M0 [1,1,1,1]) (DL (KV N) none [.tmp 6] [[.bool]]))))) .ret (RL m a1 a2 b6 x7 x42 x43)=(some ((.bool b6),[])):=by kernel_rfl
def I5 (N:Nat):Env:=DV [(44,ZE),(43,ZN),(42,aK),(45,UE),(41,MX),(27,QM)] [(8,⟨[3,4,6,9,29,30,31],[3,4],[]⟩)] 59 N
abbrev RK (m:Md) (q:Qy) (b6 b9:Bool) (l29:LI) (x30 x31:Int):St:=⟨[(3,(.ptr 3 0 0)),(4,(.ptr 4 0 0)),(6,(.bool b6)),(9,(.bool b9)),(29,(.list true EZ l29)),(30,(.i x30)),(31,(.i x31))],[(3,(some (.box (Md.cs m)))),(4,(some (.box (Qy.cs q))))]⟩
theorem za2 (N:Nat) (m:Md) (q:Qy) (v:Vd):DQ (I5 N) K0 [.tmp 6] [[.bool]] [(Md.V m),(Qy.V q),(Vd.V v)]=(cond (!EU m q) (some ((.bool false),[])) (cond (Vd.kind v==1) (cond (Option.isSome (JC (EE q) (Vd.proof v))) (DR (I5 N) (DD K0 [1,1,1,0,1,0,1,0,1,0,1,0,0]) ⟨[3,4,6,9,29,30,31],[3,4],[]⟩ N (RK m q false true (Option.getD (JC (EE q) (Vd.proof v)) []) (ic (AE (Option.getD (JC (EE q) (Vd.proof v)) []))) 0) (DI 1 (DJ (I5 N) (DD K0 [1,1,1,0,1,0,1,0,1,1]) (DI 0 (DJ (I5 N) (DD K0 [1,1,1,1]) (DL (I5 N) none [.tmp 6] [[.bool]])))))) (DR (I5 N) (DD K0 [1,1,1,0,1,0,1,0,1,0,1,0,0]) ⟨[3,4,6,9,29,30,31],[3,4],[]⟩ N (RK m q false false [] (ic 0) 0) (DI 1 (DJ (I5 N) (DD K0 [1,1,1,0,1,0,1,0,1,1]) (DI 0 (DJ (I5 N) (DD K0 [1,1,1,1]) (DL (I5 N) none [.tmp 6] [[.bool]]))))))) (cond (Vd.kind v==2) (cond (Bx.has (EE q) {p0:=Vd.w0 v,p1:=Vd.w1 v,p2:=Vd.w2 v,p3:=Vd.w3 v} (Vd.twin v)) (some ((.bool (FO m q {p0:=Vd.w0 v,p1:=Vd.w1 v,p2:=Vd.w2 v,p3:=Vd.w3 v} (Vd.twin v))),[])) (some ((.bool false),[]))) (some ((.bool false),[]))))):=by kernel_rfl
theorem qN (N:Nat) (m:Md) (q:Qy) (b6 b9:Bool) (l29:LI) (x30 x31:Int) (again:St→DG) (k:Out→St→DG):E4 (I5 N) (DD K0 [1,1,1,0,1,0,1,0,1,0,1,0,0]) (RK m q b6 b9 l29 x30 x31) (EH again ⟨[3,4,6,9,29,30,31],[3,4],[]⟩ k)=(cond (decide (x31 < x30)) (cond (decide (0≤x31)&&decide (x31 < ic (AE l29))) (cond (EU m q&&(Bx.emp (DN (AI l29 (AD x31) default))||FJ (DN (AI l29 (AD x31) default)))) (cond (!FS m q (DN (AI l29 (AD x31) default))) (k .ret (RK m q false b9 l29 x30 x31)) (again (RK m q b6 b9 l29 x30 (AA AB (x31+1))))) none) none) (k (.exit 1) (RK m q b6 b9 l29 x30 x31))):=by kernel_rfl
theorem xT (N:Nat) (m:Md) (q:Qy) (b6 b9:Bool) (l29:LI) (x30 x31:Int):(DI 1 (DJ (I5 N) (DD K0 [1,1,1,0,1,0,1,0,1,1]) (DI 0 (DJ (I5 N) (DD K0 [1,1,1,1]) (DL (I5 N) none [.tmp 6] [[.bool]]))))) (.exit 1) (RK m q b6 b9 l29 x30 x31)=(some ((.bool b9),[])):=by kernel_rfl
theorem Sa (N:Nat) (m:Md) (q:Qy) (b6 b9:Bool) (l29:LI) (x30 x31:Int):(DI 1 (DJ (I5 N) (DD K0 [1,1,1,0,1,0,1,0,1,1]) (DI 0 (DJ (I5 N) (DD K0 [1,1,1,1]) (DL (I5 N) none [.tmp 6] [[.bool]]))))) .ret (RK m q b6 b9 l29 x30 x31)=(some ((.bool b6),[])):=by kernel_rfl
open Go Go.Proofs
theorem zfa:DO PR B0 145 aM:=by
 refine DX [] [] aM [[.bool]] Tryz.func145 Xz trivial ?_;intro vs r hwf h;unfold aM at h;split at h
 ·rename_i s p a;rw [R.get_ok] at h;refine ⟨0,(zbW 0 s p a).trans ?_⟩;rw [← h];unfold NB;show _=some (V.bool (cond s (p==0&&a==0) (decide (0≤p)&&decide (p≤4))),[]);cases s with
  | true=>
   simp only [CT,CR];rfl
  | false=>
   simp only [CG];by_cases hp:0≤p
   ·rw [AF (show p≥0 from hp)]; rfl
   ·rw [AL (show ¬ p≥0 from hp)]; rfl
 ·simp [R.get] at h
def Qz (o:Option (Int × Int)):Int:=match o with
 | some st=>cond (!(st.1==0)||decide (st.2 > 200)) 0 st.2
 | none=>0
theorem mB (N:Nat) (l:LI) (K:Out→St→DG) (hl:l.length≤65536)
  (hx:∀ x2 x3 x4 x11 x12,K (.exit 0) ⟨[(2,(.int .i64 x2)),(3,(.int .i64 x3)),(4,(.int .i64 x4)),(10,(.list true ES l)),(11,(.int .i64 x11)),(12,(.int .i64 x12))],[]⟩=cond (x3 != 0) (some ((.int .i64 0),[])) (cond (decide (x4 > 200)) (some ((.int .i64 0),[])) (some ((.int .i64 x4),[]))))
  (hr:∀ x2 x3 x4 x11 x12,K .ret ⟨[(2,(.int .i64 x2)),(3,(.int .i64 x3)),(4,(.int .i64 x4)),(10,(.list true ES l)),(11,(.int .i64 x11)),(12,(.int .i64 x12))],[]⟩=some (.int .i64 x2,[])) :
  ∀ (d i n:Nat) (left most:Int),i+d=l.length→d < n→0≤left→left≤i+1 →
   DR (PB N) (DD SB [1,1,1,0,1,0,0]) ⟨[2,3,4,10,11,12],[],[]⟩ n ⟨[(2,(.int .i64 0)),(3,(.int .i64 left)),(4,(.int .i64 most)),(10,(.list true ES l)),(11,(.int .i64 (ic l.length))),(12,(.int .i64 (i:Int)))],[]⟩ K=some (.int .i64 (Qz (JP (l.drop i) (left,most))),[])
 | d,i,0,_,_,_,h,_,_=>absurd h (by omega)
 | 0,i,n+1,left,most,hd,_,_,_=>by
  rw [DY,Ig,IW (by omega),DC,hx,C4 (by omega)];show _=some (V.int .i64 (cond (!(left==0)||decide (most > 200)) 0 most),[])
  have:(left != 0)=!(left==0):=rfl
  rw [this];cases left==0 <;> cases decide (most > 200) <;> rfl
 | d+1,i,n+1,left,most,hd,hn,h0,h1=>by
  have hi:i < l.length:=by omega
  rw [DY,Ig,IG hi,DB,IF,BH,DB,GV (by omega),I9 hi,A7 hi,JP];unfold MG;have er:NB (MS (IV.toBool (IV.cell l[i] 0)) (IV.toInt (IV.cell l[i] 1)) (IV.toInt (IV.cell l[i] 2)))=NB l[i]:=rfl;have es:IV.toBool (IV.cell l[i] 0)=H5 l[i]:=rfl;rw [er,es];generalize l[i]=x;cases hz:(left==0) with
  | true=>rw [DB,hr]; rfl
  | false=>
   have hne:left≠0:=by simpa using hz
   rw [DC];cases NB x with
   | false=>rw [A9,DB,hr]; rfl
   | true=>
    rw [A1,DC,Bool.or_false,DC];cases H5 x with
    | true=>
     rw [DB,DB,show AA AB (left - 1)=left - 1 from EA (by omega) (by omega)];exact mB N l K hl hx hr d (i+1) n (left - 1) most (by omega) (by omega) (by omega) (by omega)
    | false=>
     rw [DC,DC,show AA AB (left+1)=left+1 from EA (by omega) (by omega)];exact mB N l K hl hx hr d (i+1) n (left+1) _ (by omega) (by omega) (by omega) (by omega)
theorem ze9:DO PR B0 107 aL:=by
 refine DX [(145,aM)] [(5,⟨[2,3,4,10,11,12],[],[]⟩)] aL [[.z]] Tryz.func107 Xy ⟨zfa,trivial⟩ ?_;intro vs r hwf h;unfold aL at h;split at h
 ·rename_i l;rw [R.get_ok] at h;refine ⟨l.length+1,(zbV (l.length+1) l).trans ?_⟩;rw [← h];unfold JO;by_cases hl:l.length≤65536
  ·rw [AL (show ¬ ic l.length > 65536 by simp only [ic]; omega),DC,DC]
   have:=mB (l.length+1) l _ hl (fun x2 x3 x4 x11 x12=>Tf (l.length+1) x2 x3 x4 l x11 x12) (fun x2 x3 x4 x11 x12=>Tg (l.length+1) x2 x3 x4 l x11 x12) l.length 0 (l.length+1) 1 1 (by omega) (by omega) (by omega) (by omega)
   rw [B1] at this;exact this
  ·rw [AF (show ic l.length > 65536 by simp only [ic]; omega)];rfl
 ·simp [R.get] at h
theorem ze7:DO PR B0 70 aJ:=by
 refine DX [(107,aL)] [] aJ [[.bool]] Tryz.func70 Xw ⟨ze9,trivial⟩ ?_;intro vs r hwf h;unfold aJ at h;split at h
 ·rename_i l;rw [R.get_ok] at h;exact ⟨0,(zbU 0 l).trans h⟩
 ·simp [R.get] at h
theorem zbB (b:Bx) (p:Pt) (t:Int):DQ (Kz 6) tQ [.tmp 6] [[.bool]] [b.V,p.V,.int .i64 t] =
 cond (!b.s0.has p.p0) (some (.bool false,[])) (cond (!b.s1.has p.p1) (some (.bool false,[])) (cond (!b.s2.has p.p2) (some (.bool false,[])) (cond (!b.s3.has p.p3) (some (.bool false,[])) (some (.bool (b.s4.has t),[]))))):=by kernel_rfl
theorem zem:DO PR B0 44 ZE:=by
 refine DX [(72,UH)] [(2,⟨[2,3,6,9,10],[3],[]⟩)] ZE [[.bool]] Tryz.func44 Vm ⟨Ge,trivial⟩ ?_;intro vs r hwf h;unfold ZE at h;split at h
 ·rename_i b p t;replace h:=HK h;obtain ⟨b,rfl,h⟩:=h;replace h:=WJ h;obtain ⟨p,rfl,h⟩:=h;rw [R.get_ok] at h;refine ⟨6,(zbB b p t).trans ?_⟩;rw [← h];unfold Bx.has;cases b.s0.has p.p0 <;> cases b.s1.has p.p1 <;> cases b.s2.has p.p2 <;> cases b.s3.has p.p3 <;> rfl
 ·simp [R.get] at h
open Go
theorem IL {s:Sp} {n:Int}:s.has n=true↔s.lo≤n∧n≤s.hi:=by
 unfold Sp.has;rw [AG,AP,AP]
theorem zfx {s:Sp}:s.emp=false↔s.lo≤s.hi:=by
 unfold Sp.emp;rw [BL];omega
theorem qH {lo hi n:Int}:(JV lo hi).has n=true↔lo≤n∧n≤hi:=by
 unfold JV;cases hd:decide (lo > hi) with
 | true=>
  have:=AY hd
  rw [DB,IL];show (1:Int)≤n∧n≤0↔_;omega
 | false=>rw [DC,IL]
theorem lX {s:Sp} {a n:Int}:(s.cutL a).has n=true↔s.has n=true∧n≤a:=by
 unfold Sp.cutL;rw [qH,IL];omega
theorem lV {s:Sp} {a n:Int} (ha : -9223372036854775808≤a) (hs:s.hi≤9223372036854775807):(s.cutH a).has n=true↔s.has n=true∧a < n:=by
 unfold Sp.cutH;cases hd:decide (a≥s.hi) with
 | true=>
  have:=AY hd
  rw [DB,IL,IL];show (1:Int)≤n∧n≤0↔_;omega
 | false=>
  have:=BE hd
  have e:FC (a+1)=a+1:=EA (by omega) (by omega);rw [DC,qH,IL,e];omega
theorem nZ {s u:Sp} {n:Int}:(s.meet u).has n=true↔s.has n=true∧u.has n=true:=by
 unfold Sp.meet;rw [qH,IL,IL];omega
def co (p:Pt) (t:Int):Nat→Int
 | 0=>p.p0
 | 1=>p.p1
 | 2=>p.p2
 | 3=>p.p3
 | _=>t
theorem JL {b:Bx} {p:Pt} {t:Int}:b.has p t=true↔∀ i,i < 5→(b.g i).has (co p t i)=true:=by
 unfold Bx.has;simp only [AG];constructor
 ·rintro ⟨h0,h1,h2,h3,h4⟩ i hi
  match i,hi with
  | 0,_=>exact h0
  | 1,_=>exact h1
  | 2,_=>exact h2
  | 3,_=>exact h3
  | 4,_=>exact h4
  | i+5,h=>exact absurd h (by omega)
 ·intro h;exact ⟨h 0 (by omega),h 1 (by omega),h 2 (by omega),h 3 (by omega),h 4 (by omega)⟩
theorem lG {b:Bx}:b.emp=false↔∀ i,i < 5→(b.g i).lo≤(b.g i).hi:=by
 unfold Bx.emp;simp only [C2,zfx];constructor
 ·rintro ⟨h0,h1,h2,h3,h4⟩ i hi
  match i,hi with
  | 0,_=>exact h0
  | 1,_=>exact h1
  | 2,_=>exact h2
  | 3,_=>exact h3
  | 4,_=>exact h4
  | i+5,h=>exact absurd h (by omega)
 ·intro h;exact ⟨h 0 (by omega),h 1 (by omega),h 2 (by omega),h 3 (by omega),h 4 (by omega)⟩
theorem JK (b:Bx) (s:Sp):∀ {i j:Nat},i < 5→j < 5→(b.p s i).g j=if j=i then s else b.g j
 | 0,0,_,_=>rfl
 | 0,1,_,_=>rfl
 | 0,2,_,_=>rfl
 | 0,3,_,_=>rfl
 | 0,4,_,_=>rfl
 | 1,0,_,_=>rfl
 | 1,1,_,_=>rfl
 | 1,2,_,_=>rfl
 | 1,3,_,_=>rfl
 | 1,4,_,_=>rfl
 | 2,0,_,_=>rfl
 | 2,1,_,_=>rfl
 | 2,2,_,_=>rfl
 | 2,3,_,_=>rfl
 | 2,4,_,_=>rfl
 | 3,0,_,_=>rfl
 | 3,1,_,_=>rfl
 | 3,2,_,_=>rfl
 | 3,3,_,_=>rfl
 | 3,4,_,_=>rfl
 | 4,0,_,_=>rfl
 | 4,1,_,_=>rfl
 | 4,2,_,_=>rfl
 | 4,3,_,_=>rfl
 | 4,4,_,_=>rfl
 | i+5,_,h,_=>absurd h (by omega)
 | _,j+5,_,h=>absurd h (by omega)
def Bx.ok (b:Bx):Prop:=∀ i,i < 5→(b.g i).hi≤2147483647
theorem LP (b:Bx) (h:b.emp=false):b.has b.low b.s4.hi=true:=by
 rw [lG] at h;rw [JL];intro i hi;rw [IL]
 have:=h i hi
 match i,hi with
 | 0,_=>exact ⟨CF _,this⟩
 | 1,_=>exact ⟨CF _,this⟩
 | 2,_=>exact ⟨CF _,this⟩
 | 3,_=>exact ⟨CF _,this⟩
 | 4,_=>exact ⟨this,CF _⟩
 | i+5,h=>exact absurd h (by omega)
theorem R5 {b:Bx} {p:Pt} {t:Int} (h:b.has p t=true):b.emp=false:=by
 rw [JL] at h;rw [lG];intro i hi
 have:=IL.1 (h i hi)
 omega
theorem XA {b:Bx} {i:Nat} (hi:i < 5) {a:Int} {p:Pt} {t:Int}:(b.cutL (i:Int) a).has p t=true↔b.has p t=true∧co p t i≤a:=by
 unfold Bx.cutL;rw [BC,JL,JL];constructor
 ·intro h;refine ⟨fun j hj=>?_,?_⟩
  ·have:=h j hj
   rw [JK b _ hi hj] at this;by_cases e:j=i
   ·rw [BJ e,lX] at this;rw [e] at this ⊢;exact this.1
   ·rw [A2 e] at this;exact this
  ·have:=h i hi
   rw [JK b _ hi hi,BJ rfl,lX] at this;exact this.2
 ·rintro ⟨h,ha⟩ j hj;rw [JK b _ hi hj];by_cases e:j=i
  ·rw [BJ e,lX,e];exact ⟨h i hi,ha⟩
  ·rw [A2 e];exact h j hj
theorem W9 {b:Bx} (hb:b.ok) {i:Nat} (hi:i < 5) {a:Int} (ha : -2147483648≤a) {p:Pt} {t:Int}:(b.cutH (i:Int) a).has p t=true↔b.has p t=true∧a < co p t i:=by
 have hs:=hb i hi;unfold Bx.cutH;rw [BC,JL,JL];constructor
 ·intro h;refine ⟨fun j hj=>?_,?_⟩
  ·have:=h j hj
   rw [JK b _ hi hj] at this;by_cases e:j=i
   ·rw [BJ e,lV (by omega) (by omega)] at this;rw [e] at this ⊢;exact this.1
   ·rw [A2 e] at this;exact this
  ·have:=h i hi
   rw [JK b _ hi hi,BJ rfl,lV (by omega) (by omega)] at this;exact this.2
 ·rintro ⟨h,ha'⟩ j hj;rw [JK b _ hi hj];by_cases e:j=i
  ·rw [BJ e,lV (by omega) (by omega),e];exact ⟨h i hi,ha'⟩
  ·rw [A2 e];exact h j hj
theorem qI {lo hi:Int} (h:hi≤2147483647):(JV lo hi).hi≤2147483647:=by
 unfold JV;cases decide (lo > hi) with
 | true=>rw [DB]; show (0:Int)≤_; omega
 | false=>exact h
theorem cY {b:Bx} (hb:b.ok) {s:Sp} (hs:s.hi≤2147483647) {i:Nat} (hi:i < 5):(b.p s i).ok:=by
 intro j hj;rw [JK b _ hi hj];split
 ·exact hs
 ·exact hb j hj
theorem wZ {b:Bx} (hb:b.ok) {i:Nat} (hi:i < 5) (a:Int):(b.cutL (i:Int) a).ok:=by
 unfold Bx.cutL;rw [BC];refine cY hb ?_ hi;unfold Sp.cutL;exact qI (by have:=hb i hi; omega)
theorem wX {b:Bx} (hb:b.ok) {i:Nat} (hi:i < 5) (a:Int):(b.cutH (i:Int) a).ok:=by
 unfold Bx.cutH;rw [BC];refine cY hb ?_ hi;unfold Sp.cutH;cases decide (a≥(b.g i).hi) with
 | true=>rw [DB]; show (0:Int)≤_; omega
 | false=>exact qI (hb i hi)
theorem F8 (b:Bx):DN b.I=b:=rfl
theorem bO (p:Pt) (t:Int):∀ {i:Nat},i < 4→co p t i=p.g i
 | 0,_=>rfl
 | 1,_=>rfl
 | 2,_=>rfl
 | 3,_=>rfl
 | i+4,h=>absurd h (by omega)
abbrev nd (l:LI) (i:Nat):Nd:=DE (l.getD i default).toInt
def VN (l:LI) (k j:Nat):Prop:=(nd l k).lf=false∧((nd l k).l=(j:Int)∨(nd l k).r=(j:Int))
structure TreeOK (l:LI):Prop where
 len:1≤l.length∧l.length≤31
 node:∀ k,k < l.length→GA (l.getD k default).toInt=true
 fork:∀ k,k < l.length→(nd l k).lf=false→(0≤(nd l k).f∧(nd l k).f < 4)∧EY (nd l k).a=true∧((k:Int) < (nd l k).l∧(nd l k).l < ic l.length)∧((k:Int) < (nd l k).r∧(nd l k).r < ic l.length)∧(nd l k).l≠(nd l k).r
 parent:∀ j,1≤j→j < l.length→∃ k,k < l.length∧VN l k j
 alone:∀ j k k',1≤j→j < l.length→k < l.length→k' < l.length→VN l k j→VN l k' j→k=k'
theorem zfP {l:List Nat}:∀ {k a:Nat},l[k]?=some a→a≤l.sum:=by
 induction l with
 | nil=>intro k a h; simp at h
 | cons x r ih=>
  intro k a h;cases k with
  | zero=>simp at h; simp; omega
  | succ k=>have:=ih (k:=k) (a:=a) (by simpa using h); simp; omega
theorem Jc {l:List Nat}:∀ {k k' a b:Nat},k < k'→l[k]?=some a→l[k']?=some b→a+b≤l.sum:=by
 induction l with
 | nil=>intro k k' a b _ h; simp at h
 | cons x r ih=>
  intro k k' a b hk h h';cases k with
  | zero=>
   cases k' with
   | zero=>omega
   | succ k'=>
    have:=zfP (l:=r) (k:=k') (a:=b) (by simpa using h')
    simp at h;simp;omega
  | succ k=>
   cases k' with
   | zero=>omega
   | succ k'=>
    have:=ih (k:=k) (k':=k') (a:=a) (b:=b) (by omega) (by simpa using h) (by simpa using h')
    simp;omega
theorem zfR {l:List Nat}:0 < l.sum→∃ (k a:Nat),l[k]?=some a∧0 < a:=by
 induction l with
 | nil=>intro h; simp at h
 | cons x r ih=>
  intro h;by_cases hx:0 < x
  ·exact ⟨0,x,rfl,hx⟩
  ·obtain ⟨k,a,hk,ha⟩:=ih (by simp at h; omega);exact ⟨k+1,a,by simpa using hk,ha⟩
theorem oC {x:Nd} {j:Nat}:0 < KH x j↔x.lf=false∧(x.l=(j:Int)∨x.r=(j:Int)):=by
 unfold KH;cases x.lf with
 | true=>simp
 | false=>
  rw [DC];by_cases h1:x.l=(j:Int) <;> by_cases h2:x.r=(j:Int) <;> simp [h1,h2]
theorem XK {l:LI} {k:Nat} (h:k < l.length):l.getD k default=l[k]:=by simp [h]
theorem j8 {l:LI} (h:FY l 4=true):TreeOK l:=by
 have key:∀ {dim n:Int} {l:LI} {i k:Nat} (hk:k < l.length),KI dim n i l=true→GA (l[k]).toInt=true∧M4 dim n (i+k) (DE (l[k]).toInt)=true:=by
  intro dim n l
  induction l with
  | nil=>intro i k hk; exact absurd hk (Nat.not_lt_zero k)
  | cons w r ih=>
   intro i k hk h;rw [KI] at h;simp only [AG] at h;cases k with
   | zero=>exact h.1
   | succ k=>
    have:=ih (k:=k) (by simpa using hk) h.2
    rw [show i+1+k=i+(k+1) by omega] at this;exact this
 unfold FY at h;simp only [AG] at h;obtain ⟨⟨h1,h31⟩,hn,ho⟩:=h;have hlen:=AN h1;have once:∀ j,1≤j→j < l.length→H2 l j=1:=fun j hj hjl=>by
  unfold XY at ho;rw [CN] at ho
  have:=ho (j - 1) (vbg.2 (by omega))
  rw [show j - 1+1=j by omega] at this;simpa using this
 have at_:∀ k (hk:k < l.length) j,(l.map fun w=>KH (DE w.toInt) j)[k]?=some (KH (nd l k) j):=fun k hk j=>by
  rw [B8,A5 hk];unfold nd;rw [XK hk];rfl
 refine ⟨⟨hlen,AN h31⟩,fun k hk=>by rw [XK hk]; exact (key hk hn).1,fun k hk hl=>?_,fun j hj hjl=>?_,fun j k k' hj hjl hk hk' hn1 hn2=>?_⟩
 ·have h2:=(key hk hn).2;have h3:=(key hk hn).1;rw [BK] at h2;unfold nd at hl ⊢;rw [XK hk] at hl ⊢;unfold M4 at h2;rw [hl,DC] at h2;simp only [AG,BW,BL,BZ] at h2;obtain ⟨q1,q2,q3,q4⟩:=h2;have hr:=(oG h3).2;unfold NA QV at hr;rw [hl,DC] at hr;simp only [AG,AP] at hr;exact ⟨⟨hr.2.1,hr.2.2.1⟩,hr.2.2.2.1,⟨by omega,by simp only [ic] at q4 ⊢; omega⟩,⟨by omega,by simp only [ic] at q4 ⊢; omega⟩,q2⟩
 ·have h2:=once j hj hjl;unfold H2 at h2;obtain ⟨k,a,hk,ha⟩:=zfR (l:=l.map fun w=>KH (DE w.toInt) j) (by omega);have hkl:k < l.length:=by
   have:=(BQ.1 hk).1
   simpa using this
  rw [at_ k hkl j] at hk;simp only [AC] at hk;subst hk;exact ⟨k,hkl,oC.1 ha⟩
 ·have h2:=once j hj hjl;unfold H2 at h2;have p1:0 < KH (nd l k) j:=oC.2 hn1;have p2:0 < KH (nd l k') j:=oC.2 hn2;rcases Nat.lt_trichotomy k k' with hlt | heq | hlt
  ·have:=Jc hlt (at_ k hk j) (at_ k' hk' j)
   omega
  ·exact heq
  ·have:=Jc hlt (at_ k' hk' j) (at_ k hk j)
   omega
def O4 (l:LI) (p:Pt) (i:Nat):Int:=(H0 l p 31 (i:Int)).2.v
theorem gB {l:LI} (h:TreeOK l) (p:Pt) {i:Nat} (hi:i < l.length) (n:Nat):H0 l p (n+1) (i:Int) =
  cond (nd l i).lf ((i:Int),nd l i) (cond (decide (p.g (nd l i).f.toNat≤(nd l i).a)) (H0 l p n (nd l i).l) (H0 l p n (nd l i).r)):=by
 rw [H0,AL (show ¬ (i:Int)≥ic l.length by simp only [ic]; omega),DC,BC,h.node i hi,A1,DC]
theorem gC {l:LI} (h:TreeOK l) (p:Pt):∀ (n n' i:Nat),i < l.length→l.length - i≤n→l.length - i≤n'→H0 l p n (i:Int)=H0 l p n' (i:Int)
 | 0,_,i,hi,h1,_=>absurd h1 (by omega)
 | _+1,0,i,hi,_,h2=>absurd h2 (by omega)
 | n+1,n'+1,i,hi,h1,h2=>by
  rw [gB h p hi,gB h p hi];cases hl:(nd l i).lf with
  | true=>rfl
  | false=>
   obtain ⟨_,_,⟨a1,a2⟩,⟨b1,b2⟩,_⟩:=h.fork i hi hl;simp only [ic] at a2 b2;rw [DC,DC];cases decide (p.g (nd l i).f.toNat≤(nd l i).a) with
   | true=>
    have e:(nd l i).l=(((nd l i).l.toNat:Nat):Int):=by omega
    rw [DB,DB,e];exact gC h p n n' _ (by omega) (by omega) (by omega)
   | false=>
    have e:(nd l i).r=(((nd l i).r.toNat:Nat):Int):=by omega
    rw [DC,DC,e];exact gC h p n n' _ (by omega) (by omega) (by omega)
theorem Jx {l:LI} (h:TreeOK l) (p:Pt) {i:Nat} (hi:i < l.length) (hl:(nd l i).lf=true):O4 l p i=(nd l i).v:=by
 unfold O4;rw [gB h p hi,hl,DB]
theorem Jw {l:LI} (h:TreeOK l) (p:Pt) {i:Nat} (hi:i < l.length) (hl:(nd l i).lf=false):O4 l p i=O4 l p (cond (decide (p.g (nd l i).f.toNat≤(nd l i).a)) (nd l i).l.toNat (nd l i).r.toNat):=by
 obtain ⟨_,_,⟨a1,a2⟩,⟨b1,b2⟩,_⟩:=h.fork i hi hl;have h31:=h.len.2;simp only [ic] at a2 b2;unfold O4;rw [gB h p hi,hl,DC];cases decide (p.g (nd l i).f.toNat≤(nd l i).a) with
 | true=>
  rw [DB,DB];have e:(nd l i).l=(((nd l i).l.toNat:Nat):Int):=by omega
  rw [e,BC];rw [gC h p 30 31 _ (by omega) (by omega) (by omega)]
 | false=>
  rw [DC,DC];have e:(nd l i).r=(((nd l i).r.toNat:Nat):Int):=by omega
  rw [e,BC];rw [gC h p 30 31 _ (by omega) (by omega) (by omega)]
theorem zgg (l:LI) (p:Pt):GC l p=O4 l p 0:=rfl
abbrev E6 (own:LI) (j:Nat):Bx:=DN (own.getD j default)
def fr (l:LI) (i j:Nat):Prop:=i≤j∧j < l.length∧(j=0∨∃ k,k < i∧VN l k j)
structure PInv (l:LI) (b:Bx) (i:Nat) (own out:LI):Prop where
 len:own.length=l.length
 val:∀ j,fr l i j→∀ p t,(E6 own j).has p t=true→b.has p t=true∧O4 l p 0=O4 l p j
 ok:∀ j,fr l i j→(E6 own j).ok
 all:∀ p t,b.has p t=true→(∃ x∈out,(DN x).has p t=true)∨∃ j,fr l i j∧(E6 own j).has p t=true
 out:∀ x∈out,(DN x).emp=false∧(DN x).ok∧∀ p t,(DN x).has p t=true→b.has p t=true∧GC l p=FF x
theorem gN {l:LI} (h:TreeOK l) {i:Nat} (hi:i < l.length):fr l i i:=by
 refine ⟨AT _,hi,?_⟩;by_cases h0:i=0
 ·exact .inl h0
 ·obtain ⟨k,hk,hn⟩:=h.parent i (by omega) hi;refine .inr ⟨k,?_,hn⟩;obtain ⟨_,_,a,b,_⟩:=h.fork k hk hn.1;rcases hn.2 with e | e <;> omega
theorem YA {own:LI} {a j:Nat} {x:IV} (ha:a < own.length):(own.set a x).getD j default=if j=a then x else own.getD j default:=by
 rw [BO,List.getElem?_set];by_cases e:a=j
 ·subst e;rw [BJ rfl,BJ ha,BJ rfl];rfl
 ·rw [A2 e,A2 (fun h=>e h.symm),← BO]
theorem Ck {l:LI} (h:TreeOK l) {b:Bx} {i:Nat} (hi:i < l.length) {own out:LI} (hp:PInv l b i own out) :
  PInv l b (i+1) (H1 (nd l i) i own) (cond ((nd l i).lf&&!(E6 own i).emp) (out++[ST (E6 own i) (nd l i).v]) out):=by
 have hfi:=gN h hi;cases hl:(nd l i).lf with
 | true=>
  have e1:H1 (nd l i) i own=own:=by unfold H1; rw [hl,DB]
  have hfr:∀ j,fr l (i+1) j→fr l i j:=fun j hj=>by
   refine ⟨by have:=hj.1; omega,hj.2.1,hj.2.2.imp_right ?_⟩;rintro ⟨k,hk,hn⟩;refine ⟨k,?_,hn⟩;rcases vbn.1 hk with h1 | h1
   ·exact h1
   ·subst h1;rw [hn.1] at hl;cases hl
  have hrf:∀ j,fr l i j→j=i∨fr l (i+1) j:=fun j hj=>by
   by_cases e:j=i
   ·exact .inl e
   ·refine .inr ⟨by have:=hj.1; omega,hj.2.1,hj.2.2.imp_right ?_⟩;rintro ⟨k,hk,hn⟩;exact ⟨k,by omega,hn⟩
  rw [e1,BG];have hv:=fun p=>Jx h p hi hl
  cases he:(E6 own i).emp with
  | true=>
   rw [A1,DC];refine ⟨hp.len,fun j hj=>hp.val j (hfr j hj),fun j hj=>hp.ok j (hfr j hj),fun p t hb=>?_,hp.out⟩;rcases hp.all p t hb with h1 | ⟨j,hj,hh⟩
   ·exact .inl h1
   ·rcases hrf j hj with rfl | hj'
    ·rw [R5 hh] at he;cases he
    ·exact .inr ⟨j,hj',hh⟩
  | false=>
   rw [A9,DB];refine ⟨hp.len,fun j hj=>hp.val j (hfr j hj),fun j hj=>hp.ok j (hfr j hj),fun p t hb=>?_,fun x hx=>?_⟩
   ·rcases hp.all p t hb with ⟨x,hx,hh⟩ | ⟨j,hj,hh⟩
    ·exact .inl ⟨x,AV.2 (.inl hx),hh⟩
    ·rcases hrf j hj with rfl | hj'
     ·exact .inl ⟨_,AV.2 (.inr (A4.2 rfl)),hh⟩
     ·exact .inr ⟨j,hj',hh⟩
   ·rcases AV.1 hx with hx | hx
    ·exact hp.out x hx
    ·obtain rfl:=A4.1 hx;refine ⟨he,hp.ok i hfi,fun p t hh=>?_⟩;obtain ⟨q1,q2⟩:=hp.val i hfi p t hh;refine ⟨q1,?_⟩;rw [zgg,q2,hv p];rfl
 | false=>
  obtain ⟨⟨f0,f4⟩,ha,⟨a1,a2⟩,⟨b1,b2⟩,hne⟩:=h.fork i hi hl;simp only [ic] at a2 b2;have ef:(nd l i).f=(((nd l i).f.toNat:Nat):Int):=by omega
  have hf5:(nd l i).f.toNat < 5:=by omega
  have e1:H1 (nd l i) i own=(own.set (nd l i).l.toNat ((E6 own i).cutL (nd l i).f (nd l i).a).I).set (nd l i).r.toNat ((E6 own i).cutH (nd l i).f (nd l i).a).I:=by unfold H1; rw [hl,DC]
  have hlen:=hp.len;have at_:∀ j,(H1 (nd l i) i own).getD j default=if j=(nd l i).r.toNat then ((E6 own i).cutH (nd l i).f (nd l i).a).I else if j=(nd l i).l.toNat then ((E6 own i).cutL (nd l i).f (nd l i).a).I else own.getD j default:=fun j=>by
   rw [e1,YA (by rw [vas]; omega)];congr 1;rw [YA (by omega)]
  have fits : -2147483648≤(nd l i).a∧(nd l i).a≤2147483647:=by
   unfold EY at ha;simpa only [AG,AP] using ha
  have hok:=hp.ok i hfi;have cl:∀ p t,((E6 own i).cutL (nd l i).f (nd l i).a).has p t=true↔(E6 own i).has p t=true∧p.g (nd l i).f.toNat≤(nd l i).a:=fun p t=>by
   have:=XA (b:=E6 own i) hf5 (a:=(nd l i).a) (p:=p) (t:=t)
   rw [← ef,bO p t (by omega)] at this;exact this
  have ch:∀ p t,((E6 own i).cutH (nd l i).f (nd l i).a).has p t=true↔(E6 own i).has p t=true∧(nd l i).a < p.g (nd l i).f.toNat:=fun p t=>by
   have:=W9 hok hf5 (a:=(nd l i).a) fits.1 (p:=p) (t:=t)
   rw [← ef,bO p t (by omega)] at this;exact this
  have nl:VN l i (nd l i).l.toNat:=⟨hl,.inl (by omega)⟩;have nr:VN l i (nd l i).r.toNat:=⟨hl,.inr (by omega)⟩;have hfr:∀ j,fr l (i+1) j→j≠(nd l i).l.toNat→j≠(nd l i).r.toNat→fr l i j:=fun j hj h1 h2=>by
   refine ⟨by have:=hj.1; omega,hj.2.1,hj.2.2.imp_right ?_⟩;rintro ⟨k,hk,hn⟩;refine ⟨k,?_,hn⟩;rcases vbn.1 hk with h3 | h3
   ·exact h3
   ·subst h3;rcases hn.2 with e | e
    ·exact absurd (by omega) h1
    ·exact absurd (by omega) h2
  have hnot:∀ j,VN l i j→¬ fr l i j:=fun j hn hj=>by
   obtain ⟨h1,h2,h3⟩:=hj;have hj0:1≤j:=by rcases hn.2 with e | e <;> omega
   rcases h3 with h3 | ⟨k,hk,hk2⟩
   ·omega
   ·have:=h.alone j k i hj0 h2 (by omega) hi hk2 hn
    omega
  have fl:fr l (i+1) (nd l i).l.toNat:=⟨by omega,by omega,.inr ⟨i,by omega,nl⟩⟩;have frr:fr l (i+1) (nd l i).r.toNat:=⟨by omega,by omega,.inr ⟨i,by omega,nr⟩⟩;have hup:∀ j,fr l i j→j≠i→fr l (i+1) j:=fun j hj e=>by
   refine ⟨by have:=hj.1; omega,hj.2.1,hj.2.2.imp_right ?_⟩;rintro ⟨k,hk,hn⟩;exact ⟨k,by omega,hn⟩
  have hvf:=fun p=>Jw h p hi hl
  rw [BX,DC];refine ⟨by rw [e1,vas,vas]; exact hp.len,fun j hj p t hh=>?_,fun j hj=>?_,fun p t hb=>?_,hp.out⟩
  ·unfold E6 at hh;rw [at_] at hh;by_cases hr:j=(nd l i).r.toNat
   ·rw [BJ hr,F8,ch] at hh;obtain ⟨q1,q2⟩:=hp.val i hfi p t hh.1;refine ⟨q1,?_⟩;rw [q2,hvf p,AL (by omega),DC,hr]
   ·rw [A2 hr] at hh;by_cases hlj:j=(nd l i).l.toNat
    ·rw [BJ hlj,F8,cl] at hh;obtain ⟨q1,q2⟩:=hp.val i hfi p t hh.1;refine ⟨q1,?_⟩;rw [q2,hvf p,AF hh.2,DB,hlj]
    ·rw [A2 hlj] at hh;exact hp.val j (hfr j hj hlj hr) p t hh
  ·unfold E6;rw [at_];by_cases hr:j=(nd l i).r.toNat
   ·rw [BJ hr,F8,ef];exact wX hok hf5 _
   ·rw [A2 hr];by_cases hlj:j=(nd l i).l.toNat
    ·rw [BJ hlj,F8,ef];exact wZ hok hf5 _
    ·rw [A2 hlj];exact hp.ok j (hfr j hj hlj hr)
  ·rcases hp.all p t hb with h1 | ⟨j,hj,hh⟩
   ·exact .inl h1
   ·refine .inr ?_;by_cases e:j=i
    ·subst e;by_cases hd:p.g (nd l j).f.toNat≤(nd l j).a
     ·refine ⟨_,fl,?_⟩;unfold E6;rw [at_,A2 (by omega),BJ rfl,F8,cl];exact ⟨hh,hd⟩
     ·refine ⟨_,frr,?_⟩;unfold E6;rw [at_,BJ rfl,F8,ch];exact ⟨hh,by omega⟩
    ·refine ⟨j,hup j hj e,?_⟩;unfold E6;rw [at_,A2 (fun (er:j=(nd l i).r.toNat)=>hnot j (er ▸ nr) hj),A2 (fun (er:j=(nd l i).l.toNat)=>hnot j (er ▸ nl) hj)];exact hh
theorem Cj {l:LI} (h:TreeOK l) {b:Bx}:∀ (m i:Nat) (own out:LI),i+m=l.length→PInv l b i own out→∃ own',PInv l b l.length own' (KG (l.drop i) i own out)
 | 0,i,own,out,hd,hp=>by
  have hi:i=l.length:=by omega
  subst hi;rw [CX,KG];exact ⟨own,hp⟩
 | m+1,i,own,out,hd,hp=>by
  have hi:i < l.length:=by omega
  rw [A7 hi,KG];have hs:=Ck h hi hp;have e:nd l i=DE (l[i]).toInt:=by unfold nd; rw [XK hi]
  rw [e] at hs;exact Cj h m (i+1) _ _ (by omega) hs
theorem nM {l:LI} (ht:FY l 4=true) {b:Bx} (hb:b.emp=false) (hok:b.ok) :
  (∀ x∈F9 l b,(DN x).emp=false∧(DN x).ok∧∀ p t,(DN x).has p t=true→b.has p t=true∧GC l p=FF x) ∧
   ∀ p t,b.has p t=true→∃ x∈F9 l b,(DN x).has p t=true:=by
 have h:=j8 ht;have h1:=h.len.1;have hz:((BB l.length OG.I).set 0 b.I).getD 0 default=b.I:=by rw [YA (by simp; omega),BJ rfl]
 have f0:∀ j,fr l 0 j→j=0:=fun j hj=>by
  rcases hj.2.2 with e | ⟨k,hk,_⟩
  ·exact e
  ·omega
 have h0:PInv l b 0 ((BB l.length OG.I).set 0 b.I) []:=by
  refine ⟨by simp,fun j hj p t hh=>?_,fun j hj=>?_,fun p t hh=>.inr ⟨0,gN h (by omega),?_⟩,fun x hx=>by cases hx⟩
  ·obtain rfl:=f0 j hj;unfold E6 at hh;rw [hz,F8] at hh;exact ⟨hh,rfl⟩
  ·obtain rfl:=f0 j hj;unfold E6;rw [hz,F8];exact hok
  ·unfold E6;rw [hz,F8];exact hh
 obtain ⟨own',hp⟩:=Cj h l.length 0 _ _ (by omega) h0;have e:F9 l b=KG (l.drop 0) 0 ((BB l.length OG.I).set 0 b.I) []:=by unfold F9; rw [ht,hb]; rfl
 rw [e];refine ⟨hp.out,fun p t hh=>?_⟩;rcases hp.all p t hh with h1 | ⟨j,hj,_⟩
 ·exact h1
 ·have:=hj.1
  have:=hj.2.1
  omega
theorem Ai:∀ {l:LI} {a:Int},ML l a≤a∧∀ x∈l,ML l a≤FF x
 | [],a=>⟨CF _,fun x hx=>by cases hx⟩
 | y :: r,a=>by
  rw [ML];obtain ⟨h1,h2⟩:=Ai (l:=r) (a:=min a (FF y));refine ⟨by omega,fun x hx=>?_⟩;rcases AX.1 hx with rfl | hx
  ·omega
  ·exact h2 x hx
theorem z7:∀ {l:LI} {a:Int},a≤MJ l a∧∀ x∈l,FF x≤MJ l a
 | [],a=>⟨CF _,fun x hx=>by cases hx⟩
 | y :: r,a=>by
  rw [MJ];obtain ⟨h1,h2⟩:=z7 (l:=r) (a:=max a (FF y));refine ⟨by omega,fun x hx=>?_⟩;rcases AX.1 hx with rfl | hx
  ·omega
  ·exact h2 x hx
theorem Ah:∀ {l:LI} {a:Int},ML l a=a∨∃ x∈l,ML l a=FF x
 | [],a=>.inl rfl
 | y :: r,a=>by
  rw [ML];rcases Ah (l:=r) (a:=min a (FF y)) with h | ⟨x,hx,h⟩
  ·rw [h];by_cases hd:a≤FF y
   ·exact .inl (by omega)
   ·exact .inr ⟨y,AU ..,by omega⟩
  ·exact .inr ⟨x,AW _ hx,h⟩
theorem z6:∀ {l:LI} {a:Int},MJ l a=a∨∃ x∈l,MJ l a=FF x
 | [],a=>.inl rfl
 | y :: r,a=>by
  rw [MJ];rcases z6 (l:=r) (a:=max a (FF y)) with h | ⟨x,hx,h⟩
  ·rw [h];by_cases hd:FF y≤a
   ·exact .inl (by omega)
   ·exact .inr ⟨y,AU ..,by omega⟩
  ·exact .inr ⟨x,AW _ hx,h⟩
theorem Cy {ps:LI} (hp:ps≠[]):(∀ x∈ps,KN ps≤FF x∧FF x≤KM ps)∧(∃ x∈ps,FF x=KN ps)∧∃ x∈ps,FF x=KM ps:=by
 unfold KN KM;cases ps with
 | nil=>exact absurd rfl hp
 | cons y r=>
  have e:(y :: r).getD 0 default=y:=rfl;rw [e];refine ⟨fun x hx=>⟨Ai.2 x hx,z7.2 x hx⟩,?_,?_⟩
  ·rcases Ah (l:=y :: r) (a:=FF y) with h | ⟨x,hx,h⟩
   ·exact ⟨y,AU ..,h.symm⟩
   ·exact ⟨x,hx,h.symm⟩
  ·rcases z6 (l:=y :: r) (a:=FF y) with h | ⟨x,hx,h⟩
   ·exact ⟨y,AU ..,h.symm⟩
   ·exact ⟨x,hx,h.symm⟩
theorem S8 {l:LI} (ht:FY l 4=true) {b:Bx} (hb:b.emp=false) (hok:b.ok) :
  (∀ p t,b.has p t=true→GY l b≤GC l p∧GC l p≤GW l b)∧(∃ p t,b.has p t=true∧GC l p=GY l b)∧∃ p t,b.has p t=true∧GC l p=GW l b:=by
 obtain ⟨h1,h2⟩:=nM ht hb hok;have hne:F9 l b≠[]:=fun e=>by
  obtain ⟨x,hx,_⟩:=h2 b.low b.s4.hi (LP b hb);rw [e] at hx;cases hx
 obtain ⟨q1,⟨x,hx,q2⟩,⟨y,hy,q3⟩⟩:=Cy hne;have hT:V5 l b=true:=by
  unfold V5;cases he:F9 l b with
  | nil=>exact absurd he hne
  | cons _ _=>rfl
 unfold GY GW;rw [hT,DB,DB];refine ⟨fun p t hh=>?_,⟨(DN x).low,(DN x).s4.hi,?_⟩,⟨(DN y).low,(DN y).s4.hi,?_⟩⟩
 ·obtain ⟨z,hz,hzh⟩:=h2 p t hh;rw [((h1 z hz).2.2 p t hzh).2];exact q1 z hz
 ·obtain ⟨r1,r2⟩:=(h1 x hx).2.2 _ _ (LP _ (h1 x hx).1);exact ⟨r1,r2.trans q2⟩
 ·obtain ⟨r1,r2⟩:=(h1 y hy).2.2 _ _ (LP _ (h1 y hy).1);exact ⟨r1,r2.trans q3⟩
open Go
theorem TA {m:Md} (hm:EQ m=true) {t:IV} (ht:t∈m.ts):FY (EJ t) 4=true:=by
 have h:=IY hm;exact zf3 (Jk (CN.1 h.2.2.2.2 t ht)).2 h.1.2
theorem qY (g:LI→Int) (k:Int) (p:Pt):∀ (ts:LI) (s s':Int),(∀ t∈ts,g (EJ t)≤GC (EJ t) p)→s≤s'→F7 g k ts s≤G1 k p ts s'
 | [],_,_,_,h=>h
 | t :: r,s,s',hg,h=>by
  rw [F7,G1];have h1:=hg t (AU ..);refine qY g k p r _ _ (fun u hu=>hg u (AW _ hu)) ?_;cases (JW t==k) <;> simp only [CT,CG] <;> omega
theorem qW (g:LI→Int) (k:Int) (p:Pt):∀ (ts:LI) (s s':Int),(∀ t∈ts,GC (EJ t) p≤g (EJ t))→s'≤s→G1 k p ts s'≤F7 g k ts s
 | [],_,_,_,h=>h
 | t :: r,s,s',hg,h=>by
  rw [F7,G1];have h1:=hg t (AU ..);refine qW g k p r _ _ (fun u hu=>hg u (AW _ hu)) ?_;cases (JW t==k) <;> simp only [CT,CG] <;> omega
theorem V2 {m:Md} {k:Int} {b:Bx} (h:E9 m k b=true):EQ m=true∧GR m k=true∧b.emp=false:=by
 unfold E9 at h;simp only [AG,BW] at h;exact h
theorem gI {m:Md} {k:Int} (hm:EQ m=true) (hk:GR m k=true) (p:Pt):D4 m k p=G1 k p m.ts (G0 m k):=by
 unfold D4;rw [hm,hk];rfl
theorem X8 {m:Md} {k:Int} {b:Bx} (h:E9 m k b=true) (hok:b.ok) {p:Pt} {t:Int} (hh:b.has p t=true):DZ m k b≤D4 m k p∧D4 m k p≤DW m k b:=by
 obtain ⟨hm,hk,hb⟩:=V2 h;unfold DZ DW;rw [h,DB,DB,gI hm hk];exact ⟨qY _ k p m.ts _ _ (fun t ht=>((S8 (TA hm ht) hb hok).1 p _ hh).1) (CF _),qW _ k p m.ts _ _ (fun t ht=>((S8 (TA hm ht) hb hok).1 p _ hh).2) (CF _)⟩
theorem zd4 {m:Md} {k:Int} {b:Bx} (h:E9 m k b=true) (hok:b.ok) {p:Pt} {t:Int} (hh:b.has p t=true) (hc:∀ u∈m.ts,∀ p' t',b.has p' t'=true→GC (EJ u) p'=GC (EJ u) p):DZ m k b=D4 m k p∧DW m k b=D4 m k p:=by
 obtain ⟨hm,hk,hb⟩:=V2 h;have h1:=X8 h hok hh;have h2:D4 m k p≤DZ m k b∧DW m k b≤D4 m k p:=by
  unfold DZ DW;rw [h,DB,DB,gI hm hk];refine ⟨qW _ k p m.ts _ _ (fun u hu=>?_) (CF _),qY _ k p m.ts _ _ (fun u hu=>?_) (CF _)⟩
  ·obtain ⟨_,⟨p',t',q1,q2⟩,_⟩:=S8 (TA hm hu) hb hok;rw [← hc u hu p' t' q1];exact Int.le_of_eq q2
  ·obtain ⟨_,_,⟨p',t',q1,q2⟩⟩:=S8 (TA hm hu) hb hok;rw [← hc u hu p' t' q1];exact Int.le_of_eq q2.symm
 omega
theorem lS {x:Int}:∀ {l:List Int} {p:Int},x∈l→x=p∨x∈JN p l
 | y :: r,p,h=>by
  rw [JN];cases hb:(y==p) with
  | true=>
   have hb:=CB.1 hb;rw [DB];rcases AX.1 h with h | h
   ·exact .inl (h.trans hb)
   ·rcases lS (p:=y) h with h1 | h1
    ·exact .inl (h1.trans hb)
    ·exact .inr h1
  | false=>
   rw [DC];rcases AX.1 h with h | h
   ·exact .inr (h ▸ AU ..)
   ·rcases lS (p:=y) h with h1 | h1
    ·exact .inr (h1 ▸ AU ..)
    ·exact .inr (AW _ h1)
theorem Qe {x:Int} {l:List Int} (h:x∈l):x∈IE l:=by
 cases l with
 | nil=>cases h
 | cons y r=>
  rw [IE];rcases AX.1 h with h | h
  ·exact h ▸ AU ..
  ·rcases lS (p:=y) h with h1 | h1
   ·exact h1 ▸ AU ..
   ·exact AW _ h1
theorem zfW {ts:LI} {f a:Int}:a∈IM ts f↔∃ t∈ts,∃ w∈EJ t,(DE w.toInt).lf=false∧(DE w.toInt).f=f∧(DE w.toInt).a=a:=by
 have e:a∈IM ts f↔a∈HV ts f:=by
  unfold IM;exact ⟨fun h=>(RD _).mem_iff.1 (wL h),fun h=>Qe ((RD _).mem_iff.2 h)⟩
 rw [e];unfold HV;simp only [List.mem_flatMap];constructor
 ·rintro ⟨t,ht,w,hw,h⟩;unfold IA at h;cases hc:(!(DE w.toInt).lf&&(DE w.toInt).f==f) with
  | false=>rw [hc,DC] at h; cases h
  | true=>
   rw [hc,DB] at h;simp only [AG,BW,CB] at hc;exact ⟨t,ht,w,hw,hc.1,hc.2,(A4.1 h).symm⟩
 ·rintro ⟨t,ht,w,hw,h1,h2,h3⟩;refine ⟨t,ht,w,hw,?_⟩;unfold IA;rw [h1,h2,vbC];exact A4.2 h3.symm
def XJ (m:Md) (s:Sp) (f:Int):Prop:=∀ a∈IM m.ts f,¬ (s.lo≤a∧a < s.hi)
theorem Zx {lo hi a:Int} {l:List Int}:a∈JA lo hi l↔a∈l∧lo≤a∧a < hi:=by
 unfold JA;rw [List.mem_filter];simp only [BW,C2,BL];constructor
 ·rintro ⟨h,h1,h2⟩; exact ⟨h,by omega,by omega⟩
 ·rintro ⟨h,h1,h2⟩; exact ⟨h,by omega,by omega⟩
theorem MF {m:Md} {q:Qy} {b:Bx} {i:Nat} {a:Int}:a∈D6 m q b i↔0≤HU q (i:Int)∧a∈IM m.ts (HU q (i:Int))∧(b.g i).lo≤a∧a < (b.g i).hi:=by
 unfold D6;cases hd:decide (HU q (i:Int) < 0) with
 | true=>
  have:=AY hd
  rw [DB];constructor
  ·intro h; cases h
  ·rintro ⟨h,_⟩; omega
 | false=>
  have:=BE hd
  rw [DC,Zx];constructor
  ·intro h; exact ⟨by omega,h⟩
  ·exact fun h=>h.2
theorem yF {m:Md} {q:Qy} {b:Bx} {i:Nat} (h:D6 m q b i=[]) (hf:0≤HU q (i:Int)):XJ m (b.g i) (HU q (i:Int)):=by
 intro a ha hr
 have:a∈D6 m q b i:=MF.2 ⟨hf,ha,hr⟩
 rw [h] at this;cases this
theorem mP {q:Qy} {i:Nat} (hi:i < 4):HU q (i:Int)=(i:Int):=by
 unfold HU;rw [AF (show (i:Int)≥0 by omega),AF (show (i:Int) < 4 by omega)];rfl
theorem rI {l:LI} {p p':Pt} (h:∀ w∈l,GA w.toInt=true→(DE w.toInt).lf=false→(p.g (DE w.toInt).f.toNat≤(DE w.toInt).a↔p'.g (DE w.toInt).f.toNat≤(DE w.toInt).a)):∀ (n:Nat) (a:Int),H0 l p n a=H0 l p' n a
 | 0,_=>rfl
 | n+1,a=>by
  rw [H0,H0];cases decide (a≥ic l.length) with
  | true=>rfl
  | false=>
   rw [DC,DC];by_cases hlt:a.toNat < l.length
   ·have hw:l.getD a.toNat default∈l:=by rw [XK hlt]; exact vaa hlt
    generalize l.getD a.toNat default=w at hw ⊢;cases hb:GA w.toInt with
    | false=>rfl
    | true=>
     rw [A1,DC,DC];cases hl:(DE w.toInt).lf with
     | true=>rfl
     | false=>
      have:=h w hw hb hl
      have ed:decide (p.g (DE w.toInt).f.toNat≤(DE w.toInt).a)=decide (p'.g (DE w.toInt).f.toNat≤(DE w.toInt).a):=by
       rw [vaC,AP,AP];exact this
      rw [DC,DC,ed,rI h n _,rI h n _]
   ·have e:l.getD a.toNat default=default:=by
     rw [BO,BU (by omega)];rfl
    rw [e];rfl
theorem Uj {m:Md} {b:Bx} (hf:∀ f:Nat,f < 4→XJ m (b.g f) (f:Int)) {u:IV} (hu:u∈m.ts) {p p':Pt} {t t':Int} (h:b.has p t=true) (h':b.has p' t'=true):GC (EJ u) p'=GC (EJ u) p:=by
 unfold GC gD;rw [rI (p:=p') (p':=p) fun w hw hb hl=>?_];obtain ⟨⟨f0,f4⟩,_⟩:=oF hb hl;have ef:(DE w.toInt).f=(((DE w.toInt).f.toNat:Nat):Int):=by omega
 have hlt:(DE w.toInt).f.toNat < 4:=by omega
 have h1:=IL.1 (JL.1 h _ (show (DE w.toInt).f.toNat < 5 by omega));have h2:=IL.1 (JL.1 h' _ (show (DE w.toInt).f.toNat < 5 by omega));rw [bO _ _ hlt] at h1 h2;have h3:=hf _ hlt (DE w.toInt).a (zfW.2 ⟨u,hu,w,hw,hl,ef,rfl⟩);omega
theorem dK {m:Md} {k:Int} {b:Bx} (h:E9 m k b=true) (hok:b.ok) (hf:∀ f:Nat,f < 4→XJ m (b.g f) (f:Int)) {p:Pt} {t:Int} (hh:b.has p t=true):DZ m k b=D4 m k p∧DW m k b=D4 m k p:=
 zd4 h hok hh fun _ hu _ _ h'=>Uj hf hu hh h'
theorem nV {m:Md} {c lo:Int} {b:Bx}:∀ (d:Nat) (i a:Int) (z:Bool),(0 < PW m c lo b d i a z↔(z=true∨∃ j:Nat,j < d∧i+j≠c)∧(z=true→0 < a)∧∀ j:Nat,j < d→i+j≠c→DW m (i+j) b < lo)∨(z=false∧∀ j:Nat,j < d→i+j=c)
 | 0,i,a,z=>by
  cases z with
  | false=>exact .inr ⟨rfl,fun j hj=>absurd hj (Nat.not_lt_zero j)⟩
  | true=>
   refine .inl ?_;rw [PW];exact ⟨fun h=>⟨.inl rfl,fun _=>h,fun j hj=>absurd hj (Nat.not_lt_zero j)⟩,fun h=>h.2.1 rfl⟩
 | d+1,i,a,z=>by
  rw [PW];have sh:∀ j:Nat,i+1+(j:Int)=i+((j+1:Nat):Int):=fun j=>by omega
  cases hc:(i==c) with
  | true=>
   have hc:=CB.1 hc;rw [DB];rcases nV (m:=m) (c:=c) (lo:=lo) (b:=b) d (i+1) a z with h | ⟨h1,h2⟩
   ·refine .inl (h.trans ?_);constructor
    ·rintro ⟨q1,q2,q3⟩;refine ⟨q1.imp_right ?_,q2,fun j hj hne=>?_⟩
     ·rintro ⟨j,hj,hne⟩; exact ⟨j+1,by omega,by rw [← sh j]; exact hne⟩
     ·cases j with
      | zero=>exact absurd (by simpa using hc) hne
      | succ j=>rw [← sh j] at hne ⊢; exact q3 j (by omega) hne
    ·rintro ⟨q1,q2,q3⟩;refine ⟨q1.imp_right ?_,q2,fun j hj hne=>?_⟩
     ·rintro ⟨j,hj,hne⟩;cases j with
      | zero=>exact absurd (by simpa using hc) hne
      | succ j=>exact ⟨j,by omega,by rw [sh j]; exact hne⟩
     ·rw [sh j] at hne ⊢; exact q3 (j+1) (by omega) hne
   ·refine .inr ⟨h1,fun j hj=>?_⟩;cases j with
    | zero=>simpa using hc
    | succ j=>rw [← sh j]; exact h2 j (by omega)
  | false=>
   have hc:i≠c:=fun e=>by rw [e,vbC] at hc; cases hc
   rw [DC];refine .inl ?_;have key:∀ (a':Int),(0 < a'↔(z=true→0 < a)∧DW m i b < lo)→(0 < PW m c lo b d (i+1) a' true↔(z=true∨∃ j:Nat,j < d+1∧i+(j:Int)≠c)∧(z=true→0 < a)∧∀ j:Nat,j < d+1→i+(j:Int)≠c→DW m (i+j) b < lo):=fun a' ha'=>by
    rcases nV (m:=m) (c:=c) (lo:=lo) (b:=b) d (i+1) a' true with h | ⟨h1,_⟩
    ·rw [h];constructor
     ·rintro ⟨_,q2,q3⟩;obtain ⟨r1,r2⟩:=ha'.1 (q2 rfl);refine ⟨.inr ⟨0,by omega,by simpa using hc⟩,r1,fun j hj hne=>?_⟩;cases j with
      | zero=>simpa using r2
      | succ j=>rw [← sh j] at hne ⊢; exact q3 j (by omega) hne
     ·rintro ⟨_,q2,q3⟩;have r2:=q3 0 (by omega) (by simpa using hc);refine ⟨.inl rfl,fun _=>ha'.2 ⟨q2,by simpa using r2⟩,fun j hj hne=>?_⟩;rw [sh j] at hne ⊢;exact q3 (j+1) (by omega) hne
    ·cases h1
   cases z with
   | false=>
    rw [A9,Bool.true_or,DB];exact key _ ⟨fun h=>⟨fun h=>(by cases h),by omega⟩,fun h=>by have:=h.2; omega⟩
   | true=>
    rw [A1,vav];cases hd:decide (lo - DW m i b < a) with
    | true=>
     have hd:=AY hd;rw [DB];exact key _ ⟨fun h=>⟨fun _=>by omega,by omega⟩,fun h=>by have:=h.2; omega⟩
    | false=>
     have hd:=BE hd;rw [DC];exact key _ ⟨fun h=>⟨fun _=>h,by omega⟩,fun h=>h.1 rfl⟩
theorem nW {m:Md} {c:Int} {b:Bx} (h:LW m c b=true):0 < Q4 m c b↔∀ j:Nat,(j:Int) < m.c→(j:Int)≠c→DW m (j:Int) b < DZ m c b:=by
 have h0:=h;unfold LW at h0;rw [AG,AP] at h0;obtain ⟨hs,h2⟩:=h0;have hc:=wH (V2 hs).2.1;unfold Q4;rw [h,DB];rcases nV (m:=m) (c:=c) (lo:=DZ m c b) (b:=b) m.c.toNat 0 0 false with h1 | ⟨_,h1⟩
 ·rw [h1];simp only [Int.zero_add];constructor
  ·rintro ⟨_,_,q⟩ j hj hne;exact q j (by omega) hne
  ·intro q;refine ⟨.inr ?_,fun h=>(by cases h),fun j hj hne=>q j (by omega) hne⟩;by_cases e:c=0
   ·exact ⟨1,by omega,by omega⟩
   ·exact ⟨0,by omega,by omega⟩
 ·have q0:=h1 0 (by omega);have q1:=h1 1 (by omega);omega
theorem zdv (p:Pt) (x t:Int):∀ {f i:Nat},f < 4→i < 5→co (p.p x f) t i=if i=f then x else co p t i
 | 0,0,_,_=>rfl
 | 0,1,_,_=>rfl
 | 0,2,_,_=>rfl
 | 0,3,_,_=>rfl
 | 0,4,_,_=>rfl
 | 1,0,_,_=>rfl
 | 1,1,_,_=>rfl
 | 1,2,_,_=>rfl
 | 1,3,_,_=>rfl
 | 1,4,_,_=>rfl
 | 2,0,_,_=>rfl
 | 2,1,_,_=>rfl
 | 2,2,_,_=>rfl
 | 2,3,_,_=>rfl
 | 2,4,_,_=>rfl
 | 3,0,_,_=>rfl
 | 3,1,_,_=>rfl
 | 3,2,_,_=>rfl
 | 3,3,_,_=>rfl
 | 3,4,_,_=>rfl
 | f+4,_,h,_=>absurd h (by omega)
 | _,i+5,_,h=>absurd h (by omega)
theorem wR (p:Pt) (t t':Int):∀ {i:Nat},i < 4→co p t i=co p t' i
 | 0,_=>rfl
 | 1,_=>rfl
 | 2,_=>rfl
 | 3,_=>rfl
 | i+4,h=>absurd h (by omega)
theorem yC {q:Qy} {b:Bx} (hp:GM q=true) {p:Pt} {t:Int} (h:b.has p t=true):(I8 q b).has p 0=true:=by
 rw [JL] at h ⊢;intro i hi;unfold I8;rw [hp,DB,JK _ _ (by omega) hi];by_cases e:i=4
 ·subst e;rw [BJ rfl];rfl
 ·rw [A2 e,wR p 0 t (by omega)];exact h i hi
theorem Ev {q:Qy} {b:Bx} (hp:GM q=true) {p:Pt} {t:Int} (h:b.has p t=true):(JE q b).has (IK q p t) 0=true:=by
 have hf:q.ft.toNat < 4:=by rcases OU hp with e | e | e | e <;> rw [e] <;> decide
 rw [JL] at h ⊢;intro i hi;unfold JE IK;rw [hp,DB,DB,JK _ _ (by omega) hi];by_cases e:i=4
 ·subst e;rw [BJ rfl]
  have:co (p.p t q.ft.toNat) 0 4=0:=rfl
  rw [this];rfl
 ·rw [A2 e,JK _ _ (by omega) hi,zdv p t 0 hf hi];by_cases e2:i=q.ft.toNat
  ·rw [BJ e2,BJ e2];exact h 4 (by omega)
  ·rw [A2 e2,A2 e2,wR p 0 t (by omega)];exact h i hi
theorem yD {q:Qy} {b:Bx} (hb:b.ok):(I8 q b).ok:=by
 unfold I8;cases GM q with
 | true=>exact cY (s:=⟨0,0⟩) (i:=4) hb (show (0:Int)≤2147483647 by omega) (by omega)
 | false=>exact hb
theorem Ew {q:Qy} {b:Bx} (hb:b.ok):(JE q b).ok:=by
 unfold JE;cases hp:GM q with
 | true=>
  have hf:q.ft.toNat < 5:=by rcases OU hp with e | e | e | e <;> rw [e] <;> decide
  exact cY (s:=⟨0,0⟩) (i:=4) (cY hb (hb 4 (by omega)) hf) (show (0:Int)≤2147483647 by omega) (by omega)
 | false=>exact hb
theorem U9 {m:Md} {k:Int} (h0:0≤k) (h1:k < m.c):GR m k=true:=by
 unfold GR;rw [AF h0,AF h1];rfl
theorem L6 {m:Md} {k:Int} {b:Bx} (hm:EQ m=true) (hk:GR m k=true) (hb:b.emp=false):E9 m k b=true:=by
 unfold E9;rw [hm,hk,hb];rfl
theorem iV {m:Md} {q:Qy} (hm:EQ m=true) (hk:q.k=3) (hf:0≤q.ft∧q.ft < m.d):GM q=true:=by
 have:=(IY hm).1
 unfold GM;rw [hk,AF (show q.ft≥0 by omega),AF (show q.ft < 4 by omega)];rfl
theorem Br {m:Md} {q:Qy} {p:Pt} {own:Int}:VT m q p own=true↔∃ j:Nat,(j:Int) < m.c∧(j:Int)≠q.c∧D4 m (j:Int) p≥own:=by
 unfold VT;rw [List.any_eq_true];constructor
 ·rintro ⟨c,hc,h⟩;simp only [AG,BW,BZ,AP] at h;exact ⟨c,by have:=vbg.1 hc; omega,h.1,h.2⟩
 ·rintro ⟨j,h1,h2,h3⟩;refine ⟨j,vbg.2 (by omega),?_⟩;simp only [AG,BW,BZ,AP];exact ⟨h2,h3⟩
theorem wG {m:Md} {q:Qy} {b:Bx} (hok:b.ok) (hc:FS m q b=true) {p:Pt} {t:Int} (hh:b.has p t=true):FO m q p t=false:=by
 unfold FS at hc;rw [AG] at hc;obtain ⟨hr,hc⟩:=hc;obtain ⟨hm,⟨c0,c1⟩,_,_,hk⟩:=S2 hr;have hb:=R5 hh;have hcl:=U9 c0 c1;have hs:=L6 hm hcl hb;rw [hb,DC] at hc;unfold FO;rw [hr,BG];rcases cE hk with ⟨e,_⟩ | ⟨e,h2,_⟩ | ⟨e,hf,_⟩
 ·rw [e] at hc ⊢;replace hc:(E9 m q.c b&&(decide (q.lo≤DZ m q.c b)&&decide (DW m q.c b≤q.hi)))=true:=hc;simp only [AG,AP] at hc
  have:=X8 hs hok hh
  show (!(Sp.has ⟨q.lo,q.hi⟩ (D4 m q.c p)))=false;rw [Bool.not_eq_false',IL];exact ⟨by show q.lo≤_; omega,by show _≤q.hi; omega⟩
 ·rw [e] at hc ⊢;replace hc:(LW m q.c b&&decide (Q4 m q.c b > 0))=true:=hc;rw [AG,AP] at hc;have hall:=(nW hc.1).1 hc.2;show VT m q p (D4 m q.c p)=false;cases ho:VT m q p (D4 m q.c p) with
  | false=>rfl
  | true=>
   obtain ⟨j,h3,h4,h5⟩:=Br.1 ho;have h6:=hall j h3 h4;have h7:=X8 hs hok hh;have h8:=X8 (L6 hm (U9 (k:=(j:Int)) (by omega) h3) hb) hok hh;omega
 ·rw [e] at hc ⊢;have hp:=iV hm e hf;have hf5:q.ft.toNat < 4:=by rcases OU hp with e | e | e | e <;> rw [e] <;> decide
  replace hc:cond (!(MO q b)) true (cond q.fl (JM m q b&&decide (OH m q b≤0)) (JM m q b&&decide (OI m q b≥0)))=true:=hc;show cond (decide (p.g q.ft.toNat≥t)) false _=false;cases hd:decide (p.g q.ft.toNat≥t) with
  | true=>rfl
  | false=>
   have hd:=BE hd;have h1:=IL.1 (JL.1 hh q.ft.toNat (by omega));have h2:=IL.1 (JL.1 hh 4 (by omega));rw [bO p t hf5] at h1;have ho:MO q b=true:=by
    unfold MO;rw [hp,hb,AF]
    ·rfl
    ·have h2':t≤b.s4.hi:=h2.2;omega
   rw [ho,A1,DC] at hc;have f1:=yC (b:=b) hp hh;have f2:=Ev (b:=b) hp hh;have s1:=X8 (L6 hm hcl (R5 f1)) (yD hok) f1;have s2:=X8 (L6 hm hcl (R5 f2)) (Ew hok) f2;rw [DC];cases hfl:q.fl with
   | true=>
    rw [hfl,DB,AG,AP] at hc;rw [DB,BL];have h3:=hc.2;unfold OH at h3;rw [hc.1,DB] at h3;omega
   | false=>
    rw [hfl,DC,AG,AP] at hc;rw [DC,BL];have h3:=hc.2;unfold OI at h3;rw [hc.1,DB] at h3;omega
theorem vZ {m:Md} {q:Qy} {b:Bx} (hr:EU m q=true) (hb:b.emp=false) (hok:b.ok) (hn:∀ i,i < 5→D6 m q b i=[]):FS m q b=true∨FO m q b.low b.s4.hi=true:=by
 obtain ⟨hm,⟨c0,c1⟩,_,_,hk⟩:=S2 hr;have hcl:=U9 c0 c1;have hs:=L6 hm hcl hb;have hh:=LP b hb;have hfl:∀ f:Nat,f < 4→XJ m (b.g f) (f:Int):=fun f hf=>by
  have:=yF (hn f (by omega)) (by rw [mP hf]; omega)
  rwa [mP hf] at this
 unfold FS FO;rw [hr,hb,BG,BG,DC];rcases cE hk with ⟨e,_⟩ | ⟨e,h2,_⟩ | ⟨e,hf,_⟩
 ·rw [e];obtain ⟨q1,q2⟩:=dK hs hok hfl hh;show (E9 m q.c b&&(decide (q.lo≤DZ m q.c b)&&decide (DW m q.c b≤q.hi)))=true∨(!(Sp.has ⟨q.lo,q.hi⟩ (D4 m q.c b.low)))=true;rw [hs,q1,q2,BG];unfold Sp.has;cases (decide (q.lo≤D4 m q.c b.low)&&decide (D4 m q.c b.low≤q.hi)) with
  | true=>exact .inl rfl
  | false=>exact .inr rfl
 ·rw [e];show (LW m q.c b&&decide (Q4 m q.c b > 0))=true∨VT m q b.low (D4 m q.c b.low)=true;have hg:LW m q.c b=true:=by unfold LW; rw [hs,AF (show m.c≥2 from h2)]; rfl
  rw [hg,BG];cases ho:VT m q b.low (D4 m q.c b.low) with
  | true=>exact .inr rfl
  | false=>
   refine .inl (AF ((nW hg).2 fun j hj hne=>?_));have q1:=(dK hs hok hfl hh).1;have q2:=(dK (L6 hm (U9 (k:=(j:Int)) (by omega) hj) hb) hok hfl hh).2;have q3:¬ D4 m (j:Int) b.low≥D4 m q.c b.low:=fun h=>by
    rw [Br.2 ⟨j,hj,hne,h⟩] at ho;cases ho
   omega
 ·rw [e];have hp:=iV hm e hf;have hf5:q.ft.toNat < 4:=by rcases OU hp with e | e | e | e <;> rw [e] <;> decide
  have ef:q.ft=((q.ft.toNat:Nat):Int):=by omega
  show cond (!(MO q b)) true (cond q.fl (JM m q b&&decide (OH m q b≤0)) (JM m q b&&decide (OI m q b≥0)))=true∨cond (decide (b.low.g q.ft.toNat≥b.s4.hi)) false (cond q.fl (decide (D4 m q.c (IK q b.low b.s4.hi) > D4 m q.c b.low)) (decide (D4 m q.c (IK q b.low b.s4.hi) < D4 m q.c b.low)))=true;cases ho:MO q b with
  | false=>exact .inl rfl
  | true=>
   have hlt:b.low.g q.ft.toNat < b.s4.hi:=by
    unfold MO at ho;simp only [AG,AP] at ho;have h1:=ho.2.2
    have:b.low.g q.ft.toNat=(b.g q.ft.toNat).lo:=by
     match q.ft.toNat,hf5 with
     | 0,_=>rfl
     | 1,_=>rfl
     | 2,_=>rfl
     | 3,_=>rfl
     | n+4,h=>exact absurd h (by omega)
    omega
   have f1:=yC (b:=b) hp hh;have f2:=Ev (b:=b) hp hh;have k1:=L6 hm hcl (R5 f1);have k2:=L6 hm hcl (R5 f2);have fl1:∀ f:Nat,f < 4→XJ m ((I8 q b).g f) (f:Int):=fun f hf=>by
    unfold I8;rw [hp,DB,JK _ _ (by omega) (by omega),A2 (by omega)];exact hfl f hf
   have fl2:∀ f:Nat,f < 4→XJ m ((JE q b).g f) (f:Int):=fun f hf=>by
    unfold JE;rw [hp,DB,JK _ _ (by omega) (by omega),A2 (by omega),JK _ _ (by omega) (by omega)];by_cases e2:f=q.ft.toNat
    ·rw [BJ e2];have e4:HU q ((4:Nat):Int)=q.ft:=by unfold HU; rw [e]; rfl
     have:=yF (hn 4 (by omega)) (by rw [e4]; omega)
     rw [e4,ef,← e2] at this;exact this
    ·rw [A2 e2];exact hfl f hf
   obtain ⟨q1,q2⟩:=dK k1 (yD hok) fl1 f1;obtain ⟨q3,q4⟩:=dK k2 (Ew hok) fl2 f2;have hch:JM m q b=true:=by unfold JM; rw [hp,k1,k2]; rfl
   rw [A1,DC,hch,BG,BG,AL (show ¬ b.low.g q.ft.toNat≥b.s4.hi by omega),DC];unfold OH OI;rw [hch,DB,DB,q1,q2,q3,q4];cases q.fl with
   | true=>
    rw [DB,DB];by_cases hd:D4 m q.c (IK q b.low b.s4.hi) > D4 m q.c b.low
    ·exact .inr (AF hd)
    ·exact .inl (AF (by omega))
   | false=>
    rw [DC,DC];by_cases hd:D4 m q.c (IK q b.low b.s4.hi) < D4 m q.c b.low
    ·exact .inr (AF hd)
    ·exact .inl (AF (by omega))
theorem Gx {m:Md} {q:Qy} {b:Bx}:∀ (d i:Nat),(KS m q b d i).isSome=false→∀ j,i≤j→j < i+d→D6 m q b j=[]
 | 0,i,_,j,h1,h2=>by omega
 | d+1,i,h,j,h1,h2=>by
  rw [KS] at h;cases hc:decide ((D6 m q b i).length > 0) with
  | true=>rw [hc,DB] at h; cases h
  | false=>
   rw [hc,DC] at h;have hc:=BE hc;by_cases e:j=i
   ·subst e;exact List.length_eq_zero_iff.1 (by omega)
   ·exact Gx d (i+1) h j (by omega) (by omega)
theorem zfz {m:Md} {q:Qy} {b:Bx} (h:(EO m q b).isSome=false):∀ i,i < 5→D6 m q b i=[]:=fun i hi=>Gx 5 0 h i (B2 _) (by omega)
theorem Gy {m:Md} {q:Qy} {b:Bx}:∀ (d i:Nat),(KS m q b d i).isSome=true→∃ j:Nat,i≤j∧j < i+d∧JF (KS m q b d i)=(j:Int)∧0 < (D6 m q b j).length∧HQ (KS m q b d i)=(D6 m q b j).getD (((D6 m q b j).length - 1) / 2) 0∧∀ k,i≤k→k < j→D6 m q b k=[]
 | 0,i,h=>by rw [KS] at h; cases h
 | d+1,i,h=>by
  rw [KS] at h ⊢;cases hc:decide ((D6 m q b i).length > 0) with
  | true=>exact ⟨i,AT _,by omega,rfl,AY hc,rfl,fun k h1 h2=>absurd h1 (by omega)⟩
  | false=>
   rw [hc,DC] at h;rw [DC];have hc:=BE hc;obtain ⟨j,h1,h2,h3,h4,h5,h6⟩:=Gy d (i+1) h;refine ⟨j,by omega,by omega,h3,h4,h5,fun k hk1 hk2=>?_⟩;by_cases e:k=i
   ·subst e;exact List.length_eq_zero_iff.1 (by omega)
   ·exact h6 k (by omega) hk2
theorem jP {m:Md} {q:Qy} {b:Bx} (h:(EO m q b).isSome=true):∃ j:Nat,j < 5∧JF (EO m q b)=(j:Int)∧0 < (D6 m q b j).length∧HQ (EO m q b)=(D6 m q b j).getD (((D6 m q b j).length - 1) / 2) 0∧HQ (EO m q b)∈D6 m q b j:=by
 obtain ⟨j,_,h2,h3,h4,h5,_⟩:=Gy 5 0 h;refine ⟨j,by omega,h3,h4,h5,?_⟩;have hlt:((D6 m q b j).length - 1) / 2 < (D6 m q b j).length:=by omega
 have:HQ (EO m q b)=(D6 m q b j)[((D6 m q b j).length - 1) / 2]:=by
  refine Eq.trans h5 ?_;simp [hlt]
 rw [this];exact vaa hlt
open Go
abbrev Zu:List Kd:=[.z,.list false [.z],.list false [.z],.list false [.z],.list false [.z]]
structure Ft where
 d:Int
 c:Int
 bias:LI
 ts:LI
def Ft.cs (f:Ft):List FM.V:=[.int .i64 f.d,.int .i64 f.c,.list false [.z] f.bias,.list true Zu f.ts]
def Ft.V (f:Ft):FM.V:=.agg f.cs
def Ft.M (f:Ft):Md:=oB f.d f.c f.bias f.ts
def ftOf?:List FM.V→Option Ft
 | [.int .i64 d,.int .i64 c,.list false [.z] b,.list true [.z,.list false [.z],.list false [.z],.list false [.z],.list false [.z]] t]=>some ⟨d,c,b,t⟩
 | _=>none
abbrev kG (v:FM.V) (k:Ft→R):R:=RH ftOf? v k
theorem rT {v:FM.V} {k:Ft→R} {z:FM.V × List (List FM.V)} (h:(kG v k).get=some z):∃ x:Ft,v=x.V∧(k x).get=some z:=by
 obtain ⟨l,x,rfl,hx,h⟩:=WI h;unfold ftOf? at hx;split at hx
 ·simp only [AC] at hx;subst hx;exact ⟨_,rfl,h⟩
 ·cases hx
def UR:DK
 | [f]=>kG f fun f=>.ok f.M.V []
 | _=>.no
def Qy.bud (q:Qy) (b:Int):Qy:=⟨q.k,q.c,q.a0,q.b0,q.a1,q.b1,q.a2,q.b2,q.a3,q.b3,q.a4,q.b4,q.lo,q.hi,q.ft,q.fl,b⟩
theorem Nr {vs:List FM.V} {z:FM.V × List (List FM.V)} (h:(UR vs).get=some z):(eT vs).get=some z:=by
 unfold UR at h;split at h
 ·replace h:=rT h;obtain ⟨f,rfl,h⟩:=h;exact h
 ·simp [R.get] at h
open Go
def Bx.good (b:Bx):Prop:=∀ i,i < 5 → -2147483648≤(b.g i).lo∧(b.g i).lo≤(b.g i).hi∧(b.g i).hi≤2147483647
theorem Bx.good.emp {b:Bx} (h:b.good):b.emp=false:=lG.2 fun i hi=>(h i hi).2.1
theorem Bx.good.ok {b:Bx} (h:b.good):b.ok:=fun i hi=>(h i hi).2.2
def Sp.good (s:Sp):Prop := -2147483648≤s.lo∧s.lo≤s.hi∧s.hi≤2147483647
theorem Q9 {b:Bx} (hb:b.good) {s:Sp} (hs:s.good) {i:Nat} (hi:i < 5):(b.p s i).good:=by
 intro j hj;rw [JK b s hi hj];by_cases h:j=i
 ·rw [BJ h]; exact hs
 ·rw [A2 h]; exact hb j hj
theorem Gv {lo hi:Int} (h0 : -2147483648≤lo) (h1:lo≤hi) (h2:hi≤2147483647):(JV lo hi).good:=by
 unfold JV;rw [AL (by omega),DC];exact ⟨h0,h1,h2⟩
theorem lW {b:Bx} (hb:b.good) {i:Nat} (hi:i < 5) {a:Int} (h1:(b.g i).lo≤a) (h2:a < (b.g i).hi):(b.cutL (i:Int) a).good:=by
 unfold Bx.cutL;rw [BC];have h:=hb i hi;refine Q9 hb (Gv h.1 ?_ ?_) hi <;> omega
theorem fX {b:Bx} (hb:b.good) {i:Nat} (hi:i < 5) {a:Int} (h1:(b.g i).lo≤a) (h2:a < (b.g i).hi):(b.cutH (i:Int) a).good:=by
 unfold Bx.cutH;rw [BC];have h:=hb i hi;have e:FC (a+1)=a+1:=EA (by omega) (by omega);refine Q9 hb ?_ hi;unfold Sp.cutH;rw [AL (by omega),DC,e];exact Gv (by omega) (by omega) h.2.2
theorem dP {d i:Int} {s:Sp} (h:HR d i s=true):s.good:=by
 unfold HR at h;simp only [AG,BW,EY,Sp.emp,AP,BL] at h;obtain ⟨_,h1,h2,h3⟩:=h;exact ⟨h2.1,by omega,h3.2⟩
theorem V0 {m:Md} {q:Qy} (h:EU m q=true):EQ m=true∧(0≤q.c∧q.c < m.c)∧(0≤q.bu∧q.bu≤65536)∧N1 q.bx m.d=true∧PP m q=true:=by
 unfold EU at h;simp only [AG,AP] at h;exact ⟨h.1,⟨h.2.1,h.2.2.1⟩,⟨h.2.2.2.1,h.2.2.2.2.1⟩,h.2.2.2.2.2.1,h.2.2.2.2.2.2⟩
theorem i8 {b:Bx} {d:Int} (h:N1 b d=true):b.good:=by
 unfold N1 at h;simp only [AG] at h;intro i hi
 match i,hi with
 | 0,_=>exact dP h.1
 | 1,_=>exact dP h.2.1
 | 2,_=>exact dP h.2.2.1
 | 3,_=>exact dP h.2.2.2.1
 | 4,_=>exact dP h.2.2.2.2
 | n+5,hi=>omega
theorem YI {m:Md} {q:Qy} (h:EU m q=true):(EE q).good:=by
 have hb:=i8 (V0 h).2.2.2.1;unfold EE;refine Q9 hb ?_ (by omega);cases hp:GM q with
 | false=>rw [DC]; exact ⟨by decide,by decide,by decide⟩
 | true=>
  rw [DB];unfold GM at hp;simp only [AG,AP] at hp;exact hb q.ft.toNat (by omega)
def XS (s:Sr):Prop:=∀ x∈s.left,(DN x).good
theorem dY {s:Sr} (h:XS s) (hl:0 < s.left.length):(DM s.left).good:=by
 unfold DM;refine h _ ?_;rw [BO,A5 (by omega)];exact vaa _
theorem zaG {m:Md} {q:Qy} (h:EU m q=true):XS ⟨[(EE q).I],[],Vd.none,0⟩:=by
 intro x hx;obtain rfl:=A4.1 hx;rw [F8];exact YI h
theorem qT {m:Md} {q:Qy} {s:Sr} (hr:EU m q=true) (hg:XS s) (hl:0 < s.left.length) (h1:FS m q (DM s.left)=false) (h2:FO m q (DM s.left).low (DM s.left).s4.hi=false) :
  (EO m q (DM s.left)).isSome=true:=by
 have ht:=dY hg hl;cases hs:(EO m q (DM s.left)).isSome with
 | true=>rfl
 | false=>
  rcases vZ hr ht.emp ht.ok (zfz hs) with h | h
  ·rw [h1] at h; cases h
  ·rw [h2] at h; cases h
theorem X2 {l:LI} {x:IV} (h:x∈FB l):x∈l:=vaY h
theorem zfI {m:Md} {q:Qy} {s:Sr} (hg:XS s) (hl:0 < s.left.length):XS (FE m q s):=by
 have hp:∀ x∈FB s.left,(DN x).good:=fun x hx=>hg x (X2 hx)
 unfold FE;cases FS m q (DM s.left) with
 | true=>exact hp
 | false=>
  cases FO m q (DM s.left).low (DM s.left).s4.hi with
  | true=>exact hp
  | false=>
   cases hs:(EO m q (DM s.left)).isSome with
   | false=>exact hp
   | true=>
    obtain ⟨j,hj,ei,_,_,hm⟩:=jP hs;have hc:=MF.1 hm;have ht:=dY hg hl;intro x hx;rw [DC,DC,DB] at hx;rcases AV.1 hx with hx | hx
    ·exact hp x hx
    ·rw [ei] at hx;rcases AX.1 hx with rfl | hx
     ·rw [F8]; exact fX ht hj hc.2.2.1 hc.2.2.2
     ·obtain rfl:=A4.1 hx;rw [F8]; exact lW ht hj hc.2.2.1 hc.2.2.2
theorem Kc (n lo hi:Int) (h:lo≤hi) (h0 : -2000000000000000000≤lo) (h1:hi≤2000000000000000000):lo≤DS n lo hi∧DS n lo hi≤hi:=
 (JG (n:=n) (lo:=lo) (hi:=hi) (by omega) (by omega) (by omega)).2
theorem kR (f:Ft):EQ f.M=true:=zaD _ _ _ _
theorem jA (d:Int) (l:LI) (i:Nat):HR d (i:Int) ⟨J8 d l (i:Int),J9 d l (i:Int)⟩=true:=by
 have h1:=Kc (ED l (2*(i:Int))) (-2) 9 (by omega) (by omega) (by omega);have h2:=Kc (ED l (2*(i:Int)+1)) 0 11 (by omega) (by omega) (by omega);unfold HR Sp.emp J8 J9 EY;by_cases h:(i:Int) < d
 ·rw [AF h,DB,DB,AL (show ¬ (i:Int)≥d by omega)];simp only [BX,A9,BG,AG,BW,AP,BL];omega
 ·rw [AL h,DC,DC];simp
open Go
abbrev hM:List Kd:=[.z,.z,.z,.z,.z,.z,.z,.z,.z,.z,.z]
def O5 (a:Int) (b:Bx):IV:=.agg [.int a,.int b.s0.lo,.int b.s0.hi,.int b.s1.lo,.int b.s1.hi,.int b.s2.lo,.int b.s2.hi,.int b.s3.lo,.int b.s3.hi,.int b.s4.lo,.int b.s4.hi]
abbrev HB (x:IV):Int:=cI x 0
def I2 (x:IV):Bx:=⟨⟨cI x 1,cI x 2⟩,⟨cI x 3,cI x 4⟩,⟨cI x 5,cI x 6⟩,⟨cI x 7,cI x 8⟩,⟨cI x 9,cI x 10⟩⟩
theorem WB (a:Int) (b:Bx):HB (O5 a b)=a:=rfl
theorem RF (a:Int) (b:Bx):I2 (O5 a b)=b:=rfl
structure En where
 todo:LI
 lo:Int
 hi:Int
 any:Bool
def EP (l:LI):IV:=l.getD (l.length - 1) default
def EV (l:LI) (e:En):Nd:=DE (l.getD (HB (EP e.todo)).toNat default).toInt
def bS (l:LI) (e:En):En:=
 cond (!(GA (l.getD (HB (EP e.todo)).toNat default).toInt)||(I2 (EP e.todo)).emp) ⟨FB e.todo,e.lo,e.hi,e.any⟩
  (cond (!(EV l e).lf)
   ⟨FB e.todo++[O5 (EV l e).l ((I2 (EP e.todo)).cutL (EV l e).f (EV l e).a),O5 (EV l e).r ((I2 (EP e.todo)).cutH (EV l e).f (EV l e).a)],e.lo,e.hi,e.any⟩
   ⟨FB e.todo,min (cond e.any e.lo (EV l e).v) (EV l e).v,max (cond e.any e.hi (EV l e).v) (EV l e).v,true⟩)
def mF (b:Bx):En:=⟨[O5 0 b],0,0,false⟩
structure EnI (l:LI) (b:Bx) (e:En):Prop where
 at_:∀ (j:Nat) (x:IV),e.todo[j]?=some x→(j:Int)≤HB x∧HB x < ic l.length
 ok:∀ x∈e.todo,(I2 x).ok
 val:∀ x∈e.todo,∀ p t,(I2 x).has p t=true→b.has p t=true∧GC l p=O4 l p (HB x).toNat
 all:∀ p t,b.has p t=true→(∃ x∈e.todo,(I2 x).has p t=true)∨(e.any=true∧e.lo≤GC l p∧GC l p≤e.hi)
 lo:e.any=true→∃ p t,b.has p t=true∧GC l p=e.lo
 hi:e.any=true→∃ p t,b.has p t=true∧GC l p=e.hi
theorem c7 {l:LI} {j:Nat} {x:IV} (h:(FB l)[j]?=some x):l[j]?=some x:=by
 unfold FB at h;rw [CJ] at h;split at h
 ·exact h
 ·cases h
theorem qJ {l:LI} {x:IV} (hl:0 < l.length) (h:x∈l):x∈FB l∨x=EP l:=by
 obtain ⟨j,hj⟩:=List.getElem?_of_mem h;have hjl:=(BQ.1 hj).1;by_cases hc:j < l.length - 1
 ·refine .inl (vah (i:=j) ?_);unfold FB;rw [CJ,BJ hc];exact hj
 ·have:j=l.length - 1:=by omega
  subst this;refine .inr ?_;unfold EP;rw [BO,hj];rfl
theorem S9 {l:LI} (hl:0 < l.length):EP l∈l∧l[l.length - 1]?=some (EP l):=by
 unfold EP;rw [BO,A5 (by omega)];exact ⟨vaa _,rfl⟩
theorem SU (l:LI):(FB l).length=l.length - 1:=by
 unfold FB;rw [A8]; omega
theorem Rk {l:LI} (ht:TreeOK l) {b:Bx} {e:En} (h:EnI l b e) (hl:0 < e.todo.length):EnI l b (bS l e):=by
 obtain ⟨hm,hg⟩:=S9 hl;have ha:=h.at_ _ _ hg;have h31:=ht.len.2;have hpm:∀ x∈FB e.todo,x∈e.todo:=fun x hx=>X2 hx
 have e0:((HB (EP e.todo)).toNat:Int)=HB (EP e.todo):=by omega
 have hlt:(HB (EP e.todo)).toNat < l.length:=by have:=ha.2; simp only [ic] at this; omega
 have hn:=ht.node _ hlt;have hv:=h.val _ hm;have hok:=h.ok _ hm;unfold bS;rw [hn,A1,vav];cases he:(I2 (EP e.todo)).emp with
 | true=>
  rw [DB];refine ⟨fun j x hj=>h.at_ j x (c7 hj),fun x hx=>h.ok x (hpm x hx),fun x hx=>h.val x (hpm x hx),fun p t hh=>?_,h.lo,h.hi⟩;rcases h.all p t hh with ⟨x,hx,hxh⟩ | hr
  ·rcases qJ hl hx with hx | rfl
   ·exact .inl ⟨x,hx,hxh⟩
   ·have:=R5 hxh
    rw [he] at this; cases this
  ·exact .inr hr
 | false=>
  rw [DC];cases hlf:(EV l e).lf with
  | true=>
   rw [A1,DC];have hvl:∀ p t,(I2 (EP e.todo)).has p t=true→b.has p t=true∧GC l p=(EV l e).v:=fun p t hh=>by
    obtain ⟨h1,h2⟩:=hv p t hh;exact ⟨h1,h2.trans (Jx ht p hlt hlf)⟩
   have hlow:=hvl _ _ (LP _ he);refine ⟨fun j x hj=>h.at_ j x (c7 hj),fun x hx=>h.ok x (hpm x hx),fun x hx=>h.val x (hpm x hx),fun p t hh=>?_,fun _=>?_,fun _=>?_⟩
   ·rcases h.all p t hh with ⟨x,hx,hxh⟩ | ⟨h1,h2,h3⟩
    ·rcases qJ hl hx with hx | rfl
     ·exact .inl ⟨x,hx,hxh⟩
     ·refine .inr ⟨rfl,?_,?_⟩
      ·rw [(hvl p t hxh).2]; show min _ _≤_; omega
      ·rw [(hvl p t hxh).2]; show _≤max _ _; omega
    ·refine .inr ⟨rfl,?_,?_⟩
     ·show min (cond e.any e.lo _) _≤_;rw [h1,DB]; omega
     ·show _≤max (cond e.any e.hi _) _;rw [h1,DB]; omega
   ·show ∃ p t,b.has p t=true∧GC l p=min (cond e.any e.lo (EV l e).v) (EV l e).v;cases hany:e.any with
    | false=>exact ⟨_,_,hlow.1,by rw [hlow.2,DC]; omega⟩
    | true=>
     rw [DB];by_cases hc:e.lo≤(EV l e).v
     ·obtain ⟨p,t,h1,h2⟩:=h.lo hany;exact ⟨p,t,h1,by omega⟩
     ·exact ⟨_,_,hlow.1,by rw [hlow.2]; omega⟩
   ·show ∃ p t,b.has p t=true∧GC l p=max (cond e.any e.hi (EV l e).v) (EV l e).v;cases hany:e.any with
    | false=>exact ⟨_,_,hlow.1,by rw [hlow.2,DC]; omega⟩
    | true=>
     rw [DB];by_cases hc:(EV l e).v≤e.hi
     ·obtain ⟨p,t,h1,h2⟩:=h.hi hany;exact ⟨p,t,h1,by omega⟩
     ·exact ⟨_,_,hlow.1,by rw [hlow.2]; omega⟩
  | false=>
   rw [A9,DB];obtain ⟨⟨f0,f4⟩,fa,⟨l1,l2⟩,⟨r1,r2⟩,_⟩:=ht.fork _ hlt hlf;replace f0:0≤(EV l e).f:=f0;replace f4:(EV l e).f < 4:=f4;replace l1:((HB (EP e.todo)).toNat:Int) < (EV l e).l:=l1;replace l2:(EV l e).l < ic l.length:=l2;replace r1:((HB (EP e.todo)).toNat:Int) < (EV l e).r:=r1;replace r2:(EV l e).r < ic l.length:=r2;have ef:(EV l e).f=(((EV l e).f.toNat:Nat):Int):=by omega
   have hfl:(EV l e).f.toNat < 5:=by omega
   have fa' : -2147483648≤(EV l e).a:=by
    have:EY (EV l e).a=true:=fa
    unfold EY at this;simp only [AG,AP] at this;exact this.1
   have vf:∀ p:Pt,O4 l p (HB (EP e.todo)).toNat=O4 l p (cond (decide (p.g (EV l e).f.toNat≤(EV l e).a)) (EV l e).l.toNat (EV l e).r.toNat):=fun p=>Jw ht p hlt hlf
   have hL:∀ p t,((I2 (EP e.todo)).cutL (EV l e).f (EV l e).a).has p t=true↔(I2 (EP e.todo)).has p t=true∧co p t (EV l e).f.toNat≤(EV l e).a:=fun p t=>by
    have:=XA (b:=I2 (EP e.todo)) hfl (a:=(EV l e).a) (p:=p) (t:=t)
    rwa [← ef] at this
   have hH:∀ p t,((I2 (EP e.todo)).cutH (EV l e).f (EV l e).a).has p t=true↔(I2 (EP e.todo)).has p t=true∧(EV l e).a < co p t (EV l e).f.toNat:=fun p t=>by
    have:=W9 hok hfl fa' (p:=p) (t:=t)
    rwa [← ef] at this
   have okL:((I2 (EP e.todo)).cutL (EV l e).f (EV l e).a).ok:=by
    have:=wZ hok hfl (EV l e).a
    rwa [← ef] at this
   have okH:((I2 (EP e.todo)).cutH (EV l e).f (EV l e).a).ok:=by
    have:=wX hok hfl (EV l e).a
    rwa [← ef] at this
   have hco:∀ p t,co p t (EV l e).f.toNat=p.g (EV l e).f.toNat:=fun p t=>bO p t (by omega)
   refine ⟨fun j x hj=>?_,fun x hx=>?_,fun x hx=>?_,fun p t hh=>?_,h.lo,h.hi⟩
   ·rw [vag,SU] at hj;split at hj
    ·exact h.at_ j x (c7 hj)
    ·rename_i hc;have h1:=ha.1;rcases C1 (j - (e.todo.length - 1)) 1 with h0 | h0
     ·have:j - (e.todo.length - 1)=0:=by omega
      rw [this] at hj;simp only [BP,AC] at hj;subst hj;rw [WB];omega
     ·rcases C1 (j - (e.todo.length - 1)) 2 with h2 | h2
      ·have:j - (e.todo.length - 1)=1:=by omega
       rw [this] at hj;simp only [DA,BP,AC] at hj;subst hj;rw [WB];omega
      ·rw [BU (by simpa using h2)] at hj;cases hj
   ·rcases AV.1 hx with hx | hx
    ·exact h.ok x (hpm x hx)
    ·rcases AX.1 hx with rfl | hx
     ·rw [RF]; exact okL
     ·obtain rfl:=A4.1 hx;rw [RF]; exact okH
   ·rcases AV.1 hx with hx | hx
    ·exact h.val x (hpm x hx)
    ·rcases AX.1 hx with rfl | hx
     ·intro p t hh;rw [RF] at hh;obtain ⟨h1,h2⟩:=(hL p t).1 hh;obtain ⟨h3,h4⟩:=hv p t h1;rw [hco] at h2;rw [WB];exact ⟨h3,by rw [h4,vf,AF h2,DB]⟩
     ·obtain rfl:=A4.1 hx;intro p t hh;rw [RF] at hh;obtain ⟨h1,h2⟩:=(hH p t).1 hh;obtain ⟨h3,h4⟩:=hv p t h1;rw [hco] at h2;rw [WB];exact ⟨h3,by rw [h4,vf,AL (by omega),DC]⟩
   ·rcases h.all p t hh with ⟨x,hx,hxh⟩ | hr
    ·rcases qJ hl hx with hx | rfl
     ·exact .inl ⟨x,AV.2 (.inl hx),hxh⟩
     ·by_cases hc:co p t (EV l e).f.toNat≤(EV l e).a
      ·exact .inl ⟨_,AV.2 (.inr (AU ..)),by rw [RF]; exact (hL p t).2 ⟨hxh,hc⟩⟩
      ·exact .inl ⟨_,AV.2 (.inr (AW _ (AU ..))),by rw [RF]; exact (hH p t).2 ⟨hxh,by omega⟩⟩
    ·exact .inr hr
theorem Rj {l:LI} (ht:TreeOK l) {b:Bx} (hb:b.ok):EnI l b (mF b):=by
 have h1:=ht.len.1;refine ⟨fun j x hj=>?_,fun x hx=>?_,fun x hx=>?_,fun p t hh=>.inl ⟨_,AU ..,by rw [RF]; exact hh⟩,(fun h=>by cases h),(fun h=>by cases h)⟩
 ·match j,hj with
  | 0,hj=>
   obtain rfl:O5 0 b=x:=by simpa [mF] using hj
   rw [WB];simp only [ic];omega
  | j+1,hj=>simp [mF] at hj
 ·obtain rfl:=A4.1 hx;rw [RF]; exact hb
 ·obtain rfl:=A4.1 hx;intro p t hh;rw [RF] at hh;exact ⟨hh,rfl⟩
def OM (l:LI):Nat:=(l.map fun x=>3 ^ (31 - (HB x).toNat)).sum
theorem EnI.depth {l:LI} (ht:TreeOK l) {b:Bx} {e:En} (h:EnI l b e):e.todo.length≤31:=by
 by_cases hc:e.todo.length≤31
 ·exact hc
 ·obtain ⟨x,hx⟩:∃ x,e.todo[31]?=some x:=⟨_,A5 (by omega)⟩
  have:=h.at_ 31 x hx
  have h2:=ht.len.2;simp only [ic] at this;omega
theorem Rf {l:LI} (hl:0 < l.length):OM l=OM (FB l)+3 ^ (31 - (HB (EP l)).toNat):=by
 have e:l=FB l++[EP l]:=by
  have h2:=(S9 hl).2;have h3:l[l.length - 1]=EP l:=CI ((A5 (by omega)).symm.trans h2);unfold FB;rw [← h3,List.take_append_getElem,CW (by omega)]
 unfold OM
 conv=>lhs; rw [e]
 rw [List.map_append,List.sum_append];simp
theorem zfY {a b c:Nat} (h1:a < b) (h2:a < c) (ha:a < 31):3 ^ (31 - b)+3 ^ (31 - c)+1≤3 ^ (31 - a):=by
 have e:3 ^ (31 - a)=3*3 ^ (30 - a):=by
  rw [show 31 - a=(30 - a)+1 by omega,Nat.pow_succ]; omega
 have e1:3 ^ (31 - b)≤3 ^ (30 - a):=Nat.pow_le_pow_right (by omega) (by omega);have e2:3 ^ (31 - c)≤3 ^ (30 - a):=Nat.pow_le_pow_right (by omega) (by omega);have e3:0 < 3 ^ (30 - a):=Nat.pow_pos (by omega);omega
theorem Rh {l:LI} (ht:TreeOK l) {b:Bx} {e:En} (h:EnI l b e) (hl:0 < e.todo.length):OM (bS l e).todo+1≤OM e.todo:=by
 obtain ⟨hm,hg⟩:=S9 hl;have ha:=h.at_ _ _ hg;have h31:=ht.len.2;have hlt:(HB (EP e.todo)).toNat < l.length:=by have:=ha.2; simp only [ic] at this; omega
 have hpos:0 < 3 ^ (31 - (HB (EP e.todo)).toNat):=Nat.pow_pos (by omega);rw [Rf hl];unfold bS;cases !GA (l.getD (HB (EP e.todo)).toNat default).toInt||(I2 (EP e.todo)).emp with
 | true=>rw [DB]; show OM (FB e.todo)+1≤_; omega
 | false=>
  rw [DC];cases hlf:(EV l e).lf with
  | true=>rw [A1,DC]; show OM (FB e.todo)+1≤_; omega
  | false=>
   rw [A9,DB];obtain ⟨_,_,⟨l1,l2⟩,⟨r1,r2⟩,_⟩:=ht.fork _ hlt hlf;replace l1:((HB (EP e.todo)).toNat:Int) < (EV l e).l:=l1;replace r1:((HB (EP e.todo)).toNat:Int) < (EV l e).r:=r1
   have:=zfY (a:=(HB (EP e.todo)).toNat) (b:=(EV l e).l.toNat) (c:=(EV l e).r.toNat) (by omega) (by omega) (by omega)
   unfold OM at *;rw [List.map_append,List.sum_append];simp only [AZ,B6,va2,List.sum_nil,WB];omega
theorem Rg {l:LI} (hT:FY l 4=true) {b:Bx} (hb:b.emp=false) (hok:b.ok) {e:En} (h:EnI l b e) (hl:e.todo=[]):e.lo=GY l b∧e.hi=GW l b:=by
 obtain ⟨t1,⟨p1,u1,q1,q2⟩,⟨p2,u2,q3,q4⟩⟩:=S8 hT hb hok;have hall:∀ p t,b.has p t=true→e.any=true∧e.lo≤GC l p∧GC l p≤e.hi:=fun p t hh=>by
  rcases h.all p t hh with ⟨x,hx,_⟩ | hr
  ·rw [hl] at hx; cases hx
  ·exact hr
 have hany:=(hall _ _ q1).1;obtain ⟨p3,u3,q5,q6⟩:=h.lo hany;obtain ⟨p4,u4,q7,q8⟩:=h.hi hany;have a1:=hall _ _ q1;have a2:=hall _ _ q3;have a3:=t1 _ _ q5;have a4:=t1 _ _ q7;omega
theorem zfS {l:LI} (hT:FY l 4=true) {b c:Bx} (hb:b.emp=false) (hok:b.ok) (hc:c.emp=false) (hokc:c.ok) (h:∀ p,(∃ t,b.has p t=true)↔∃ t,c.has p t=true):GY l b=GY l c∧GW l b=GW l c:=by
 obtain ⟨t1,⟨p1,u1,q1,q2⟩,⟨p2,u2,q3,q4⟩⟩:=S8 hT hb hok;obtain ⟨s1,⟨p3,u3,q5,q6⟩,⟨p4,u4,q7,q8⟩⟩:=S8 hT hc hokc;obtain ⟨v1,w1⟩:=(h p1).1 ⟨u1,q1⟩;obtain ⟨v2,w2⟩:=(h p2).1 ⟨u2,q3⟩;obtain ⟨v3,w3⟩:=(h p3).2 ⟨u3,q5⟩;obtain ⟨v4,w4⟩:=(h p4).2 ⟨u4,q7⟩;have a1:=s1 _ _ w1;have a2:=s1 _ _ w2;have a3:=t1 _ _ w3;have a4:=t1 _ _ w4;omega
open Go
theorem o9:∀ {l:LI} {st st':LI × LI} {x:IV},H9 l st=some st'→H9 (l++[x]) st=MQ st' x
 | [],st,st',x,h=>by
  obtain rfl:=CI h;rw [vaE,H9];cases MQ st x <;> rfl
 | y :: r,st,st',x,h=>by
  rw [vaf,H9];rw [H9] at h;cases hs:MQ st y with
  | none=>rw [hs] at h; cases h
  | some s1=>rw [hs] at h; exact o9 h
theorem mD:∀ {l:LI} {st st':Int × Int} {x:IV},JP l st=some st'→JP (l++[x]) st=MG st' x
 | [],st,st',x,h=>by
  obtain rfl:=CI h;rw [vaE,JP];cases MG st x <;> rfl
 | y :: r,st,st',x,h=>by
  rw [vaf,JP];rw [JP] at h;cases hs:MG st y with
  | none=>rw [hs] at h; cases h
  | some s1=>rw [hs] at h; exact mD h
def JU (m:Md) (q:Qy) (b:Bx):Nat:=(D6 m q b 0).length+(D6 m q b 1).length+(D6 m q b 2).length+(D6 m q b 3).length+(D6 m q b 4).length
theorem yA {α:Type} {p q:α→Bool}:∀ {l:List α},(∀ x∈l,p x=true→q x=true)→(l.filter p).length≤(l.filter q).length
 | [],_=>AT _
 | x :: l,h=>by
  have ih:=yA (l:=l) (p:=p) (q:=q) fun y hy=>h y (AW _ hy)
  have hx:=h x (AU ..);rw [vbc,vbc];cases hp:p x with
  | true=>rw [hx hp,BJ rfl,BJ rfl]; simp only [AM]; omega
  | false=>
   rw [A2 (by decide)];cases q x with
   | true=>rw [BJ rfl]; simp only [AM]; omega
   | false=>rw [A2 (by decide)]; exact ih
theorem yB {α:Type} {p q:α→Bool} {a:α}:∀ {l:List α},a∈l→p a=false→q a=true→(∀ x∈l,p x=true→q x=true)→(l.filter p).length < (l.filter q).length
 | [],h,_,_,_=>by cases h
 | x :: l,hm,h1,h2,h=>by
  have hx:=h x (AU ..);have hr:=fun y hy=>h y (AW _ hy)
  rw [vbc,vbc];rcases AX.1 hm with rfl | hm
  ·rw [h1,h2,A2 (by decide),BJ rfl]
   have:=yA hr
   simp only [AM]; omega
  ·have ih:=yB hm h1 h2 hr;cases hp:p x with
   | true=>rw [hx hp,BJ rfl,BJ rfl]; simp only [AM]; omega
   | false=>
    rw [A2 (by decide)];cases q x with
    | true=>rw [BJ rfl]; simp only [AM]; omega
    | false=>rw [A2 (by decide)]; exact ih
theorem XC {m:Md} {q:Qy} {b c:Bx} {i:Nat} (h:c.g i=b.g i):D6 m q c i=D6 m q b i:=by unfold D6; rw [h]
theorem xA {m:Md} {q:Qy} {b c:Bx} {i:Nat} {a:Int} (ha:a∈D6 m q b i) (h1:(b.g i).lo≤(c.g i).lo) (h2:(c.g i).hi≤(b.g i).hi) (h3:a < (c.g i).lo∨(c.g i).hi≤a):(D6 m q c i).length < (D6 m q b i).length:=by
 obtain ⟨hf,hm,hl,hh⟩:=MF.1 ha;unfold D6;rw [AL (by omega),DC,DC];unfold JA;refine yB hm ?_ ?_ ?_
 ·simp only [Bool.not_eq_false',vaT,AP]; omega
 ·simp only [BW,C2,BL]; omega
 ·intro x _;simp only [BW,C2,BL]; omega
theorem Cn {m:Md} {q:Qy} {b c:Bx} {j:Nat} (hj:j < 5) (h1:(D6 m q c j).length < (D6 m q b j).length) (h2:∀ i,i < 5→i≠j→c.g i=b.g i):JU m q c < JU m q b:=by
 have e:∀ i,i < 5→i≠j→(D6 m q c i).length=(D6 m q b i).length:=fun i hi hn=>by rw [XC (h2 i hi hn)]
 unfold JU
 match j,hj with
 | 0,_=>have:=e 1 (by omega) (by omega); have:=e 2 (by omega) (by omega); have:=e 3 (by omega) (by omega); have:=e 4 (by omega) (by omega); omega
 | 1,_=>have:=e 0 (by omega) (by omega); have:=e 2 (by omega) (by omega); have:=e 3 (by omega) (by omega); have:=e 4 (by omega) (by omega); omega
 | 2,_=>have:=e 0 (by omega) (by omega); have:=e 1 (by omega) (by omega); have:=e 3 (by omega) (by omega); have:=e 4 (by omega) (by omega); omega
 | 3,_=>have:=e 0 (by omega) (by omega); have:=e 1 (by omega) (by omega); have:=e 2 (by omega) (by omega); have:=e 4 (by omega) (by omega); omega
 | 4,_=>have:=e 0 (by omega) (by omega); have:=e 1 (by omega) (by omega); have:=e 2 (by omega) (by omega); have:=e 3 (by omega) (by omega); omega
 | n+5,h=>omega
theorem Gu {lo hi:Int} (h:lo≤hi):JV lo hi=⟨lo,hi⟩:=by unfold JV; rw [AL (by omega),DC]
theorem Cm {m:Md} {q:Qy} {b:Bx} {j:Nat} (hj:j < 5) {a:Int} (ha:a∈D6 m q b j):JU m q (b.cutL (j:Int) a) < JU m q b:=by
 obtain ⟨hf,hm,hl,hh⟩:=MF.1 ha;have e:∀ i,i < 5→(b.cutL (j:Int) a).g i=if i=j then ⟨(b.g j).lo,a⟩ else b.g i:=fun i hi=>by
  unfold Bx.cutL;rw [BC,JK b _ hj hi];unfold Sp.cutL;rw [show min (b.g j).hi a=a by omega,Gu hl]
 refine Cn hj (xA ha ?_ ?_ ?_) fun i hi hn=>by rw [e i hi,A2 hn]
 ·rw [e j hj,BJ rfl]; exact CF _
 ·rw [e j hj,BJ rfl]; show a≤_; omega
 ·rw [e j hj,BJ rfl]; exact .inr (CF _)
theorem zdj {m:Md} {q:Qy} {b:Bx} (hb:b.good) {j:Nat} (hj:j < 5) {a:Int} (ha:a∈D6 m q b j):JU m q (b.cutH (j:Int) a) < JU m q b:=by
 obtain ⟨hf,hm,hl,hh⟩:=MF.1 ha;have hg:=hb j hj;have e:∀ i,i < 5→(b.cutH (j:Int) a).g i=if i=j then ⟨a+1,(b.g j).hi⟩ else b.g i:=fun i hi=>by
  unfold Bx.cutH;rw [BC,JK b _ hj hi];unfold Sp.cutH;rw [AL (by omega),DC,show FC (a+1)=a+1 from EA (by omega) (by omega),show max (b.g j).lo (a+1)=a+1 by omega,Gu (by omega)]
 refine Cn hj (xA ha ?_ ?_ ?_) fun i hi hn=>by rw [e i hi,A2 hn]
 ·rw [e j hj,BJ rfl]; show _≤a+1; omega
 ·rw [e j hj,BJ rfl]; exact CF _
 ·rw [e j hj,BJ rfl]; exact .inl (by show a < a+1; omega)
structure Rp (m:Md) (q:Qy) (s:Sr):Prop where
 left:XS s
 pt:∀ (j:Nat) (x:IV),s.left[j]?=some x→JU m q (DN x)+j≤JU m q (EE q)
 ps:∃ outs,H9 s.proof ([(EE q).I],[])=some (s.left,outs)∧∀ x∈outs,FS m q (DN x)=true
 dp:∃ most,JP s.proof (1,1)=some (ic s.left.length,most)∧1≤most∧most≤(JU m q (EE q):Int)+1
theorem zdT {m:Md} {q:Qy} (h:EU m q=true):Rp m q ⟨[(EE q).I],[],Vd.none,0⟩ where
 left:=zaG h
 pt j x hj:=by
  match j,hj with
  | 0,hj=>
   obtain rfl:(EE q).I=x:=by simpa using hj
   rw [F8]; omega
  | j+1,hj=>simp at hj
 ps:=⟨[],rfl,fun x hx=>by cases hx⟩
 dp:=⟨1,rfl,by omega,by omega⟩
theorem Ee {m:Md} {q:Qy} {s:Sr} (hr:EU m q=true) (h:Rp m q s) (hl:0 < s.left.length) (hn:FS m q (DM s.left)=false→FO m q (DM s.left).low (DM s.left).s4.hi=false):Rp m q (FE m q s):=by
 obtain ⟨outs,hps,hout⟩:=h.ps;obtain ⟨most,hdp,hm1,hm2⟩:=h.dp;have hg:=zfI (m:=m) (q:=q) h.left hl;have ht:=dY h.left hl;have htop:s.left[s.left.length - 1]?=some (EP s.left):=(S9 hl).2;have ept:DM s.left=DN (EP s.left):=rfl;have hpt:=h.pt _ _ htop;rw [← ept] at hpt;cases hc:FS m q (DM s.left) with
 | true=>
  have e:(FE m q s).left=FB s.left∧(FE m q s).proof=s.proof++[MS true 0 0]:=by
   unfold FE;rw [hc,DB];exact ⟨rfl,rfl⟩
  refine ⟨hg,fun j x hj=>?_,⟨outs++[(DM s.left).I],?_,fun x hx=>?_⟩,⟨most,?_,hm1,hm2⟩⟩
  ·rw [e.1] at hj;exact h.pt j x (c7 hj)
  ·rw [e.2,o9 hps,e.1];rfl
  ·rcases AV.1 hx with hx | hx
   ·exact hout x hx
   ·obtain rfl:=A4.1 hx;rw [F8]; exact hc
  ·rw [e.2,mD hdp,e.1,SU];unfold MG;have h1:(ic s.left.length==0)=false:=BZ.2 (by simp only [ic]; omega);show cond ((ic s.left.length==0)||!true) none (some (ic s.left.length - 1,most))=_;rw [h1];show some (ic s.left.length - 1,most)=_;rw [show ic s.left.length - 1=ic (s.left.length - 1) by simp only [ic]; omega]
 | false=>
  have hb:=hn hc;have hs:=qT hr h.left hl hc hb;obtain ⟨j,hj,ei,_,_,hm⟩:=jP hs;have hcut:=MF.1 hm;have e:(FE m q s).left=FB s.left++[((DM s.left).cutH (j:Int) (HQ (EO m q (DM s.left)))).I,((DM s.left).cutL (j:Int) (HQ (EO m q (DM s.left)))).I]∧(FE m q s).proof=s.proof++[MS false (j:Int) (HQ (EO m q (DM s.left)))]:=by
   unfold FE;rw [hc,DC,hb,DC,hs,DB,ei];exact ⟨rfl,rfl⟩
  generalize HQ (EO m q (DM s.left))=a at hm hcut e;refine ⟨hg,fun k x hk=>?_,⟨outs,?_,hout⟩,⟨max most (ic s.left.length+1),?_,by omega,?_⟩⟩
  ·rw [e.1,vag,SU] at hk;split at hk
   ·exact h.pt k x (c7 hk)
   ·rcases C1 (k - (s.left.length - 1)) 1 with h0 | h0
    ·rw [show k - (s.left.length - 1)=0 by omega] at hk;simp only [BP,AC] at hk;subst hk;rw [F8]
     have:=zdj ht hj hm
     omega
    ·rcases C1 (k - (s.left.length - 1)) 2 with h2 | h2
     ·rw [show k - (s.left.length - 1)=1 by omega] at hk;simp only [DA,BP,AC] at hk;subst hk;rw [F8]
      have:=Cm (q:=q) hj hm
      omega
     ·rw [BU (by simpa using h2)] at hk;cases hk
  ·rw [e.2,o9 hps,e.1];unfold MQ;show cond false _ (cond (decide (a < ((DM s.left).g ((j:Int)).toNat).lo)||decide (a≥((DM s.left).g ((j:Int)).toNat).hi)) none _)=_;rw [DC,BC,AL (by omega),AL (by omega)];rfl
  ·rw [e.2,mD hdp,e.1];unfold MG;have h1:(ic s.left.length==0)=false:=BZ.2 (by simp only [ic]; omega);have h2:NB (MS false (j:Int) a)=true:=by
    show (decide ((0:Int)≤(j:Int))&&decide ((j:Int)≤4))=true;rw [AF (by omega),AF (by omega)]; rfl
   show cond ((ic s.left.length==0)||!(NB (MS false (j:Int) a))) none (some (ic s.left.length+1,max most (ic s.left.length+1)))=_;rw [h1,h2];show some (ic s.left.length+1,max most (ic s.left.length+1))=_;rw [AR,SU]
   have:ic (s.left.length - 1+[((DM s.left).cutH (j:Int) a).I,((DM s.left).cutL (j:Int) a).I].length)=ic s.left.length+1:=by simp only [ic,AM,A6]; omega
   rw [this]
  ·have h3:0 < JU m q (DM s.left):=Nat.lt_of_le_of_lt (B2 _) (Cm (q:=q) hj hm);simp only [ic];omega
open Go
def PX (ts:LI):Nat:=(ts.map fun t=>(EJ t).length).sum
theorem zfV (w:IV):(IA 0 w).length+(IA 1 w).length+(IA 2 w).length+(IA 3 w).length≤1:=by
 unfold IA;cases (DE w.toInt).lf with
 | true=>simp
 | false=>
  generalize (DE w.toInt).f=f;by_cases h0:f=0
  ·subst h0; exact AT _
  by_cases h1:f=1
  ·subst h1; exact AT _
  by_cases h2:f=2
  ·subst h2; exact AT _
  by_cases h3:f=3
  ·subst h3; exact AT _
  rw [BZ.2 h0,BZ.2 h1,BZ.2 h2,BZ.2 h3];simp
theorem zfU (f:Int) (w:IV):(IA f w).length≤1:=by
 unfold IA;cases (!(DE w.toInt).lf&&(DE w.toInt).f==f) <;> simp
theorem Bc:∀ (l:LI),(l.flatMap (IA 0)).length+(l.flatMap (IA 1)).length+(l.flatMap (IA 2)).length+(l.flatMap (IA 3)).length≤l.length
 | []=>AT _
 | w :: l=>by
  have:=Bc l
  have:=zfV w
  simp only [vam,AR,AM];omega
theorem Ba (f:Int):∀ (l:LI),(l.flatMap (IA f)).length≤l.length
 | []=>AT _
 | w :: l=>by
  have:=Ba f l
  have:=zfU f w
  simp only [vam,AR,AM];omega
theorem Dh:∀ (ts:LI),(HV ts 0).length+(HV ts 1).length+(HV ts 2).length+(HV ts 3).length≤PX ts
 | []=>AT _
 | t :: ts=>by
  have:=Dh ts
  have:=Bc (EJ t)
  unfold HV PX at *;simp only [vam,AR,AZ,va2];omega
theorem pF (f:Int):∀ (ts:LI),(HV ts f).length≤PX ts
 | []=>AT _
 | t :: ts=>by
  have:=pF f ts
  have:=Ba f (EJ t)
  unfold HV PX at *;simp only [vam,AR,AZ,va2];omega
theorem XD (m:Md) (q:Qy) (b:Bx) (i:Nat):(D6 m q b i).length≤(HV m.ts (HU q (i:Int))).length:=by
 unfold D6;cases decide (HU q (i:Int) < 0) with
 | true=>rw [DB]; exact B2 _
 | false=>
  rw [DC];unfold JA IM;refine CE (List.length_filter_le ..) ?_;rw [← (RD (HV m.ts (HU q (i:Int)))).length_eq];exact fU _
theorem zdk (m:Md) (q:Qy) (b:Bx):JU m q b≤2*PX m.ts:=by
 have h0:=XD m q b 0;have h1:=XD m q b 1;have h2:=XD m q b 2;have h3:=XD m q b 3;have h4:=XD m q b 4;have h5:=pF (HU q ((4:Nat):Int)) m.ts;have h6:=Dh m.ts;rw [mP (by omega)] at h0 h1 h2 h3;unfold JU;simp only [Int.natCast_zero] at *;have e1:((1:Nat):Int)=1:=rfl;have e2:((2:Nat):Int)=2:=rfl;have e3:((3:Nat):Int)=3:=rfl;rw [e1] at h1;rw [e2] at h2;rw [e3] at h3;omega
theorem yH (f:Ft):PX f.M.ts≤60:=by
 have hd:=bQ f.d;have key:∀ (l:LI),PX (l.map (YL f.d f.c))≤15*l.length:=by
  intro l
  induction l with
  | nil=>exact AT _
  | cons t l ih=>
   obtain ⟨i,hi,hn⟩:=Bh (t.cell 1).toList (t.cell 2).toList (t.cell 3).toList (t.cell 4).toList (dim:=M3 f.d) ⟨hd.1,by omega⟩;have e:(EJ (YL f.d f.c t)).length=2*i+1:=by
    show ((NZ (t.cell 1).toList (t.cell 2).toList (t.cell 3).toList (t.cell 4).toList (M3 f.d)).nodes.map RA).length=_;rw [B9,hn.len]
   unfold PX at *;simp only [AZ,va2,AM];rw [e];omega
 have h4:(f.ts.take 4).length≤4:=by rw [A8]; omega
 have:=key (f.ts.take 4)
 show PX ((f.ts.take 4).map (YL f.d f.c))≤60;omega
open Go
def zfO (q:Qy) (s:Sr):Prop:=∀ x∈s.left,∀ p t,(DN x).has p t=true→(EE q).has p t=true
structure Ri (m:Md) (q:Qy) (s:Sr):Prop where
 sp:0≤s.spent∧s.spent≤q.bu
 opn:s.v.kind=0→Rp m q s∧0 < s.left.length∧s.spent=ic s.proof.length∧s.v.proof=[]∧zfO q s
 holds:s.v.kind=1→Rp m q s∧s.left=[]∧s.spent=ic s.proof.length∧s.v.proof=s.proof
 fails:s.v.kind=2→s.v.proof=[]∧1≤s.spent∧(EE q).has ⟨s.v.w0,s.v.w1,s.v.w2,s.v.w3⟩ s.v.twin=true∧FO m q ⟨s.v.w0,s.v.w1,s.v.w2,s.v.w3⟩ s.v.twin=true
 kinds:s.v.kind=0∨s.v.kind=1∨s.v.kind=2
theorem pO {m:Md} {q:Qy} (h:EU m q=true):Ri m q ⟨[(EE q).I],[],Vd.none,0⟩ where
 sp:=⟨CF _,(V0 h).2.2.1.1⟩
 opn _:=⟨zdT h,by simp,rfl,rfl,fun x hx p t hh=>by
  obtain rfl:=A4.1 hx;rw [F8] at hh; exact hh⟩
 holds h:=absurd (show (0:Int)=1 from h) (by decide)
 fails h:=absurd (show (0:Int)=2 from h) (by decide)
 kinds:=.inl rfl
theorem Ea {m:Md} {q:Qy} {s:Sr} (hr:EU m q=true) (h:Ri m q s) (ho:H7 q s=false):Ri m q (FE m q s):=by
 unfold H7 at ho;rw [C2] at ho;have hk:s.v.kind=0:=by simpa using ho.1
 have hs:¬ s.spent≥q.bu:=BE ho.2;obtain ⟨hrp,hl,hsp,hvp,hsub⟩:=h.opn hk;have hsp0:=h.sp;have ht:=dY hrp.left hl;have htm:EP s.left∈s.left:=(S9 hl).1;have ept:DM s.left=DN (EP s.left):=rfl;cases hc:FS m q (DM s.left) with
 | true=>
  have hrp':=Ee hr hrp hl (fun h=>by rw [hc] at h; cases h);have e:FE m q s=⟨FB s.left,s.proof++[MS true 0 0],cond (ic (s.left.length - 1)==0) ⟨1,s.proof++[MS true 0 0],0,0,0,0,0,0⟩ s.v,s.spent+1⟩:=by
   unfold FE;rw [hc,DB]
  rw [e] at hrp' ⊢;have hlen:s.spent+1=ic (s.proof++[MS true 0 0]).length:=by
   rw [hsp]; simp only [ic,AR,AM,A6]; omega
  cases he:(ic (s.left.length - 1)==0) with
  | true=>
   rw [he] at hrp';have h1:s.left.length=1:=by
    have:ic (s.left.length - 1)=0:=by simpa using he
    simp only [ic] at this; omega
   have hnil:FB s.left=[]:=List.length_eq_zero_iff.1 (by rw [SU]; omega);exact ⟨⟨by show 0≤s.spent+1; omega,by show s.spent+1≤_; omega⟩,fun h=>absurd (show (1:Int)=0 from h) (by decide),fun _=>⟨hrp',hnil,hlen,rfl⟩,fun h=>absurd (show (1:Int)=2 from h) (by decide),.inr (.inl rfl)⟩
  | false=>
   rw [he] at hrp';have h1:s.left.length - 1≠0:=fun h=>by rw [h] at he; exact absurd he (by decide)
   refine ⟨⟨by show 0≤s.spent+1; omega,by show s.spent+1≤_; omega⟩,fun _=>⟨hrp',?_,hlen,hvp,fun x hx=>hsub x (X2 hx)⟩,fun h=>?_,fun h=>?_,.inl hk⟩
   ·show 0 < (FB s.left).length;rw [SU]; omega
   ·replace h:s.v.kind=1:=h;omega
   ·replace h:s.v.kind=2:=h;omega
 | false=>
  cases hb:FO m q (DM s.left).low (DM s.left).s4.hi with
  | true=>
   have e:FE m q s=⟨FB s.left,s.proof,⟨2,[],(DM s.left).s0.lo,(DM s.left).s1.lo,(DM s.left).s2.lo,(DM s.left).s3.lo,(DM s.left).s4.hi,0⟩,s.spent+1⟩:=by
    unfold FE;rw [hc,DC,hb,DB]
   rw [e];refine ⟨⟨by show 0≤s.spent+1; omega,by show s.spent+1≤_; omega⟩,fun h=>absurd (show (2:Int)=0 from h) (by decide),fun h=>absurd (show (2:Int)=1 from h) (by decide),fun _=>⟨rfl,by show 1≤s.spent+1; omega,?_,hb⟩,.inr (.inr rfl)⟩;exact hsub _ htm _ _ (by rw [← ept]; exact LP _ ht.emp)
  | false=>
   have hrp':=Ee hr hrp hl (fun _=>hb);have hs2:=qT hr hrp.left hl hc hb;obtain ⟨j,hj,ei,_,_,hm⟩:=jP hs2;have hcut:=MF.1 hm;have hg:=ht j hj;have e:FE m q s=⟨FB s.left++[((DM s.left).cutH (j:Int) (HQ (EO m q (DM s.left)))).I,((DM s.left).cutL (j:Int) (HQ (EO m q (DM s.left)))).I],
     s.proof++[MS false (j:Int) (HQ (EO m q (DM s.left)))],s.v,s.spent+1⟩:=by
    unfold FE;rw [hc,DC,hb,DC,hs2,DB,ei]
   rw [e] at hrp' ⊢;generalize HQ (EO m q (DM s.left))=a at hm hcut hrp';refine ⟨⟨by show 0≤s.spent+1; omega,by show s.spent+1≤_; omega⟩,fun _=>⟨hrp',by simp,?_,hvp,fun x hx p t hh=>?_⟩,fun h=>?_,fun h=>?_,.inl hk⟩
   ·show s.spent+1=_;rw [hsp]; simp only [ic,AR,AM,A6]; omega
   ·rcases AV.1 hx with hx | hx
    ·exact hsub x (X2 hx) p t hh
    ·rcases AX.1 hx with rfl | hx
     ·rw [F8] at hh;exact hsub _ htm p t (by rw [← ept]; exact ((W9 ht.ok hj (by omega)).1 hh).1)
     ·obtain rfl:=A4.1 hx;rw [F8] at hh;exact hsub _ htm p t (by rw [← ept]; exact ((XA hj).1 hh).1)
   ·replace h:s.v.kind=1:=h;omega
   ·replace h:s.v.kind=2:=h;omega
theorem pP {m:Md} {q:Qy} (hr:EU m q=true):∀ (d:Nat) (s:Sr),Ri m q s→q.bu < s.spent+d→Ri m q (L0 m q d s)∧H7 q (L0 m q d s)=true
 | 0,s,h,hd=>⟨h,by
  unfold H7
  have:L0 m q 0 s=s:=rfl
  rw [this,AF (show s.spent≥q.bu by omega)];simp⟩
 | d+1,s,h,hd=>by
  rw [L0];cases ho:H7 q s with
  | true=>rw [DB]; exact ⟨h,ho⟩
  | false=>
   rw [DC];refine pP hr d (FE m q s) (Ea hr h ho) ?_
   have:(FE m q s).spent=s.spent+1:=by
    unfold FE;cases FS m _ _ <;> cases FO m _ _ _ <;> cases (EO m _ _).isSome <;> rfl
   omega
theorem zd3 {m:Md} {q:Qy} (hr:EU m q=true) (hp:JU m q (EE q)≤199) :
  ((FU m q).kind=1→LX m q (FU m q)=true∧ic (FU m q).proof.length=(FU m q).spent∧0 < JO (FU m q).proof) ∧
  ((FU m q).kind=2→LX m q (FU m q)=true∧(FU m q).proof=[]∧1≤(FU m q).spent) ∧
  ((FU m q).kind=3→(FU m q).spent=q.bu∧(FU m q).proof=[]) ∧
  ((FU m q).kind=1∨(FU m q).kind=2∨(FU m q).kind=3)∧0≤(FU m q).spent∧(FU m q).spent≤q.bu:=by
 have h3:=(V0 hr).2.2.1;have hnew:XU m q=⟨[(EE q).I],[],Vd.none,0⟩:=by unfold XU; rw [hr,DB]
 obtain ⟨hi,ho⟩:=pP hr (q.bu.toNat+1) _ (pO hr) (by show q.bu < 0+_; omega);unfold FU;rw [hnew];generalize L0 m q (q.bu.toNat+1) _=s at hi ho;rcases hi.kinds with hk | hk | hk
 ·have ek:(KU s).kind=3:=by simp [KU,hk]
  have hsp:s.spent=q.bu:=by
   unfold H7 at ho;rw [hk] at ho
   have:s.spent≥q.bu:=by simpa using ho
   have:=hi.sp
   omega
  exact ⟨fun h=>by omega,fun h=>by omega,fun _=>⟨hsp,(hi.opn hk).2.2.2.1⟩,.inr (.inr ek),hi.sp.1,hi.sp.2⟩
 ·have ek:(KU s).kind=1:=by simp [KU,hk]
  obtain ⟨hrp,hl,hsp,hvp⟩:=hi.holds hk;obtain ⟨outs,hps,hout⟩:=hrp.ps;obtain ⟨most,hdp,hm1,hm2⟩:=hrp.dp;have hlen:=hi.sp;rw [hl] at hps hdp;have hdeep:JO s.proof=most:=by
   unfold JO;rw [AL (by omega),DC,hdp];show cond (!((ic ([]:LI).length)==0)||decide (most > 200)) 0 most=most;rw [AL (by omega)];rfl
  have epr:(KU s).proof=s.proof:=hvp;refine ⟨fun _=>⟨?_,?_,?_⟩,fun h=>by omega,fun h=>by omega,.inl ek,hi.sp.1,hi.sp.2⟩
  ·unfold LX;rw [hr,ek,epr];show (true&&cond true (match JC (EE q) s.proof with | some l=>l.all fun x=>FS m q (DN x) | none=>false) _)=true;unfold JC;rw [hdeep,AF (show most > 0 by omega),DB,hps];show (true&&(outs.all fun x=>FS m q (DN x)))=true;rw [BG,CN];exact hout
  ·rw [epr]; exact hsp.symm
  ·rw [epr,hdeep]; omega
 ·have ek:(KU s).kind=2:=by simp [KU,hk]
  obtain ⟨hvp,hsp,hh,hb⟩:=hi.fails hk;refine ⟨fun h=>by omega,fun _=>⟨?_,hvp,hsp⟩,fun h=>by omega,.inr (.inl ek),hi.sp.1,hi.sp.2⟩;unfold LX;rw [hr,ek];show (true&&((EE q).has ⟨s.v.w0,s.v.w1,s.v.w2,s.v.w3⟩ s.v.twin&&FO m q ⟨s.v.w0,s.v.w1,s.v.w2,s.v.w3⟩ s.v.twin))=true;rw [hh,hb];rfl
end Go.FM
